/- RouteThere, its tied card: for every input the call returns true and leaves its arguments as they were. No condition beyond the card's own. -/
import Derived.Test.YtfflipnhffknnaaGreatDoorM6
import Derived.Test.YtfflipnhffknnaaGreatDoorCards
import Derived.Test.YtfflipnhffknnaaGreatDoorTie
import Derived.SevenTiedAt
set_option linter.unusedSimpArgs false
set_option linter.unusedVariables false
set_option maxRecDepth 100000
namespace Go.Proofs.YtfflipnhffknnaaGreatDoor.routeThere
open Go Go.HL Go.ChangeShapes Go.WideShapes Go.RowKit

theorem len2 {α : Type} {L : List α} (h : L.length = 2) : ∃ a b, L = [a, b] := by
 match L, h with
 | [a, b], _ => exact ⟨a, b, rfl⟩
theorem len3 {α : Type} {L : List α} (h : L.length = 3) : ∃ a b c, L = [a, b, c] := by
 match L, h with
 | [a, b, c], _ => exact ⟨a, b, c, rfl⟩
theorem len4 {α : Type} {L : List α} (h : L.length = 4) : ∃ a b c d, L = [a, b, c, d] := by
 match L, h with
 | [a, b, c, d], _ => exact ⟨a, b, c, d, rfl⟩
theorem contract (H : Type) (enc : TypeId × Value → H) (W : World) (base : Nat) (args : Array Value) (ds gs : List (DataW H)) (before : List MemPlace)
   (hval : ∀ (j : Nat) t v, Tryz.f6.params[j]? = some t → args[j]? = some v → Value.okWide Tryz.prog W .any base t v)
   (hW : DataW.Whole enc Tryz.prog Tryz.f6.params.toList Rows.routeThereSpec.vars false W args.toList ds gs before)
   (hz : (DataW.weightsEach Tryz.prog (Tryz.f6.params.toList ++ Rows.routeThereSpec.plain.varTypes Tryz.prog) (ds ++ gs)).all (· ≤ reachBytes) = true) (hL : laidMetH Tryz.prog Gv W) :
   Calls Tryz.prog 6 args W fun e W' => ∃ v, e = .returned v ∧ Rows.routeThereSpec.post enc Tryz.prog Tryz.f6 false true false false W args v W' := by
 have hW' := hW
 obtain ⟨p, q, hA, hV, rfl, hfz, hnd⟩ := hW
 obtain ⟨rfl, rfl⟩ := trodVars_none hV
 rw [show Tryz.f6.params.toList = [26, 30, 30, 3] by kernel_rfl] at hA
 obtain ⟨v0, vs0, d0, ds0, p0, q0, hargs, rfl, rfl, h0, r0⟩ := trodAll_cons hA
 obtain ⟨v1, vs1, d1, ds1, p1, q1, rfl, rfl, rfl, h1, r1⟩ := trodAll_cons r0
 obtain ⟨v2, vs2, d2, ds2, p2, q2, rfl, rfl, rfl, h2, r2⟩ := trodAll_cons r1
 obtain ⟨v3, vs3, d3, ds3, p3, q3, rfl, rfl, rfl, h3, r3⟩ := trodAll_cons r2
 obtain ⟨rfl, rfl, rfl⟩ := trodAll_nil r3
 obtain rfl : args = #[v0, v1, v2, v3] := by cases args; simp_all
 have k0 := hval 0 26 v0 (by kernel_rfl) rfl
 have l0 : n9 Tryz.prog 26 d0 := yq hz (j := 0) (by kernel_rfl) rfl
 have k1 := hval 1 30 v1 (by kernel_rfl) rfl
 have l1 : n9 Tryz.prog 30 d1 := yq hz (j := 1) (by kernel_rfl) rfl
 have k2 := hval 2 30 v2 (by kernel_rfl) rfl
 have l2 : n9 Tryz.prog 30 d2 := yq hz (j := 2) (by kernel_rfl) rfl
 have k3 := hval 3 3 v3 (by kernel_rfl) rfl
 have l3 : n9 Tryz.prog 3 d3 := yq hz (j := 3) (by kernel_rfl) rfl
 have st := of_laid hL
 obtain ⟨C, hC, fit, hp⟩ := Xy k0 h0 l0
 obtain ⟨p, rfl, pb⟩ := K3 k1 h1
 obtain ⟨g, rfl, gb⟩ := K3 k2 h2
 obtain ⟨a0, rfl, ba⟩ := int_arg k3 h3
 refine (Jf (Nb pb gb ba st (hC _ Dis.start) fit hp)).mono ?_
 rintro e W' ⟨⟨v, rfl, rfl⟩, hB⟩
 exact ⟨_, rfl, U3 U5 rfl (by kernel_rfl) (show Tryz.prog.underlying 4 = some .bool by kernel_rfl) (by kernel_rfl) (fun ds hl => by
   obtain ⟨d0, d1, d2, d3, rfl⟩ := len4 hl
   exact ⟨rfl, rfl, rfl⟩) hW' hB⟩

theorem lifted (os : Os) (started : os.Started) (H : Type) (enc : TypeId × Value → H) :
   ReturnsInHanded {} Tryz.checked os 6 .any (fun w args => (Rows.routeThereSpec.pre enc Tryz.prog Tryz.f6 [] false w args ∧ laidMetH Tryz.prog Gv w) ∧ sizedMet enc Tryz.prog Tryz.f6 (OpenSpec.ofChange Rows.routeThereSpec) false w args)
     (Rows.routeThereSpec.post enc Tryz.prog Tryz.f6 false true false false) := by
 refine returnsInHanded_of_change_and (C := Tryz.checked) (X := fun w _ => laidMetH Tryz.prog Gv w) (fun _ _ _ hh h => h.of_heap hh) Uq started (by kernel_rfl) Tryz.func6
   (ChangeSpec.witness_shaped (enc := enc) (C := Tryz.checked) (os := os) (X := fun w _ => laidMetH Tryz.prog Gv w) false (World.doorLaid Tryz.prog 400 os) #[.agg #[.int .i64 0, .int .i64 0, .int .i64 0, .slice none 0 0, .slice none 0 0, .slice none 0 0, .slice none 0 0, .int .i64 0, .int .i64 0, .int .i64 0, .int .i64 0, .int .i64 0, .int .i64 0, .int .i64 0, .int .i64 0, .bool false], .agg #[.int .i64 0, .int .i64 0, .bool false], .agg #[.int .i64 0, .int .i64 0, .bool false], .int .i64 0] 8 rfl (World.shaped_of_RefB (by kernel_rfl) (by kernel_rfl)) (by kernel_rfl) (by kernel_rfl) (by kernel_rfl) (Xs os _)) ?_
 intro W base args ds gs before hval hW _ hz hL _
 exact contract H enc W base args ds gs before hval hW hz hL

theorem and_t {a b : Bool} (h1 : a = true) (h2 : b = true) : (a && b) = true := by rw [h1, h2]; rfl

set_option maxHeartbeats 40000000 in
theorem closed : joinedFacts Tryz.pinned.checked.prog 6 Tryz.f6 Rows.routeThereSpec Rows.routeThereRow = true := by
 unfold joinedFacts
 repeat (first | refine and_t ?_ ?_)
 all_goals (as_aux_lemma => kernel_rfl)

theorem row_holds : Rows.RouteThereSaid :=
 OpenClaim.holds_of_wide 6 Tryz.f6 rfl rfl rfl rfl rfl rfl rfl ⟨rfl, rfl, rfl, rfl, rfl⟩ rfl rfl rfl rfl rfl (by kernel_rfl) Tryz.func6 closed
   (of_decide_eq_true (by kernel_rfl)) (by unfold Func.isWrapper; first | (rw [if_pos (by decide +kernel)]; kernel_rfl) | (rw [if_neg (by decide +kernel)]; exact ⟨rfl, rfl⟩))
   (fun os started H enc _ => lifted os started H enc)

theorem holds : Rows.RouteThereCardSaid :=
 Claim7.holds_tied_plain_at .later [] [.data] true (true, "a88b1d9fe9f5d1385b16150ec9349171fc4538417ed9695b8ad811efedf37785") false
   row_holds (fun _ h => by cases h) (by as_aux_lemma => kernel_rfl) (fun _ h => by cases h) routeThere_row_tie rfl ⟨rfl, rfl⟩ (by as_aux_lemma => kernel_rfl) rfl
   (fun f fn hf hfn => by
     obtain rfl : f = 6 := Option.some.inj ((show Tryz.prog.funcNamed "skep/skeplaw12.RouteThere" = some 6 by as_aux_lemma => kernel_rfl).symm.trans hf) |>.symm
     obtain rfl : fn = Tryz.f6 := (Option.some.inj (Tryz.func6.symm.trans hfn)).symm
     exact ⟨by as_aux_lemma => kernel_rfl, fun j t ht => by
       rw [show Tryz.f6.params = #[26, 30, 30, 3] by as_aux_lemma => kernel_rfl] at ht
       have hm : t ∈ [26, 30, 30, 3] := by simpa using Array.mem_of_getElem? ht
       have hall : ([26, 30, 30, 3].all fun u => !Tryz.prog.wantsStandIn u) = true := by as_aux_lemma => kernel_rfl
       exact (show Tryz.prog.wantsStandIn t = false by simpa using List.all_eq_true.1 hall t hm)⟩)
   (by as_aux_lemma => kernel_rfl)
end Go.Proofs.YtfflipnhffknnaaGreatDoor.routeThere
