/- RouteRight, its tied card: for every input the call returns true and leaves its arguments as they were. No condition beyond the card's own. -/
import Derived.Test.YtfflipnhffknnaaGreatDoorM7
import Derived.Test.YtfflipnhffknnaaGreatDoorM8
import Derived.Test.YtfflipnhffknnaaGreatDoorCards
import Derived.Test.YtfflipnhffknnaaGreatDoorTie
import Derived.SevenTiedAt
set_option linter.unusedSimpArgs false
set_option linter.unusedVariables false
set_option maxRecDepth 100000
namespace Go.Proofs.YtfflipnhffknnaaGreatDoor.routeRight
open Go Go.HL Go.ChangeShapes Go.WideShapes Go.RowKit

theorem len2 {α : Type} {L : List α} (h : L.length = 2) : ∃ a b, L = [a, b] := by
 match L, h with
 | [a, b], _ => exact ⟨a, b, rfl⟩
theorem len3 {α : Type} {L : List α} (h : L.length = 3) : ∃ a b c, L = [a, b, c] := by
 match L, h with
 | [a, b, c], _ => exact ⟨a, b, c, rfl⟩
theorem len7 {α : Type} {L : List α} (h : L.length = 7) : ∃ a b c d e f g, L = [a, b, c, d, e, f, g] := by
 match L, h with
 | [a, b, c, d, e, f, g], _ => exact ⟨a, b, c, d, e, f, g, rfl⟩

theorem contract (H : Type) (enc : TypeId × Value → H) (W : World) (base : Nat) (args : Array Value) (ds gs : List (DataW H)) (before : List MemPlace)
   (hval : ∀ (j : Nat) t v, Tryz.f12.params[j]? = some t → args[j]? = some v → Value.okWide Tryz.prog W .any base t v)
   (hW : DataW.Whole enc Tryz.prog Tryz.f12.params.toList Rows.routeRightSpec.vars false W args.toList ds gs before)
   (hz : (DataW.weightsEach Tryz.prog (Tryz.f12.params.toList ++ Rows.routeRightSpec.plain.varTypes Tryz.prog) (ds ++ gs)).all (· ≤ reachBytes) = true) (hL : laidMetH Tryz.prog La W) :
   Calls Tryz.prog 12 args W fun e W' => ∃ v, e = .returned v ∧ Rows.routeRightSpec.post enc Tryz.prog Tryz.f12 false true false false W args v W' := by
 have hW' := hW
 obtain ⟨p, q, hA, hV, rfl, hfz, hnd⟩ := hW
 obtain ⟨rfl, rfl⟩ := trodVars_none hV
 rw [show Tryz.f12.params.toList = [26, 77, 3, 30, 3, 30, 4] by kernel_rfl] at hA
 obtain ⟨v0, vs0, d0, ds0, p0, q0, hargs, rfl, rfl, h0, r0⟩ := trodAll_cons hA
 obtain ⟨v1, vs1, d1, ds1, p1, q1, rfl, rfl, rfl, h1, r1⟩ := trodAll_cons r0
 obtain ⟨v2, vs2, d2, ds2, p2, q2, rfl, rfl, rfl, h2, r2⟩ := trodAll_cons r1
 obtain ⟨v3, vs3, d3, ds3, p3, q3, rfl, rfl, rfl, h3, r3⟩ := trodAll_cons r2
 obtain ⟨v4, vs4, d4, ds4, p4, q4, rfl, rfl, rfl, h4, r4⟩ := trodAll_cons r3
 obtain ⟨v5, vs5, d5, ds5, p5, q5, rfl, rfl, rfl, h5, r5⟩ := trodAll_cons r4
 obtain ⟨v6, vs6, d6, ds6, p6, q6, rfl, rfl, rfl, h6, r6⟩ := trodAll_cons r5
 obtain ⟨rfl, rfl, rfl⟩ := trodAll_nil r6
 obtain rfl : args = #[v0, v1, v2, v3, v4, v5, v6] := by cases args; simp_all
 have k0 := hval 0 26 v0 (by kernel_rfl) rfl
 have l0 : pv Tryz.prog 26 d0 := rr hz (j := 0) (by kernel_rfl) rfl
 have k1 := hval 1 77 v1 (by kernel_rfl) rfl
 have l1 : pv Tryz.prog 77 d1 := rr hz (j := 1) (by kernel_rfl) rfl
 have k2 := hval 2 3 v2 (by kernel_rfl) rfl
 have l2 : pv Tryz.prog 3 d2 := rr hz (j := 2) (by kernel_rfl) rfl
 have k3 := hval 3 30 v3 (by kernel_rfl) rfl
 have l3 : pv Tryz.prog 30 d3 := rr hz (j := 3) (by kernel_rfl) rfl
 have k4 := hval 4 3 v4 (by kernel_rfl) rfl
 have l4 : pv Tryz.prog 3 d4 := rr hz (j := 4) (by kernel_rfl) rfl
 have k5 := hval 5 30 v5 (by kernel_rfl) rfl
 have l5 : pv Tryz.prog 30 d5 := rr hz (j := 5) (by kernel_rfl) rfl
 have k6 := hval 6 4 v6 (by kernel_rfl) rfl
 have l6 : pv Tryz.prog 4 d6 := rr hz (j := 6) (by kernel_rfl) rfl
 have st := of_laid hL
 obtain ⟨C, hC, fit, hp⟩ := au7 k0 h0 l0
 obtain ⟨l, hl, hlb⟩ := Z3 k1 h1
 obtain ⟨rb, rfl, br⟩ := V7 k2 h2
 obtain ⟨p, rfl, pb⟩ := Q2 k3 h3
 obtain ⟨t, rfl, bt⟩ := V7 k4 h4
 obtain ⟨g, rfl, gb⟩ := Q2 k5 h5
 obtain ⟨any, rfl⟩ := av3 k6 h6
 refine (Ou (Tn pb gb hl hlb st (hC _ Dis.start) fit hp)).mono ?_
 rintro e W' ⟨⟨v, rfl, rfl⟩, hB⟩
 exact ⟨_, rfl, ai4 ai6 rfl (by kernel_rfl) (show Tryz.prog.underlying 4 = some .bool by kernel_rfl) (by kernel_rfl) (fun ds hl => by
   obtain ⟨d0, d1, d2, d3, d4, d5, d6, rfl⟩ := len7 hl
   exact ⟨rfl, rfl, rfl⟩) hW' hB⟩

theorem lifted (os : Os) (started : os.Started) (H : Type) (enc : TypeId × Value → H) :
   ReturnsInHanded {} Tryz.checked os 12 .any (fun w args => (Rows.routeRightSpec.pre enc Tryz.prog Tryz.f12 [] false w args ∧ laidMetH Tryz.prog La w) ∧ sizedMet enc Tryz.prog Tryz.f12 (OpenSpec.ofChange Rows.routeRightSpec) false w args)
     (Rows.routeRightSpec.post enc Tryz.prog Tryz.f12 false true false false) := by
 refine returnsInHanded_of_change_and (C := Tryz.checked) (X := fun w _ => laidMetH Tryz.prog La w) (fun _ _ _ hh h => h.of_heap hh) af9 started (by kernel_rfl) Tryz.func12
   (ChangeSpec.witness_shaped (enc := enc) (C := Tryz.checked) (os := os) (X := fun w _ => laidMetH Tryz.prog La w) false (World.doorLaid Tryz.prog 400 os) #[.agg #[.int .i64 0, .int .i64 0, .int .i64 0, .slice none 0 0, .slice none 0 0, .slice none 0 0, .slice none 0 0, .int .i64 0, .int .i64 0, .int .i64 0, .int .i64 0, .int .i64 0, .int .i64 0, .int .i64 0, .int .i64 0, .bool false], .slice none 0 0, .int .i64 0, .agg #[.int .i64 0, .int .i64 0, .bool false], .int .i64 0, .agg #[.int .i64 0, .int .i64 0, .bool false], .bool false] 8 rfl (World.shaped_of_RefB (by kernel_rfl) (by kernel_rfl)) (by kernel_rfl) (by kernel_rfl) (by kernel_rfl) (au1 os _)) ?_
 intro W base args ds gs before hval hW _ hz hL _
 exact contract H enc W base args ds gs before hval hW hz hL

theorem and_t {a b : Bool} (h1 : a = true) (h2 : b = true) : (a && b) = true := by rw [h1, h2]; rfl

set_option maxHeartbeats 40000000 in
theorem closed : joinedFacts Tryz.pinned.checked.prog 12 Tryz.f12 Rows.routeRightSpec Rows.routeRightRow = true := by
 unfold joinedFacts
 repeat (first | refine and_t ?_ ?_)
 all_goals (as_aux_lemma => kernel_rfl)

theorem Zb : Rows.RouteRightSaid :=
 OpenClaim.holds_of_wide 12 Tryz.f12 rfl rfl rfl rfl rfl rfl rfl ⟨rfl, rfl, rfl, rfl, rfl⟩ rfl rfl rfl rfl rfl (by kernel_rfl) Tryz.func12 closed
   (of_decide_eq_true (by kernel_rfl)) (by unfold Func.isWrapper; first | (rw [if_pos (by decide +kernel)]; kernel_rfl) | (rw [if_neg (by decide +kernel)]; exact ⟨rfl, rfl⟩))
   (fun os started H enc _ => lifted os started H enc)

theorem holds : Rows.RouteRightCardSaid :=
 Claim7.holds_tied_plain_at .later [] [.data] true (true, "a88b1d9fe9f5d1385b16150ec9349171fc4538417ed9695b8ad811efedf37785") false
   Zb (fun _ h => by cases h) (by as_aux_lemma => kernel_rfl) (fun _ h => by cases h) routeRight_row_tie rfl ⟨rfl, rfl⟩ (by as_aux_lemma => kernel_rfl) rfl
   (fun f fn hf hfn => by
     obtain rfl : f = 12 := Option.some.inj ((show Tryz.prog.funcNamed "skep/skeplaw12.RouteRight" = some 12 by as_aux_lemma => kernel_rfl).symm.trans hf) |>.symm
     obtain rfl : fn = Tryz.f12 := (Option.some.inj (Tryz.func12.symm.trans hfn)).symm
     exact ⟨by as_aux_lemma => kernel_rfl, fun j t ht => by
       rw [show Tryz.f12.params = #[26, 77, 3, 30, 3, 30, 4] by as_aux_lemma => kernel_rfl] at ht
       have hm : t ∈ [26, 77, 3, 30, 3, 30, 4] := by simpa using Array.mem_of_getElem? ht
       have hall : ([26, 77, 3, 30, 3, 30, 4].all fun u => !Tryz.prog.wantsStandIn u) = true := by as_aux_lemma => kernel_rfl
       exact (show Tryz.prog.wantsStandIn t = false by simpa using List.all_eq_true.1 hall t hm)⟩)
   (by as_aux_lemma => kernel_rfl)
end Go.Proofs.YtfflipnhffknnaaGreatDoor.routeRight
