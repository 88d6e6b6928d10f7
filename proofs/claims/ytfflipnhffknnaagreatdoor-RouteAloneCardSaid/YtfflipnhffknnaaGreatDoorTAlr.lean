/- RouteAlone, its tied card: for every input the call returns true and leaves its arguments as they were. No condition beyond the card's own. -/
import Derived.Test.YtfflipnhffknnaaGreatDoorM7
import Derived.Test.YtfflipnhffknnaaGreatDoorCards
import Derived.Test.YtfflipnhffknnaaGreatDoorTie
import Derived.SevenTiedAt
set_option linter.unusedSimpArgs false
set_option linter.unusedVariables false
set_option maxRecDepth 100000
namespace Go.Proofs.YtfflipnhffknnaaGreatDoor.routeAlone
open Go Go.HL Go.ChangeShapes Go.WideShapes Go.RowKit

theorem len2 {α : Type} {L : List α} (h : L.length = 2) : ∃ a b, L = [a, b] := by
 match L, h with
 | [a, b], _ => exact ⟨a, b, rfl⟩
theorem len3 {α : Type} {L : List α} (h : L.length = 3) : ∃ a b c, L = [a, b, c] := by
 match L, h with
 | [a, b, c], _ => exact ⟨a, b, c, rfl⟩
theorem len7 {α : Type} {L : List α} (h : L.length = 7) : ∃ a b c d e f g, L = [a, b, c, d, e, f, g] := by
 match L, h with
 | [a, b, c, d, e, f, g], _ => exact ⟨a, b, c, d, e, f, g, rfl⟩

theorem contract (H : Type) (enc : TypeId × Value → H) (W : World) (base : Nat) (args : Array Value) (ds gs : List (DataW H)) (before : List MemPlace)
   (hval : ∀ (j : Nat) t v, Tryz.f16.params[j]? = some t → args[j]? = some v → Value.okWide Tryz.prog W .any base t v)
   (hW : DataW.Whole enc Tryz.prog Tryz.f16.params.toList Rows.routeAloneSpec.vars false W args.toList ds gs before)
   (hz : (DataW.weightsEach Tryz.prog (Tryz.f16.params.toList ++ Rows.routeAloneSpec.plain.varTypes Tryz.prog) (ds ++ gs)).all (· ≤ reachBytes) = true) (hL : laidMetH Tryz.prog I3 W) :
   Calls Tryz.prog 16 args W fun e W' => ∃ v, e = .returned v ∧ Rows.routeAloneSpec.post enc Tryz.prog Tryz.f16 false true false false W args v W' := by
 have hW' := hW
 obtain ⟨p, q, hA, hV, rfl, hfz, hnd⟩ := hW
 obtain ⟨rfl, rfl⟩ := trodVars_none hV
 rw [show Tryz.f16.params.toList = [26, 77, 77, 3, 30, 3, 30] by kernel_rfl] at hA
 obtain ⟨v0, vs0, d0, ds0, p0, q0, hargs, rfl, rfl, h0, r0⟩ := trodAll_cons hA
 obtain ⟨v1, vs1, d1, ds1, p1, q1, rfl, rfl, rfl, h1, r1⟩ := trodAll_cons r0
 obtain ⟨v2, vs2, d2, ds2, p2, q2, rfl, rfl, rfl, h2, r2⟩ := trodAll_cons r1
 obtain ⟨v3, vs3, d3, ds3, p3, q3, rfl, rfl, rfl, h3, r3⟩ := trodAll_cons r2
 obtain ⟨v4, vs4, d4, ds4, p4, q4, rfl, rfl, rfl, h4, r4⟩ := trodAll_cons r3
 obtain ⟨v5, vs5, d5, ds5, p5, q5, rfl, rfl, rfl, h5, r5⟩ := trodAll_cons r4
 obtain ⟨v6, vs6, d6, ds6, p6, q6, rfl, rfl, rfl, h6, r6⟩ := trodAll_cons r5
 obtain ⟨rfl, rfl, rfl⟩ := trodAll_nil r6
 obtain rfl : args = #[v0, v1, v2, v3, v4, v5, v6] := by cases args; simp_all
 have k0 := hval 0 26 v0 (by kernel_rfl) rfl
 have l0 : ny Tryz.prog 26 d0 := qk hz (j := 0) (by kernel_rfl) rfl
 have k1 := hval 1 77 v1 (by kernel_rfl) rfl
 have l1 : ny Tryz.prog 77 d1 := qk hz (j := 1) (by kernel_rfl) rfl
 have k2 := hval 2 77 v2 (by kernel_rfl) rfl
 have l2 : ny Tryz.prog 77 d2 := qk hz (j := 2) (by kernel_rfl) rfl
 have k3 := hval 3 3 v3 (by kernel_rfl) rfl
 have l3 : ny Tryz.prog 3 d3 := qk hz (j := 3) (by kernel_rfl) rfl
 have k4 := hval 4 30 v4 (by kernel_rfl) rfl
 have l4 : ny Tryz.prog 30 d4 := qk hz (j := 4) (by kernel_rfl) rfl
 have k5 := hval 5 3 v5 (by kernel_rfl) rfl
 have l5 : ny Tryz.prog 3 d5 := qk hz (j := 5) (by kernel_rfl) rfl
 have k6 := hval 6 30 v6 (by kernel_rfl) rfl
 have l6 : ny Tryz.prog 30 d6 := qk hz (j := 6) (by kernel_rfl) rfl
 have st := of_laid hL
 obtain ⟨C, hC, fit, hp⟩ := ag6 k0 h0 l0
 obtain ⟨l, hl, hlb⟩ := I7 k1 h1
 obtain ⟨own, ho, hob⟩ := I7 k2 h2
 obtain ⟨rb, rfl, br⟩ := Td k3 h3
 obtain ⟨p, rfl, pb⟩ := N7 k4 h4
 obtain ⟨t, rfl, bt⟩ := Td k5 h5
 obtain ⟨g, rfl, gb⟩ := N7 k6 h6
 refine (L6 (Rz pb gb br hl hlb ho hob st (hC _ Dis.start) fit hp)).mono ?_
 rintro e W' ⟨⟨v, rfl, rfl⟩, hB⟩
 exact ⟨_, rfl, Yr Yu rfl (by kernel_rfl) (show Tryz.prog.underlying 4 = some .bool by kernel_rfl) (by kernel_rfl) (fun ds hl => by
   obtain ⟨d0, d1, d2, d3, d4, d5, d6, rfl⟩ := len7 hl
   exact ⟨rfl, rfl, rfl⟩) hW' hB⟩

theorem lifted (os : Os) (started : os.Started) (H : Type) (enc : TypeId × Value → H) :
   ReturnsInHanded {} Tryz.checked os 16 .any (fun w args => (Rows.routeAloneSpec.pre enc Tryz.prog Tryz.f16 [] false w args ∧ laidMetH Tryz.prog I3 w) ∧ sizedMet enc Tryz.prog Tryz.f16 (OpenSpec.ofChange Rows.routeAloneSpec) false w args)
     (Rows.routeAloneSpec.post enc Tryz.prog Tryz.f16 false true false false) := by
 refine returnsInHanded_of_change_and (C := Tryz.checked) (X := fun w _ => laidMetH Tryz.prog I3 w) (fun _ _ _ hh h => h.of_heap hh) Ya started (by kernel_rfl) Tryz.func16
   (ChangeSpec.witness_shaped (enc := enc) (C := Tryz.checked) (os := os) (X := fun w _ => laidMetH Tryz.prog I3 w) false (World.doorLaid Tryz.prog 400 os) #[.agg #[.int .i64 0, .int .i64 0, .int .i64 0, .slice none 0 0, .slice none 0 0, .slice none 0 0, .slice none 0 0, .int .i64 0, .int .i64 0, .int .i64 0, .int .i64 0, .int .i64 0, .int .i64 0, .int .i64 0, .int .i64 0, .bool false], .slice none 0 0, .slice none 0 0, .int .i64 0, .agg #[.int .i64 0, .int .i64 0, .bool false], .int .i64 0, .agg #[.int .i64 0, .int .i64 0, .bool false]] 8 rfl (World.shaped_of_RefB (by kernel_rfl) (by kernel_rfl)) (by kernel_rfl) (by kernel_rfl) (by kernel_rfl) (ag0 os _)) ?_
 intro W base args ds gs before hval hW _ hz hL _
 exact contract H enc W base args ds gs before hval hW hz hL

theorem and_t {a b : Bool} (h1 : a = true) (h2 : b = true) : (a && b) = true := by rw [h1, h2]; rfl

set_option maxHeartbeats 40000000 in
theorem closed : joinedFacts Tryz.pinned.checked.prog 16 Tryz.f16 Rows.routeAloneSpec Rows.routeAloneRow = true := by
 unfold joinedFacts
 repeat (first | refine and_t ?_ ?_)
 all_goals (as_aux_lemma => kernel_rfl)

theorem row_holds : Rows.RouteAloneSaid :=
 OpenClaim.holds_of_wide 16 Tryz.f16 rfl rfl rfl rfl rfl rfl rfl ⟨rfl, rfl, rfl, rfl, rfl⟩ rfl rfl rfl rfl rfl (by kernel_rfl) Tryz.func16 closed
   (of_decide_eq_true (by kernel_rfl)) (by unfold Func.isWrapper; first | (rw [if_pos (by decide +kernel)]; kernel_rfl) | (rw [if_neg (by decide +kernel)]; exact ⟨rfl, rfl⟩))
   (fun os started H enc _ => lifted os started H enc)

theorem holds : Rows.RouteAloneCardSaid :=
 Claim7.holds_tied_plain_at .later [] [.data] true (true, "a88b1d9fe9f5d1385b16150ec9349171fc4538417ed9695b8ad811efedf37785") false
   row_holds (fun _ h => by cases h) (by as_aux_lemma => kernel_rfl) (fun _ h => by cases h) routeAlone_row_tie rfl ⟨rfl, rfl⟩ (by as_aux_lemma => kernel_rfl) rfl
   (fun f fn hf hfn => by
     obtain rfl : f = 16 := Option.some.inj ((show Tryz.prog.funcNamed "skep/skeplaw12.RouteAlone" = some 16 by as_aux_lemma => kernel_rfl).symm.trans hf) |>.symm
     obtain rfl : fn = Tryz.f16 := (Option.some.inj (Tryz.func16.symm.trans hfn)).symm
     exact ⟨by as_aux_lemma => kernel_rfl, fun j t ht => by
       rw [show Tryz.f16.params = #[26, 77, 77, 3, 30, 3, 30] by as_aux_lemma => kernel_rfl] at ht
       have hm : t ∈ [26, 77, 77, 3, 30, 3, 30] := by simpa using Array.mem_of_getElem? ht
       have hall : ([26, 77, 77, 3, 30, 3, 30].all fun u => !Tryz.prog.wantsStandIn u) = true := by as_aux_lemma => kernel_rfl
       exact (show Tryz.prog.wantsStandIn t = false by simpa using List.all_eq_true.1 hall t hm)⟩)
   (by as_aux_lemma => kernel_rfl)
end Go.Proofs.YtfflipnhffknnaaGreatDoor.routeAlone
