/- GridSteps, its tied card: for every input the call returns true and leaves its arguments as they were. No condition beyond the card's own. -/
import Derived.Test.YtnpdploihlgcgaaDoorM6
import Derived.Test.YtnpdploihlgcgaaDoorCards
import Derived.Test.YtnpdploihlgcgaaDoorTie
import Derived.SevenTiedAt
set_option linter.unusedSimpArgs false
set_option linter.unusedVariables false
set_option maxRecDepth 100000
namespace Go.Proofs.YtnpdploihlgcgaaDoor.gridSteps
open Go Go.HL Go.ChangeShapes Go.WideShapes Go.RowKit

theorem len2 {α : Type} {L : List α} (h : L.length = 2) : ∃ a b, L = [a, b] := by
  match L, h with
  | [a, b], _ => exact ⟨a, b, rfl⟩
theorem len3 {α : Type} {L : List α} (h : L.length = 3) : ∃ a b c, L = [a, b, c] := by
  match L, h with
  | [a, b, c], _ => exact ⟨a, b, c, rfl⟩
theorem len4 {α : Type} {L : List α} (h : L.length = 4) : ∃ a b c d, L = [a, b, c, d] := by
  match L, h with
  | [a, b, c, d], _ => exact ⟨a, b, c, d, rfl⟩
theorem contract (H : Type) (enc : TypeId × Value → H) (W : World) (base : Nat) (args : Array Value) (ds gs : List (DataW H)) (before : List MemPlace)
    (hval : ∀ (j : Nat) t v, Tryd.f13.params[j]? = some t → args[j]? = some v → Value.okWide Tryd.prog W .any base t v)
    (hW : DataW.Whole enc Tryd.prog Tryd.f13.params.toList Rows.gridStepsSpec.vars false W args.toList ds gs before)
    (hz : (DataW.weightsEach Tryd.prog (Tryd.f13.params.toList ++ Rows.gridStepsSpec.plain.varTypes Tryd.prog) (ds ++ gs)).all (· ≤ reachBytes) = true) (hL : laidMetH Tryd.prog laidL W) :
    Calls Tryd.prog 13 args W fun e W' => ∃ v, e = .returned v ∧ Rows.gridStepsSpec.post enc Tryd.prog Tryd.f13 false true false false W args v W' := by
  have hW' := hW
  obtain ⟨p, q, hA, hV, rfl, hfz, hnd⟩ := hW
  obtain ⟨rfl, rfl⟩ := trodVars_none hV
  rw [show Tryd.f13.params.toList = [26, 30, 3, 3] by kernel_rfl] at hA
  obtain ⟨v0, vs0, d0, ds0, p0, q0, hargs, rfl, rfl, h0, r0⟩ := trodAll_cons hA
  obtain ⟨v1, vs1, d1, ds1, p1, q1, rfl, rfl, rfl, h1, r1⟩ := trodAll_cons r0
  obtain ⟨v2, vs2, d2, ds2, p2, q2, rfl, rfl, rfl, h2, r2⟩ := trodAll_cons r1
  obtain ⟨v3, vs3, d3, ds3, p3, q3, rfl, rfl, rfl, h3, r3⟩ := trodAll_cons r2
  obtain ⟨rfl, rfl, rfl⟩ := trodAll_nil r3
  obtain rfl : args = #[v0, v1, v2, v3] := by cases args; simp_all
  have k0 := hval 0 26 v0 (by kernel_rfl) rfl
  have l0 : Light Tryd.prog 26 d0 := light_of hz (j := 0) (by kernel_rfl) rfl
  have k1 := hval 1 30 v1 (by kernel_rfl) rfl
  have l1 : Light Tryd.prog 30 d1 := light_of hz (j := 1) (by kernel_rfl) rfl
  have k2 := hval 2 3 v2 (by kernel_rfl) rfl
  have l2 : Light Tryd.prog 3 d2 := light_of hz (j := 2) (by kernel_rfl) rfl
  have k3 := hval 3 3 v3 (by kernel_rfl) rfl
  have l3 : Light Tryd.prog 3 d3 := light_of hz (j := 3) (by kernel_rfl) rfl
  have st := of_laid hL
  obtain ⟨C, hC, fit, hp⟩ := conf_arg k0 h0 l0
  obtain ⟨p, rfl, pb⟩ := pose_arg k1 h1
  obtain ⟨dir, rfl, bd⟩ := int_arg k2 h2
  obtain ⟨n, rfl, bn⟩ := int_arg k3 h3
  refine (calls_ground (steps_walk st (hC _ Dis.start) fit hp pb bd bn)).mono ?_
  rintro e W' ⟨⟨v, rfl, rfl⟩, hB⟩
  exact ⟨_, rfl, law_post laid_out rfl (by kernel_rfl) (show Tryd.prog.underlying 4 = some .bool by kernel_rfl) (by kernel_rfl) (fun ds hl => by
    obtain ⟨d0, d1, d2, d3, rfl⟩ := len4 hl
    exact ⟨rfl, rfl, rfl⟩) hW' hB⟩

theorem lifted (os : Os) (started : os.Started) (H : Type) (enc : TypeId × Value → H) :
    ReturnsInHanded {} Tryd.checked os 13 .any (fun w args => (Rows.gridStepsSpec.pre enc Tryd.prog Tryd.f13 [] false w args ∧ laidMetH Tryd.prog laidL w) ∧ sizedMet enc Tryd.prog Tryd.f13 (OpenSpec.ofChange Rows.gridStepsSpec) false w args)
      (Rows.gridStepsSpec.post enc Tryd.prog Tryd.f13 false true false false) := by
  refine returnsInHanded_of_change_and (C := Tryd.checked) (X := fun w _ => laidMetH Tryd.prog laidL w) (fun _ _ _ hh h => h.of_heap hh) own_knob started (by kernel_rfl) Tryd.func13
    (ChangeSpec.witness_shaped (enc := enc) (C := Tryd.checked) (os := os) (X := fun w _ => laidMetH Tryd.prog laidL w) false (World.doorLaid Tryd.prog 400 os) #[.agg #[.int .i64 0, .int .i64 0, .int .i64 0, .slice none 0 0, .slice none 0 0, .slice none 0 0, .slice none 0 0, .int .i64 0, .int .i64 0, .int .i64 0, .int .i64 0, .int .i64 0, .int .i64 0, .int .i64 0, .int .i64 0, .bool false], .agg #[.int .i64 0, .int .i64 0, .bool false], .int .i64 0, .int .i64 0] 8 rfl (World.shaped_of_RefB (by kernel_rfl) (by kernel_rfl)) (by kernel_rfl) (by kernel_rfl) (by kernel_rfl) (door_met os _)) ?_
  intro W base args ds gs before hval hW _ hz hL _
  exact contract H enc W base args ds gs before hval hW hz hL

theorem row_holds : Rows.GridStepsSaid :=
  OpenClaim.holds_of_wide 13 Tryd.f13 rfl rfl rfl rfl rfl rfl rfl ⟨rfl, rfl, rfl, rfl, rfl⟩ rfl rfl rfl rfl rfl (by kernel_rfl) Tryd.func13 (by kernel_rfl)
    (of_decide_eq_true (by kernel_rfl)) (by unfold Func.isWrapper; first | (rw [if_pos (by decide +kernel)]; kernel_rfl) | (rw [if_neg (by decide +kernel)]; exact ⟨rfl, rfl⟩))
    (fun os started H enc _ => lifted os started H enc)

theorem holds : Rows.GridStepsCardSaid :=
  Claim7.holds_tied_plain_at .later [] [.data] true (true, "559c2526e9d685b95d90413c43c19b70e114602596f01004f26ccc6a21ba4032") false
    row_holds (fun _ h => by cases h) (by kernel_rfl) (fun _ h => by cases h) gridSteps_row_tie rfl ⟨rfl, rfl⟩ (by kernel_rfl) rfl
    (fun f fn hf hfn => by
      obtain rfl : f = 13 := Option.some.inj ((show Tryd.prog.funcNamed "skep/skeplaw07.GridSteps" = some 13 by kernel_rfl).symm.trans hf) |>.symm
      obtain rfl : fn = Tryd.f13 := (Option.some.inj (Tryd.func13.symm.trans hfn)).symm
      exact ⟨by kernel_rfl, fun j t ht => by
        rw [show Tryd.f13.params = #[26, 30, 3, 3] by kernel_rfl] at ht
        have hm : t ∈ [26, 30, 3, 3] := by simpa using Array.mem_of_getElem? ht
        have hall : ([26, 30, 3, 3].all fun u => !Tryd.prog.wantsStandIn u) = true := by kernel_rfl
        exact (show Tryd.prog.wantsStandIn t = false by simpa using List.all_eq_true.1 hall t hm)⟩)
    (by kernel_rfl)
end Go.Proofs.YtnpdploihlgcgaaDoor.gridSteps
