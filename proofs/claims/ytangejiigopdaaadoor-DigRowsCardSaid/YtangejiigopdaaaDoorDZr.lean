/- DigRows, its tied card: for every input the call returns true and leaves its arguments as they were. No condition beyond the card's own. -/
import Derived.Test.YtangejiigopdaaaDoorM5
import Derived.Test.YtangejiigopdaaaDoorM4
import Derived.Test.YtangejiigopdaaaDoorCards
import Derived.Test.YtangejiigopdaaaDoorTie
import Derived.SevenTiedAt
set_option linter.unusedSimpArgs false
set_option linter.unusedVariables false
set_option maxRecDepth 100000
namespace Go.Proofs.YtangejiigopdaaaDoor.digRows
open Go Go.HL Go.ChangeShapes Go.WideShapes Go.RowKit

theorem len3 {α : Type} {L : List α} (h : L.length = 3) : ∃ a b c, L = [a, b, c] := by
  match L, h with
  | [a, b, c], _ => exact ⟨a, b, c, rfl⟩
theorem contract (H : Type) (enc : TypeId × Value → H) (W : World) (base : Nat) (args : Array Value) (ds gs : List (DataW H)) (before : List MemPlace)
    (hval : ∀ (j : Nat) t v, Tryd.f6.params[j]? = some t → args[j]? = some v → Value.okWide Tryd.prog W .any base t v)
    (hW : DataW.Whole enc Tryd.prog Tryd.f6.params.toList Rows.digRowsSpec.vars false W args.toList ds gs before)
    (hz : (DataW.weightsEach Tryd.prog (Tryd.f6.params.toList ++ Rows.digRowsSpec.plain.varTypes Tryd.prog) (ds ++ gs)).all (· ≤ reachBytes) = true) (hL : laidMetH Tryd.prog laidL W) :
    Calls Tryd.prog 6 args W fun e W' => ∃ v, e = .returned v ∧ Rows.digRowsSpec.post enc Tryd.prog Tryd.f6 false true false false W args v W' := by
  have hW' := hW
  obtain ⟨p, q, hA, hV, rfl, hfz, hnd⟩ := hW
  obtain ⟨rfl, rfl⟩ := trodVars_none hV
  rw [show Tryd.f6.params.toList = [3, 3, 3] by kernel_rfl] at hA
  obtain ⟨v0, vs0, d0, ds0, p0, q0, hargs, rfl, rfl, h0, r0⟩ := trodAll_cons hA
  obtain ⟨v1, vs1, d1, ds1, p1, q1, rfl, rfl, rfl, h1, r1⟩ := trodAll_cons r0
  obtain ⟨v2, vs2, d2, ds2, p2, q2, rfl, rfl, rfl, h2, r2⟩ := trodAll_cons r1
  obtain ⟨rfl, rfl, rfl⟩ := trodAll_nil r2
  obtain rfl : args = #[v0, v1, v2] := by cases args; simp_all
  have k0 := hval 0 3 v0 (by kernel_rfl) rfl
  have l0 : Light Tryd.prog 3 d0 := light_of hz (j := 0) (by kernel_rfl) rfl
  have k1 := hval 1 3 v1 (by kernel_rfl) rfl
  have l1 : Light Tryd.prog 3 d1 := light_of hz (j := 1) (by kernel_rfl) rfl
  have k2 := hval 2 3 v2 (by kernel_rfl) rfl
  have l2 : Light Tryd.prog 3 d2 := light_of hz (j := 2) (by kernel_rfl) rfl
  have st := of_laid hL
  obtain ⟨high, rfl, bh⟩ := int_arg k0 h0
  obtain ⟨k, rfl, bk⟩ := int_arg k1 h1
  obtain ⟨cells, rfl, bc⟩ := int_arg k2 h2
  refine (calls_ground (rows_walk st bh bk bc)).mono ?_
  rintro e W' ⟨⟨v, rfl, rfl⟩, hB⟩
  exact ⟨_, rfl, law_post laid_out rfl (by kernel_rfl) (show Tryd.prog.underlying 4 = some .bool by kernel_rfl) (by kernel_rfl) (fun ds hl => by
    obtain ⟨d0, d1, d2, rfl⟩ := len3 hl
    exact ⟨rfl, rfl, rfl⟩) hW' hB⟩

theorem lifted (os : Os) (started : os.Started) (H : Type) (enc : TypeId × Value → H) :
    ReturnsInHanded {} Tryd.checked os 6 .any (fun w args => (Rows.digRowsSpec.pre enc Tryd.prog Tryd.f6 [] false w args ∧ laidMetH Tryd.prog laidL w) ∧ sizedMet enc Tryd.prog Tryd.f6 (OpenSpec.ofChange Rows.digRowsSpec) false w args)
      (Rows.digRowsSpec.post enc Tryd.prog Tryd.f6 false true false false) := by
  refine returnsInHanded_of_change_and (C := Tryd.checked) (X := fun w _ => laidMetH Tryd.prog laidL w) (fun _ _ _ hh h => h.of_heap hh) own_knob started (by kernel_rfl) Tryd.func6
    (ChangeSpec.witness_shaped (enc := enc) (C := Tryd.checked) (os := os) (X := fun w _ => laidMetH Tryd.prog laidL w) false (World.doorLaid Tryd.prog 400 os) #[.int .i64 0, .int .i64 0, .int .i64 0] 8 rfl (World.shaped_of_RefB (by kernel_rfl) (by kernel_rfl)) (by kernel_rfl) (by kernel_rfl) (by kernel_rfl) (door_met os _)) ?_
  intro W base args ds gs before hval hW _ hz hL _
  exact contract H enc W base args ds gs before hval hW hz hL

theorem row_holds : Rows.DigRowsSaid :=
  OpenClaim.holds_of_wide 6 Tryd.f6 rfl rfl rfl rfl rfl rfl rfl ⟨rfl, rfl, rfl, rfl, rfl⟩ rfl rfl rfl rfl rfl (by kernel_rfl) Tryd.func6 (by kernel_rfl)
    (of_decide_eq_true (by kernel_rfl)) (by unfold Func.isWrapper; first | (rw [if_pos (by decide +kernel)]; kernel_rfl) | (rw [if_neg (by decide +kernel)]; exact ⟨rfl, rfl⟩))
    (fun os started H enc _ => lifted os started H enc)

theorem holds : Rows.DigRowsCardSaid :=
  Claim7.holds_tied_plain_at .later [] [.data] true (true, "85a9d47646e33f1d3eb187163dc4ce6a33aa159680433ed612f31c97fb810b3c") false
    row_holds (fun _ h => by cases h) (by kernel_rfl) (fun _ h => by cases h) digRows_row_tie rfl ⟨rfl, rfl⟩ (by kernel_rfl) rfl
    (fun f fn hf hfn => by
      obtain rfl : f = 6 := Option.some.inj ((show Tryd.prog.funcNamed "skep/skeplaw14.DigRows" = some 6 by kernel_rfl).symm.trans hf) |>.symm
      obtain rfl : fn = Tryd.f6 := (Option.some.inj (Tryd.func6.symm.trans hfn)).symm
      exact ⟨by kernel_rfl, fun j t ht => by
        rw [show Tryd.f6.params = #[3, 3, 3] by kernel_rfl] at ht
        have hm : t ∈ [3, 3, 3] := by simpa using Array.mem_of_getElem? ht
        have hall : ([3, 3, 3].all fun u => !Tryd.prog.wantsStandIn u) = true := by kernel_rfl
        exact (show Tryd.prog.wantsStandIn t = false by simpa using List.all_eq_true.1 hall t hm)⟩)
    (by kernel_rfl)
end Go.Proofs.YtangejiigopdaaaDoor.digRows
