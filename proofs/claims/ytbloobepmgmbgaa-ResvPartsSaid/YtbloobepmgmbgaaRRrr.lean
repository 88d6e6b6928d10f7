/- ResvParts: for every input the call returns true and leaves its arguments as they were. No condition. -/
import Derived.Test.YtbloobepmgmbgaaRRr
import Derived.Test.YtbloobepmgmbgaaRN
import Derived.Test.YtbloobepmgmbgaaRows
import Derived.JoinedOf
import Derived.Handed
set_option linter.unusedSimpArgs false
set_option linter.unusedVariables false
namespace Go.Proofs.Ytbloobepmgmbgaa.resvParts
open Go Go.HL Go.ChangeShapes Go.WideShapes Go.RowKit

theorem own_knob : ownKnob Try.prog.godebug = none := by kernel_rfl
theorem laid_out : laidOutB Try.prog = true := by kernel_rfl

theorem len3 {α : Type} {L : List α} (h : L.length = 3) : ∃ a b c, L = [a, b, c] := by
  match L, h with
  | [a, b, c], _ => exact ⟨a, b, c, rfl⟩
theorem contract (H : Type) (enc : TypeId × Value → H) (W : World) (base : Nat) (args : Array Value) (ds gs : List (DataW H)) (before : List MemPlace)
    (hval : ∀ (j : Nat) t v, Try.f11.params[j]? = some t → args[j]? = some v → Value.okWide Try.prog W .any base t v)
    (hW : DataW.Whole enc Try.prog Try.f11.params.toList Rows.resvPartsSpec.vars false W args.toList ds gs before) :
    Calls Try.prog 11 args W fun e W' => ∃ v, e = .returned v ∧ Rows.resvPartsSpec.post enc Try.prog Try.f11 false true false false W args v W' := by
  have hW' := hW
  obtain ⟨p, q, hA, hV, rfl, hfz, hnd⟩ := hW
  rw [show Try.f11.params.toList = [46, 3, 64] by kernel_rfl] at hA
  obtain ⟨v0, vs0, d0, ds0, p0, q0, hargs, rfl, rfl, h0, r0⟩ := trodAll_cons hA
  obtain ⟨v1, vs1, d1, ds1, p1, q1, rfl, rfl, rfl, h1, r1⟩ := trodAll_cons r0
  obtain ⟨v2, vs2, d2, ds2, p2, q2, rfl, rfl, rfl, h2, r2⟩ := trodAll_cons r1
  obtain ⟨rfl, rfl, rfl⟩ := trodAll_nil r2
  obtain rfl : args = #[v0, v1, v2] := by cases args; simp_all
  have k0 := hval 0 46 v0 (by kernel_rfl) rfl
  have k1 := hval 1 3 v1 (by kernel_rfl) rfl
  have k2 := hval 2 64 v2 (by kernel_rfl) rfl
  obtain ⟨l, hl, hb⟩ := ops_arg k0 h0
  obtain ⟨m1, rfl, b1⟩ := int_arg k1 h1
  obtain ⟨cs, hc, hcb⟩ := ints_arg k2 h2
  refine (calls_ground (parts_walk hl hb b1 hc hcb)).mono ?_
  rintro e W' ⟨⟨v, rfl, rfl⟩, hB⟩
  exact ⟨_, rfl, law_post laid_out rfl (by kernel_rfl) (show Try.prog.underlying 4 = some .bool by kernel_rfl) (by kernel_rfl) (fun ds hl => by
    obtain ⟨d0, d1, d2, rfl⟩ := len3 hl
    exact ⟨rfl, rfl, rfl⟩) hW' hB⟩

set_option maxRecDepth 100000 in
theorem lifted (os : Os) (started : os.Started) (H : Type) (enc : TypeId × Value → H) :
    ReturnsInHanded {} Try.checked os 11 .any (Rows.resvPartsSpec.pre6 enc Try.prog Try.f11 Rows.resvPartsRow.domain false) (Rows.resvPartsSpec.post enc Try.prog Try.f11 false true false false) := by
  refine returnsInHanded_of_change (C := Try.checked) own_knob started (by kernel_rfl) Try.func11
    (ChangeSpec.witness6 (enc := enc) (C := Try.checked) false ⟨#[], #[.slice none 0 0, .int .i64 0, .slice none 0 0], []⟩ 8 (by kernel_rfl) (by kernel_rfl) (by kernel_rfl) (by kernel_rfl)) ?_
  intro W base args ds gs before hval hW _ _
  exact contract H enc W base args ds gs before hval hW

theorem holds : Rows.ResvPartsSaid :=
  OpenClaim.holds_of_wide 11 Try.f11 rfl rfl rfl rfl rfl rfl rfl ⟨rfl, rfl, rfl, rfl, rfl⟩ rfl rfl rfl rfl rfl (by kernel_rfl) Try.func11 (by kernel_rfl)
    (of_decide_eq_true (by kernel_rfl)) (by unfold Func.isWrapper; first | (rw [if_pos (by decide +kernel)]; kernel_rfl) | (rw [if_neg (by decide +kernel)]; exact ⟨rfl, rfl⟩))
    (fun os started H enc _ => lifted os started H enc)
end Go.Proofs.Ytbloobepmgmbgaa.resvParts
