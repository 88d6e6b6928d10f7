/- HeapPlays: for every input the call returns true and leaves its argument as it was. No condition. -/
import Derived.Test.YtkekdpnlenpmiaaHPd
import Derived.Test.YtkekdpnlenpmiaaHLn
import Derived.Test.YtkekdpnlenpmiaaHLs
import Derived.Test.YtkekdpnlenpmiaaRows
import Derived.JoinedOf
import Derived.Handed
set_option linter.unusedSimpArgs false
set_option linter.unusedVariables false
namespace Go.Proofs.Ytkekdpnlenpmiaa.heapPlays
open Go Go.HL Go.ChangeShapes Go.WideShapes Go.RowKit

theorem own_knob : ownKnob Try.prog.godebug = none := by kernel_rfl
theorem laid_out : laidOutB Try.prog = true := by kernel_rfl

theorem len1 {α : Type} {L : List α} (h : L.length = 1) : ∃ a, L = [a] := List.length_eq_one_iff.1 h
theorem len2 {α : Type} {L : List α} (h : L.length = 2) : ∃ a b, L = [a, b] := by
  match L, h with
  | [a, b], _ => exact ⟨a, b, rfl⟩
theorem len3 {α : Type} {L : List α} (h : L.length = 3) : ∃ a b c, L = [a, b, c] := by
  match L, h with
  | [a, b, c], _ => exact ⟨a, b, c, rfl⟩
theorem len4 {α : Type} {L : List α} (h : L.length = 4) : ∃ a b c d, L = [a, b, c, d] := by
  match L, h with
  | [a, b, c, d], _ => exact ⟨a, b, c, d, rfl⟩

theorem contract (H : Type) (enc : TypeId × Value → H) (W : World) (base : Nat) (args : Array Value) (ds gs : List (DataW H)) (before : List MemPlace)
    (hval : ∀ (j : Nat) t v, Try.f7.params[j]? = some t → args[j]? = some v → Value.okWide Try.prog W .any base t v)
    (hW : DataW.Whole enc Try.prog Try.f7.params.toList Rows.heapPlaysSpec.vars false W args.toList ds gs before) :
    Calls Try.prog 7 args W fun e W' => ∃ v, e = .returned v ∧ Rows.heapPlaysSpec.post enc Try.prog Try.f7 false true false false W args v W' := by
  have hW' := hW
  obtain ⟨p, q, hA, hV, rfl, hfz, hnd⟩ := hW
  rw [show Try.f7.params.toList = [50] by kernel_rfl] at hA
  obtain ⟨v0, vs0, d0, ds0, p0, q0, hargs, rfl, rfl, h0, r0⟩ := trodAll_cons hA
  obtain ⟨rfl, rfl, rfl⟩ := trodAll_nil r0
  obtain rfl : args = #[v0] := by cases args; simp_all
  have k0 := hval 0 50 v0 (by kernel_rfl) rfl
  obtain ⟨S, hS⟩ := arg_rdR (R := OpR) un50 (show Try.prog.cellsOf 55 = 3 by kernel_rfl) (by decide) (fun _ cs _ hl h => by
    obtain ⟨-, d⟩ := dec_fields (tos := [(3, 0), (27, 1)]) (by kernel_rfl) h
    obtain ⟨m0, z0, e0⟩ := d 0 _ _ rfl
    obtain ⟨m1, z1, e1⟩ := d 1 _ _ rfl
    obtain ⟨-, d⟩ := dec_fields (tos := [(3, 0), (3, 1)]) (by kernel_rfl) e1
    obtain ⟨m2, z2, e2⟩ := d 0 _ _ rfl
    obtain ⟨m3, z3, e3⟩ := d 1 _ _ rfl
    simp only [show Try.prog.cellsOf 3 = 1 by kernel_rfl, show Try.prog.cellsOf 27 = 2 by kernel_rfl] at e0 e2 e3
    obtain ⟨x0, f0, b0⟩ := dec_int (show Try.prog.underlying 3 = some (.int .i64) by kernel_rfl) e0
    obtain ⟨x2, f2, b2⟩ := dec_int (show Try.prog.underlying 3 = some (.int .i64) by kernel_rfl) e2
    obtain ⟨x3, f3, b3⟩ := dec_int (show Try.prog.underlying 3 = some (.int .i64) by kernel_rfl) e3
    match cs, hl with
    | [c0, c1, c2], _ =>
      simp at f0 f2 f3
      subst f0 f2 f3
      exact ⟨(x0, x2, x3), rfl, b0, b2, b3⟩) k0 h0
  refine (calls_ground (plays_walk hS)).mono ?_
  rintro e W' ⟨⟨v, rfl, rfl⟩, hB⟩
  exact ⟨_, rfl, law_post laid_out rfl (by kernel_rfl) (show Try.prog.underlying 4 = some .bool by kernel_rfl) (by kernel_rfl) (fun ds hl => by
    obtain ⟨d0, rfl⟩ := len1 hl
    exact ⟨rfl, rfl, rfl⟩) hW' hB⟩

set_option maxRecDepth 100000 in
theorem lifted (os : Os) (started : os.Started) (H : Type) (enc : TypeId × Value → H) :
    ReturnsInHanded {} Try.checked os 7 .any (Rows.heapPlaysSpec.pre6 enc Try.prog Try.f7 Rows.heapPlaysRow.domain false) (Rows.heapPlaysSpec.post enc Try.prog Try.f7 false true false false) := by
  refine returnsInHanded_of_change (C := Try.checked) own_knob started (by kernel_rfl) Try.func7
    (ChangeSpec.witness6 (enc := enc) (C := Try.checked) false ⟨#[], #[.slice none 0 0], []⟩ 8 (by kernel_rfl) (by kernel_rfl) (by kernel_rfl) (by kernel_rfl)) ?_
  intro W base args ds gs before hval hW _ _
  exact contract H enc W base args ds gs before hval hW

theorem holds : Rows.HeapPlaysSaid :=
  OpenClaim.holds_of_wide 7 Try.f7 rfl rfl rfl rfl rfl rfl rfl ⟨rfl, rfl, rfl, rfl, rfl⟩ rfl rfl rfl rfl rfl (by kernel_rfl) Try.func7 (by kernel_rfl)
    (of_decide_eq_true (by kernel_rfl)) (by unfold Func.isWrapper; first | (rw [if_pos (by decide +kernel)]; kernel_rfl) | (rw [if_neg (by decide +kernel)]; exact ⟨rfl, rfl⟩))
    (fun os started H enc _ => lifted os started H enc)
end Go.Proofs.Ytkekdpnlenpmiaa.heapPlays
