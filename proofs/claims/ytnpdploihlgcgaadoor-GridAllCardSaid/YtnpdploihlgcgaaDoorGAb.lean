/- A move that comes in as an argument. -/
import Derived.Test.YtnpdploihlgcgaaDoorGAa
import Derived.Test.YtnpdploihlgcgaaDoorGW
set_option linter.unusedSimpArgs false
set_option linter.unusedVariables false
set_option maxRecDepth 100000
namespace Go.Proofs.YtnpdploihlgcgaaDoor
open Go Go.HL Go.ChangeShapes Go.WideShapes Go.RowKit

theorem sf46 : structFields Tryd.prog 46 = some [(3, 0), (3, 1), (3, 2), (30, 3), (30, 6), (3, 9), (3, 10)] := by kernel_rfl
theorem c46 : Tryd.prog.cellsOf 46 = 11 := by kernel_rfl

section
variable {H : Type} {enc : TypeId × Value → H} {w : World} {base : Nat} {spare : Nat → Bool} {held : Bool}

theorem len11 {α : Type} {L : List α} (h : L.length = 11) : ∃ a b c d e f g i j k l, L = [a, b, c, d, e, f, g, i, j, k, l] := by
  match L, h with
  | [a, b, c, d, e, f, g, i, j, k, l], _ => exact ⟨a, b, c, d, e, f, g, i, j, k, l, rfl⟩

theorem move_dec {m : Nat} {cs : List Value} {y : DataW H × List MemPlace} (h : DataW.trod enc Tryd.prog w base spare held m 46 cs = some y) : ∃ v : Move, cs = moveC.enc v ∧ MB v ∧ PB v.t := by
  obtain ⟨hl, d⟩ := dec_fields sf46 h
  rw [c46] at hl
  obtain ⟨v0, v1, v2, v3, v4, v5, v6, v7, v8, v9, v10, rfl⟩ := len11 hl
  obtain ⟨_, _, e0⟩ := d 0 _ _ rfl
  obtain ⟨_, _, e1⟩ := d 1 _ _ rfl
  obtain ⟨_, _, e2⟩ := d 2 _ _ rfl
  obtain ⟨_, _, e3⟩ := d 3 _ _ rfl
  obtain ⟨_, _, e4⟩ := d 4 _ _ rfl
  obtain ⟨_, _, e5⟩ := d 5 _ _ rfl
  obtain ⟨_, _, e6⟩ := d 6 _ _ rfl
  simp only [c3, c30] at e0 e1 e2 e3 e4 e5 e6
  obtain ⟨x0, f0, _⟩ := dec_int un3i e0
  obtain ⟨x1, f1, _⟩ := dec_int un3i e1
  obtain ⟨x2, f2, n2⟩ := dec_int un3i e2
  obtain ⟨p3, f3, b3⟩ := pose_dec e3
  obtain ⟨p4, f4, b4⟩ := pose_dec e4
  obtain ⟨x5, f5, _⟩ := dec_int un3i e5
  obtain ⟨x6, f6, _⟩ := dec_int un3i e6
  simp [poseC] at f0 f1 f2 f3 f4 f5 f6
  obtain ⟨rfl, rfl, rfl⟩ := f3
  obtain ⟨rfl, rfl, rfl⟩ := f4
  subst f0 f1 f2 f5 f6
  exact ⟨⟨x0, x1, x2, p3, p4, x5, x6⟩, rfl, ⟨n2, b3⟩, b4⟩

theorem move_arg {r : Reach} {b0 : Nat} {v : Value} {d : DataW H} {ps : List MemPlace} (k : Value.okWide Tryd.prog w r b0 46 v) (h : DataW.Trod enc Tryd.prog w base spare held 46 v d ps) : ∃ m : Move, v = moveV m ∧ MB m ∧ PB m.t := by
  obtain ⟨cs, rfl⟩ := okWide_structF sf46 k
  obtain ⟨m, h⟩ := h
  obtain ⟨c, e, b⟩ := move_dec (cs := cs.toList) h
  exact ⟨c, by rw [← Array.toArray_toList (xs := cs), e]; rfl, b⟩
end
end Go.Proofs.YtnpdploihlgcgaaDoor
