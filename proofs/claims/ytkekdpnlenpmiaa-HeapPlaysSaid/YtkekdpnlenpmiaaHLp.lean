/- Slices of one's own: small laws. -/
import Derived.Test.YtkekdpnlenpmiaaHLo
set_option linter.unusedVariables false
set_option linter.unusedSimpArgs false
namespace Go.HL
open Go

theorem Own.ne {α : Type} {c : Cod α} {e e' : TypeId} {h : Hp} {v : Value} {L : List α} {b x : Nat} {cs : Array Value} (o : Own c e h v L (some b)) (hx : h x = some (.cells cs e' (0, 0))) (he : e ≠ e') : b ≠ x := by
  obtain ⟨_, _, _, r2, _⟩ := o
  intro q
  rw [q, hx] at r2
  simp only [Option.some.injEq, Obj.cells.injEq] at r2
  exact he r2.2.1.symm
theorem Own.new {α : Type} {c : Cod α} {e : TypeId} {h : Hp} {v : Value} {L : List α} {ob : Option Nat} (o : Own c e h v L ob) {x : Nat} {p : Obj} (hx : h x = none) : Own c e (h.set x p) v L ob := by
  cases ob with
  | none => exact o
  | some b =>
    obtain ⟨cap, t, r1, r2, r3⟩ := o
    exact ⟨cap, t, r1, by rw [set_other (ne_of_new r2 hx)]; exact r2, r3⟩
theorem Own.at {α : Type} {c : Cod α} {e : TypeId} {h : Hp} {v : Value} {L : List α} {ob : Option Nat} (o : Own c e h v L ob) : ∀ b, ob = some b → ∃ p, h b = some p := by
  rintro b rfl
  obtain ⟨cap, t, r1, r2, r3⟩ := o
  exact ⟨_, r2⟩
theorem Own.keep {α : Type} {c : Cod α} {e : TypeId} {h h' : Hp} {v : Value} {L : List α} {ob : Option Nat} (o : Own c e h v L ob) (k : ∀ b, ob = some b → h' b = h b) : Own c e h' v L ob := by
  cases ob with
  | none => exact o
  | some b =>
    obtain ⟨cap, t, r1, r2, r3⟩ := o
    exact ⟨cap, t, r1, by rw [k b rfl]; exact r2, r3⟩
theorem Own.slice {α : Type} {c : Cod α} {e : TypeId} {h : Hp} {v : Value} {L : List α} {ob : Option Nat} (o : Own c e h v L ob) : ∃ sa cap, v = .slice sa L.length cap := by
  cases ob with
  | none => obtain ⟨rfl, rfl⟩ := o; exact ⟨none, 0, rfl⟩
  | some b => obtain ⟨cap, t, r1, r2, r3⟩ := o; exact ⟨_, cap, r1⟩


/-- A slice that reads as these things, wherever it lies. -/
def Sees {α : Type} (c : Cod α) (G h : Hp) (v : Value) (L : List α) : Prop :=
  ∃ s cap, v = .slice s L.length cap ∧ L.length ≤ cap ∧ (L = [] ∨ ∃ b o, s = some ⟨b, o, none⟩ ∧ ∀ i x, L[i]? = some x → ∀ j, j < c.n → cellIn G h ⟨b, o + i * c.n + j, none⟩ = (c.enc x)[j]?)

theorem Own.sees {α : Type} {c : Cod α} {G : Hp} {e : TypeId} {h : Hp} {v : Value} {L : List α} {ob : Option Nat} (o : Own c e h v L ob) (hn : 0 < c.n) : Sees c G h v L := by
  cases ob with
  | none => obtain ⟨rfl, rfl⟩ := o; exact ⟨none, 0, rfl, Nat.le_refl _, .inl rfl⟩
  | some b =>
    obtain ⟨cap, t, rfl, r2, r3⟩ := o
    refine ⟨_, cap, rfl, ?_, .inr ⟨b, 0, rfl, fun i x hx j hj => ?_⟩⟩
    · rw [List.length_append, c.rows_length] at r3
      exact Nat.le_of_mul_le_mul_right (by omega) hn
    · rw [cell_of (look_own r2), Nat.zero_add]
      exact c.rows_get hx hj

theorem Sees.get {α : Type} {c : Cod α} {G h : Hp} {v : Value} {L : List α} (s : Sees c G h v L) {i : Nat} {x : α} (hx : L[i]? = some x) :
    ∃ b o cap, v = .slice (some ⟨b, o, none⟩) L.length cap ∧ ∀ j, j < c.n → cellIn G h ⟨b, o + i * c.n + j, none⟩ = (c.enc x)[j]? := by
  obtain ⟨s, cap, rfl, _, rfl | ⟨b, o, rfl, hc⟩⟩ := s
  · simp at hx
  · exact ⟨b, o, cap, rfl, hc i x hx⟩

theorem Sees.len {α : Type} {c : Cod α} {G h : Hp} {v : Value} {L : List α} (s : Sees c G h v L) : ∃ s cap, v = .slice s L.length cap := by
  obtain ⟨s, cap, rfl, _⟩ := s; exact ⟨s, cap, rfl⟩

theorem Sees.keep {α : Type} {c : Cod α} {G h h' : Hp} {v : Value} {L : List α} (s : Sees c G h v L) (l : ∀ a w, cellIn G h a = some w → cellIn G h' a = some w) : Sees c G h' v L := by
  obtain ⟨s, cap, rfl, h1, h2⟩ := s
  refine ⟨s, cap, rfl, h1, h2.imp id fun ⟨b, o, e, hc⟩ => ⟨b, o, e, fun i x hx j hj => ?_⟩⟩
  have := hc i x hx j hj
  rw [List.getElem?_eq_getElem (by rw [c.len]; exact hj)] at this ⊢
  exact l _ _ this

theorem Sees.take {α : Type} {c : Cod α} {G h : Hp} {v : Value} {L : List α} (s : Sees c G h v L) {k : Nat} (hk : k ≤ L.length) : ∃ a cap, v = .slice a L.length cap ∧ L.length ≤ cap ∧ Sees c G h (.slice a k cap) (L.take k) := by
  obtain ⟨s, cap, rfl, h1, h2⟩ := s
  refine ⟨s, cap, rfl, h1, s, cap, by rw [List.length_take, Nat.min_eq_left hk], by rw [List.length_take]; omega, ?_⟩
  rcases h2 with rfl | ⟨b, o, e, hc⟩
  · exact .inl (by simp)
  · refine .inr ⟨b, o, e, fun i x hx => hc i x ?_⟩
    rw [List.getElem?_take] at hx
    split at hx
    · exact hx
    · cases hx

end Go.HL
