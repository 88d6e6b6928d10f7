/- Arguments of any plain shape: slices in the ground, element by element. -/
import Derived.Test.YtkekdpnlenpmiaaHLn
set_option linter.unusedVariables false
set_option linter.unusedSimpArgs false
namespace Go.HL
open Go Go.ChangeShapes Go.WideShapes Go.RowKit

theorem list_of {α : Type} {Q : Nat → α → Prop} : ∀ n, (∀ i, i < n → ∃ x, Q i x) → ∃ L : List α, L.length = n ∧ ∀ i x, L[i]? = some x → Q i x
  | 0, _ => ⟨[], rfl, by simp⟩
  | n + 1, h => by
    obtain ⟨L, hl, hq⟩ := list_of n (fun i hi => h i (by omega))
    obtain ⟨x, hx⟩ := h n (by omega)
    refine ⟨L ++ [x], by simp [hl], fun i y hy => ?_⟩
    by_cases hi : i < n
    · rw [List.getElem?_append_left (by omega)] at hy
      exact hq i y hy
    · have : i = n := by
        have := (List.getElem?_eq_some_iff.1 hy).1
        simp [hl] at this
        omega
      subst this
      rw [← hl, List.getElem?_append_right (by omega)] at hy
      simp at hy
      subst hy
      exact hx

/-- A slice in the ground whose elements (n cells each) are these, by R. -/
def RdR {α : Type} (n : Nat) (R : List Value → α → Prop) (G : Hp) (v : Value) (L : List α) : Prop :=
  ∃ sa cap, v = .slice sa L.length cap ∧ (L = [] ∨ ∃ b o, sa = some ⟨b, o, none⟩ ∧ ∀ i x, L[i]? = some x → ∃ cs, cs.length = n ∧ R cs x ∧ ∀ h, Dis G h → ∀ j, j < n → cellIn G h ⟨b, o + i * n + j, none⟩ = cs[j]?)

theorem RdR.len {α : Type} {n : Nat} {R : List Value → α → Prop} {G : Hp} {v : Value} {L : List α} (r : RdR n R G v L) : ∃ sa cap, v = .slice sa L.length cap := by
  obtain ⟨sa, cap, rfl, _⟩ := r; exact ⟨sa, cap, rfl⟩

/-- At an element. -/
theorem RdR.get {α : Type} {n : Nat} {R : List Value → α → Prop} {G : Hp} {v : Value} {L : List α} (r : RdR n R G v L) {i : Nat} {x : α} (hx : L[i]? = some x) :
    ∃ b o cap cs, v = .slice (some ⟨b, o, none⟩) L.length cap ∧ cs.length = n ∧ R cs x ∧ ∀ h, Dis G h → ∀ j, j < n → cellIn G h ⟨b, o + i * n + j, none⟩ = cs[j]? := by
  obtain ⟨sa, cap, rfl, rfl | ⟨b, o, rfl, hc⟩⟩ := r
  · simp at hx
  · obtain ⟨cs, h1, h2, h3⟩ := hc i x hx
    exact ⟨b, o, cap, cs, rfl, h1, h2, h3⟩

theorem cell_spot {w : World} {a : Addr} {v : Value} (h : w.cell? a = some v) : a.spot = none := by
  unfold World.cell? at h
  cases hb : w.heap[a.block]? with
  | none => rw [hb] at h; simp at h
  | some o =>
    rw [hb] at h
    cases o with
    | cells c e f =>
      simp only at h
      split at h
      · cases h
      · rename_i hs; cases hsp : a.spot with
        | none => rfl
        | some _ => rw [hsp] at hs; simp at hs
    | _ => simp at h

theorem arg_rdR {α : Type} {n : Nat} {R : List Value → α → Prop} {H : Type} {enc : TypeId × Value → H} {P : Program} {w : World} {base base' : Nat} {spare : Nat → Bool} {held : Bool} {t e : TypeId} {v : Value} {d : DataW H} {ps : List MemPlace} {r : Reach}
    (ht : P.underlying t = some (.slice e)) (hn : P.cellsOf e = n) (h0 : 0 < n)
    (hdec : ∀ fuel cs y, cs.length = n → DataW.trod enc P w base spare held fuel e cs = some y → ∃ x, R cs x)
    (hv : Value.okWide P w r base' t v) (h : DataW.Trod enc P w base spare held t v d ps) : ∃ L, RdR n R (ground w) v L := by
  obtain ⟨a, len, cap, rfl⟩ := okWide_slice ht hv
  obtain ⟨m, h⟩ := h
  rcases DataW.trod_slice ht h with ⟨h1, _⟩ | ⟨a, len, cap, elems, rest, k, _, h1, _, _, _, _, hlen, hel, _⟩
  · simp [Value.cells] at h1
    obtain ⟨rfl, rfl, rfl⟩ := h1
    exact ⟨[], none, 0, rfl, .inl rfl⟩
  · simp [Value.cells] at h1
    obtain ⟨rfl, rfl, rfl⟩ := h1
    rw [hn] at hel
    have each : ∀ i, i < len → ∃ x, ∃ cs : List Value, cs.length = n ∧ R cs x ∧ ∀ j, j < n → w.cell? ((a.add (i * n)).add j) = cs[j]? := by
      intro i hi
      have h2 := hel i hi
      rw [List.getElem?_eq_getElem (by omega)] at h2
      cases hc : w.cells? base (a.add (i * n)) n with
      | none => rw [hc] at h2; cases h2
      | some cs =>
        rw [hc] at h2
        obtain ⟨_, h3, h4⟩ := World.cells?_some hc
        obtain ⟨x, hx⟩ := hdec k cs _ h3 h2
        exact ⟨x, cs, h3, hx, h4⟩
    obtain ⟨L, hL, hq⟩ := list_of len each
    by_cases hl0 : len = 0
    · subst hl0
      obtain rfl := List.length_eq_zero_iff.1 hL
      exact ⟨[], some a, cap, rfl, .inl rfl⟩
    obtain ⟨x0, cs0, c1, c2, c3⟩ := each 0 (by omega)
    have hs : ((a.add (0 * n)).add 0).spot = none := by
      have := c3 0 h0
      rw [List.getElem?_eq_getElem (by omega)] at this
      exact cell_spot this
    obtain ⟨b, o, sp⟩ := a
    have hsp : sp = none := by
      cases sp with
      | none => rfl
      | some s => simp [Addr.add] at hs
    subst hsp
    refine ⟨L, some ⟨b, o, none⟩, cap, by rw [hL], .inr ⟨b, o, rfl, fun i x hx => ?_⟩⟩
    obtain ⟨cs, q1, q2, q3⟩ := hq i x hx
    refine ⟨cs, q1, q2, fun h d j hj => ?_⟩
    have := q3 j hj
    rw [add_mk, add_mk] at this
    rw [List.getElem?_eq_getElem (by omega)] at this ⊢
    exact ground_cell this d

/-- The cells of plain types. -/
theorem dec_string {H : Type} {enc : TypeId × Value → H} {P : Program} {w : World} {base : Nat} {spare : Nat → Bool} {held : Bool} {e : TypeId} {fuel : Nat} {cs : List Value} {y : DataW H × List MemPlace} (ht : P.underlying e = some .string)
    (h : DataW.trod enc P w base spare held fuel e cs = some y) : ∃ s : ByteArray, cs = [.string s] ∧ s.size ≤ maxLen := by
  obtain ⟨s', h, hx, hs⟩ := DataW.trod_string ht h
  exact ⟨s', h, hs⟩
theorem dec_int {H : Type} {enc : TypeId × Value → H} {P : Program} {w : World} {base : Nat} {spare : Nat → Bool} {held : Bool} {e : TypeId} {fuel : Nat} {cs : List Value} {y : DataW H × List MemPlace} (ht : P.underlying e = some (.int .i64))
    (h : DataW.trod enc P w base spare held fuel e cs = some y) : ∃ n : Int, cs = [.int .i64 n] ∧ -9223372036854775808 ≤ n ∧ n ≤ 9223372036854775807 := by
  obtain ⟨n', h, hx, hw⟩ := DataW.trod_int ht h
  refine ⟨n', h, ?_⟩
  simpa [Lit.wf, IntKind.min, IntKind.max, IntKind.signed, IntKind.bits] using hw
theorem dec_bool {H : Type} {enc : TypeId × Value → H} {P : Program} {w : World} {base : Nat} {spare : Nat → Bool} {held : Bool} {e : TypeId} {fuel : Nat} {cs : List Value} {y : DataW H × List MemPlace} (ht : P.underlying e = some .bool)
    (h : DataW.trod enc P w base spare held fuel e cs = some y) : ∃ b : Bool, cs = [.bool b] := by
  obtain ⟨b, h, _⟩ := DataW.trod_bool ht h
  exact ⟨b, h⟩
/-- A struct: field by field. -/
theorem dec_struct {H : Type} {enc : TypeId × Value → H} {P : Program} {w : World} {base : Nat} {spare : Nat → Bool} {held : Bool} {e : TypeId} {fuel : Nat} {cs : List Value} {y : DataW H × List MemPlace} {fs : Array Field} (ht : P.underlying e = some (.struct fs))
    (h : DataW.trod enc P w base spare held fuel e cs = some y) : cs.length = P.cellsOf e ∧ ∀ (i : Nat) (f : Field), fs[i]? = some f → ∃ m z, DataW.trod enc P w base spare held m f.type ((cs.drop f.offset).take (P.cellsOf f.type)) = some z := by
  obtain ⟨xs, n, _, _, h1, h2, h3⟩ := DataW.trod_struct ht h
  refine ⟨h1, fun i f hf => ⟨n, xs[i]'?_, ?_⟩⟩
  · rw [h2]; exact (Array.getElem?_eq_some_iff.1 hf).1
  · rw [h3 i f hf, List.getElem?_eq_getElem]
/-- The integers of a slice lie in their type's range. -/
theorem arg_rdIb {H : Type} {enc : TypeId × Value → H} {P : Program} {w : World} {base base' : Nat} {spare : Nat → Bool} {held : Bool} {t e : TypeId} {v : Value} {d : DataW H} {ps : List MemPlace} {r : Reach}
    (ht : P.underlying t = some (.slice e)) (he : P.underlying e = some (.int .i64)) (hc : P.cellsOf e = 1)
    (hv : Value.okWide P w r base' t v) (h : DataW.Trod enc P w base spare held t v d ps) : ∃ K, RdI (ground w) v K ∧ ∀ k ∈ K, -9223372036854775808 ≤ k ∧ k ≤ 9223372036854775807 := by
  obtain ⟨L, sa, cap, rfl, hL⟩ := arg_rdR (R := fun cs (n : Int) => cs = [.int .i64 n] ∧ -9223372036854775808 ≤ n ∧ n ≤ 9223372036854775807) ht hc (by decide) (fun _ _ _ _ h => dec_int he h) hv h
  rcases hL with rfl | ⟨b, o, rfl, hL⟩
  · exact ⟨[], ⟨_, cap, rfl, .inl rfl⟩, by simp⟩
  · refine ⟨L, ⟨_, cap, rfl, .inr ⟨_, rfl, fun h d i hi => ?_⟩⟩, fun k hk => ?_⟩
    · obtain ⟨cs, _, ⟨rfl, _⟩, h3⟩ := hL i L[i] (List.getElem?_eq_getElem hi)
      have := h3 h d 0 (by decide)
      rw [Nat.mul_one, Nat.add_zero] at this
      rw [add_mk, this, List.getD_eq_getElem?_getD, List.getElem?_eq_getElem hi]
      rfl
    · obtain ⟨i, hi, rfl⟩ := List.getElem_of_mem hk
      obtain ⟨cs, _, ⟨_, h2⟩, _⟩ := hL i L[i] (List.getElem?_eq_getElem hi)
      exact h2
end Go.HL
