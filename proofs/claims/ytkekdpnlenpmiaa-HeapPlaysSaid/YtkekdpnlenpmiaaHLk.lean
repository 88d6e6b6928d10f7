/- Slices that are owned, and append. -/
import Derived.Test.YtkekdpnlenpmiaaHLj
set_option linter.unusedVariables false
set_option linter.unusedSimpArgs false
namespace Go.HL
open Go

/-- An element's type: its cells, its bytes. -/
structure ElemOk (P : Program) (e : TypeId) (n bytes : Nat) : Prop where
  size : (P.info? e).map (·.size) = some n
  bytes : (P.info? e).map (·.bytes) = some bytes
  zero : ((P.info? e).bind (·.zero)).map (·.cells.size) = some n

section
variable {P : Program} {G : Hp} {α : Type}

theorem loadCells_from {b off : Nat} {h : Hp} : ∀ (vs : List Value) (i : Nat) (acc : Array Value) {K : Array Value → Hp → Prop}, (∀ j, j < vs.length → cellIn G h ⟨b, off + (i + j), none⟩ = vs[j]?) →
    wpH P G (loadCellsFrom ⟨b, off, none⟩ i vs.length acc) h K = K (acc ++ vs.toArray) h
  | [], i, acc, K, _ => by simp only [List.length_nil, loadCellsFrom]; simp [wpH, pure]
  | v :: vs, i, acc, K, hc => by
    have h0 := hc 0 (by simp)
    simp only [Nat.add_zero, List.getElem?_cons_zero] at h0
    have e0 : wpH P G (loadCellsFrom ⟨b, off, none⟩ i (vs.length + 1) acc) h K = (∃ x, cellIn G h ((⟨b, off, none⟩ : Addr).add i) = some x ∧ wpH P G (loadCellsFrom ⟨b, off, none⟩ (i + 1) vs.length (acc.push x)) h K) := rfl
    rw [List.length_cons, e0, add_mk, h0]
    simp only [Option.some.injEq, exists_eq_left']
    rw [loadCells_from vs (i + 1) (acc.push v) (fun j hj => by
      have := hc (j + 1) (by simp; omega)
      rw [show off + (i + 1 + j) = off + (i + (j + 1)) by omega, this, List.getElem?_cons_succ])]
    congr 1
    simp

theorem loadCells_eq {b off : Nat} {h : Hp} {vs : List Value} {K : Array Value → Hp → Prop} (hc : ∀ j, j < vs.length → cellIn G h ⟨b, off + j, none⟩ = vs[j]?) :
    wpH P G (loadCells ⟨b, off, none⟩ vs.length) h K = K vs.toArray h := by
  unfold loadCells
  rw [loadCells_from vs 0 #[] (by simpa using hc)]
  simp

theorem growBy_le (need : Nat) : ∀ (r c : Nat), c ≤ 2 * need + 192 → Builtin.growBy need r c ≤ 2 * need + 192
  | 0, _, h => h
  | r + 1, c, h => by
    unfold Builtin.growBy
    split
    · exact h
    · exact growBy_le need r _ (by omega)

theorem next_le {need cap : Nat} (h : cap < need) : Builtin.nextslicecap need cap ≤ 2 * need + 192 := by
  unfold Builtin.nextslicecap
  split
  · omega
  · split
    · omega
    · exact growBy_le need 4 cap (by omega)

/-- A slice of m elements (size cells each) that reads as these cells. -/
def Src (G h : Hp) (size : Nat) (x : Value) (m : Nat) (vs : List Value) : Prop :=
  vs.length = m * size ∧ ((∃ c, x = .slice none m c ∧ vs = []) ∨ ∃ q off c, x = .slice (some ⟨q, off, none⟩) m c ∧ ∀ j, j < vs.length → cellIn G h ⟨q, off + j, none⟩ = vs[j]?)

theorem firstCells_src {h : Hp} {size m : Nat} {x : Value} {vs : List Value} (s : Src G h size x m vs) {K : Array Value → Hp → Prop} : wpH P G (Builtin.firstCells size m x) h K = K vs.toArray h := by
  obtain ⟨hl, ⟨c, rfl, rfl⟩ | ⟨q, off, c, rfl, hc⟩⟩ := s
  · rfl
  · simp only [Builtin.firstCells]
    rw [← hl]
    exact loadCells_eq hc

theorem lenOf_src {h h' : Hp} {size m : Nat} {x : Value} {vs : List Value} (s : Src G h size x m vs) {K : Nat → Hp → Prop} : wpH P G (Builtin.lenOf x) h' K = K m h' := by
  obtain ⟨hl, ⟨c, rfl, rfl⟩ | ⟨q, off, c, rfl, hc⟩⟩ := s <;> rfl

theorem ElemOk.get {e n bytes : Nat} (k : ElemOk P e n bytes) : ∃ i z, P.info? e = some i ∧ i.size = n ∧ i.bytes = bytes ∧ i.zero = some z ∧ z.cells.size = n := by
  obtain ⟨h1, h2, h3⟩ := k
  cases hi : P.info? e with
  | none => rw [hi] at h1; cases h1
  | some i =>
    rw [hi] at h1 h2 h3
    simp at h1 h2 h3
    obtain ⟨z, hz, hz2⟩ := h3
    exact ⟨i, z, rfl, h1, h2, hz, hz2⟩

theorem append_fit {T e : TypeId} {n bytes : Nat} (hu : P.underlying T = some (.slice e)) (k : ElemOk P e n bytes) {ty : TypeId} {h : Hp} {b len cap m : Nat} {x : Value} {l vs : List Value} {e' : TypeId}
    (hb : h b = some (.cells l.toArray e' (0, 0))) (s : Src G h n x m vs) (h1 : ∀ v ∈ vs, oneCell v = true) (hc : len + m ≤ cap) (hl : (len + m) * n ≤ l.length) {K : Value → Hp → Prop} :
    wpH P G (Builtin.append_ #[T, T] ty #[.slice (some ⟨b, 0, none⟩) len cap, x]) h K = K (.slice (some ⟨b, 0, none⟩) (len + m) cap) (h.set b (.cells (putL l (len * n) vs).toArray e' (0, 0))) := by
  obtain ⟨i, z, hi, rfl, rfl, hz, hzc⟩ := k.get
  have e1 := s.1
  have hb' : ∀ (α β : Type) (s : Sem α) (g : α → Sem β), (s >>= g) = s.bind g := fun _ _ _ _ => rfl
  simp only [Builtin.append_, hb', underlying, program, sizeOf, typeInfo, Sem.bind, pure]
  simp only [wpH, wpH_bind, hu, hi, List.getElem?_toArray, List.getElem?_cons_zero, List.getElem?_cons_succ, lenOf_src s, if_pos hc, Bool.not_false, if_true, Bool.false_eq_true, if_false, firstCells_src s, add_mk, Nat.zero_add]
  rw [storeCells_eq (i := len * i.size) (k := 0) vs hb (by rw [e1]; rw [Nat.add_mul] at hl; omega) h1]
  simp

theorem askRoom_eq {b : Nat} {h : Hp} {K : Unit → Hp → Prop} : wpH P G (askRoom b) h K = K () h := by
  unfold askRoom
  split <;> rfl

theorem append_grow {T e : TypeId} {n bytes : Nat} (hu : P.underlying T = some (.slice e)) (k : ElemOk P e n bytes) (hb0 : 0 < bytes) {ty : TypeId} {h : Hp} {base : Option Addr} {len cap m : Nat} {x : Value} {os vs : List Value}
    (s0 : Src G h n (.slice base len cap) len os) (s : Src G h n x m vs) (hc : cap < len + m) (hmax : (2 * (len + m) + 192) * bytes ≤ 281474976710656) (hmax2 : len + m ≤ 1099511627776) {K : Value → Hp → Prop}
    (H : ∀ r cap' ts, h r = none → G r = none → len + m ≤ cap' → ts.length = (cap' - (len + m)) * n → K (.slice (some ⟨r, 0, none⟩) (len + m) cap') (h.set r (.cells (os ++ vs ++ ts).toArray e (0, 0)))) :
    wpH P G (Builtin.append_ #[T, T] ty #[.slice base len cap, x]) h K := by
  obtain ⟨i, z, hi, rfl, rfl, hz, hzc⟩ := k.get
  have hb' : ∀ (α β : Type) (s : Sem α) (g : α → Sem β), (s >>= g) = s.bind g := fun _ _ _ _ => rfl
  have c1 : ¬ len + m ≤ cap := by omega
  have c2 : ¬ (((len + m : Nat) : Int) > IntKind.i64.max ∧ (False ∨ i.bytes = 0)) := by
    rintro ⟨_, h2 | h2⟩
    · cases h2
    · omega
  have c3 : ¬ Builtin.nextslicecap (len + m) cap * i.bytes > 2 ^ 48 := by
    have := Nat.mul_le_mul_right i.bytes (next_le hc)
    omega
  simp only [Builtin.append_, hb', underlying, program, sizeOf, typeInfo, Sem.bind, pure, zeroValue]
  simp only [wpH, wpH_bind, hu, hi, List.getElem?_toArray, List.getElem?_cons_zero, List.getElem?_cons_succ, lenOf_src s, if_neg c1, Bool.not_false, Bool.false_eq_true, if_true, if_false]
  rw [if_neg c2]
  simp only [wpH, wpH_bind, hi]
  rw [if_neg c3]
  have cf : Question.forced (.appendCap (len + m) cap e) = false := rfl
  simp only [wpH, wpH_bind, choose, cf, askRoom_eq, hi, hz, firstCells_src s, firstCells_src s0, newRow, newObj, bind, pure, Bool.false_eq_true, if_false, Question.cut]
  intro t r hr gr
  have := H r (len + m + t % (2 ^ 63 - (len + m))) (Builtin.zeroCells z.cells (len + m + t % (2 ^ 63 - (len + m)) - (len + m))).toList hr gr (by omega) (by simp [Builtin.zeroCells, hzc])
  have e1 : ∀ Z : Array Value, os.toArray ++ vs.toArray ++ Z = (os ++ vs ++ Z.toList).toArray := fun Z => by apply Array.ext'; simp
  rw [e1]
  exact this

/-- A slice of one's own, from its block's begin on; ob: its block (none: nil). -/
def Own (c : Cod α) (e : TypeId) (h : Hp) (v : Value) (L : List α) : Option Nat → Prop
  | none => v = .slice none 0 0 ∧ L = []
  | some b => ∃ cap t, v = .slice (some ⟨b, 0, none⟩) L.length cap ∧ h b = some (.cells (c.rows L ++ t).toArray e (0, 0)) ∧ (c.rows L ++ t).length = cap * c.n

theorem Own.src {c : Cod α} {e : TypeId} {h : Hp} {v : Value} {L : List α} {ob : Option Nat} (o : Own c e h v L ob) : Src G h c.n v L.length (c.rows L) := by
  refine ⟨c.rows_length L, ?_⟩
  cases ob with
  | none => obtain ⟨rfl, rfl⟩ := o; exact .inl ⟨0, rfl, rfl⟩
  | some b =>
    obtain ⟨cap, t, rfl, hb, _⟩ := o
    refine .inr ⟨b, 0, cap, rfl, fun j hj => ?_⟩
    rw [cell_of (look_own hb), Nat.zero_add, List.getElem?_append_left hj]

/-- Behind an append: the block is the old one, or a new one; all else is as it was. -/
theorem append_own (c : Cod α) {T e : TypeId} {bytes : Nat} (hu : P.underlying T = some (.slice e)) (k : ElemOk P e c.n bytes) (hb0 : 0 < bytes) {ty : TypeId} {h : Hp} {v x : Value} {L M : List α} {ob : Option Nat}
    (o : Own c e h v L ob) (s : Src G h c.n x M.length (c.rows M)) (hM : M ≠ []) (hmax : (2 * (L.length + M.length) + 192) * bytes ≤ 281474976710656) (hmax2 : L.length + M.length ≤ 1099511627776) {K : Value → Hp → Prop}
    (H : ∀ b' cap' ts, (ob = some b' ∨ (h b' = none ∧ G b' = none)) → (c.rows (L ++ M) ++ ts).length = cap' * c.n → K (.slice (some ⟨b', 0, none⟩) (L.length + M.length) cap') (h.set b' (.cells (c.rows (L ++ M) ++ ts).toArray e (0, 0)))) :
    wpH P G (Builtin.append_ #[T, T] ty #[v, x]) h K := by
  have hMl : 0 < M.length := List.length_pos_iff.2 hM
  have grow : ∀ base cap, v = .slice base L.length cap → cap < L.length + M.length → wpH P G (Builtin.append_ #[T, T] ty #[v, x]) h K := by
    rintro base cap rfl hc
    refine append_grow hu k hb0 (Own.src o) s hc hmax hmax2 fun r cap' ts hr gr hle hts => ?_
    have := H r cap' ts (.inr ⟨hr, gr⟩) (by
      rw [List.length_append, c.rows_length, hts, List.length_append, ← Nat.add_mul]
      congr 1; omega)
    rwa [c.rows_append] at this
  cases ob with
  | none =>
    obtain ⟨rfl, rfl⟩ := o
    exact grow none 0 rfl (by simpa using hMl)
  | some b =>
    obtain ⟨cap, t, rfl, hb, hlen⟩ := o
    by_cases hc : L.length + M.length ≤ cap
    · have hle : (L.length + M.length) * c.n ≤ (c.rows L ++ t).length := by rw [hlen]; exact Nat.mul_le_mul_right _ hc
      rw [append_fit hu k hb s (c.rows_one M) hc hle]
      have hput : putL (c.rows L ++ t) (L.length * c.n) (c.rows M) = c.rows (L ++ M) ++ t.drop (M.length * c.n) := by
        rw [putL_eq _ _ _ (by rw [c.rows_length, ← Nat.add_mul]; exact hle), c.rows_length]
        rw [List.take_append_of_le_length (by rw [c.rows_length]; omega), List.take_of_length_le (by rw [c.rows_length]; omega)]
        rw [List.drop_append, List.drop_of_length_le (by rw [c.rows_length]; omega), c.rows_length, c.rows_append]
        simp
      rw [hput]
      refine H b cap _ (.inl rfl) ?_
      rw [← hput, putL_length]
      exact hlen
    · exact grow _ cap rfl (by omega)
end
end Go.HL
set_option linter.unusedVariables false
set_option linter.unusedSimpArgs false
namespace Go.HL
open Go
section
variable {P : Program} {G : Hp}

theorem slice_to {T e : TypeId} {n : Nat} (hu : P.underlying T = some (.slice e)) (hs : (P.info? e).map (·.size) = some n) {a : Option Addr} {len cap : Nat} {j : Int} {h : Hp} {K : Value → Hp → Prop} (h1 : 0 ≤ j) (h2 : j ≤ cap) :
    wpH P G (Instr.sliceAt T (.slice a len cap) none (some (.int .i64 j)) none) h K = K (.slice a j.toNat cap) h := by
  cases hi : P.info? e with
  | none => rw [hi] at hs; cases hs
  | some x =>
    simp [Instr.sliceAt, Instr.slice, Instr.sliceBounds, Instr.sliceBound, asIntOf, underlying, program, bind, Sem.bind, pure, wpH, wpH_bind, hu, sizeOf, typeInfo, hi, h1, h2]
    cases a <;> simp [Addr.add]
theorem slice_top {T e : TypeId} {n : Nat} (hu : P.underlying T = some (.slice e)) (hs : (P.info? e).map (·.size) = some n) {a : Option Addr} {len cap : Nat} {j : Int} {h0 : Hp} {K : Value → Prop} (h1 : 0 ≤ j) (h2 : j ≤ cap) :
    pw P G h0 (Instr.sliceAt T (.slice a len cap) none (some (.int .i64 j)) none) K = K (.slice a j.toNat cap) := by
  cases hi : P.info? e with
  | none => rw [hi] at hs; cases hs
  | some x =>
    simp [Instr.sliceAt, Instr.slice, Instr.sliceBounds, Instr.sliceBound, asIntOf, underlying, program, bind, Sem.bind, pure, pw, pw_bind, hu, sizeOf, typeInfo, hi, h1, h2]
    cases a <;> simp [Addr.add]
theorem slice_from {T e : TypeId} {n : Nat} (hu : P.underlying T = some (.slice e)) (hs : (P.info? e).map (·.size) = some n) {a : Addr} {len cap : Nat} {i : Int} {h : Hp} {K : Value → Hp → Prop} (h1 : 0 ≤ i) (h2 : i ≤ len) (h3 : len ≤ cap) :
    wpH P G (Instr.sliceAt T (.slice (some a) len cap) (some (.int .i64 i)) none none) h K = K (.slice (some (if cap = i.toNat then a else a.add (i.toNat * n))) (len - i.toNat) (cap - i.toNat)) h := by
  cases hi : P.info? e with
  | none => rw [hi] at hs; cases hs
  | some x =>
    rw [hi] at hs; simp at hs; subst hs
    simp [Instr.sliceAt, Instr.slice, Instr.sliceBounds, Instr.sliceBound, asIntOf, underlying, program, bind, Sem.bind, pure, wpH, wpH_bind, hu, sizeOf, typeInfo, hi, h1, h2]
    split <;> rfl
theorem slice_fromp {T e : TypeId} {n : Nat} (hu : P.underlying T = some (.slice e)) (hs : (P.info? e).map (·.size) = some n) {a : Addr} {len cap : Nat} {i : Int} {h0 : Hp} {K : Value → Prop} (h1 : 0 ≤ i) (h2 : i ≤ len) (h3 : len ≤ cap) :
    pw P G h0 (Instr.sliceAt T (.slice (some a) len cap) (some (.int .i64 i)) none none) K = K (.slice (some (if cap = i.toNat then a else a.add (i.toNat * n))) (len - i.toNat) (cap - i.toNat)) := by
  cases hi : P.info? e with
  | none => rw [hi] at hs; cases hs
  | some x =>
    rw [hi] at hs; simp at hs; subst hs
    simp [Instr.sliceAt, Instr.slice, Instr.sliceBounds, Instr.sliceBound, asIntOf, underlying, program, bind, Sem.bind, pure, pw, pw_bind, hu, sizeOf, typeInfo, hi, h1, h2]
    split <;> rfl
end
end Go.HL
