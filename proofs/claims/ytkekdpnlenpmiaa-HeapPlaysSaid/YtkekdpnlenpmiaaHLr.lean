/- Slices as pieces: append, elements. -/
import Derived.Test.YtkekdpnlenpmiaaHLq
set_option linter.unusedVariables false
set_option linter.unusedSimpArgs false
namespace Go.HL
open Go
section
variable {P : Program} {G : Hp} {α : Type}

theorem append_empty {T e : TypeId} {n bytes : Nat} (hu : P.underlying T = some (.slice e)) (k : ElemOk P e n bytes) {ty : TypeId} {h : Hp} {base base' : Option Addr} {len cap cap' : Nat}
    (hc : len ≤ cap) {K : Value → Hp → Prop} : wpH P G (Builtin.append_ #[T, T] ty #[.slice base len cap, .slice base' 0 cap']) h K = K (.slice base len cap) h := by
  obtain ⟨i, z, hi, rfl, rfl, hz, hzc⟩ := k.get
  have hb' : ∀ (α β : Type) (s : Sem α) (g : α → Sem β), (s >>= g) = s.bind g := fun _ _ _ _ => rfl
  have hl : ∀ K : Nat → Hp → Prop, wpH P G (Builtin.lenOf (.slice base' 0 cap')) h K = K 0 h := fun _ => rfl
  have hf : ∀ K : Array Value → Hp → Prop, wpH P G (Builtin.firstCells i.size 0 (.slice base' 0 cap')) h K = K #[] h := fun _ => by
    cases base' with
    | none => rfl
    | some q => simp only [Builtin.firstCells, Nat.zero_mul]; rfl
  simp only [Builtin.append_, hb', underlying, program, sizeOf, typeInfo, Sem.bind, pure]
  cases base with
  | none => simp only [wpH, wpH_bind, hu, hi, List.getElem?_toArray, List.getElem?_cons_zero, List.getElem?_cons_succ, hl, Nat.add_zero, if_pos hc, Bool.not_false, if_true, Bool.false_eq_true, if_false, hf]
  | some b =>
    simp only [wpH, wpH_bind, hu, hi, List.getElem?_toArray, List.getElem?_cons_zero, List.getElem?_cons_succ, hl, Nat.add_zero, if_pos hc, Bool.not_false, if_true, Bool.false_eq_true, if_false, hf]
    rfl

/-- A slice of one's own in a piece. -/
def Slc (c : Cod α) (e : TypeId) (a : Hp) (v : Value) (L : List α) : Prop := ∃ ob, Own c e a v L ob

theorem Own.le {c : Cod α} {e : TypeId} {h h' : Hp} {v : Value} {L : List α} {ob : Option Nat} (o : Own c e h v L ob) (l : h.le h') : Own c e h' v L ob := by
  cases ob with
  | none => exact o
  | some b => obtain ⟨cap, t, r1, r2, r3⟩ := o; exact ⟨cap, t, r1, l _ _ r2, r3⟩
theorem Slc.le {c : Cod α} {e : TypeId} {h h' : Hp} {v : Value} {L : List α} (o : Slc c e h v L) (l : h.le h') : Slc c e h' v L := o.imp fun _ o => o.le l
theorem Slc.nil {c : Cod α} {e : TypeId} {h : Hp} : Slc c e h (.slice none 0 0) ([] : List α) := ⟨none, rfl, rfl⟩
theorem Slc.len {c : Cod α} {e : TypeId} {h : Hp} {v : Value} {L : List α} (o : Slc c e h v L) (hn : 0 < c.n) : ∃ s cap, v = .slice s L.length cap ∧ L.length ≤ cap := by
  obtain ⟨ob, o⟩ := o
  obtain ⟨s, cap, e, l, _⟩ := o.sees (G := noHp) hn
  exact ⟨s, cap, e, l⟩
theorem Slc.sees {c : Cod α} {e : TypeId} {a h : Hp} {v : Value} {L : List α} (o : Slc c e a v L) (hn : 0 < c.n) (l : a.le h) : Sees c G h v L := by
  obtain ⟨ob, o⟩ := o
  exact (o.le l).sees hn

/-- A row that is there. -/
theorem Sees.row {c : Cod α} {h : Hp} {b cap : Nat} {e : TypeId} {cs : Array Value} {L : List α} (hb : h b = some (.cells cs e (0, 0))) (hl : cs.toList = c.rows L) (hc : L.length ≤ cap) : Sees c G h (.slice (some ⟨b, 0, none⟩) L.length cap) L := by
  refine ⟨_, cap, rfl, hc, .inr ⟨b, 0, rfl, fun i x hx j hj => ?_⟩⟩
  have e1 : cellIn G h ⟨b, 0 + i * c.n + j, none⟩ = cs[i * c.n + j]? := by
    unfold cellIn
    rw [look_own hb]
    simp [objCell]
  rw [e1, ← Array.getElem?_toList, hl]
  have h3 := c.rows_get (t := []) hx hj
  rw [List.append_nil] at h3
  exact h3

/-- What is seen can be handed to append. -/
theorem Sees.src {c : Cod α} {h : Hp} {v : Value} {L : List α} (s : Sees c G h v L) (hn : 0 < c.n) (hL : L ≠ []) : Src G h c.n v L.length (c.rows L) := by
  obtain ⟨sl, cap, rfl, h1, h2⟩ := s
  refine ⟨c.rows_length L, ?_⟩
  · rcases h2 with h2 | ⟨b, o, rfl, hc⟩
    · exact (hL h2).elim
    · refine .inr ⟨b, o, cap, rfl, fun j hj => ?_⟩
      rw [c.rows_length] at hj
      have hi : j / c.n < L.length := Nat.div_lt_of_lt_mul (by rw [Nat.mul_comm]; exact hj)
      have hm : j % c.n < c.n := Nat.mod_lt _ hn
      have e1 : j = (j / c.n) * c.n + j % c.n := by rw [Nat.mul_comm]; exact (Nat.div_add_mod j c.n).symm
      have := hc (j / c.n) _ (List.getElem?_eq_getElem hi) (j % c.n) hm
      rw [Nat.add_assoc, ← e1] at this
      rw [this]
      conv => rhs; rw [e1]
      have h3 := c.rows_get (t := []) (List.getElem?_eq_getElem hi) hm
      rw [List.append_nil] at h3
      exact h3.symm

theorem append_piece (c : Cod α) (hn : 0 < c.n) {T e : TypeId} {bytes : Nat} (hu : P.underlying T = some (.slice e)) (k : ElemOk P e c.n bytes) (hb0 : 0 < bytes) (hb1 : bytes ≤ 1000000) {ty : TypeId} {h a : Hp} {R : List Hp} {v x : Value} {L M : List α}
    (s : Sep (a :: R) h) (d : Dis G h) (o : Slc c e a v L) (src : Sees c G h x M) (hlen : L.length + M.length ≤ 1000000) {K : Value → Hp → Prop}
    (H : ∀ v' a' h', Slc c e a' v' (L ++ M) → Sep (a' :: R) h' → Dis G h' → K v' h') : wpH P G (Builtin.append_ #[T, T] ty #[v, x]) h K := by
  by_cases hM : M = []
  · subst hM
    obtain ⟨b, cap, rfl, hc⟩ := o.len hn
    obtain ⟨b', cap', rfl, _⟩ := src
    rw [show ([] : List α).length = 0 from rfl, append_empty hu k hc]
    exact H _ a h (by rw [List.append_nil]; exact o) s d
  · obtain ⟨ob, ow⟩ := o
    refine append_own c hu k hb0 (ow.le s.hd) (src.src hn hM) hM ?_ (by omega) fun b' cap' ts hb hl => ?_
    · refine Nat.le_trans (Nat.mul_le_mul (show 2 * (L.length + M.length) + 192 ≤ 2000192 by omega) hb1) (by decide)
    · rcases hb with rfl | ⟨hb, gb⟩
      · obtain ⟨cap, t, rfl, h2, h3⟩ := ow
        refine H _ _ _ ⟨some b', cap', ts, by rw [List.length_append], set_self, hl⟩ (s.put h2) (d.set ?_)
        exact d _ _ (s.hd _ _ h2)
      · exact H _ _ _ ⟨some b', cap', ts, by rw [List.length_append], set_self, hl⟩ (s.grow hb) (d.set gb)

/-- The first k of what is seen. -/
theorem sees_to {c : Cod α} {T e : TypeId} (hu : P.underlying T = some (.slice e)) (hs : (P.info? e).map (·.size) = some c.n) {h : Hp} {v : Value} {L : List α} (s : Sees c G h v L) {j : Int} (h1 : 0 ≤ j) (h2 : j ≤ L.length) {K : Value → Hp → Prop}
    (H : ∀ v', Sees c G h v' (L.take j.toNat) → K v' h) : wpH P G (Instr.sliceAt T v none (some (.int .i64 j)) none) h K := by
  obtain ⟨a, cap, rfl, hc, st⟩ := s.take (k := j.toNat) (by omega)
  rw [slice_to hu hs h1 (by omega)]
  exact H _ st
theorem sees_top {c : Cod α} {T e : TypeId} (hu : P.underlying T = some (.slice e)) (hs : (P.info? e).map (·.size) = some c.n) {h h0 : Hp} {v : Value} {L : List α} (s : Sees c G h v L) {j : Int} (h1 : 0 ≤ j) (h2 : j ≤ L.length) {K : Value → Prop}
    (H : ∀ v', Sees c G h v' (L.take j.toNat) → K v') : pw P G h0 (Instr.sliceAt T v none (some (.int .i64 j)) none) K := by
  obtain ⟨a, cap, rfl, hc, st⟩ := s.take (k := j.toNat) (by omega)
  rw [slice_top hu hs h1 (by omega)]
  exact H _ st
theorem sees_topn {c : Cod α} {T e : TypeId} (hu : P.underlying T = some (.slice e)) (hs : (P.info? e).map (·.size) = some c.n) {h h0 G0 : Hp} {v : Value} {L : List α} (s : Sees c G h v L) {j : Int} (h1 : 0 ≤ j) (h2 : j ≤ L.length) {K : Value → Prop}
    (H : ∀ v', Sees c G h v' (L.take j.toNat) → K v') : pw P G0 h0 (Instr.sliceAt T v none (some (.int .i64 j)) none) K := by
  obtain ⟨a, cap, rfl, hc, st⟩ := s.take (k := j.toNat) (by omega)
  rw [slice_top hu hs h1 (by omega)]
  exact H _ st

theorem Sees.drop {c : Cod α} {h : Hp} {a : Addr} {cap : Nat} {L : List α} (s : Sees c G h (.slice (some a) L.length cap) L) {k : Nat} (hk : k ≤ L.length) :
    Sees c G h (.slice (some (if cap = k then a else a.add (k * c.n))) (L.length - k) (cap - k)) (L.drop k) := by
  obtain ⟨s, cap', e, h1, h2⟩ := s
  cases e
  refine ⟨_, _, by rw [List.length_drop], by rw [List.length_drop]; omega, ?_⟩
  by_cases hkl : k = L.length
  · left; rw [hkl]; simp
  rcases h2 with rfl | ⟨b, o, e, hc⟩
  · left; simp
  · cases e
    right
    rw [if_neg (by omega)]
    refine ⟨b, o + k * c.n, by simp [Addr.add], fun i x hx j hj => ?_⟩
    rw [List.getElem?_drop] at hx
    have := hc _ x hx j hj
    rw [Nat.add_mul, ← Nat.add_assoc] at this
    exact this

theorem sees_fromp {c : Cod α} {T e : TypeId} (hu : P.underlying T = some (.slice e)) (hs : (P.info? e).map (·.size) = some c.n) {h h0 G0 : Hp} {v : Value} {L : List α} (s : Sees c G h v L) (hL : L ≠ []) {j : Int} (h1 : 0 ≤ j) (h2 : j ≤ L.length) {K : Value → Prop}
    (H : ∀ v', Sees c G h v' (L.drop j.toNat) → K v') : pw P G0 h0 (Instr.sliceAt T v (some (.int .i64 j)) none none) K := by
  obtain ⟨sa, cap, rfl, hc, h3⟩ := id s
  rcases h3 with h3 | ⟨b, o, rfl, _⟩
  · exact (hL h3).elim
  · rw [slice_fromp hu hs h1 h2 hc]
    exact H _ (s.drop (by omega))
theorem sees_from {c : Cod α} {T e : TypeId} (hu : P.underlying T = some (.slice e)) (hs : (P.info? e).map (·.size) = some c.n) {h : Hp} {v : Value} {L : List α} (s : Sees c G h v L) (hL : L ≠ []) {j : Int} (h1 : 0 ≤ j) (h2 : j ≤ L.length) {K : Value → Hp → Prop}
    (H : ∀ v', Sees c G h v' (L.drop j.toNat) → K v' h) : wpH P G (Instr.sliceAt T v (some (.int .i64 j)) none none) h K := by
  obtain ⟨sa, cap, rfl, hc, h3⟩ := id s
  rcases h3 with h3 | ⟨b, o, rfl, _⟩
  · exact (hL h3).elim
  · rw [slice_from hu hs h1 h2 hc]
    exact H _ (s.drop (by omega))
theorem Sep.none {L : List Hp} {h : Hp} (s : Sep L h) : Sep (noHp :: L) h := ⟨fun a ha => by
  rcases List.mem_cons.1 ha with rfl | ha
  · intro _ _ e; cases e
  · exact s.1 a ha, List.pairwise_cons.2 ⟨fun _ _ _ => .inl rfl, s.2⟩⟩
theorem pick_perm : ∀ {L : List Hp} {i : Nat} {a : Hp}, L[i]? = some a → (a :: L.eraseIdx i).Perm L
  | [], i, a, h => by simp at h
  | x :: L, 0, a, h => by
    simp only [List.getElem?_cons_zero, Option.some.injEq] at h
    subst h
    exact .refl _
  | x :: L, i + 1, a, h => by
    simp only [List.getElem?_cons_succ] at h
    exact (List.Perm.swap x a _).trans ((pick_perm h).cons x)
/-- The i-th piece ahead of the others. -/
theorem Sep.pick {L L' : List Hp} {h a : Hp} (s : Sep L h) (i : Nat) (ha : L[i]? = some a) (hL : L.eraseIdx i = L') : Sep (a :: L') h := by
  subst hL
  have hm : a ∈ L := List.mem_of_getElem? ha
  have p := pick_perm ha
  exact ⟨fun x hx => s.1 x (p.mem_iff.1 hx), (p.pairwise_iff Apart.symm).2 s.2⟩
/-- What lies in a piece. -/
theorem Sep.at {L : List Hp} {h a : Hp} (s : Sep L h) (i : Nat) (ha : L[i]? = some a) {x : Nat} {o : Obj} (e : a x = some o) : h x = some o := s.1 a (List.mem_of_getElem? ha) _ _ e
theorem Sep.in {L : List Hp} {h a : Hp} (s : Sep L h) (i : Nat) (ha : L[i]? = some a) : a.le h := s.1 a (List.mem_of_getElem? ha)
/-- A piece into pieces. -/
theorem Sep.split {a b h : Hp} {L R : List Hp} (s : Sep (a :: b :: R) h) (t : Sep L b) : Sep (a :: (L ++ R)) h := by
  have s2 := s.2
  simp only [List.pairwise_cons, List.mem_cons] at s2
  have sub : ∀ {x y z : Hp}, x.le y → Apart z y → Apart z x := fun l ap w => (ap w).imp id fun e => l.none e
  refine ⟨fun c hc => ?_, List.pairwise_cons.2 ⟨fun c hc => ?_, List.pairwise_append.2 ⟨t.2, s2.2.2, fun x hx y hy => ?_⟩⟩⟩
  · rcases List.mem_cons.1 hc with rfl | hc
    · exact s.hd
    · rcases List.mem_append.1 hc with hc | hc
      · exact (t.1 c hc).trans s.drop.hd
      · exact s.1 c (.tail _ (.tail _ hc))
  · rcases List.mem_append.1 hc with hc | hc
    · exact sub (t.1 c hc) (s2.1 b (.inl rfl))
    · exact s2.1 c (.inr hc)
  · exact (sub (t.1 x hx) (s2.2.1 y hy).symm).symm
/-- A piece that stays: what is seen in it is seen still. -/
theorem Slc.see {c : Cod α} {e : TypeId} {a h : Hp} {v : Value} {L : List α} (o : Slc c e a v L) (hn : 0 < c.n) (l : a.le h) : Sees c G h v L := o.sees hn l
end
end Go.HL
