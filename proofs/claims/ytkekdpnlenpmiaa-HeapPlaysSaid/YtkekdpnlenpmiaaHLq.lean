/- Pieces of what is owned: a call that touches one piece leaves the others. -/
import Derived.Test.YtkekdpnlenpmiaaHLp
set_option linter.unusedVariables false
set_option linter.unusedSimpArgs false
namespace Go.HL
open Go
section
variable {P : Program} {G : Hp}

def Apart (a b : Hp) : Prop := ∀ x, a x = none ∨ b x = none

/-- The ground under a piece: all else that is owned is only looked at. -/
def under (G h a : Hp) : Hp := fun x => if a x = none then look G h x else none

theorem Hp.le.none {a h : Hp} (l : a.le h) {x : Nat} (e : h x = none) : a x = none := by
  cases q : a x with
  | none => rfl
  | some o => rw [l _ _ q] at e; cases e

theorem under_in {h a : Hp} (l : a.le h) {w : World} (i : In G h w) : In (under G h a) a w := by
  refine ⟨fun b o e => i.sub b o (l _ _ e), fun b o e => ?_⟩
  unfold under at e
  split at e
  · rename_i q; exact ⟨look_in i e, q⟩
  · cases e

theorem under_look {h a : Hp} (l : a.le h) (x : Nat) : look (under G h a) a x = look G h x := by
  unfold look under
  cases q : a x with
  | none => simp [look]
  | some o => simp [l _ _ q]

theorem under_cell {h a : Hp} (l : a.le h) (x : Addr) : cellIn (under G h a) a x = cellIn G h x := by
  unfold cellIn
  rw [under_look l]

theorem HCalls.assume {f : FuncId} {args : Array Value} {h : Hp} {R : Value → Hp → Prop} (c : Dis G h → HCalls P G f args h R) : HCalls P G f args h R :=
  fun w i => c (fun b o e => by
    cases q : G b with
    | none => rfl
    | some p => have := (i.gnd b p q).2; rw [e] at this; cases this) w i

/-- The ground is never owned. -/
theorem HCalls.dis {f : FuncId} {args : Array Value} {h : Hp} {R : Value → Hp → Prop} (c : HCalls P G f args h R) : HCalls P G f args h (fun v h' => R v h' ∧ Dis G h') :=
  fun w i => (c w i).mono fun _ _ ⟨v, h', e1, m, r⟩ => ⟨v, h', e1, m, r, fun b o e => by
    cases q : G b with
    | none => rfl
    | some p => have := ((m.keeps i).gnd b p q).2; rw [e] at this; cases this⟩

/-- A piece turned, all else as it was. -/
def over (h a a' : Hp) : Hp := fun x => match a' x with | some o => some o | none => if a x = none then h x else none

theorem HCalls.on {f : FuncId} {args : Array Value} {h a : Hp} {R : Value → Hp → Prop} (l : a.le h) (c : HCalls P (under G h a) f args a R) :
    HCalls P G f args h (fun v h' => ∃ a', R v a' ∧ a'.le h' ∧ Dis G h' ∧ ∀ b, b.le h → Apart a b → b.le h' ∧ Apart a' b) := by
  intro w i
  refine (c w (under_in l i)).mono ?_
  rintro e w' ⟨v, a', e1, m, r⟩
  have mv : Mv h w (over h a a') w' := by
    refine ⟨m.size, fun b o q => ?_, fun b o q1 q2 => ?_, m.os, m.output, m.tape⟩
    · unfold over at q
      split at q
      · rename_i p hp; rw [m.sub _ _ hp]; exact q
      · split at q
        · rename_i hn; exact (m.frame b o (i.sub _ _ q) hn).1
        · cases q
    · have := m.frame b o q1 (l.none q2)
      refine ⟨this.1, ?_⟩
      unfold over
      rw [this.2]
      simp [q2]
  have i' := mv.keeps i
  refine ⟨v, _, e1, mv, a', r, fun x o q => by unfold over; rw [q], fun b o q => ?_, fun b lb ap => ?_⟩
  · cases q2 : G b with
    | none => rfl
    | some p =>
      have z := (i'.gnd b p q2).2
      rw [z] at q; cases q
  · have key : ∀ x o, b x = some o → a' x = none ∧ a x = none := by
      intro x o q
      have ha : a x = none := by
        rcases ap x with z | z
        · exact z
        · rw [q] at z; cases z
      exact ⟨(m.frame x o (i.sub _ _ (lb _ _ q)) ha).2, ha⟩
    refine ⟨fun x o q => ?_, fun x => ?_⟩
    · obtain ⟨k1, k2⟩ := key x o q
      unfold over
      rw [k1]
      simp only [k2, if_true]
      exact lb _ _ q
    · cases q : b x with
      | none => exact .inr rfl
      | some o => exact .inl (key x o q).1

theorem cell_up {h h' : Hp} (l : h.le h') (d : Dis G h') {a : Addr} {v : Value} (e : cellIn G h a = some v) : cellIn G h' a = some v := by
  unfold cellIn look at *
  cases hb : h a.block with
  | none =>
    rw [hb] at e
    cases hb' : h' a.block with
    | none => exact e
    | some o => rw [d _ _ hb'] at e; simp at e
  | some o => rw [l _ _ hb]; rw [hb] at e; exact e
theorem Sees.up {α : Type} {c : Cod α} {h h' : Hp} {v : Value} {L : List α} (s : Sees c G h v L) (l : h.le h') (d : Dis G h') : Sees c G h' v L := s.keep fun _ _ => cell_up l d

/-- Pieces that lie apart. -/
def Sep (L : List Hp) (h : Hp) : Prop := (∀ a ∈ L, a.le h) ∧ L.Pairwise Apart

theorem Apart.symm {a b : Hp} (h : Apart a b) : Apart b a := fun x => (h x).symm

theorem Sep.hd {a : Hp} {L : List Hp} {h : Hp} (s : Sep (a :: L) h) : a.le h := s.1 a (.head _)

theorem Sep.on {f : FuncId} {args : Array Value} {h a : Hp} {L : List Hp} {R : Value → Hp → Prop} (s : Sep (a :: L) h) (c : HCalls P (under G h a) f args a R) :
    HCalls P G f args h (fun v h' => ∃ a', R v a' ∧ Sep (a' :: L) h' ∧ Dis G h') := by
  refine (HCalls.on s.hd c).mono ?_
  rintro v h' ⟨a', r, l, d, k⟩
  have ap := (List.pairwise_cons.1 s.2)
  refine ⟨a', r, ⟨fun b hb => ?_, List.pairwise_cons.2 ⟨fun b hb => (k b (s.1 b (.tail _ hb)) (ap.1 b hb)).2, ap.2⟩⟩, d⟩
  rcases List.mem_cons.1 hb with rfl | hb
  · exact l
  · exact (k b (s.1 b (.tail _ hb)) (ap.1 b hb)).1

theorem Sep.swap {a b : Hp} {L : List Hp} {h : Hp} (s : Sep (a :: b :: L) h) : Sep (b :: a :: L) h := by
  obtain ⟨s1, s2⟩ := s
  refine ⟨fun x hx => s1 x (by simp only [List.mem_cons] at hx ⊢; rcases hx with h | h | h <;> simp [h]), ?_⟩
  simp only [List.pairwise_cons, List.mem_cons] at s2 ⊢
  exact ⟨fun x hx => by rcases hx with rfl | hx; exact (s2.1 _ (.inl rfl)).symm; exact s2.2.1 x hx, fun x hx => s2.1 x (.inr hx), s2.2.2⟩
theorem Sep.rot {a b c : Hp} {L : List Hp} {h : Hp} (s : Sep (a :: b :: c :: L) h) : Sep (c :: a :: b :: L) h := by
  have s1 := s.2
  refine ⟨fun x hx => s.1 x (by simp only [List.mem_cons] at hx ⊢; rcases hx with h | h | h | h <;> simp [h]), ?_⟩
  simp only [List.pairwise_cons, List.mem_cons] at s1 ⊢
  refine ⟨fun x hx => ?_, fun x hx => ?_, fun x hx => ?_, s1.2.2.2⟩
  · rcases hx with rfl | rfl | hx
    · exact (s1.1 _ (.inr (.inl rfl))).symm
    · exact (s1.2.1 _ (.inl rfl)).symm
    · exact s1.2.2.1 x hx
  · rcases hx with rfl | hx
    · exact s1.1 _ (.inl rfl)
    · exact s1.1 _ (.inr (.inr hx))
  · exact s1.2.1 x (.inr hx)
theorem Sep.drop {a : Hp} {L : List Hp} {h : Hp} (s : Sep (a :: L) h) : Sep L h := ⟨fun x hx => s.1 x (.tail _ hx), (List.pairwise_cons.1 s.2).2⟩
theorem Sep.cut {a b : Hp} {L : List Hp} {h : Hp} (s : Sep (a :: L) h) (l : b.le a) : Sep (b :: L) h := by
  have ap := List.pairwise_cons.1 s.2
  refine ⟨fun x hx => ?_, List.pairwise_cons.2 ⟨fun c hc x => ?_, ap.2⟩⟩
  · rcases List.mem_cons.1 hx with rfl | hx
    · exact l.trans s.hd
    · exact s.1 x (.tail _ hx)
  · rcases ap.1 c hc x with z | z
    · exact .inl (l.none z)
    · exact .inr z
theorem Sep.nil {h : Hp} : Sep [] h := ⟨fun _ h => absurd h (by simp), List.Pairwise.nil⟩

/-- A store into a piece. -/
theorem Sep.put {a : Hp} {L : List Hp} {h : Hp} (s : Sep (a :: L) h) {b : Nat} {p o : Obj} (hb : a b = some p) : Sep (a.set b o :: L) (h.set b o) := by
  have ap := List.pairwise_cons.1 s.2
  have key : ∀ c ∈ L, c b = none := fun c hc => by rcases ap.1 c hc b with z | z; rw [hb] at z; cases z; exact z
  refine ⟨fun x hx => ?_, List.pairwise_cons.2 ⟨fun c hc x => ?_, ap.2⟩⟩
  · rcases List.mem_cons.1 hx with rfl | hx
    · exact s.hd.both
    · exact (s.1 x (.tail _ hx)).set (key x hx)
  · by_cases hx : x = b
    · subst hx; exact .inr (key c hc)
    · rw [set_other hx]; exact ap.1 c hc x
/-- A new block is a piece. -/
theorem Sep.new {L : List Hp} {h : Hp} (s : Sep L h) {x : Nat} {o : Obj} (hx : h x = none) : Sep (noHp.set x o :: L) (h.set x o) := by
  refine ⟨fun a ha => ?_, List.pairwise_cons.2 ⟨fun c hc y => ?_, s.2⟩⟩
  · rcases List.mem_cons.1 ha with rfl | ha
    · intro y p e
      by_cases hy : y = x
      · subst hy; rw [set_self] at e ⊢; exact e
      · rw [set_other hy] at e; cases e
    · exact (s.1 a ha).set ((s.1 a ha).none hx)
  · by_cases hy : y = x
    · subst hy; exact .inr ((s.1 c hc).none hx)
    · rw [set_other hy]; exact .inl rfl
/-- A new block that is no piece. -/
theorem Sep.past {L : List Hp} {h : Hp} (s : Sep L h) {x : Nat} {o : Obj} (hx : h x = none) : Sep L (h.set x o) := (s.new hx).drop
/-- A new block joins a piece. -/
theorem Sep.grow {a : Hp} {L : List Hp} {h : Hp} (s : Sep (a :: L) h) {x : Nat} {o : Obj} (hx : h x = none) : Sep (a.set x o :: L) (h.set x o) := by
  have ap := List.pairwise_cons.1 s.2
  refine ⟨fun c hc => ?_, List.pairwise_cons.2 ⟨fun c hc y => ?_, ap.2⟩⟩
  · rcases List.mem_cons.1 hc with rfl | hc
    · exact s.hd.both
    · exact (s.1 c (.tail _ hc)).set ((s.1 c (.tail _ hc)).none hx)
  · by_cases hy : y = x
    · subst hy; exact .inr ((s.1 c (.tail _ hc)).none hx)
    · rw [set_other hy]; exact ap.1 c hc y
theorem Sep.le {L : List Hp} {h h' : Hp} (s : Sep L h) (l : h.le h') : Sep L h' := ⟨fun a ha => (s.1 a ha).trans l, s.2⟩
theorem Sep.one {h : Hp} : Sep [h] h := ⟨fun a ha => by simp at ha; subst ha; exact Hp.le.refl _, by simp⟩

theorem Sep.take {L : List Hp} {h : Hp} (s : Sep L h) (n : Nat) {L' : List Hp} (e : L.take n = L') : Sep L' h := by
  subst e
  exact ⟨fun a ha => s.1 a (List.mem_of_mem_take ha), s.2.sublist (List.take_sublist n L)⟩
theorem under_piece {h a b : Hp} (l : b.le h) (ap : Apart a b) {x : Nat} {o : Obj} (e : b x = some o) : under G h a x = some o := by
  unfold under look
  rcases ap x with z | z
  · rw [z, l _ _ e]; rfl
  · rw [e] at z; cases z
theorem cell_gnd {h : Hp} (d : Dis G h) {x : Nat} {o : Obj} (e : G x = some o) {a : Addr} (ha : a.block = x) : cellIn G h a = objCell o a := by
  unfold cellIn look
  cases q : h a.block with
  | some p => rw [ha] at q; rw [d _ _ q] at e; cases e
  | none => rw [ha, e]; rfl
theorem Sep.apart {a b h : Hp} {L : List Hp} (s : Sep (a :: L) h) (hb : b ∈ L) : Apart a b := (List.pairwise_cons.1 s.2).1 b hb

/-- Two pieces as one. -/
def Hp.join (a b : Hp) : Hp := fun x => match a x with | some o => some o | none => b x
theorem Hp.le_join {a b : Hp} : a.le (a.join b) := fun x o e => by unfold Hp.join; rw [e]
theorem Hp.le_join2 {a b : Hp} (h : Apart a b) : b.le (a.join b) := fun x o e => by
  unfold Hp.join
  rcases h x with z | z
  · rw [z]; exact e
  · rw [e] at z; cases z
theorem Sep.join {a b : Hp} {L : List Hp} {h : Hp} (s : Sep (a :: b :: L) h) : Sep (a.join b :: L) h ∧ Apart a b := by
  have s2 := s.2
  simp only [List.pairwise_cons, List.mem_cons] at s2
  refine ⟨⟨fun c hc => ?_, List.pairwise_cons.2 ⟨fun c hc x => ?_, s2.2.2⟩⟩, s2.1 _ (.inl rfl)⟩
  · rcases List.mem_cons.1 hc with rfl | hc
    · intro x o e
      unfold Hp.join at e
      split at e
      · rename_i p hp; rw [s.1 a (.head _) _ _ hp]; exact e
      · exact s.1 b (.tail _ (.head _)) _ _ e
    · exact s.1 c (.tail _ (.tail _ hc))
  · cases q : c x with
    | none => exact .inr rfl
    | some o =>
      left
      unfold Hp.join
      rcases s2.1 c (.inr hc) x with z | z
      · rw [z]
        rcases s2.2.1 c hc x with z2 | z2
        · exact z2
        · rw [q] at z2; cases z2
      · rw [q] at z; cases z

/-- What is read of a piece, or of the ground, is read of the whole. -/
theorem under_sees {α : Type} {c : Cod α} {h a : Hp} {v : Value} {L : List α} (l : a.le h) (s : Sees c G h v L) : Sees c (under G h a) a v L :=
  by unfold Sees at *; simp only [under_cell l]; exact s
end
end Go.HL
