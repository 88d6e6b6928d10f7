/- Heaplets: a walk that speaks only of the blocks that it owns. What is read off a world, what an operation does to the blocks that are owned, and that all other blocks stay. -/
import Derived.Orders
import Derived.Below
import Derived.KernelRfl
import Derived.Scope
namespace Go.HL
open Go

/-- A heaplet: some blocks of a heap. -/
abbrev Hp := Nat → Option Obj

def Hp.set (h : Hp) (b : Nat) (o : Obj) : Hp := fun x => if x = b then some o else h x

/-- What lies at a block: the owned ones first, then the ground (blocks that nobody writes). -/
def look (G h : Hp) (b : Nat) : Option Obj := match h b with
  | some o => some o
  | none => G b

def objCell : Obj → Addr → Option Value
  | .cells c _ _, a => if a.spot.isSome then none else c[a.off]?
  | _, _ => none

def cellIn (G h : Hp) (a : Addr) : Option Value := (look G h a.block).bind fun o => objCell o a

def objFrozen : Obj → Addr → Bool
  | .cells _ _ (lo, hi), a => lo ≤ a.off && a.off < hi
  | _, _ => false

def objShape : Obj → Option (TypeId × Nat)
  | .cells c e _ => some (e, c.size)
  | _ => none

def isCells : Obj → Bool
  | .cells .. => true
  | _ => false

def oneCell : Value → Bool
  | .agg _ | .tuple _ => false
  | _ => true

def objPut : Obj → Nat → Value → Obj
  | .cells c e f, i, v => .cells (c.setIfInBounds i v) e f
  | o, _, _ => o

structure In (G h : Hp) (w : World) : Prop where
  sub : ∀ b o, h b = some o → w.heap[b]? = some o
  gnd : ∀ b o, G b = some o → w.heap[b]? = some o ∧ h b = none

structure Mv (h : Hp) (w : World) (h' : Hp) (w' : World) : Prop where
  size : w.heap.size ≤ w'.heap.size
  sub : ∀ b o, h' b = some o → w'.heap[b]? = some o
  frame : ∀ b o, w.heap[b]? = some o → h b = none → w'.heap[b]? = some o ∧ h' b = none
  os : w'.os = w.os
  output : w'.output = w.output
  tape : w'.tape = w.tape

theorem Mv.refl {G h : Hp} {w : World} (hi : In G h w) : Mv h w h w :=
  ⟨Nat.le_refl _, hi.sub, fun _ _ h1 h2 => ⟨h1, h2⟩, rfl, rfl, rfl⟩

theorem Mv.trans {h h1 h2 : Hp} {w w1 w2 : World} (a : Mv h w h1 w1) (b : Mv h1 w1 h2 w2) : Mv h w h2 w2 :=
  ⟨Nat.le_trans a.size b.size, b.sub, fun x o e1 e2 => let ⟨f1, f2⟩ := a.frame x o e1 e2; b.frame x o f1 f2,
   b.os.trans a.os, b.output.trans a.output, b.tape.trans a.tape⟩

theorem Mv.keeps {G h h' : Hp} {w w' : World} (m : Mv h w h' w') (hi : In G h w) : In G h' w' :=
  ⟨m.sub, fun b o hb => let ⟨h1, h2⟩ := hi.gnd b o hb; m.frame b o h1 h2⟩

def Hp.le (h h' : Hp) : Prop := ∀ b o, h b = some o → h' b = some o

theorem Hp.le.refl (h : Hp) : h.le h := fun _ _ e => e
theorem Hp.le.trans {a b c : Hp} (x : a.le b) (y : b.le c) : a.le c := fun _ _ e => y _ _ (x _ _ e)

theorem Hp.le.set {h h' : Hp} {b : Nat} {o : Obj} (x : h.le h') (hb : h b = none) : h.le (h'.set b o) := fun y p e => by
  unfold Hp.set
  split
  · rename_i e2; subst e2; rw [hb] at e; cases e
  · exact x _ _ e

theorem Hp.le.both {h h' : Hp} {b : Nat} {o : Obj} (x : h.le h') : (h.set b o).le (h'.set b o) := fun y p e => by
  unfold Hp.set at *
  split
  · rename_i e2; rw [if_pos e2] at e; exact e
  · rename_i e2; rw [if_neg e2] at e; exact x _ _ e

/-- Less may be owned behind it. -/
theorem Mv.less {h h' h'' : Hp} {w w' : World} (m : Mv h w h' w') (l : h''.le h') : Mv h w h'' w' :=
  ⟨m.size, fun b o e => m.sub b o (l b o e), fun b o e1 e2 => (by
    obtain ⟨f1, f2⟩ := m.frame b o e1 e2
    refine ⟨f1, ?_⟩
    cases hh : h'' b with
    | none => rfl
    | some p => rw [l _ _ hh] at f2; cases f2),
   m.os, m.output, m.tape⟩

theorem In.less {G h h' : Hp} {w : World} (i : In G h' w) (l : h.le h') : In G h w :=
  ⟨fun b o e => i.sub b o (l b o e), fun b o e => (by
    obtain ⟨f1, f2⟩ := i.gnd b o e
    refine ⟨f1, ?_⟩
    cases hh : h b with
    | none => rfl
    | some p => rw [l _ _ hh] at f2; cases f2)⟩

theorem set_self {h : Hp} {b : Nat} {o : Obj} : (h.set b o) b = some o := by simp [Hp.set]
theorem set_other {h : Hp} {b c : Nat} {o : Obj} (e : c ≠ b) : (h.set b o) c = h c := by simp [Hp.set, e]
theorem set_comm {h : Hp} {b c : Nat} {o p : Obj} (e : b ≠ c) : (h.set b o).set c p = (h.set c p).set b o := by
  funext x
  simp only [Hp.set]
  by_cases h1 : x = b <;> by_cases h2 : x = c <;> simp_all
theorem set_set {h : Hp} {b : Nat} {o p : Obj} : (h.set b o).set b p = h.set b p := by
  funext x
  simp only [Hp.set]
  by_cases h1 : x = b <;> simp_all

theorem look_in {G h : Hp} {w : World} (i : In G h w) {b : Nat} {o : Obj} (e : look G h b = some o) : w.heap[b]? = some o := by
  unfold look at e
  split at e
  · rename_i p hp; rw [i.sub _ _ hp]; exact e
  · exact (i.gnd _ _ e).1

theorem cell_in {G h : Hp} {w : World} (i : In G h w) {a : Addr} {v : Value} (e : cellIn G h a = some v) : w.cell? a = some v := by
  unfold cellIn at e
  cases hl : look G h a.block with
  | none => rw [hl] at e; cases e
  | some o =>
    rw [hl] at e
    have := look_in i hl
    unfold World.cell?
    rw [this]
    cases o <;> simp [objCell] at e ⊢
    exact e

/-- THE WORD OF THE WALK: carried out where the owned blocks are h, it yields a value and owned blocks of which K holds. -/
def wpH (P : Program) (G : Hp) {α : Type} : Sem α → Hp → (α → Hp → Prop) → Prop
  | .pure a, h, K => K a h
  | .load _ a k, h, K => ∃ v, cellIn G h a = some v ∧ wpH P G (k v) h K
  | .store _ a v k, h, K => oneCell v = true ∧ a.spot = none ∧ ∃ c e f, h a.block = some (.cells c e f) ∧ a.off < c.size ∧ objFrozen (.cells c e f) a = false ∧
      wpH P G k (h.set a.block (.cells (c.setIfInBounds a.off v) e f)) K
  | .new o k, h, K => ∀ r, h r = none → G r = none → wpH P G (k r) (h.set r o) K
  | .shape r k, h, K => ∃ o, look G h r = some o ∧ wpH P G (k (objShape o)) h K
  | .freeze _ _ _, _, _ => False
  | .frozen a k, h, K => ∃ o, look G h a.block = some o ∧ wpH P G (k (objFrozen o a)) h K
  | .getObj r k, h, K => ∃ o, look G h r = some o ∧ isCells o = false ∧ wpH P G (k o) h K
  | .setObj r o k, h, K => (∃ p, h r = some p ∧ isCells p = false) ∧ wpH P G k (h.set r o) K
  | .choose q k, h, K => if q.forced then wpH P G (k 0) h K else ∀ t, wpH P G (k (q.cut t)) h K
  | .sys _ _, _, _ => False
  | .program k, h, K => wpH P G (k P) h K
  | .mark _ k, h, K => wpH P G k h K
  | .halt _, _, _ => False

theorem wpH_mono {P : Program} {G : Hp} {α : Type} (s : Sem α) : ∀ {h : Hp} {K K' : α → Hp → Prop}, (∀ a h, K a h → K' a h) → wpH P G s h K → wpH P G s h K' := by
  induction s with
  | pure a => intro h K K' hk H; exact hk _ _ H
  | load m a k ih => intro h K K' hk H; obtain ⟨v, e, H⟩ := H; exact ⟨v, e, ih v hk H⟩
  | store m a v k ih => intro h K K' hk H; obtain ⟨h1, h2, c, e, f, h3, h4, h5, H⟩ := H; exact ⟨h1, h2, c, e, f, h3, h4, h5, ih hk H⟩
  | new o k ih => intro h K K' hk H r h1 h2; exact ih r hk (H r h1 h2)
  | shape r k ih => intro h K K' hk H; obtain ⟨o, e, H⟩ := H; exact ⟨o, e, ih _ hk H⟩
  | freeze a n k ih => intro h K K' hk H; exact H.elim
  | frozen a k ih => intro h K K' hk H; obtain ⟨o, e, H⟩ := H; exact ⟨o, e, ih _ hk H⟩
  | getObj r k ih => intro h K K' hk H; obtain ⟨o, e, e2, H⟩ := H; exact ⟨o, e, e2, ih _ hk H⟩
  | setObj r o k ih => intro h K K' hk H; exact ⟨H.1, ih hk H.2⟩
  | choose q k ih =>
    intro h K K' hk H
    unfold wpH at H ⊢
    split at H
    · rename_i e; rw [if_pos e]; exact ih _ hk H
    · rename_i e; rw [if_neg e]; exact fun t => ih _ hk (H t)
  | sys c k ih => intro h K K' hk H; exact H.elim
  | program k ih => intro h K K' hk H; exact ih _ hk H
  | mark m k ih => intro h K K' hk H; exact ih hk H
  | halt x => intro h K K' hk H; exact H.elim

theorem wpH_bind {P : Program} {G : Hp} {α β : Type} (s : Sem α) (f : α → Sem β) : ∀ {h : Hp} {K : β → Hp → Prop},
    wpH P G (s.bind f) h K ↔ wpH P G s h (fun a h' => wpH P G (f a) h' K) := by
  induction s with
  | pure a => intro h K; exact Iff.rfl
  | load m a k ih => intro h K; exact exists_congr fun v => and_congr_right fun _ => ih v
  | store m a v k ih => intro h K; simp only [Sem.bind, wpH, ih]
  | new o k ih => intro h K; simp only [Sem.bind, wpH, ih]
  | shape r k ih => intro h K; simp only [Sem.bind, wpH, ih]
  | freeze a n k ih => intro h K; exact Iff.rfl
  | frozen a k ih => intro h K; simp only [Sem.bind, wpH, ih]
  | getObj r k ih => intro h K; simp only [Sem.bind, wpH, ih]
  | setObj r o k ih => intro h K; simp only [Sem.bind, wpH, ih]
  | choose q k ih => intro h K; simp only [Sem.bind, wpH, ih]
  | sys c k ih => intro h K; exact Iff.rfl
  | program k ih => intro h K; simp only [Sem.bind, wpH, ih]
  | mark m k ih => intro h K; simp only [Sem.bind, wpH, ih]
  | halt x => intro h K; exact Iff.rfl

theorem In.fresh {G h : Hp} {w : World} (i : In G h w) : h w.heap.size = none ∧ G w.heap.size = none := by
  constructor
  · cases e : h w.heap.size with
    | none => rfl
    | some o => have := i.sub _ _ e; simp at this
  · cases e : G w.heap.size with
    | none => rfl
    | some o => have := (i.gnd _ _ e).1; simp at this

theorem Mv.new {G h : Hp} {w : World} (i : In G h w) (o : Obj) : Mv h w (h.set w.heap.size o) { w with heap := w.heap.push o } := by
  refine ⟨by simp, fun b p e => ?_, fun b p e1 e2 => ?_, rfl, rfl, rfl⟩
  · by_cases hb : b = w.heap.size
    · subst hb; rw [set_self] at e; simp at e ⊢; exact e
    · rw [set_other hb] at e
      have := i.sub _ _ e
      have hlt : b < w.heap.size := (Array.getElem?_eq_some_iff.1 this).1
      show (w.heap.push o)[b]? = some p
      rw [Array.getElem?_push, if_neg (by omega)]; exact this
  · have hlt : b < w.heap.size := (Array.getElem?_eq_some_iff.1 e1).1
    refine ⟨?_, by rw [set_other (by omega)]; exact e2⟩
    show (w.heap.push o)[b]? = some p
    rw [Array.getElem?_push, if_neg (by omega)]; exact e1

theorem Mv.put {G h : Hp} {w : World} (i : In G h w) {b : Nat} {p o : Obj} (hb : h b = some p) {w' : World} (hsz : w'.heap.size = w.heap.size) (hself : w'.heap[b]? = some o)
    (hoth : ∀ c, c ≠ b → w'.heap[c]? = w.heap[c]?) (h1 : w'.os = w.os) (h2 : w'.output = w.output) (h3 : w'.tape = w.tape) : Mv h w (h.set b o) w' := by
  refine ⟨by omega, fun c q e => ?_, fun c q e1 e2 => ?_, h1, h2, h3⟩
  · by_cases hc : c = b
    · subst hc; rw [set_self] at e; rw [hself]; exact e
    · rw [set_other hc] at e; rw [hoth c hc]; exact i.sub _ _ e
  · have hc : c ≠ b := fun e => by subst e; rw [hb] at e2; cases e2
    exact ⟨by rw [hoth c hc]; exact e1, by rw [set_other hc]; exact e2⟩

/-- WHAT THE WORD SAYS OF A RUN. -/
theorem wpH_run {P : Program} {G : Hp} {α : Type} (s : Sem α) : ∀ {h : Hp} {w : World} {K : α → Hp → Prop}, In G h w → wpH P G s h K →
    ∃ a h' w', s.run P w = .ok a w' ∧ Mv h w h' w' ∧ K a h' := by
  induction s with
  | pure a => intro h w K i H; exact ⟨a, h, w, rfl, .refl i, H⟩
  | load m a k ih =>
    intro h w K i H
    obtain ⟨v, e, H⟩ := H
    obtain ⟨x, h', w', e1, e2, e3⟩ := ih v i H
    exact ⟨x, h', w', by simp only [Sem.run, cell_in i e]; exact e1, e2, e3⟩
  | store m a v k ih =>
    intro h w K i H
    obtain ⟨h1, h2, c, e, f, h3, h4, h5, H⟩ := H
    have hw := i.sub _ _ h3
    have hcell : w.cell? a = some c[a.off] := by unfold World.cell?; rw [hw]; simp [h2, h4]
    have hfr : w.frozen? a = false := by unfold World.frozen?; rw [hw]; exact h5
    have hblk : (w.setCell a v).heap[a.block]? = some (.cells (c.setIfInBounds a.off v) e f) := by
      simp only [World.setCell, Array.getElem?_modify, if_pos, hw, Option.map_some, h2]; rfl
    have hmv : Mv h w (h.set a.block (.cells (c.setIfInBounds a.off v) e f)) (w.setCell a v) :=
      Mv.put i h3 (by simp [World.setCell]) hblk (fun b hb => by simp only [World.setCell, Array.getElem?_modify]; rw [if_neg (Ne.symm hb)]) rfl rfl rfl
    obtain ⟨x, h', w', e1, e2, e3⟩ := ih (hmv.keeps i) H
    refine ⟨x, h', w', ?_, hmv.trans e2, e3⟩
    cases v <;> first | (simp [oneCell] at h1; done) | (simp only [Sem.run, hcell, hfr]; exact e1)
  | new o k ih =>
    intro h w K i H
    have hmv := Mv.new i o
    obtain ⟨f1, f2⟩ := i.fresh
    obtain ⟨x, h', w', e1, e2, e3⟩ := ih w.heap.size (hmv.keeps i) (H _ f1 f2)
    exact ⟨x, h', w', e1, hmv.trans e2, e3⟩
  | shape r k ih =>
    intro h w K i H
    obtain ⟨o, e, H⟩ := H
    obtain ⟨x, h', w', e1, e2, e3⟩ := ih _ i H
    refine ⟨x, h', w', ?_, e2, e3⟩
    have : w.shape? r = objShape o := by unfold World.shape?; rw [look_in i e]; cases o <;> rfl
    simp only [Sem.run, this]; exact e1
  | freeze a n k ih => intro h w K i H; exact H.elim
  | frozen a k ih =>
    intro h w K i H
    obtain ⟨o, e, H⟩ := H
    obtain ⟨x, h', w', e1, e2, e3⟩ := ih _ i H
    refine ⟨x, h', w', ?_, e2, e3⟩
    have : w.frozen? a = objFrozen o a := by unfold World.frozen?; rw [look_in i e]; cases o <;> rfl
    simp only [Sem.run, this]; exact e1
  | getObj r k ih =>
    intro h w K i H
    obtain ⟨o, e, e0, H⟩ := H
    obtain ⟨x, h', w', e1, e2, e3⟩ := ih _ i H
    refine ⟨x, h', w', ?_, e2, e3⟩
    simp only [Sem.run, look_in i e]
    cases o <;> first | (simp [isCells] at e0; done) | exact e1
  | setObj r o k ih =>
    intro h w K i H
    obtain ⟨⟨p, e, e0⟩, H⟩ := H
    have hw := i.sub _ _ e
    have hlt : r < w.heap.size := (Array.getElem?_eq_some_iff.1 hw).1
    have hmv : Mv h w (h.set r o) { w with heap := w.heap.setIfInBounds r o } :=
      Mv.put i e (by simp) (by simp [hlt]) (fun c hc => by simp [Array.getElem?_setIfInBounds_ne (Ne.symm hc)]) rfl rfl rfl
    obtain ⟨x, h', w', e1, e2, e3⟩ := ih (hmv.keeps i) H
    refine ⟨x, h', w', ?_, hmv.trans e2, e3⟩
    simp only [Sem.run, hw]
    cases p <;> first | (simp [isCells] at e0; done) | exact e1
  | choose q k ih =>
    intro h w K i H
    unfold wpH at H
    split at H
    · rename_i hf
      obtain ⟨x, h', w', e1, e2, e3⟩ := ih _ i H
      exact ⟨x, h', w', by simp only [Sem.run, hf, if_true]; exact e1, e2, e3⟩
    · rename_i hf
      have i' : In G h { w with drawn := w.drawn + 1 } := ⟨i.sub, i.gnd⟩
      obtain ⟨x, h', w', e1, e2, e3⟩ := ih _ i' (H (w.tape w.drawn q))
      exact ⟨x, h', w', by simp only [Sem.run, hf, if_false, Bool.false_eq_true]; exact e1, ⟨e2.size, e2.sub, e2.frame, e2.os, e2.output, e2.tape⟩, e3⟩
  | sys c k ih => intro h w K i H; exact H.elim
  | program k ih => intro h w K i H; obtain ⟨x, h', w', e1, e2, e3⟩ := ih _ i H; exact ⟨x, h', w', e1, e2, e3⟩
  | mark m k ih => intro h w K i H; obtain ⟨x, h', w', e1, e2, e3⟩ := ih i H; exact ⟨x, h', w', e1, e2, e3⟩
  | halt x => intro h w K i H; exact H.elim

/-- A block more, that nobody looks at. -/
theorem look_more {G h : Hp} {r b : Nat} {o p : Obj} (hr : h r = none) (gr : G r = none) (e : look G h b = some p) : look G (h.set r o) b = some p := by
  have hne : b ≠ r := fun x => by subst x; simp [look, hr, gr] at e
  simpa [look, set_other hne] using e

theorem wpH_frame {P : Program} {G : Hp} {α : Type} {r : Nat} {o : Obj} (gr : G r = none) (s : Sem α) : ∀ {h : Hp} {K : α → Hp → Prop}, h r = none → wpH P G s h K →
    wpH P G s (h.set r o) (fun a h' => ∃ h1, h' = h1.set r o ∧ h1 r = none ∧ K a h1) := by
  induction s with
  | pure a => intro h K hr H; exact ⟨h, rfl, hr, H⟩
  | load m a k ih =>
    intro h K hr H
    obtain ⟨v, e, H⟩ := H
    refine ⟨v, ?_, ih v hr H⟩
    unfold cellIn at *
    cases hl : look G h a.block with
    | none => rw [hl] at e; cases e
    | some p => rw [look_more hr gr hl]; rw [hl] at e; exact e
  | store m a v k ih =>
    intro h K hr H
    obtain ⟨h1, h2, c, e, f, h3, h4, h5, H⟩ := H
    have hne : a.block ≠ r := fun x => by rw [x, hr] at h3; cases h3
    refine ⟨h1, h2, c, e, f, by rw [set_other hne]; exact h3, h4, h5, ?_⟩
    rw [set_comm (Ne.symm hne)]
    exact ih (by rw [set_other (Ne.symm hne)]; exact hr) H
  | new q k ih =>
    intro h K hr H x h1 h2
    have hne : x ≠ r := fun e => by subst e; rw [set_self] at h1; cases h1
    rw [set_other hne] at h1
    rw [set_comm (Ne.symm hne)]
    exact ih x (by rw [set_other (Ne.symm hne)]; exact hr) (H x h1 h2)
  | shape x k ih => intro h K hr H; obtain ⟨p, e, H⟩ := H; exact ⟨p, look_more hr gr e, ih _ hr H⟩
  | freeze a n k ih => intro h K hr H; exact H.elim
  | frozen a k ih => intro h K hr H; obtain ⟨p, e, H⟩ := H; exact ⟨p, look_more hr gr e, ih _ hr H⟩
  | getObj x k ih => intro h K hr H; obtain ⟨p, e, e2, H⟩ := H; exact ⟨p, look_more hr gr e, e2, ih _ hr H⟩
  | setObj x q k ih =>
    intro h K hr H
    obtain ⟨⟨p, e, e0⟩, H⟩ := H
    have hne : x ≠ r := fun y => by rw [y, hr] at e; cases e
    refine ⟨⟨p, by rw [set_other hne]; exact e, e0⟩, ?_⟩
    rw [set_comm (Ne.symm hne)]
    exact ih (by rw [set_other (Ne.symm hne)]; exact hr) H
  | choose q k ih =>
    intro h K hr H
    unfold wpH at H ⊢
    split at H
    · rename_i e; rw [if_pos e]; exact ih _ hr H
    · rename_i e; rw [if_neg e]; exact fun t => ih _ hr (H t)
  | sys c k ih => intro h K hr H; exact H.elim
  | program k ih => intro h K hr H; exact ih _ hr H
  | mark m k ih => intro h K hr H; exact ih hr H
  | halt x => intro h K hr H; exact H.elim

end Go.HL
