/- Slots of a cell: put, cut, gaps; what they do to the ticks. -/
namespace Go.Proofs.Resv

structure Slot where
  f : Int
  t : Int
  r : Int
  deriving DecidableEq

abbrev FV : Int := 4611686018427387904

def freeB (L : List Slot) (r f t : Int) : Bool := L.all fun s => s.r == r || !(decide (s.f < t) && decide (f < s.t))
def touchB (r f t : Int) (s : Slot) : Bool := s.r == r && (decide (s.f ≤ t) && decide (f ≤ s.t))
def mergeL (r : Int) : List Slot → Int → Int → List Slot → Int × Int × List Slot
  | [], f, t, out => (f, t, out)
  | s :: L, f, t, out => if touchB r f t s = true then mergeL r L (min f s.f) (max t s.t) out else mergeL r L f t (out ++ [s])
def insAt (out : List Slot) (x : Slot) : List Slot := out.takeWhile (fun s => decide (s.f < x.f)) ++ x :: out.dropWhile (fun s => decide (s.f < x.f))
def putL (L : List Slot) (r f t : Int) : List Slot := insAt (mergeL r L f t []).2.2 ⟨(mergeL r L f t []).1, (mergeL r L f t []).2.1, r⟩

def sepS (a b : Slot) : Prop := a.t ≤ b.f ∧ (a.t = b.f → a.r ≠ b.r)
def okS (s : Slot) : Prop := 0 ≤ s.f ∧ s.f < s.t ∧ s.t ≤ FV ∧ 0 ≤ s.r
structure Good (L : List Slot) : Prop where
  ok : ∀ s ∈ L, okS s
  apart : L.Pairwise sepS
def has (L : List Slot) (r x : Int) : Prop := ∃ s ∈ L, s.r = r ∧ s.f ≤ x ∧ x < s.t

theorem Good.nil : Good [] := ⟨(fun _ h => by cases h), List.Pairwise.nil⟩
theorem Good.tail {s : Slot} {L : List Slot} (g : Good (s :: L)) : Good L := ⟨fun x hx => g.ok x (.tail _ hx), (List.pairwise_cons.1 g.apart).2⟩
theorem Good.head {s : Slot} {L : List Slot} (g : Good (s :: L)) : ∀ x ∈ L, sepS s x := (List.pairwise_cons.1 g.apart).1

theorem pw_mem {L : List Slot} (h : L.Pairwise sepS) : ∀ {a b : Slot}, a ∈ L → b ∈ L → a = b ∨ sepS a b ∨ sepS b a := by
  induction L with
  | nil => intro a b ha; cases ha
  | cons s L ih =>
    intro a b ha hb
    obtain ⟨h1, h2⟩ := List.pairwise_cons.1 h
    rcases List.mem_cons.1 ha with rfl | ha' <;> rcases List.mem_cons.1 hb with rfl | hb'
    · exact .inl rfl
    · exact .inr (.inl (h1 _ hb'))
    · exact .inr (.inr (h1 _ ha'))
    · exact ih h2 ha' hb'

theorem touch_iff {r f t : Int} {s : Slot} : touchB r f t s = true ↔ s.r = r ∧ s.f ≤ t ∧ f ≤ s.t := by
  unfold touchB
  simp

theorem free_iff {L : List Slot} {r f t : Int} : freeB L r f t = true ↔ ∀ s ∈ L, s.r ≠ r → t ≤ s.f ∨ s.t ≤ f := by
  unfold freeB
  rw [List.all_eq_true]
  constructor
  · intro h s hs hr
    have h1 := h s hs
    simp at h1
    exact h1.resolve_left hr
  · intro h s hs
    by_cases hr : s.r = r
    · simp [hr]
    · have := h s hs hr
      simp [hr]
      omega

/-- What putting together does. -/
theorem merge_spec {r : Int} : ∀ {L : List Slot} {f t : Int} {out : List Slot}, L.Pairwise sepS → (∀ s ∈ L, s.f < s.t) → f < t →
    ∃ f' t', mergeL r L f t out = (f', t', out ++ L.filter fun s => !touchB r f t s) ∧ f' ≤ f ∧ t ≤ t' ∧ (f' = f ∨ ∃ s ∈ L, touchB r f t s = true ∧ s.f = f') ∧ (t' = t ∨ ∃ s ∈ L, touchB r f t s = true ∧ s.t = t') ∧
      ∀ s ∈ L, touchB r f t s = true → f' ≤ s.f ∧ s.t ≤ t' := by
  intro L
  induction L with
  | nil => intro f t out _ _ _; exact ⟨f, t, by simp [mergeL], by omega, by omega, .inl rfl, .inl rfl, fun _ h => by cases h⟩
  | cons s L ih =>
    intro f t out hp hl hft
    obtain ⟨h1, h2⟩ := List.pairwise_cons.1 hp
    have hl2 : ∀ s ∈ L, s.f < s.t := fun x hx => hl x (.tail _ hx)
    unfold mergeL
    by_cases ht : touchB r f t s = true
    · rw [if_pos ht]
      obtain ⟨t1, t2, t3⟩ := touch_iff.1 ht
      have hsl := hl s (.head _)
      have same : ∀ x ∈ L, touchB r (min f s.f) (max t s.t) x = touchB r f t x := fun x hx => by
        have := h1 x hx
        have hxl := hl2 x hx
        rw [Bool.eq_iff_iff, touch_iff, touch_iff]
        constructor
        · rintro ⟨a, b, c⟩
          have : s.t ≠ x.f := fun e => this.2 e (by rw [t1, a])
          have h3 := (h1 x hx).1
          omega
        · rintro ⟨a, b, c⟩
          omega
      obtain ⟨f', t', e, a1, a2, a3, a4, a5⟩ := ih (f := min f s.f) (t := max t s.t) (out := out) h2 hl2 (by omega)
      have ef : (L.filter fun s_1 => !touchB r (min f s.f) (max t s.t) s_1) = L.filter fun x => !touchB r f t x := List.filter_congr fun x hx => by rw [same x hx]
      refine ⟨f', t', ?_, Int.le_trans a1 (Int.min_le_left _ _), Int.le_trans (Int.le_max_left _ _) a2, ?_, ?_, ?_⟩
      · rw [e, ef, List.filter_cons_of_neg (by simp [ht])]
      · rcases a3 with a3 | ⟨x, hx, b1, b2⟩
        · clear a4
          by_cases hh : f ≤ s.f
          · exact .inl (by omega)
          · exact .inr ⟨s, .head _, ht, by omega⟩
        · exact .inr ⟨x, .tail _ hx, by rw [← same x hx]; exact b1, b2⟩
      · rcases a4 with a4 | ⟨x, hx, b1, b2⟩
        · clear a3
          by_cases hh : s.t ≤ t
          · exact .inl (by omega)
          · exact .inr ⟨s, .head _, ht, by omega⟩
        · exact .inr ⟨x, .tail _ hx, by rw [← same x hx]; exact b1, b2⟩
      · intro x hx hxt
        clear a3 a4
        rcases List.mem_cons.1 hx with rfl | hx'
        · omega
        · exact a5 x hx' (by rw [same x hx']; exact hxt)
    · rw [if_neg ht]
      obtain ⟨f', t', e, a1, a2, a3, a4, a5⟩ := ih (f := f) (t := t) (out := out ++ [s]) h2 hl2 hft
      refine ⟨f', t', ?_, a1, a2, ?_, ?_, ?_⟩
      · rw [e, List.filter_cons_of_pos (by simp [ht])]
        simp
      · exact a3.imp id fun ⟨x, hx, b⟩ => ⟨x, .tail _ hx, b⟩
      · exact a4.imp id fun ⟨x, hx, b⟩ => ⟨x, .tail _ hx, b⟩
      · intro x hx hxt
        rcases List.mem_cons.1 hx with rfl | hx'
        · exact absurd hxt ht
        · exact a5 x hx' hxt

theorem drop_ge {v : Int} : ∀ {L : List Slot}, L.Pairwise (fun a b => a.f ≤ b.f) → ∀ s ∈ L.dropWhile (fun s => decide (s.f < v)), v ≤ s.f := by
  intro L
  induction L with
  | nil => intro _ s hs; cases hs
  | cons x L ih =>
    intro hp s hs
    obtain ⟨h1, h2⟩ := List.pairwise_cons.1 hp
    rw [List.dropWhile_cons] at hs
    by_cases hx : x.f < v
    · rw [if_pos (by simpa using hx)] at hs
      exact ih h2 s hs
    · rw [if_neg (by simpa using hx)] at hs
      rcases List.mem_cons.1 hs with rfl | hs'
      · omega
      · have := h1 s hs'; omega

theorem take_lt {v : Int} : ∀ {L : List Slot}, ∀ s ∈ L.takeWhile (fun s => decide (s.f < v)), s.f < v := by
  intro L
  induction L with
  | nil => intro s hs; cases hs
  | cons x L ih =>
    intro s hs
    rw [List.takeWhile_cons] at hs
    split at hs
    · rename_i h
      rcases List.mem_cons.1 hs with rfl | hs'
      · simpa using h
      · exact ih s hs'
    · cases hs

theorem mem_ins {out : List Slot} {x s : Slot} : s ∈ insAt out x ↔ s = x ∨ s ∈ out := by
  unfold insAt
  conv => rhs; rw [← List.takeWhile_append_dropWhile (p := fun s => decide (s.f < x.f)) (l := out)]
  simp only [List.mem_append, List.mem_cons]
  constructor
  · rintro (h | h | h)
    · exact .inr (.inl h)
    · exact .inl h
    · exact .inr (.inr h)
  · rintro (h | h | h)
    · exact .inr (.inl h)
    · exact .inl h
    · exact .inr (.inr h)

theorem sorted_of {L : List Slot} (g : L.Pairwise sepS) (hl : ∀ s ∈ L, s.f < s.t) : L.Pairwise (fun a b => a.f ≤ b.f) := by
  induction L with
  | nil => exact .nil
  | cons s L ih =>
    obtain ⟨h1, h2⟩ := List.pairwise_cons.1 g
    refine List.pairwise_cons.2 ⟨fun x hx => ?_, ih h2 fun x hx => hl x (.tail _ hx)⟩
    have := (h1 x hx).1
    have := hl s (.head _)
    omega

theorem ins_apart {out : List Slot} {x : Slot} (hp : out.Pairwise sepS) (hl : ∀ s ∈ out, s.f < s.t) (hx : x.f < x.t) (h : ∀ o ∈ out, sepS o x ∨ sepS x o) : (insAt out x).Pairwise sepS := by
  unfold insAt
  have hs := sorted_of hp hl
  have e := List.takeWhile_append_dropWhile (p := fun s => decide (s.f < x.f)) (l := out)
  have hA : ∀ a ∈ out.takeWhile (fun s => decide (s.f < x.f)), a ∈ out := fun a ha => by rw [← e]; exact List.mem_append_left _ ha
  have hB : ∀ a ∈ out.dropWhile (fun s => decide (s.f < x.f)), a ∈ out := fun a ha => by rw [← e]; exact List.mem_append_right _ ha
  rw [← e] at hp
  obtain ⟨p1, p2, p3⟩ := List.pairwise_append.1 hp
  refine List.pairwise_append.2 ⟨p1, List.pairwise_cons.2 ⟨fun b hb => ?_, p2⟩, fun a ha b hb => ?_⟩
  · rcases h b (hB b hb) with h1 | h1
    · have := drop_ge hs b hb
      have := hl b (hB b hb)
      have := h1.1
      omega
    · exact h1
  · rcases List.mem_cons.1 hb with rfl | hb'
    · rcases h a (hA a ha) with h1 | h1
      · exact h1
      · have := take_lt a ha
        have := h1.1
        omega
    · exact p3 a ha b hb'

/-- **A stretch put.** -/
theorem put_spec {L : List Slot} {r f t : Int} (g : Good L) (h0 : 0 ≤ f) (h1 : f < t) (h2 : t ≤ FV) (hr : 0 ≤ r) (hf : freeB L r f t = true) :
    Good (putL L r f t) ∧ (∀ r' x, has (putL L r f t) r' x ↔ has L r' x ∨ (r' = r ∧ f ≤ x ∧ x < t)) ∧ ∃ s ∈ putL L r f t, s.r = r ∧ s.f ≤ f ∧ t ≤ s.t := by
  have hl : ∀ s ∈ L, s.f < s.t := fun s hs => (g.ok s hs).2.1
  have hfree := free_iff.1 hf
  obtain ⟨f', t', e, a1, a2, a3, a4, a5⟩ := merge_spec (r := r) (f := f) (t := t) (out := []) g.apart hl h1
  rw [List.nil_append] at e
  unfold putL
  rw [e]
  simp only
  have hm : ∀ s, s ∈ (L.filter fun s => !touchB r f t s) ↔ s ∈ L ∧ ¬ touchB r f t s = true := fun s => by rw [List.mem_filter]; simp
  have hsep : ∀ o ∈ (L.filter fun s => !touchB r f t s), sepS o ⟨f', t', r⟩ ∨ sepS ⟨f', t', r⟩ o := by
    intro o ho
    obtain ⟨o1, o2⟩ := (hm o).1 ho
    rw [touch_iff] at o2
    have ol := hl o o1
    by_cases hor : o.r = r
    · by_cases hot : o.f ≤ t
      · have hof : o.t < f := by
          by_cases hh : f ≤ o.t
          · exact absurd ⟨hor, hot, hh⟩ o2
          · omega
        left
        rcases a3 with a3 | ⟨s, hs, b1, b2⟩
        · exact ⟨by show o.t ≤ f'; omega, fun hh => by have : o.t = f' := hh; omega⟩
        · obtain ⟨c1, c2, c3⟩ := touch_iff.1 b1
          rcases pw_mem g.apart o1 hs with rfl | d | d
          · omega
          · have : o.t ≠ s.f := fun hh => d.2 hh (by rw [hor, c1])
            exact ⟨by have := d.1; show o.t ≤ f'; omega, fun hh => by have : o.t = f' := hh; omega⟩
          · have := d.1; omega
      · right
        rcases a4 with a4 | ⟨s, hs, b1, b2⟩
        · exact ⟨by show t' ≤ o.f; omega, fun hh => by have : t' = o.f := hh; omega⟩
        · obtain ⟨c1, c2, c3⟩ := touch_iff.1 b1
          have sl := hl s hs
          rcases pw_mem g.apart o1 hs with rfl | d | d
          · omega
          · have := d.1; omega
          · have : s.t ≠ o.f := fun hh => d.2 hh (by rw [hor, c1])
            exact ⟨by have := d.1; show t' ≤ o.f; omega, fun hh => by have : t' = o.f := hh; omega⟩
    · rcases hfree o o1 hor with hh | hh
      · right
        refine ⟨?_, fun _ => Ne.symm hor⟩
        show t' ≤ o.f
        rcases a4 with a4 | ⟨s, hs, b1, b2⟩
        · omega
        · obtain ⟨c1, c2, c3⟩ := touch_iff.1 b1
          have sl := hl s hs
          rcases pw_mem g.apart o1 hs with rfl | d | d
          · exact absurd c1 hor
          · have := d.1; omega
          · have := d.1; omega
      · left
        refine ⟨?_, fun _ => hor⟩
        show o.t ≤ f'
        rcases a3 with a3 | ⟨s, hs, b1, b2⟩
        · omega
        · obtain ⟨c1, c2, c3⟩ := touch_iff.1 b1
          rcases pw_mem g.apart o1 hs with rfl | d | d
          · exact absurd c1 hor
          · have := d.1; omega
          · have := d.1; omega
  have hf0 : 0 ≤ f' := by
    rcases a3 with a3 | ⟨s, hs, _, b2⟩
    · omega
    · have := (g.ok s hs).1; omega
  have ht0 : t' ≤ FV := by
    rcases a4 with a4 | ⟨s, hs, _, b2⟩
    · omega
    · have := (g.ok s hs).2.2.1; omega
  refine ⟨⟨fun s hs => ?_, ins_apart (g.apart.filter _) (fun s hs => hl s ((hm s).1 hs).1) (by show f' < t'; omega) hsep⟩, fun r' x => ⟨?_, ?_⟩, ⟨f', t', r⟩, mem_ins.2 (.inl rfl), rfl, a1, a2⟩
  · rcases mem_ins.1 hs with rfl | hs'
    · exact ⟨hf0, by show f' < t'; omega, ht0, hr⟩
    · exact g.ok s ((hm s).1 hs').1
  · rintro ⟨s, hs, rfl, e1, e2⟩
    rcases mem_ins.1 hs with rfl | hs'
    · simp only at e1 e2 ⊢
      by_cases q1 : x < f
      · rcases a3 with a3 | ⟨s, hs, b1, b2⟩
        · omega
        · obtain ⟨c1, c2, c3⟩ := touch_iff.1 b1
          exact .inl ⟨s, hs, c1, by omega, by omega⟩
      · by_cases q2 : x < t
        · exact .inr ⟨by simp, by omega, q2⟩
        · rcases a4 with a4 | ⟨s, hs, b1, b2⟩
          · omega
          · obtain ⟨c1, c2, c3⟩ := touch_iff.1 b1
            exact .inl ⟨s, hs, c1, by omega, by omega⟩
    · exact .inl ⟨s, ((hm s).1 hs').1, rfl, e1, e2⟩
  · rintro (⟨s, hs, rfl, e1, e2⟩ | ⟨rfl, e1, e2⟩)
    · by_cases q : touchB r f t s = true
      · have := a5 s hs q
        exact ⟨⟨f', t', r⟩, mem_ins.2 (.inl rfl), (touch_iff.1 q).1.symm, by show f' ≤ x; omega, by show x < t'; omega⟩
      · exact ⟨s, mem_ins.2 (.inr ((hm s).2 ⟨hs, q⟩)), rfl, e1, e2⟩
    · exact ⟨⟨f', t', r'⟩, mem_ins.2 (.inl rfl), rfl, by show f' ≤ x; omega, by show x < t'; omega⟩

theorem has_ge {s : Slot} {L : List Slot} (g : Good (s :: L)) {r x : Int} (h : has L r x) : s.t ≤ x ∧ ∃ u ∈ L, u.r = r ∧ u.f ≤ x ∧ x < u.t ∧ sepS s u := by
  obtain ⟨u, hu, e1, e2, e3⟩ := h
  have := g.head u hu
  exact ⟨by have := this.1; omega, u, hu, e1, e2, e3, this⟩

theorem has_cons {s : Slot} {L : List Slot} {r x : Int} : has (s :: L) r x ↔ (s.r = r ∧ s.f ≤ x ∧ x < s.t) ∨ has L r x := by
  unfold has
  simp

/-- **The ticks say all.** -/
theorem good_ext : ∀ {L M : List Slot}, Good L → Good M → (∀ r x, has L r x ↔ has M r x) → L = M := by
  intro L
  induction L with
  | nil =>
    intro M _ gM h
    cases M with
    | nil => rfl
    | cons s M =>
      have ok := gM.ok s (.head _)
      obtain ⟨u, hu, _⟩ := (h s.r s.f).2 ⟨s, .head _, rfl, by omega, ok.2.1⟩
      cases hu
  | cons s L ih =>
    intro M gL gM h
    have okL := gL.ok s (.head _)
    cases M with
    | nil =>
      obtain ⟨u, hu, _⟩ := (h s.r s.f).1 ⟨s, .head _, rfl, by omega, okL.2.1⟩
      cases hu
    | cons u M =>
      have okM := gM.ok u (.head _)
      have hs : has (u :: M) s.r s.f := (h s.r s.f).1 ⟨s, .head _, rfl, by omega, okL.2.1⟩
      have hu : has (s :: L) u.r u.f := (h u.r u.f).2 ⟨u, .head _, rfl, by omega, okM.2.1⟩
      have ef : s.f = u.f := by
        have a : u.f ≤ s.f := by
          rcases has_cons.1 hs with ⟨_, h1, _⟩ | h1
          · exact h1
          · have := (has_ge gM h1).1; have := okM.2.1; omega
        have b : s.f ≤ u.f := by
          rcases has_cons.1 hu with ⟨_, h1, _⟩ | h1
          · exact h1
          · have := (has_ge gL h1).1; have := okL.2.1; omega
        omega
      have er : s.r = u.r := by
        rcases has_cons.1 hs with ⟨h1, _, _⟩ | h1
        · exact h1.symm
        · have := (has_ge gM h1).1; have := okM.2.1; omega
      have et : s.t = u.t := by
        by_cases q1 : s.t < u.t
        · exfalso
          have h2 : has (s :: L) u.r s.t := (h u.r s.t).2 ⟨u, .head _, rfl, by have := okL.2.1; omega, q1⟩
          rcases has_cons.1 h2 with ⟨_, _, h3⟩ | h3
          · omega
          · obtain ⟨h4, v, _, e1, e2, e3, e4⟩ := has_ge gL h3
            exact e4.2 (by have := e4.1; omega) (by rw [er, e1])
        · by_cases q2 : u.t < s.t
          · exfalso
            have h2 : has (u :: M) s.r u.t := (h s.r u.t).1 ⟨s, .head _, rfl, by have := okM.2.1; omega, q2⟩
            rcases has_cons.1 h2 with ⟨_, _, h3⟩ | h3
            · omega
            · obtain ⟨h4, v, _, e1, e2, e3, e4⟩ := has_ge gM h3
              exact e4.2 (by have := e4.1; omega) (by rw [← er, e1])
          · omega
      have esu : s = u := by
        obtain ⟨a, b, c⟩ := s
        obtain ⟨a', b', c'⟩ := u
        simp only at ef er et
        rw [ef, er, et]
      subst esu
      rw [ih gL.tail gM.tail fun r x => ?_]
      constructor
      · intro h1
        rcases has_cons.1 ((h r x).1 (has_cons.2 (.inr h1))) with h2 | h2
        · have := (has_ge gL h1).1; omega
        · exact h2
      · intro h1
        rcases has_cons.1 ((h r x).2 (has_cons.2 (.inr h1))) with h2 | h2
        · have := (has_ge gM h1).1; omega
        · exact h2

def cutS (p : Int → Bool) (upto : Int) (s : Slot) : Option Slot := if p s.r = true then (if max s.f upto ≥ s.t then none else some ⟨max s.f upto, s.t, s.r⟩) else some s
def cutL (p : Int → Bool) (upto : Int) (L : List Slot) : List Slot := L.filterMap (cutS p upto)

theorem cutS_some {p : Int → Bool} {upto : Int} {s u : Slot} (h : cutS p upto s = some u) : u.t = s.t ∧ u.r = s.r ∧ s.f ≤ u.f ∧ (s.f < s.t → u.f < u.t) ∧ (p s.r = true → upto ≤ u.f) ∧ u.f = (if p s.r = true then max s.f upto else s.f) := by
  unfold cutS at h
  split at h
  · rename_i h1
    split at h
    · cases h
    · cases h
      rw [if_pos h1]
      exact ⟨rfl, rfl, by show s.f ≤ max s.f upto; omega, fun _ => by show max s.f upto < s.t; omega, fun _ => by show upto ≤ max s.f upto; omega, rfl⟩
  · rename_i h1
    cases h
    rw [if_neg h1]
    exact ⟨rfl, rfl, by omega, id, fun h => absurd h h1, rfl⟩

theorem cut_spec {p : Int → Bool} {upto : Int} {L : List Slot} (g : Good L) : Good (cutL p upto L) ∧ ∀ r x, has (cutL p upto L) r x ↔ has L r x ∧ (p r = true → upto ≤ x) := by
  refine ⟨⟨fun u hu => ?_, ?_⟩, fun r x => ⟨?_, ?_⟩⟩
  · obtain ⟨s, hs, e⟩ := List.mem_filterMap.1 hu
    obtain ⟨e1, e2, e3, e4, _⟩ := cutS_some e
    have := g.ok s hs
    exact ⟨by have := this.1; omega, e4 this.2.1, by rw [e1]; exact this.2.2.1, by rw [e2]; exact this.2.2.2⟩
  · refine List.Pairwise.filterMap (R := sepS) (cutS p upto) (fun a b hab u hu v hv => ?_) g.apart
    obtain ⟨e1, e2, _⟩ := cutS_some hu
    obtain ⟨d1, d2, d3, _⟩ := cutS_some hv
    exact ⟨by have := hab.1; omega, fun hh => by rw [e2, d2]; exact hab.2 (by have := hab.1; omega)⟩
  · rintro ⟨u, hu, rfl, e1, e2⟩
    obtain ⟨s, hs, e⟩ := List.mem_filterMap.1 hu
    obtain ⟨d1, d2, d3, d4, d5, _⟩ := cutS_some e
    exact ⟨⟨s, hs, d2.symm, by omega, by omega⟩, fun hp => by rw [d2] at hp; have := d5 hp; omega⟩
  · rintro ⟨⟨s, hs, rfl, e1, e2⟩, h2⟩
    refine ⟨(if p s.r = true then ⟨max s.f upto, s.t, s.r⟩ else s), List.mem_filterMap.2 ⟨s, hs, ?_⟩, ?_⟩
    · unfold cutS
      by_cases hp : p s.r = true
      · rw [if_pos hp, if_pos hp, if_neg (by have := h2 hp; omega)]
      · rw [if_neg hp, if_neg hp]
    · by_cases hp : p s.r = true
      · rw [if_pos hp]
        exact ⟨rfl, by have := h2 hp; show max s.f upto ≤ x; omega, e2⟩
      · rw [if_neg hp]
        exact ⟨rfl, e1, e2⟩

def gapsFrom (r : Int) : List Slot → Int → List (Int × Int)
  | [], a => if a < FV then [(a, FV)] else []
  | s :: L, a => if s.r = r then gapsFrom r L a else if s.f > a then (a, s.f) :: gapsFrom r L s.t else gapsFrom r L s.t
def gapsL (L : List Slot) (r : Int) : List (Int × Int) := gapsFrom r L 0

def others (L : List Slot) (r : Int) : List Slot := L.filter fun s => !(s.r == r)

theorem good_filter {L : List Slot} (g : Good L) (p : Slot → Bool) : Good (L.filter p) := ⟨fun s hs => g.ok s (List.mem_filter.1 hs).1, g.apart.filter _⟩

theorem has_others {L : List Slot} {r r' x : Int} : has (others L r) r' x ↔ has L r' x ∧ r' ≠ r := by
  unfold has others
  constructor
  · rintro ⟨s, hs, rfl, e⟩
    obtain ⟨h1, h2⟩ := List.mem_filter.1 hs
    exact ⟨⟨s, h1, rfl, e⟩, by simpa using h2⟩
  · rintro ⟨⟨s, hs, rfl, e⟩, hne⟩
    exact ⟨s, List.mem_filter.2 ⟨hs, by simpa using hne⟩, rfl, e⟩

/-- A put of one robot leaves the others' slots. -/
theorem put_others {L : List Slot} {r f t : Int} (g : Good L) (h0 : 0 ≤ f) (h1 : f < t) (h2 : t ≤ FV) (hr : 0 ≤ r) (hf : freeB L r f t = true) : others (putL L r f t) r = others L r := by
  obtain ⟨g1, h, _⟩ := put_spec g h0 h1 h2 hr hf
  refine good_ext (good_filter g1 _) (good_filter g _) fun r' x => ?_
  rw [has_others, has_others, h]
  constructor
  · rintro ⟨h1 | h1, h2⟩
    · exact ⟨h1, h2⟩
    · exact absurd h1.1 h2
  · rintro ⟨h1, h2⟩
    exact ⟨.inl h1, h2⟩

theorem free_others {L : List Slot} {r f t : Int} : freeB (others L r) r f t = freeB L r f t := by
  rw [Bool.eq_iff_iff, free_iff, free_iff]
  unfold others
  constructor
  · intro h s hs hr
    exact h s (List.mem_filter.2 ⟨hs, by simpa using hr⟩) hr
  · intro h s hs hr
    exact h s (List.mem_filter.1 hs).1 hr

theorem free_put {L : List Slot} {r f t f2 t2 : Int} (g : Good L) (h0 : 0 ≤ f) (h1 : f < t) (h2 : t ≤ FV) (hr : 0 ≤ r) (hf : freeB L r f t = true) : freeB (putL L r f t) r f2 t2 = freeB L r f2 t2 := by
  rw [← free_others, put_others g h0 h1 h2 hr hf, free_others]

theorem merge_len {r : Int} : ∀ {L : List Slot} {f t : Int} {out : List Slot}, (mergeL r L f t out).2.2.length ≤ out.length + L.length := by
  intro L
  induction L with
  | nil => intro f t out; simp [mergeL]
  | cons s L ih =>
    intro f t out
    unfold mergeL
    split
    · have := ih (f := min f s.f) (t := max t s.t) (out := out); simp; omega
    · have := ih (f := f) (t := t) (out := out ++ [s]); simp at this ⊢; omega
theorem ins_len {out : List Slot} {x : Slot} : (insAt out x).length = out.length + 1 := by
  have e := congrArg List.length (List.takeWhile_append_dropWhile (p := fun s => decide (s.f < x.f)) (l := out))
  rw [List.length_append] at e
  unfold insAt
  rw [List.length_append, List.length_cons]
  omega
theorem put_len {L : List Slot} {r f t : Int} : (putL L r f t).length ≤ L.length + 1 := by
  unfold putL
  rw [ins_len]
  have := merge_len (r := r) (L := L) (f := f) (t := t) (out := [])
  simp at this
  omega
theorem cut_len {p : Int → Bool} {u : Int} {L : List Slot} : (cutL p u L).length ≤ L.length := List.length_filterMap_le _ _
end Go.Proofs.Resv
