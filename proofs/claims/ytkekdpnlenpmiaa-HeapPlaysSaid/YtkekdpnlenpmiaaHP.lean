/- The plain law of the heap: what lies in heap order; up and down keep it; what is taken out is the least. -/
import Derived.Test.YtkekdpnlenpmiaaHF
set_option linter.unusedSimpArgs false
set_option linter.unusedVariables false
namespace Go.Proofs.Ytkekdpnlenpmiaa
open Go Go.HL

theorem lt_iff {x y : It} : x.lt y = true ↔ x.k < y.k ∨ (x.k = y.k ∧ x.n < y.n) := by
  unfold It.lt
  split
  · simp; omega
  · split
    · simp; omega
    · simp; omega

/-- x does not come behind y. -/
def It.le (x y : It) : Prop := y.lt x = false

theorem le_iff {x y : It} : x.le y ↔ x.k < y.k ∨ (x.k = y.k ∧ x.n ≤ y.n) := by
  unfold It.le
  rw [Bool.eq_false_iff, ne_eq, lt_iff]
  omega

theorem It.le.trans {x y z : It} (a : x.le y) (b : y.le z) : x.le z := by
  rw [le_iff] at *; omega
theorem It.le.refl (x : It) : x.le x := by rw [le_iff]; omega
theorem le_of_lt {x y : It} (a : x.lt y = true) : x.le y := by rw [le_iff]; rw [lt_iff] at a; omega
theorem le_total (x y : It) : x.le y ∨ y.le x := by rw [le_iff, le_iff]; omega

def at_ (L : List It) (i : Nat) : It := L.getD i ⟨0, 0, 0⟩

theorem at_get {L : List It} {i : Nat} (h : i < L.length) : L[i]? = some (at_ L i) := by
  unfold at_
  rw [List.getD_eq_getElem?_getD, List.getElem?_eq_getElem h]
  rfl

theorem ahead_at {L : List It} {i j : Nat} (hi : i < L.length) (hj : j < L.length) : aheadL L i j = (at_ L i).lt (at_ L j) := by
  simp [aheadL, at_get hi, at_get hj]

theorem swap_at {L : List It} {i j : Nat} (hi : i < L.length) (hj : j < L.length) (k : Nat) : at_ (swapL L i j) k = if k = j then at_ L i else if k = i then at_ L j else at_ L k := by
  unfold swapL
  rw [at_get hi, at_get hj]
  simp only
  unfold at_
  simp only [List.getD_eq_getElem?_getD]
  by_cases h1 : k = j
  · subst h1; rw [if_pos rfl, List.getElem?_set_self (by simpa using hj)]; rfl
  · rw [if_neg h1, List.getElem?_set_ne (Ne.symm h1)]
    by_cases h2 : k = i
    · subst h2; rw [if_pos rfl, List.getElem?_set_self hi]; rfl
    · rw [if_neg h2, List.getElem?_set_ne (Ne.symm h2)]

theorem swap_perm (L : List It) (i j : Nat) : (swapL L i j).Perm L := by
  unfold swapL
  split
  · rename_i x y hx hy
    obtain ⟨hi, rfl⟩ := List.getElem?_eq_some_iff.1 hx
    obtain ⟨hj, rfl⟩ := List.getElem?_eq_some_iff.1 hy
    exact List.set_set_perm hi hj
  · exact .refl _

def heapOk (L : List It) : Prop := ∀ j, 0 < j → j < L.length → (at_ L ((j - 1) / 2)).le (at_ L j)

def upOk (L : List It) (i : Nat) : Prop := (∀ j, 0 < j → j < L.length → j ≠ i → (at_ L ((j - 1) / 2)).le (at_ L j)) ∧
  (∀ j, 0 < j → j < L.length → (j - 1) / 2 = i → 0 < i → (at_ L ((i - 1) / 2)).le (at_ L j))

theorem siftUp_ok : ∀ (i : Nat) (L : List It), i < L.length → upOk L i → heapOk (siftUp L i) := by
  intro i
  induction i using Nat.strongRecOn with
  | _ i ih =>
    intro L hi ⟨h1, h2⟩
    rw [siftUp]
    split
    · rename_i h
      obtain ⟨h0, ha⟩ := h
      have hp : (i - 1) / 2 < L.length := by omega
      rw [ahead_at hi hp] at ha
      refine ih _ (by omega) _ (by rw [swapL_length]; exact hp) ⟨?_, ?_⟩
      · intro j j0 jl jne
        rw [swapL_length] at jl
        rw [swap_at hi hp, swap_at hi hp]
        by_cases e1 : j = i
        · subst e1
          rw [if_pos rfl, if_neg jne, if_pos rfl]
          exact le_of_lt ha
        · rw [if_neg jne, if_neg e1]
          by_cases e2 : (j - 1) / 2 = (i - 1) / 2
          · rw [if_pos e2]
            have := h1 j j0 jl e1
            rw [e2] at this
            exact (le_of_lt ha).trans this
          · rw [if_neg e2]
            by_cases e3 : (j - 1) / 2 = i
            · rw [if_pos e3]
              exact h2 j j0 jl e3 h0
            · rw [if_neg e3]
              exact h1 j j0 jl e1
      · intro j j0 jl jp p0
        rw [swapL_length] at jl
        rw [swap_at hi hp, swap_at hi hp]
        rw [if_neg (by omega), if_neg (by omega), if_neg (by omega)]
        by_cases e1 : j = i
        · rw [if_pos e1]
          exact h1 _ p0 hp (by omega)
        · rw [if_neg e1]
          have a1 := h1 j j0 jl e1
          rw [jp] at a1
          exact (h1 _ p0 hp (by omega)).trans a1
    · rename_i h
      intro j j0 jl
      by_cases e : j = i
      · subst e
        have : aheadL L j ((j - 1) / 2) = false := by
          cases ha : aheadL L j ((j - 1) / 2) with
          | false => rfl
          | true => exact absurd ⟨j0, ha⟩ h
        rw [ahead_at jl (by omega)] at this
        exact this
      · exact h1 j j0 jl e

theorem siftUp_perm (i : Nat) : ∀ L : List It, (siftUp L i).Perm L := by
  induction i using Nat.strongRecOn with
  | _ i ih =>
    intro L
    rw [siftUp]
    split
    · rename_i h
      exact (ih _ (by omega) _).trans (swap_perm _ _ _)
    · exact .refl _

def downOk (L : List It) (i : Nat) : Prop := (∀ j, 0 < j → j < L.length → (j - 1) / 2 ≠ i → (at_ L ((j - 1) / 2)).le (at_ L j)) ∧
  (∀ j, 0 < j → j < L.length → (j - 1) / 2 = i → 0 < i → (at_ L ((i - 1) / 2)).le (at_ L j))

theorem pick_le {L : List It} {f k : Nat} (hf : f < L.length) : (at_ L (pickFirst L f k)).le (at_ L f) ∧ (k < L.length → (at_ L (pickFirst L f k)).le (at_ L k)) := by
  unfold pickFirst
  split
  · rename_i h
    rw [ahead_at h.1 hf] at h
    exact ⟨le_of_lt h.2, fun _ => .refl _⟩
  · rename_i h
    refine ⟨.refl _, fun hk => ?_⟩
    have : aheadL L k f = false := by
      cases ha : aheadL L k f with
      | false => rfl
      | true => exact absurd ⟨hk, ha⟩ h
    rw [ahead_at hk hf] at this
    exact this

theorem firstOf_le {L : List It} {i : Nat} (hi : i < L.length) : (at_ L (firstOf L i)).le (at_ L i) ∧ ∀ j, 0 < j → j < L.length → (j - 1) / 2 = i → (at_ L (firstOf L i)).le (at_ L j) := by
  have h1 := pick_le (L := L) (f := i) (k := 2 * i + 1) hi
  have hp : pickFirst L i (2 * i + 1) < L.length := by
    rcases pick_or L i (2 * i + 1) with h | ⟨h, h'⟩ <;> omega
  have h2 := pick_le (L := L) (f := pickFirst L i (2 * i + 1)) (k := 2 * i + 2) hp
  refine ⟨h2.1.trans h1.1, fun j j0 jl jp => ?_⟩
  rcases (show j = 2 * i + 1 ∨ j = 2 * i + 2 by omega) with rfl | rfl
  · exact h2.1.trans (h1.2 jl)
  · exact h2.2 jl

theorem firstOf_par {L : List It} {i : Nat} (h : firstOf L i ≠ i) : (firstOf L i - 1) / 2 = i := by
  unfold firstOf at *
  rcases pick_or L (pickFirst L i (2 * i + 1)) (2 * i + 2) with e | ⟨e, _⟩
  · rw [e] at h ⊢
    rcases pick_or L i (2 * i + 1) with e | ⟨e, _⟩
    · exact absurd e h
    · rw [e]; omega
  · rw [e]; omega

theorem siftDown_ok : ∀ (m : Nat) (i : Nat) (L : List It), L.length - i ≤ m → i < L.length → downOk L i → heapOk (siftDown L i) := by
  intro m
  induction m with
  | zero => intro i L hm hi; omega
  | succ m ih =>
    intro i L hm hi ⟨h1, h2⟩
    have hle := firstOf_le hi
    rw [siftDown]
    split
    · rename_i h
      intro j j0 jl
      by_cases e : (j - 1) / 2 = i
      · rw [h] at hle
        rw [e]
        exact hle.2 j j0 jl e
      · exact h1 j j0 jl e
    · rename_i h
      obtain ⟨f1, f2⟩ := (firstOf_or L i).resolve_left h
      have fp := firstOf_par h
      generalize firstOf L i = f at *
      refine ih f _ (by rw [swapL_length]; omega) (by rw [swapL_length]; exact f2) ⟨?_, ?_⟩
      · intro j j0 jl jp
        rw [swapL_length] at jl
        rw [swap_at hi f2, swap_at hi f2]
        by_cases e1 : j = f
        · subst e1
          rw [if_pos rfl, if_neg jp, if_pos fp]
          exact hle.1
        · rw [if_neg jp, if_neg e1]
          by_cases e2 : j = i
          · subst e2
            rw [if_pos rfl, if_neg (by omega)]
            exact h2 f (by omega) f2 fp j0
          · rw [if_neg e2]
            by_cases e3 : (j - 1) / 2 = i
            · rw [if_pos e3]
              exact hle.2 j j0 jl e3
            · rw [if_neg e3]
              exact h1 j j0 jl e3
      · intro j j0 jl jp _
        rw [swapL_length] at jl
        rw [swap_at hi f2, swap_at hi f2, fp]
        rw [if_neg (by omega), if_pos rfl, if_neg (by omega), if_neg (by omega)]
        have := h1 j j0 jl (by omega)
        rwa [jp] at this

theorem siftDown_perm : ∀ (m : Nat) (i : Nat) (L : List It), L.length - i ≤ m → (siftDown L i).Perm L := by
  intro m
  induction m with
  | zero =>
    intro i L hm
    rw [siftDown]
    split
    · exact .refl _
    · rename_i h; have := (firstOf_or L i).resolve_left h; omega
  | succ m ih =>
    intro i L hm
    rw [siftDown]
    split
    · exact .refl _
    · rename_i h
      have := (firstOf_or L i).resolve_left h
      exact (ih _ _ (by rw [swapL_length]; omega)).trans (swap_perm _ _ _)

/-- The first one comes behind none. -/
theorem heap_root {L : List It} (h : heapOk L) : ∀ j, j < L.length → (at_ L 0).le (at_ L j) := by
  intro j
  induction j using Nat.strongRecOn with
  | _ j ih =>
    intro hj
    by_cases j0 : j = 0
    · subst j0; exact .refl _
    · exact (ih _ (by omega) (by omega)).trans (h j (by omega) hj)

theorem at_append_left {L M : List It} {j : Nat} (h : j < L.length) : at_ (L ++ M) j = at_ L j := by
  unfold at_
  simp only [List.getD_eq_getElem?_getD]
  rw [List.getElem?_append_left h]

/-- Put in. -/
theorem push_ok {L : List It} {x : It} (h : heapOk L) : heapOk (siftUp (L ++ [x]) L.length) ∧ (siftUp (L ++ [x]) L.length).Perm (x :: L) := by
  refine ⟨siftUp_ok _ _ (by simp) ⟨fun j j0 jl jne => ?_, fun j j0 jl jp _ => ?_⟩, (siftUp_perm _ _).trans (List.perm_append_singleton _ _)⟩
  · simp at jl
    rw [at_append_left (by omega), at_append_left (by omega)]
    exact h j j0 (by omega)
  · simp at jl
    omega

theorem at_dropLast {L : List It} {j : Nat} (h : j < L.length - 1) : at_ L.dropLast j = at_ L j := by
  unfold at_
  simp only [List.getD_eq_getElem?_getD, List.dropLast_eq_take]
  rw [List.getElem?_take_of_lt h]

/-- Taken out. -/
theorem pop_ok {x : It} {L : List It} (h : heapOk (x :: L)) : heapOk (popL (x :: L)) ∧ (x :: L).Perm (x :: popL (x :: L)) ∧ ∀ y ∈ L, x.le y := by
  have hroot : ∀ y ∈ L, x.le y := by
    intro y hy
    obtain ⟨i, hi, rfl⟩ := List.getElem_of_mem hy
    have := heap_root h (i + 1) (by simpa using hi)
    simpa [at_, List.getD_eq_getElem?_getD, hi] using this
  have hM : (x :: L).length - 1 < (x :: L).length := by simp
  have h0 : 0 < (x :: L).length := by simp
  have hsl := swapL_length (x :: L) 0 ((x :: L).length - 1)
  have hpop : heapOk (popL (x :: L)) := by
    unfold popL
    by_cases hl : L = []
    · subst hl
      intro j j0 jl
      rw [siftDown_length, List.length_dropLast, swapL_length] at jl
      simp at jl
    · have hl' : 0 < L.length := List.length_pos_iff.2 hl
      refine siftDown_ok _ 0 _ (Nat.le_refl _) (by rw [List.length_dropLast, swapL_length]; simpa using hl') ⟨fun j j0 jl jp => ?_, fun j j0 jl jp i0 => by omega⟩
      rw [List.length_dropLast, swapL_length] at jl
      rw [at_dropLast (by rw [swapL_length]; omega), at_dropLast (by rw [swapL_length]; omega), swap_at h0 hM, swap_at h0 hM]
      simp only [List.length_cons, Nat.add_sub_cancel] at jl ⊢
      rw [if_neg (by omega), if_neg (by omega), if_neg (by omega), if_neg (by omega)]
      exact h j j0 (by simp; omega)
  refine ⟨hpop, ?_, hroot⟩
  have p1 : (swapL (x :: L) 0 ((x :: L).length - 1)).Perm (x :: L) := swap_perm _ _ _
  have hne : swapL (x :: L) 0 ((x :: L).length - 1) ≠ [] := by intro e; rw [e] at hsl; simp at hsl
  have hlast : (swapL (x :: L) 0 ((x :: L).length - 1)).getLast hne = x := by
    rw [List.getLast_eq_getElem]
    have e := swap_at h0 hM ((x :: L).length - 1)
    rw [if_pos rfl] at e
    unfold at_ at e
    rw [List.getD_eq_getElem?_getD, List.getElem?_eq_getElem (by rw [hsl]; exact hM)] at e
    simp only [Option.getD_some] at e
    simp only [hsl]
    rw [e]
    rfl
  have p2 : (swapL (x :: L) 0 ((x :: L).length - 1)).Perm (x :: (swapL (x :: L) 0 ((x :: L).length - 1)).dropLast) := by
    conv => lhs; rw [← List.dropLast_concat_getLast hne, hlast]
    exact List.perm_append_singleton _ _
  exact p1.symm.trans (p2.trans ((siftDown_perm _ 0 _ (Nat.le_refl _)).symm.cons x))

end Go.Proofs.Ytkekdpnlenpmiaa
