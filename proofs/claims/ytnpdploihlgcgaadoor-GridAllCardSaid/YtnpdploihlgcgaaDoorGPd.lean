/- Each legal run and turn is among the moves of its pose, just once. -/
import Derived.Test.YtnpdploihlgcgaaDoorGPc
set_option linter.unusedSimpArgs false
set_option linter.unusedVariables false
namespace Go.Proofs.YtnpdploihlgcgaaDoor
open Go Go.HL

variable {C : Conf}

theorem mem_runFrom {α : Type} {ok : Nat → Bool} {mk : Nat → α} {x : α} : ∀ {k n : Nat}, x ∈ runFrom ok mk n k ↔ ∃ j, n ≤ j ∧ j < n + k ∧ x = mk j ∧ ∀ i, n ≤ i → i ≤ j → ok i = true
  | 0, n => by
    unfold runFrom
    simp only [List.not_mem_nil, false_iff]
    rintro ⟨j, h1, h2, _⟩
    omega
  | k + 1, n => by
    unfold runFrom
    cases hb : ok n with
    | false =>
      simp only [Bool.false_eq_true, if_false, List.not_mem_nil, false_iff]
      rintro ⟨j, h1, h2, _, h⟩
      have := h n (Nat.le_refl _) h1
      rw [hb] at this; cases this
    | true =>
      simp only [if_true, List.mem_cons]
      rw [mem_runFrom]
      constructor
      · rintro (rfl | ⟨j, h1, h2, rfl, h⟩)
        · exact ⟨n, Nat.le_refl _, by omega, rfl, fun i a b => by obtain rfl : i = n := by omega
                                                                  exact hb⟩
        · exact ⟨j, by omega, by omega, rfl, fun i a b => by
            by_cases hi : i = n
            · subst hi; exact hb
            · exact h i (by omega) b⟩
      · rintro ⟨j, h1, h2, rfl, h⟩
        by_cases hj : j = n
        · subst hj; exact .inl rfl
        · exact .inr ⟨j, by omega, by omega, rfl, fun i a b => h i (by omega) b⟩
theorem nodup_runFrom {α : Type} {ok : Nat → Bool} {mk : Nat → α} (inj : ∀ i j, mk i = mk j → i = j) : ∀ {k n : Nat}, (runFrom ok mk n k).Nodup
  | 0, n => by unfold runFrom; exact List.nodup_nil
  | k + 1, n => by
    unfold runFrom
    split
    · refine List.nodup_cons.2 ⟨fun h => ?_, nodup_runFrom inj⟩
      obtain ⟨j, h1, _, h2, _⟩ := mem_runFrom.1 h
      have := inj _ _ h2
      omega
    · exact List.nodup_nil
theorem mem_dirsL {α : Type} {D : Nat → List α} {x : α} : ∀ {k i : Nat}, x ∈ dirsL D i k ↔ ∃ j, i ≤ j ∧ j < i + k ∧ x ∈ D j
  | 0, i => by
    unfold dirsL
    simp only [List.not_mem_nil, false_iff]
    rintro ⟨j, h1, h2, _⟩
    omega
  | k + 1, i => by
    unfold dirsL
    rw [List.mem_append, mem_dirsL]
    constructor
    · rintro (h | ⟨j, h1, h2, h⟩)
      · exact ⟨i, Nat.le_refl _, by omega, h⟩
      · exact ⟨j, by omega, by omega, h⟩
    · rintro ⟨j, h1, h2, h⟩
      by_cases hj : j = i
      · subst hj; exact .inl h
      · exact .inr ⟨j, by omega, by omega, h⟩
theorem nodup_dirsL {α : Type} {D : Nat → List α} (h : ∀ i, (D i).Nodup) (dis : ∀ i j x, x ∈ D i → x ∈ D j → i = j) : ∀ {k i : Nat}, (dirsL D i k).Nodup
  | 0, i => by unfold dirsL; exact List.nodup_nil
  | k + 1, i => by
    unfold dirsL
    refine List.nodup_append.2 ⟨h i, nodup_dirsL h dis, fun a ha b hb e => ?_⟩
    subst e
    obtain ⟨j, h1, h2, h3⟩ := mem_dirsL.1 hb
    have := dis _ _ _ ha h3
    omega

theorem mkR_inj {p : Pose} {d d' n n' : Nat} (h : mkR p d n = mkR p d' n') : d = d' ∧ n = n' := by
  have h1 : (mkR p d n).d = (mkR p d' n').d := by rw [h]
  have h2 : (mkR p d n).n = (mkR p d' n').n := by rw [h]
  exact ⟨Int.ofNat.inj h1, Int.ofNat.inj h2⟩

theorem mem_rrun {p : Pose} {d : Nat} {x : Move} (h : x ∈ rrunD C p d) : ∃ n, 1 ≤ n ∧ n < 17 ∧ x = mkR p d n ∧ legalR C x = true := by
  obtain ⟨n, h1, h2, rfl, h3⟩ := mem_runFrom.1 h
  exact ⟨n, h1, by omega, rfl, h3 n h1 (Nat.le_refl _)⟩

theorem moves_nodup {p : Pose} : (rmovesL C p).Nodup := by
  unfold rmovesL
  split
  · refine List.nodup_append.2 ⟨nodup_dirsL (fun i => nodup_runFrom fun a b e => (mkR_inj e).2) (fun i j x hi hj => ?_), ?_, fun a ha b hb e => ?_⟩
    · obtain ⟨n, _, _, e1, _⟩ := mem_rrun hi
      obtain ⟨n', _, _, e2, _⟩ := mem_rrun hj
      exact (mkR_inj (e1.symm.trans e2)).1
    · split
      · exact List.nodup_cons.2 ⟨by simp, List.nodup_nil⟩
      · exact List.nodup_nil
    · obtain ⟨j, _, _, hj⟩ := mem_dirsL.1 ha
      obtain ⟨n, _, _, e1, _⟩ := mem_rrun hj
      split at hb
      · simp at hb
        have : a.k = b.k := by rw [e]
        rw [e1, hb] at this
        exact absurd this (show ¬ (1 : Int) = 2 by decide)
      · cases hb
  · exact List.nodup_nil

theorem legal_fits {m : Move} (h : legalR C m = true) : fitsB C m.f = true := by
  unfold legalR at h
  exact (Bool.and_eq_true _ _ ▸ h).1

theorem moves_mem {m : Move} (ha : m.a = 0) (he : m.e = 0) : m ∈ rmovesL C m.f ↔ legalR C m = true ∧ (m.k = 1 ∨ m.k = 2) := by
  constructor
  · intro h
    unfold rmovesL at h
    split at h
    · rcases List.mem_append.1 h with h | h
      · obtain ⟨j, _, _, hj⟩ := mem_dirsL.1 h
        obtain ⟨n, _, _, e1, e2⟩ := mem_rrun hj
        exact ⟨e2, .inl (by rw [e1]; rfl)⟩
      · split at h
        · rename_i hl
          simp at h
          exact ⟨by rw [h]; exact hl, .inr (by rw [h]; rfl)⟩
        · cases h
    · cases h
  · rintro ⟨hl, hk⟩
    have hf := legal_fits hl
    unfold rmovesL
    rw [if_pos hf]
    have hl0 := hl
    unfold legalR at hl
    rw [hf, Bool.true_and] at hl
    rcases hk with hk | hk
    · rw [if_pos hk] at hl
      simp only [Bool.and_eq_true, decide_eq_true_eq] at hl
      obtain ⟨hn, hd, ht, hs⟩ := hl
      obtain ⟨n1, n2⟩ := withinB_iff.1 hn
      obtain ⟨d1, d2⟩ := withinB_iff.1 hd
      have ed : ((m.d.toNat : Nat) : Int) = m.d := Int.toNat_of_nonneg d1
      have en : ((m.n.toNat : Nat) : Int) = m.n := Int.toNat_of_nonneg (by omega)
      refine List.mem_append_left _ (mem_dirsL.2 ⟨m.d.toNat, Nat.zero_le _, by omega, mem_runFrom.2 ⟨m.n.toNat, by omega, by omega, ?_, fun i h1 h2 => ?_⟩⟩)
      · obtain ⟨k, d, n, f, t, a, e⟩ := m
        simp only at hk ha he ht ed en
        subst hk ha he ht
        simp only [mkR, ed, en]
      · unfold legalR
        rw [show (mkR m.f m.d.toNat i).f = m.f from rfl, hf, Bool.true_and, if_pos (show (mkR m.f m.d.toNat i).k = 1 from rfl)]
        simp only [Bool.and_eq_true, decide_eq_true_eq]
        refine ⟨withinB_iff.2 (show (1 : Int) ≤ (i : Int) ∧ (i : Int) ≤ 16 by omega), withinB_iff.2 (show (0 : Int) ≤ ((m.d.toNat : Nat) : Int) ∧ ((m.d.toNat : Nat) : Int) ≤ 3 by omega), rfl, ?_⟩
        rw [List.all_eq_true] at hs ⊢
        intro j hj
        have hj := List.mem_range.1 hj
        have hj2 : j < i := by simpa [mkR] using hj
        have := hs j (List.mem_range.2 (by omega))
        unfold rstepB at this ⊢
        show fitsB C (shiftR m.f ((m.d.toNat : Nat) : Int) ((j : Int) + 1)) = true
        rw [ed]
        exact this
    · rw [if_neg (by omega), if_pos hk] at hl
      simp only [Bool.and_eq_true, decide_eq_true_eq] at hl
      obtain ⟨_, hn, hd, ht⟩ := hl
      have e : m = turnM m.f := by
        obtain ⟨k, d, n, f, t, a, e⟩ := m
        simp only at hk ha he ht hn hd
        subst hk ha he ht hn hd
        rfl
      refine List.mem_append_right _ ?_
      rw [← e, if_pos hl0]
      simp

theorem moves_count {m : Move} (ha : m.a = 0) (he : m.e = 0) : (rmovesL C m.f).count m = if legalR C m = true ∧ (m.k = 1 ∨ m.k = 2) then 1 else 0 := by
  have h1 := List.nodup_iff_count.1 (moves_nodup (C := C) (p := m.f)) m
  split
  · rename_i h
    have := List.count_pos_iff.2 ((moves_mem ha he).2 h)
    omega
  · rename_i h
    exact List.count_eq_zero.2 fun q => h ((moves_mem ha he).1 q)

end Go.Proofs.YtnpdploihlgcgaaDoor
