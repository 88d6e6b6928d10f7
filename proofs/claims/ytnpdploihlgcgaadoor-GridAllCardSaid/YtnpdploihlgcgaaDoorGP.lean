/- The plain law: the program's grid and the reference let in the same configs, and their kinds of cells agree. -/
import Derived.Test.YtnpdploihlgcgaaDoorGO
set_option linter.unusedSimpArgs false
set_option linter.unusedVariables false
namespace Go.Proofs.YtnpdploihlgcgaaDoor
open Go Go.HL

theorem few_below : ∀ (n : Nat) (L : List Nat), L.Nodup → (∀ x ∈ L, x < n) → L.length ≤ n
  | 0, L, _, h => by
    cases L with
    | nil => simp
    | cons x L => exact absurd (h x (.head _)) (by omega)
  | n + 1, L, hn, h => by
    by_cases hm : n ∈ L
    · have h1 := few_below n (L.erase n) (hn.erase n) (fun x hx => by
        have h2 := h x (List.mem_of_mem_erase hx)
        have h3 : x ≠ n := (List.Nodup.mem_erase_iff hn).1 hx |>.1
        omega)
      rw [List.length_erase_of_mem hm] at h1
      have := List.length_pos_of_mem hm
      omega
    · have := few_below n L hn (fun x hx => by
        have h2 := h x hx
        have h3 : x ≠ n := fun e => hm (e ▸ hx)
        omega)
      omega

theorem few_cells {w k : Nat} {L : List Cell} (hn : L.Nodup) (h : ∀ c ∈ L, inW w k c = true) : L.length ≤ w * k := by
  have h1 := few_below (w * k) (L.map fun c => c.2.toNat * w + c.1.toNat) ?_ ?_
  · simpa using h1
  · rw [List.nodup_iff_pairwise_ne, List.pairwise_map]
    rw [List.nodup_iff_pairwise_ne] at hn
    refine List.Pairwise.imp_of_mem ?_ hn
    intro a b ha hb hab e
    apply hab
    obtain ⟨a1, a2, a3, a4⟩ := inW_iff.1 (h a ha)
    obtain ⟨b1, b2, b3, b4⟩ := inW_iff.1 (h b hb)
    have hw : 0 < w := by omega
    obtain ⟨x1, y1⟩ := (cellN (n := b.2.toNat * w + b.1.toNat) hw (show a.1.toNat < w by omega)).1 e
    obtain ⟨x2, y2⟩ := (cellN (n := b.2.toNat * w + b.1.toNat) hw (show b.1.toNat < w by omega)).1 rfl
    have e1 : a.1.toNat = b.1.toNat := by rw [x1, ← x2]
    have e2 : a.2.toNat = b.2.toNat := by rw [y1, ← y2]
    exact Prod.ext (by omega) (by omega)
  · intro x hx
    obtain ⟨c, hc, rfl⟩ := List.mem_map.1 hx
    exact (numI_nat (h c hc)).2.2.2

section
variable {C : Conf}

theorem within_wk (hw : withinB C.w 1 16 = true) (hk : withinB C.h 1 16 = true) : C.w = (wC C : Int) ∧ C.h = (kC C : Int) ∧ 1 ≤ wC C ∧ wC C ≤ 16 ∧ 1 ≤ kC C ∧ kC C ≤ 16 := by
  unfold withinB at hw hk
  simp only [Bool.and_eq_true, decide_eq_true_eq] at hw hk
  unfold wC kC
  omega

theorem inW_inB (hw : withinB C.w 1 16 = true) (hk : withinB C.h 1 16 = true) (c : Cell) : inW (wC C) (kC C) c = inB C c := by
  obtain ⟨e1, e2, _⟩ := within_wk hw hk
  rw [Bool.eq_iff_iff, inW_iff]
  unfold inB
  simp only [Bool.and_eq_true, decide_eq_true_eq]
  rw [e1, e2]
  constructor
  · rintro ⟨a, b, c, d⟩; exact ⟨a, c, b, d⟩
  · rintro ⟨a, b, c, d⟩; exact ⟨a, c, b, d⟩

/-- What was laid at a cell of the hive. -/
theorem f0_at {c : Cell} (h1 : 0 ≤ c.1) (h2 : 0 ≤ c.2) : fAt (f0C C) c = if c ∈ C.bl then -1 else if c ∈ C.po then (C.po.idxOf c : Int) + 1 else 0 := by
  have e : ((c.1.toNat : Int), (c.2.toNat : Int)) = c := by rw [Int.toNat_of_nonneg h1, Int.toNat_of_nonneg h2]
  unfold fAt f0C kd
  rw [e]
  by_cases hb : c ∈ C.bl
  · rw [if_pos (List.mem_append_left _ hb), if_pos hb, List.idxOf_append, if_pos hb, if_pos (List.idxOf_lt_length_of_mem hb)]
  · rw [if_neg hb]
    by_cases hp : c ∈ C.po
    · rw [if_pos (List.mem_append_right _ hp), if_pos hp, List.idxOf_append, if_neg hb, if_neg (by omega)]
      omega
    · rw [if_neg (by simp [hb, hp]), if_neg hp]

theorem open_eq (hw : withinB C.w 1 16 = true) (hk : withinB C.h 1 16 = true) (c : Cell) : openW (wC C) (kC C) (f0C C) c = openB C c := by
  unfold openW openB
  rw [inW_inB hw hk]
  cases hc : inB C c with
  | false => rfl
  | true =>
    have hc' := hc
    rw [← inW_inB hw hk] at hc'
    obtain ⟨a1, a2, a3, a4⟩ := inW_iff.1 hc'
    rw [f0_at a1 a3]
    simp only [Bool.true_and]
    rw [Bool.eq_iff_iff]
    by_cases hb : c ∈ C.bl
    · simp [hb, List.count_eq_zero]
    · have : List.count c C.bl = 0 := List.count_eq_zero.2 hb
      rw [if_neg hb]
      simp only [this, beq_self_eq_true, iff_true]
      split
      · simp; omega
      · simp

theorem fits_eq (hw : withinB C.w 1 16 = true) (hk : withinB C.h 1 16 = true) (p : Pose) : fitsW (wC C) (kC C) (f0C C) p = fitsB C p := by
  unfold fitsW fitsB
  rw [open_eq hw hk, open_eq hw hk]

/-- Which cells of the hive keep their kind. -/
theorem keep_eq (hw : withinB C.w 1 16 = true) (hk : withinB C.h 1 16 = true) {c : Cell} (hc : inB C c = true) : keepB (wC C) (kC C) (f0C C) c.1.toNat c.2.toNat = (decide (c ∈ C.bl) || besideB C c) := by
  have hc' := hc
  rw [← inW_inB hw hk] at hc'
  obtain ⟨a1, a2, a3, a4⟩ := inW_iff.1 hc'
  have e1 : (c.1.toNat : Int) = c.1 := Int.toNat_of_nonneg a1
  have e2 : (c.2.toNat : Int) = c.2 := Int.toNat_of_nonneg a3
  have hf := f0_at (C := C) a1 a3
  unfold keepB
  rw [fits_eq hw hk, fits_eq hw hk]
  rw [show f0C C c.1.toNat c.2.toNat = fAt (f0C C) c from rfl, hf]
  unfold fitsB east besideB
  simp only [e1, e2]
  by_cases hb : c ∈ C.bl
  · simp [hb]
  · have ho : openB C (c.1, c.2) = true := by
      unfold openB
      rw [show ((c.1, c.2) : Cell) = c from rfl, hc]
      simp [List.count_eq_zero.2 hb]
    rw [if_neg hb, ho]
    have hne : ((if c ∈ C.po then (C.po.idxOf c : Int) + 1 else 0) == -1) = false := by
      split
      · simp; omega
      · rfl
    rw [hne]
    simp [hb]

theorem home_iff {c : Cell} : homeB C c = true ↔ c ∈ C.ro.flatMap cellsP := by
  unfold homeB
  rw [List.any_eq_true, List.mem_flatMap]
  refine exists_congr fun p => and_congr_right fun _ => ?_
  rw [decide_eq_true_eq, ← List.count_pos_iff]
  omega

theorem port_iff {c : Cell} : portI C c < 0 ↔ c ∉ C.po := by
  unfold portI
  split
  · rename_i h; simp [h] <;> omega
  · rename_i h; simp [h]

theorem f1_at (hw : withinB C.w 1 16 = true) (hk : withinB C.h 1 16 = true) {c : Cell} (hc : inB C c = true) : fAt (f1 (wC C) (kC C) (f0C C)) c = if c ∈ C.bl then -1 else if besideB C c = true then (if c ∈ C.po then (C.po.idxOf c : Int) + 1 else 0) else -2 := by
  have hc' := hc
  rw [← inW_inB hw hk] at hc'
  obtain ⟨a1, a2, a3, a4⟩ := inW_iff.1 hc'
  unfold fAt f1
  rw [keep_eq hw hk hc, show f0C C c.1.toNat c.2.toNat = fAt (f0C C) c from rfl, f0_at a1 a3]
  by_cases hb : c ∈ C.bl
  · simp [hb]
  · by_cases hs : besideB C c = true
    · simp [hb, hs]
    · simp [hb, hs]

theorem f3_at (hw : withinB C.w 1 16 = true) (hk : withinB C.h 1 16 = true) {c : Cell} (hc : inB C c = true) : fAt (f3C C) c = if homeB C c = true then -2 else if c ∈ C.bl then -1 else if besideB C c = true then (if c ∈ C.po then (C.po.idxOf c : Int) + 1 else 0) else -2 := by
  have hc' := hc
  rw [← inW_inB hw hk] at hc'
  obtain ⟨a1, a2, a3, a4⟩ := inW_iff.1 hc'
  have e : ((c.1.toNat : Int), (c.2.toNat : Int)) = c := by rw [Int.toNat_of_nonneg a1, Int.toNat_of_nonneg a3]
  have h1 := f1_at hw hk hc
  unfold f3C fAt f2
  rw [e]
  by_cases hh : c ∈ C.ro.flatMap cellsP
  · rw [if_pos hh, if_pos (home_iff.2 hh)]
  · rw [if_neg hh, if_neg (fun q => hh (home_iff.1 q))]
    exact h1

theorem stacked_eq (hw : withinB C.w 1 16 = true) (hk : withinB C.h 1 16 = true) (c : Cell) : (inW (wC C) (kC C) c = true ∧ fAt (f3C C) c = 0) ↔ stackedB C c = true := by
  rw [inW_inB hw hk]
  unfold stackedB openB
  cases hc : inB C c with
  | false => simp
  | true =>
    rw [f3_at hw hk hc]
    simp only [Bool.true_and, true_and, Bool.and_eq_true, decide_eq_true_eq, beq_iff_eq, Bool.not_eq_true', port_iff, List.count_eq_zero]
    by_cases hh : homeB C c = true
    · simp [hh]
    · have hh' : homeB C c = false := by simpa using hh
      by_cases hb : c ∈ C.bl
      · simp [hh', hb]
      · by_cases hs : besideB C c = true
        · by_cases hp : c ∈ C.po
          · simp [hh', hb, hs, hp]; omega
          · simp [hh', hb, hs, hp]
        · have hs' : besideB C c = false := by simpa using hs
          simp [hh', hb, hs']

theorem six_iff : (∀ n ∈ [C.un, C.ac, C.sp, C.tu, C.ho, C.re], withinB n 1 1000 = true) ↔ withinB C.un 1 1000 = true ∧ withinB C.ac 1 1000 = true ∧ withinB C.sp 1 1000 = true ∧ withinB C.tu 1 1000 = true ∧ withinB C.ho 1 1000 = true ∧ withinB C.re 1 1000 = true := by
  simp only [List.mem_cons, List.not_mem_nil, or_false, forall_eq_or_imp, forall_eq]

theorem made_may : MadeOk C ↔ MayOk C := by
  constructor
  · intro M
    have hw := M.laid.w
    have hk := M.laid.h
    obtain ⟨e1, e2, w1, w2, k1, k2⟩ := within_wk hw hk
    have hm : wC C * kC C ≤ 16 * 16 := Nat.mul_le_mul w2 k2
    obtain ⟨s1, s2, s3, s4, s5, s6⟩ := six_iff.1 M.six
    have hnd := List.nodup_append.1 M.laid.once
    have hall := M.laid.all
    have hin : ∀ c ∈ C.bl ++ C.po, inB C c = true := fun c hc => by rw [← inW_inB hw hk]; exact hall c hc
    have hpb : ∀ c ∈ C.po, besideB C c = true := fun c hc => by
      have hcin := hin c (List.mem_append_right _ hc)
      have hcw := hall c (List.mem_append_right _ hc)
      obtain ⟨a1, a2, a3, a4⟩ := inW_iff.1 hcw
      have hnb : c ∉ C.bl := fun hb => hnd.2.2 c hb c hc rfl
      have hkeep := keep_eq hw hk hcin
      cases hs : besideB C c with
      | true => rfl
      | false =>
        exfalso
        have := M.rob.plain c.1.toNat c.2.toNat (by omega) (by omega) (by rw [hkeep, hs]; simp [hnb])
        rw [show f0C C c.1.toNat c.2.toNat = fAt (f0C C) c from rfl, f0_at a1 a3, if_neg hnb, if_pos hc] at this
        omega
    refine ⟨?_, M.laid.po8, M.rob.r8, ?_, fun c hc => ⟨hin c (List.mem_append_left _ hc), List.nodup_iff_count.1 hnd.1 c, List.count_eq_zero.2 fun hp => hnd.2.2 c hc c hp rfl⟩,
      fun c hc => ⟨hin c (List.mem_append_right _ hc), List.nodup_iff_count.1 hnd.2.1 c, ?_, hpb c hc⟩, fun p hp => by rw [← fits_eq hw hk]; exact M.rob.fit p hp, fun c _ => List.nodup_iff_count.1 M.rob.once c, ?_⟩
    · unfold numbersB
      simp [hw, hk, M.ht, M.qu, M.bu, s1, s2, s3, s4, s5, s6]
    · have := few_cells (w := wC C) (k := kC C) hnd.1 (fun c hc => hall c (List.mem_append_left _ hc))
      omega
    · cases hh : homeB C c with
      | false => rfl
      | true =>
        exfalso
        have := M.rob.low c (home_iff.1 hh)
        rw [f1_at hw hk (hin c (List.mem_append_right _ hc)), if_neg (fun hb => hnd.2.2 c hb c hc rfl), if_pos (hpb c hc), if_pos hc] at this
        omega
    · refine ⟨?_, fun s hs => ?_, M.sta.apart, M.sta.most, M.sta.nums, M.sta.once⟩
      · have := few_cells (w := wC C) (k := kC C) M.sta.apart (fun c hc => by
          obtain ⟨s, hs, rfl⟩ := List.mem_map.1 hc
          exact (M.sta.each s hs).1)
        rw [List.length_map] at this
        omega
      · obtain ⟨q1, q2, q3⟩ := M.sta.each s hs
        exact ⟨(stacked_eq hw hk s.1).1 ⟨q1, q2⟩, q3⟩
  · intro M
    have hn := M.nums
    unfold numbersB at hn
    simp only [Bool.and_eq_true] at hn
    obtain ⟨hw, hk, hht, s1, s2, s3, s4, s5, s6, hqu, hbu⟩ := hn
    obtain ⟨e1, e2, w1, w2, k1, k2⟩ := within_wk hw hk
    have hin : ∀ c ∈ C.bl ++ C.po, inW (wC C) (kC C) c = true := fun c hc => by
      rw [inW_inB hw hk]
      rcases List.mem_append.1 hc with h | h
      · exact (M.blk c h).1
      · exact (M.prt c h).1
    have hnb : C.bl.Nodup := List.nodup_iff_count.2 fun c => by
      by_cases hc : c ∈ C.bl
      · exact (M.blk c hc).2.1
      · rw [List.count_eq_zero.2 hc]; omega
    have hnp : C.po.Nodup := List.nodup_iff_count.2 fun c => by
      by_cases hc : c ∈ C.po
      · exact (M.prt c hc).2.1
      · rw [List.count_eq_zero.2 hc]; omega
    have hdis : ∀ a ∈ C.bl, ∀ b ∈ C.po, a ≠ b := fun a ha b hb e => by
      have := (M.blk a ha).2.2
      rw [List.count_eq_zero] at this
      exact this (e ▸ hb)
    have hnd : (C.bl ++ C.po).Nodup := List.nodup_append.2 ⟨hnb, hnp, hdis⟩
    have hlaid : LaidOk C := ⟨hw, hk, M.po8, by
      have := few_cells (w := wC C) (k := kC C) hnb (fun c hc => hin c (List.mem_append_left _ hc))
      rw [e1, e2, ← Int.natCast_mul]; omega, hin, hnd⟩
    have hro : ∀ c ∈ C.ro.flatMap cellsP, inB C c = true ∧ c ∉ C.bl := fun c hc => by
      obtain ⟨p, hp, hcp⟩ := List.mem_flatMap.1 hc
      have hf := M.fit p hp
      rw [← fits_eq hw hk] at hf
      obtain ⟨q1, q2⟩ := fits_cells hf c hcp
      obtain ⟨a1, a2, a3, a4⟩ := inW_iff.1 q1
      refine ⟨by rw [← inW_inB hw hk]; exact q1, fun hb => q2 ?_⟩
      rw [f0_at a1 a3, if_pos hb]
    refine ⟨six_iff.2 ⟨s1, s2, s3, s4, s5, s6⟩, hht, hqu, hbu, hlaid, ⟨M.ro8, fun x y hx hy hkp => ?_, fun p hp => by rw [fits_eq hw hk]; exact M.fit p hp, fun c hc => ?_, ?_⟩, ⟨fun s hs => ?_, M.bins.apart, M.bins.nums, M.bins.once, M.bins.most⟩⟩
    · have hcw : inW (wC C) (kC C) ((x : Int), (y : Int)) = true := inW_iff.2 ⟨by simp, by simpa using hx, by simp, by simpa using hy⟩
      have hcb := hcw
      rw [inW_inB hw hk] at hcb
      have hkeep := keep_eq hw hk hcb
      simp only [Int.toNat_natCast] at hkeep
      rw [hkp] at hkeep
      have h0 := f0_at (C := C) (c := ((x : Int), (y : Int))) (by simp) (by simp)
      unfold fAt at h0
      simp only [Int.toNat_natCast] at h0
      rw [h0]
      by_cases hp : ((x : Int), (y : Int)) ∈ C.po
      · have := (M.prt _ hp).2.2.2
        rw [this] at hkeep
        simp at hkeep
      · rw [if_neg hp]
        split <;> omega
    · obtain ⟨q1, q2⟩ := hro c hc
      rw [f1_at hw hk q1, if_neg q2]
      split
      · have hnp' : c ∉ C.po := fun hp => by
          have := (M.prt c hp).2.2.1
          rw [home_iff.2 hc] at this
          cases this
        rw [if_neg hnp']
        exact Int.le_refl _
      · omega
    · exact List.nodup_iff_count.2 fun c => by
        by_cases hc : c ∈ C.ro.flatMap cellsP
        · exact M.once c hc
        · rw [List.count_eq_zero.2 hc]; omega
    · obtain ⟨q1, q2⟩ := M.bins.each s hs
      obtain ⟨q3, q4⟩ := (stacked_eq hw hk s.1).2 q1
      exact ⟨q3, q4, q2⟩
end
end Go.Proofs.YtnpdploihlgcgaaDoor
