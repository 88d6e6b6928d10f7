/- Texts of the proof, one behind the other. -/
import Derived.Test.YtnpdploihlgcgaaDoorM5
import Derived.Test.YtnpdploihlgcgaaDoorH4
import Derived.Test.YtnpdploihlgcgaaDoorH3
import Derived.Test.YtnpdploihlgcgaaDoorH2
import Derived.Test.YtnpdploihlgcgaaDoorRows
import Derived.Test.YtnpdploihlgcgaaDoorTie
import Derived.JoinedOf
import Derived.Handed
import Derived.LaidMore
import Derived.LaidHandle
import Derived.LaidLaws
import Derived.MakeChecks
section
/- The cells that a move sweeps: the program's, the reference's. -/
set_option linter.unusedSimpArgs false
set_option linter.unusedVariables false
set_option maxRecDepth 100000
namespace Go.Proofs.YtnpdploihlgcgaaDoor
open Go Go.HL

theorem open_in {w k : Nat} {f : Nat → Nat → Int} {c : Cell} (h : openW w k f c = true) : inW w k c = true := by
  unfold openW at h
  rw [Bool.and_eq_true] at h
  exact h.1
theorem way_in {w k : Nat} {f : Nat → Nat → Int} {m : Move} (h : wayB w k f m = true) : ∀ c ∈ wayL m, inW w k c = true := by
  intro c hc
  unfold wayB at h
  unfold wayL at hc
  rw [Bool.and_eq_true] at h
  obtain ⟨hf, h⟩ := h
  by_cases h1 : m.k = 1
  · rw [if_pos h1] at h hc
    simp only [Bool.and_eq_true, List.all_eq_true, List.mem_flatMap] at h hc
    obtain ⟨i, hi, hc⟩ := hc
    have := h.2.1 i hi
    unfold stepB at this
    rw [Bool.and_eq_true] at this
    exact (fits_cells this.2 c hc).1
  · rw [if_neg h1] at h hc
    by_cases h2 : m.k = 2
    · rw [if_pos h2] at h hc
      simp only [Bool.and_eq_true, List.all_eq_true] at h
      exact open_in (h.2.1 c hc)
    · rw [if_neg h2] at hc
      exact (fits_cells hf c hc).1
theorem flat_two {D : Nat → List Cell} (h : ∀ i, (D i).length = 2) : ∀ n, ((List.range n).flatMap D).length = 2 * n
  | 0 => rfl
  | n + 1 => by
    rw [List.range_succ, List.flatMap_append, List.length_append, flat_two h n]
    simp [h]
    omega
theorem way_len {w k : Nat} {f : Nat → Nat → Int} {m : Move} (h : wayB w k f m = true) : (wayL m).length ≤ 34 ∧ wayL m ≠ [] := by
  unfold wayB at h
  rw [Bool.and_eq_true] at h
  obtain ⟨hf, h⟩ := h
  unfold wayL
  by_cases h1 : m.k = 1
  · rw [if_pos h1] at h ⊢
    simp only [Bool.and_eq_true, List.all_eq_true, List.mem_range, decide_eq_true_eq] at h
    have := h.2.1 m.n.toNat (by omega)
    unfold stepB okS at this
    simp only [Bool.and_eq_true] at this
    have hn := withinB_iff.1 this.1.1
    have e := flat_two (D := fun (i : Nat) => cellsP (shiftP m.f m.d i)) (fun i => rfl) (m.n.toNat + 1)
    refine ⟨by rw [e]; omega, fun hn => ?_⟩
    rw [hn] at e
    simp at e
  · rw [if_neg h1]
    split
    · exact ⟨by simp [squareL], by simp [squareL]⟩
    · exact ⟨by simp [cellsP], by simp [cellsP]⟩

theorem numI_in {w k : Nat} {c : Cell} (h : inW w k c = true) : numI w k c = numW w c := by
  unfold numI numW
  rw [if_pos h]
theorem in_bd {w k : Nat} {c : Cell} (h : inW w k c = true) : 0 ≤ c.1 ∧ c.1 < w ∧ 0 ≤ c.2 ∧ c.2 < k := by
  unfold inW at h
  rw [Bool.and_eq_true] at h
  have h1 := withinB_iff.1 h.1
  have h2 := withinB_iff.1 h.2
  omega
theorem numI_bd {w k : Nat} {c : Cell} (hw : w ≤ 16) (hk : k ≤ 16) : -1 ≤ numI w k c ∧ numI w k c ≤ 1000 := by
  unfold numI
  split
  · rename_i h
    obtain ⟨a, b, c1, d⟩ := in_bd h
    have h1 : 0 ≤ c.2 * (w : Int) := Int.mul_nonneg c1 (by omega)
    have h2 : c.2 * (w : Int) ≤ 16 * 16 := Int.mul_le_mul (by omega) (by omega) (by omega) (by omega)
    omega
  · omega

theorem cmp_spec {G h : Hp} {v0 w k : Nat} {f : Nat → Nat → Int} {g : Value} {a b : Cell} (hv : ∀ j, cellIn G h ⟨v0, j, none⟩ = [g][j]?) (gs : GS G h g w k f) : HCalls Tryd.prog G 70 #[cellV a, cellV b, .pointer (some ⟨v0, 0, none⟩)] h (fun u h' => u = .int .i64 (numI w k a - numI w k b) ∧ h' = h) := by
  obtain ⟨gp, kb, hgp, _⟩ := gs.ex
  refine HCalls.assume fun d => quietly (enter70 (by simp) ?_)
  unfold S70
  simp -implicitDefEqProofs only [regs0, regs1, regs2, retK_ret, resL_tmp, upd_eq, resL_nil1, pureW_sv, cf37, ld31p, opH_sv, box_new, cells_agg, ld28p, add_mk, Nat.add_zero, cell_set_self, List.getElem?_cons_zero, Option.some.injEq, Nat.zero_add, List.getElem?_cons_succ, exists_eq_left']
  intro x hx gx
  generalize e1 : Hp.set h x _ = h1
  obtain ⟨l1, d1, b1⟩ := boxed e1 hx d gx
  intro y hy gy
  generalize e2 : Hp.set h1 y _ = h2
  obtain ⟨l2, d2, b2⟩ := boxed e2 hy d1 gy
  have cx : ∀ j, cellIn G h2 ⟨x, j, none⟩ = _ := fun j => cell_of (look_own (l2 _ _ b1))
  have cy : ∀ j, cellIn G h2 ⟨y, j, none⟩ = _ := fun j => cell_of (look_own b2)
  have l02 := l1.trans l2
  have cv : cellIn G h2 ⟨v0, 0, none⟩ = some g := cell_up l02 d2 (hv 0)
  have gs2 := gs.up l02 d2
  subst hgp
  try simp -implicitDefEqProofs only [cv, Option.some.injEq, cx, List.getElem?_cons_zero, List.getElem?_cons_succ, exists_eq_left']
  refine (num_spec (c := a) gs2).mono ?_
  rintro _ h3 ⟨rfl, rfl⟩
  refine ⟨Hp.le.refl _, ?_⟩
  try simp -implicitDefEqProofs only [opH_sv, opH_su, pureW_sv, opH_nil, pureW_nil, pick_t, pick_f, pick_tp, pick_fp, gd_tt, gd_ft, gd_tf, gd_ff, box_new, regs0, regs1, regs2, regs3, regs4, regs5, regs6, cells_agg, cells_int, cells_bool, cells_ptr, cells_slice, cells_string, cells_func, cells_nilFunc, cells_map, retK_ret, retK_normal, resL_tmp, resL_cell, resL_nil0, resL_nil1, resL_nil2, resL_nil3, resC_ptr, ex0, ex1, ex2, ex0p, ex1p, ex2p, HL.cond_true, HL.cond_false, thenK_normal, thenK_ret, thenK_exit, blockK_normal, blockK_ret, blockK_exit, scopeK_normal, scopeK_ret, scopeK_exit, wpH_pure, bin_add, bin_sub, bin_mul, bin_lss, bin_leq, bin_gtr, bin_geq, bin_quo, bin_rem, bin_quop, bin_remp, wrap_in, bin_addp, bin_subp, bin_mulp, bin_lssp, bin_leqp, bin_gtrp, bin_geqp, un_not, un_notp, un_neg, eq_int, ne_int, eq_intp, ne_intp, callV_fn, add_mk, upd_eq, upd_ne, cell_set_self, Nat.zero_add, Nat.add_zero, Option.some.injEq, exists_eq_left', List.getElem?_cons_succ, List.getElem?_cons_zero, true_and, and_true, bne_self_eq_false, beq_self_eq_true, Bool.not_true, Bool.not_false, Bool.and_true, Bool.and_self, Bool.and_false, Bool.true_and, List.length_cons, List.length_nil, ne_eq, not_false_eq_true, Nat.reduceAdd, Nat.reduceMul, if_true, if_false, oneCell_int, oneCell_bool, oneCell_ptr, oneCell_slice, oneCell_string, oneCell_func, oneCell_map, Int.toNat_natCast, List.set_cons_zero, List.set_cons_succ, Nat.lt_irrefl, Nat.zero_lt_succ, Nat.succ_lt_succ_iff, fa26_0, fa26_0p, fa26_1, fa26_1p, fa26_10, fa26_10p, fa26_11, fa26_11p, fa26_12, fa26_12p, fa26_13, fa26_13p, fa26_14, fa26_14p, fa26_2, fa26_2p, fa26_3, fa26_3p, fa26_4, fa26_4p, fa26_5, fa26_5p, fa26_6, fa26_6p, fa26_7, fa26_7p, fa26_8, fa26_8p, fa26_9, fa26_9p, fa28_0, fa28_0p, fa28_1, fa28_1p, fa30_0, fa30_0p, fa30_1, fa30_1p, fa46_0, fa46_0p, fa46_1, fa46_1p, fa46_2, fa46_2p, fa46_3, fa46_3p, fa46_4, fa46_4p, fa46_5, fa46_5p, fa46_6, fa46_6p, fa86_0, fa86_0p, fa86_1, fa86_1p, fa86_2, fa86_2p, fa95_0, fa95_0p, fa95_1, fa95_1p, ld3, ld3p, ld4, ld4p, ld22, ld22p, ld23, ld23p, ld24, ld24p, ld26, ld26p, ld28, ld28p, ld30, ld30p, ld31, ld31p, ld46, ld46p, ld47, ld47p, ld52, ld52p, ld55, ld55p, ld57, ld57p, ld95, ld95p, st3s, st4s, st22s, st23s, st24s, st26w, st28w, st30w, st46w, st47s, st55s, st95w, ix22, ix22p, ix23, ix23p, ix24, ix24p, ix47, ix47p, ix56, ix56p, ix57, ix57p, ix101, ix101p, ln22, ln22p, ln23, ln23p, ln24, ln24p, ln47, ln47p, ln56, ln56p, ln57, ln57p, al22, al26, al28, al30, al46, al47, al95, cf14, cf15, cf16, cf17, cf18, cf19, cf20, cf21, cf22, cf23, cf24, cf25, cf26, cf27, cf28, cf29, cf30, cf31, cf32, cf33, cf34, cf35, cf36, cf37, cf38, cf39, cf40, cf41, cf42, cf43, cf44, cf45, cf46, cf47, cf48, cf49, cf50, cf51, cf52, cf53, cf54, cf55, cf56, cf57, cf58, cf59, cf60, cf61, cf62, cf63, cf64, cf65, cf66, cf67, cf68, cf69, cf70, cf71, cf72, cf73, cf74, cf75, cf76, cf77, cf78, cf79, cf80, bd26_0_1_2_7_8_9_10_11_12_13_14, bd26_0_1_2_7_8_9_10_11_12_13_14p, bd28_0, bd28_0p, bd28_0_1, bd28_0_1p, bd30_, bd30_p, bd30_0_1, bd30_0_1p, bd30_0, bd30_0p, bd46_0_1_2_3_4, bd46_0_1_2_3_4p, bd46_0_3_4, bd46_0_3_4p, bd86_0_1_2, bd86_0_1_2p, bd87_0_1_2_3, bd87_0_1_2_3p, bd95_0_1, bd95_0_1p, bs22_2_0_1, bs47_1_0, bs22_1_0, bs57_6_0_1_2_3_4_5, bs24_1_0, bs22_4_0_1_2_3, bs56_11_0_1_2_3_4_5_6_7_8_9_10, bs57_11_0_1_2_3_4_5_6_7_8_9_10, eq4, eq4p, eq28, eq28p, eq30, eq30p, eq31n, eq31np, eq31s, eq31sp, eq46, eq46p, eq50n, eq50np, eq50s, eq50sp, eq67n, eq67np, eq67s, eq67sp, ne4, ne4p, ne28, ne28p, ne30, ne30p, ne31n, ne31np, ne31s, ne31sp, ne46, ne46p, al76, cx, cy, cv]
  refine (num_spec (c := b) gs2).mono ?_
  rintro _ h3 ⟨rfl, rfl⟩
  have ba := numI_bd (c := a) gs.w2 gs.k2
  have bb := numI_bd (c := b) gs.w2 gs.k2
  try simp -implicitDefEqProofs (disch := first | with_reducible exact Nat.ne_of_beq_eq_false rfl | omega) only [bin_subp, wrap_in, true_and]
  first | exact l02 | exact ⟨rfl, l02⟩

instance : Inhabited Cell := ⟨(0, 0)⟩
theorem swo_num (n : Cell → Int) : Go.Sort.SWO (Go.Proofs.ltOf fun a b => n a - n b) := by
  refine ⟨fun x => ?_, fun x y z h1 h2 => ?_, fun x y z h1 h2 => ?_⟩ <;> simp only [Go.Proofs.ltOf, decide_eq_true_eq, decide_eq_false_iff_not] at * <;> omega

/-- What the move sweeps, told. -/
def sweptM (w k : Nat) (f : Nat → Nat → Int) (m : Move) : List Cell := if wayB w k f m = true then sweptL w k (wayL m) else []

set_option maxHeartbeats 4000000 in
theorem swept_spec {G h : Hp} {g : Value} {w k : Nat} {f : Nat → Nat → Int} {m : Move} (gs : GS G h g w k f) (st : Steps G) (mb : MB m) : HCalls Tryd.prog G 47 #[g, moveV m] h (fun u h' => ∃ ip, Slc cellC 28 ip u (sweptM w k f m) ∧ HL.Sep [ip, h] h' ∧ Dis G h') := by
  obtain ⟨gp, kb, hgp, _⟩ := gs.ex
  subst hgp
  refine HCalls.assume fun d => enter47 (by simp) ?_
  unfold S47
  simp -implicitDefEqProofs only [regs0, regs1, retK_ret, resL_tmp, upd_eq, resL_nil1, opH_sv, cf63, box_new, cells_agg, ld46, add_mk, Nat.add_zero, Nat.zero_add, cells_ptr, ld31, cell_set_self, List.getElem?_cons_zero, Option.some.injEq, List.getElem?_cons_succ, exists_eq_left']
  intro x hx gx
  generalize e1 : Hp.set h x _ = h1
  obtain ⟨l1, d1, b1⟩ := boxed e1 hx d gx
  intro y hy gy
  generalize e2 : Hp.set h1 y _ = h2
  obtain ⟨l2, d2, b2⟩ := boxed e2 hy d1 gy
  have cx : ∀ j, cellIn G h2 ⟨x, j, none⟩ = _ := fun j => cell_of (look_own (l2 _ _ b1))
  have cy : ∀ j, cellIn G h2 ⟨y, j, none⟩ = _ := fun j => cell_of (look_own b2)
  have l02 := l1.trans l2
  have gs2 := gs.up l02 d2
  try simp -implicitDefEqProofs only [cx, List.getElem?_cons_zero, Option.some.injEq, exists_eq_left']
  refine (way_spec (m := m) gs2 st mb).mono ?_
  rintro _ h3 ⟨ip, v, L, rfl, o, s3, d3, hL⟩
  try simp -implicitDefEqProofs only [ex1, un_not, ex0]
  cases hw : wayB w k f m with
  | false =>
    try simp -implicitDefEqProofs only [Bool.not_false, HL.cond_true]
    refine ⟨noHp, ?_, (s3.drop.cut l02).none, d3⟩
    unfold sweptM
    rw [hw]
    exact Slc.nil
  | true =>
    obtain rfl := hL hw
    obtain ⟨wl, wn⟩ := way_len hw
    try simp -implicitDefEqProofs only [Bool.not_true, HL.cond_false]
    unfold S47_k1
    obtain ⟨ob, o'⟩ := o
    cases ob with
    | none => exact absurd o'.2 wn
    | some b =>
    obtain ⟨cap, t, rfl, hb, hbl⟩ := o'
    try simp -implicitDefEqProofs only [upd_ne, upd_eq, retK_ret, resL_tmp, resL_nil1, cf71, cf69]
    have hx3 : h2 x = some _ := l2 _ _ b1
    refine HCalls.mono (f := 69) (sort_call (ρ := sortCells_ren) sortCells cellC (by decide) Tryd.isAgg28 Tryd.sizeOf28 (swo_num (numI w k)) (g := 70) (cb := #[.pointer (some ⟨x, 0, none⟩)])
      (enters_of Tryd.func70 (by kernel_rfl) rfl) s3 d3 hb (fun p q h' s' d' => cmp_spec (a := p) (b := q) (fun j => by rw [cell_of (look_own (s'.in 0 rfl _ _ hx3))]) (gs2.up (s'.in 0 rfl) d')) (by omega)) ?_
    rintro _ h4 ⟨rfl, S, hp, hs, rfl⟩
    have s4 := s3.put (o := .cells (cellC.rows S ++ t).toArray 28 (0, 0)) hb
    have d4 := d3.set (o := .cells (cellC.rows S ++ t).toArray 28 (0, 0)) (d3 _ _ (s3.at 0 rfl hb))
    have hlS : S.length = (wayL m).length := hp.length_eq
    have o4 : Slc cellC 28 (ip.set b (.cells (cellC.rows S ++ t).toArray 28 (0, 0))) (.slice (some ⟨b, 0, none⟩) (wayL m).length cap) S := ⟨some b, cap, t, by rw [hlS], set_self, by rw [← hbl, List.length_append, List.length_append, cellC.rows_length, cellC.rows_length, hlS]⟩
    generalize Hp.set h3 b _ = h4 at s4 d4 ⊢
    generalize Hp.set ip b _ = ip4 at s4 o4
    try simp -implicitDefEqProofs only [opH_sv, opH_su, pureW_sv, opH_nil, pureW_nil, pick_t, pick_f, pick_tp, pick_fp, gd_tt, gd_ft, gd_tf, gd_ff, box_new, regs0, regs1, regs2, regs3, regs4, regs5, regs6, cells_agg, cells_int, cells_bool, cells_ptr, cells_slice, cells_string, cells_func, cells_nilFunc, cells_map, retK_ret, retK_normal, resL_tmp, resL_cell, resL_nil0, resL_nil1, resL_nil2, resL_nil3, resC_ptr, ex0, ex1, ex2, ex0p, ex1p, ex2p, HL.cond_true, HL.cond_false, thenK_normal, thenK_ret, thenK_exit, blockK_normal, blockK_ret, blockK_exit, scopeK_normal, scopeK_ret, scopeK_exit, wpH_pure, bin_add, bin_sub, bin_mul, bin_lss, bin_leq, bin_gtr, bin_geq, bin_quo, bin_rem, bin_quop, bin_remp, wrap_in, bin_addp, bin_subp, bin_mulp, bin_lssp, bin_leqp, bin_gtrp, bin_geqp, un_not, un_notp, un_neg, eq_int, ne_int, eq_intp, ne_intp, callV_fn, add_mk, upd_eq, upd_ne, cell_set_self, Nat.zero_add, Nat.add_zero, Option.some.injEq, exists_eq_left', List.getElem?_cons_succ, List.getElem?_cons_zero, true_and, and_true, bne_self_eq_false, beq_self_eq_true, Bool.not_true, Bool.not_false, Bool.and_true, Bool.and_self, Bool.and_false, Bool.true_and, List.length_cons, List.length_nil, ne_eq, not_false_eq_true, Nat.reduceAdd, Nat.reduceMul, if_true, if_false, oneCell_int, oneCell_bool, oneCell_ptr, oneCell_slice, oneCell_string, oneCell_func, oneCell_map, Int.toNat_natCast, List.set_cons_zero, List.set_cons_succ, Nat.lt_irrefl, Nat.zero_lt_succ, Nat.succ_lt_succ_iff, fa26_0, fa26_0p, fa26_1, fa26_1p, fa26_10, fa26_10p, fa26_11, fa26_11p, fa26_12, fa26_12p, fa26_13, fa26_13p, fa26_14, fa26_14p, fa26_2, fa26_2p, fa26_3, fa26_3p, fa26_4, fa26_4p, fa26_5, fa26_5p, fa26_6, fa26_6p, fa26_7, fa26_7p, fa26_8, fa26_8p, fa26_9, fa26_9p, fa28_0, fa28_0p, fa28_1, fa28_1p, fa30_0, fa30_0p, fa30_1, fa30_1p, fa46_0, fa46_0p, fa46_1, fa46_1p, fa46_2, fa46_2p, fa46_3, fa46_3p, fa46_4, fa46_4p, fa46_5, fa46_5p, fa46_6, fa46_6p, fa86_0, fa86_0p, fa86_1, fa86_1p, fa86_2, fa86_2p, fa95_0, fa95_0p, fa95_1, fa95_1p, ld3, ld3p, ld4, ld4p, ld22, ld22p, ld23, ld23p, ld24, ld24p, ld26, ld26p, ld28, ld28p, ld30, ld30p, ld31, ld31p, ld46, ld46p, ld47, ld47p, ld52, ld52p, ld55, ld55p, ld57, ld57p, ld95, ld95p, st3s, st4s, st22s, st23s, st24s, st26w, st28w, st30w, st46w, st47s, st55s, st95w, ix22, ix22p, ix23, ix23p, ix24, ix24p, ix47, ix47p, ix56, ix56p, ix57, ix57p, ix101, ix101p, ln22, ln22p, ln23, ln23p, ln24, ln24p, ln47, ln47p, ln56, ln56p, ln57, ln57p, al22, al26, al28, al30, al46, al47, al95, cf14, cf15, cf16, cf17, cf18, cf19, cf20, cf21, cf22, cf23, cf24, cf25, cf26, cf27, cf28, cf29, cf30, cf31, cf32, cf33, cf34, cf35, cf36, cf37, cf38, cf39, cf40, cf41, cf42, cf43, cf44, cf45, cf46, cf47, cf48, cf49, cf50, cf51, cf52, cf53, cf54, cf55, cf56, cf57, cf58, cf59, cf60, cf61, cf62, cf63, cf64, cf65, cf66, cf67, cf68, cf69, cf70, cf71, cf72, cf73, cf74, cf75, cf76, cf77, cf78, cf79, cf80, bd26_0_1_2_7_8_9_10_11_12_13_14, bd26_0_1_2_7_8_9_10_11_12_13_14p, bd28_0, bd28_0p, bd28_0_1, bd28_0_1p, bd30_, bd30_p, bd30_0_1, bd30_0_1p, bd30_0, bd30_0p, bd46_0_1_2_3_4, bd46_0_1_2_3_4p, bd46_0_3_4, bd46_0_3_4p, bd86_0_1_2, bd86_0_1_2p, bd87_0_1_2_3, bd87_0_1_2_3p, bd95_0_1, bd95_0_1p, bs22_2_0_1, bs47_1_0, bs22_1_0, bs57_6_0_1_2_3_4_5, bs24_1_0, bs22_4_0_1_2_3, bs56_11_0_1_2_3_4_5_6_7_8_9_10, bs57_11_0_1_2_3_4_5_6_7_8_9_10, eq4, eq4p, eq28, eq28p, eq30, eq30p, eq31n, eq31np, eq31s, eq31sp, eq46, eq46p, eq50n, eq50np, eq50s, eq50sp, eq67n, eq67np, eq67s, eq67sp, ne4, ne4p, ne28, ne28p, ne30, ne30p, ne31n, ne31np, ne31s, ne31sp, ne46, ne46p, al76]
    refine (compact_spec s4 o4 (by omega)).mono ?_
    rintro u5 h5 ⟨a5, o5, s5, d5⟩
    try simp -implicitDefEqProofs only [opH_sv, opH_su, pureW_sv, opH_nil, pureW_nil, pick_t, pick_f, pick_tp, pick_fp, gd_tt, gd_ft, gd_tf, gd_ff, box_new, regs0, regs1, regs2, regs3, regs4, regs5, regs6, cells_agg, cells_int, cells_bool, cells_ptr, cells_slice, cells_string, cells_func, cells_nilFunc, cells_map, retK_ret, retK_normal, resL_tmp, resL_cell, resL_nil0, resL_nil1, resL_nil2, resL_nil3, resC_ptr, ex0, ex1, ex2, ex0p, ex1p, ex2p, HL.cond_true, HL.cond_false, thenK_normal, thenK_ret, thenK_exit, blockK_normal, blockK_ret, blockK_exit, scopeK_normal, scopeK_ret, scopeK_exit, wpH_pure, bin_add, bin_sub, bin_mul, bin_lss, bin_leq, bin_gtr, bin_geq, bin_quo, bin_rem, bin_quop, bin_remp, wrap_in, bin_addp, bin_subp, bin_mulp, bin_lssp, bin_leqp, bin_gtrp, bin_geqp, un_not, un_notp, un_neg, eq_int, ne_int, eq_intp, ne_intp, callV_fn, add_mk, upd_eq, upd_ne, cell_set_self, Nat.zero_add, Nat.add_zero, Option.some.injEq, exists_eq_left', List.getElem?_cons_succ, List.getElem?_cons_zero, true_and, and_true, bne_self_eq_false, beq_self_eq_true, Bool.not_true, Bool.not_false, Bool.and_true, Bool.and_self, Bool.and_false, Bool.true_and, List.length_cons, List.length_nil, ne_eq, not_false_eq_true, Nat.reduceAdd, Nat.reduceMul, if_true, if_false, oneCell_int, oneCell_bool, oneCell_ptr, oneCell_slice, oneCell_string, oneCell_func, oneCell_map, Int.toNat_natCast, List.set_cons_zero, List.set_cons_succ, Nat.lt_irrefl, Nat.zero_lt_succ, Nat.succ_lt_succ_iff, fa26_0, fa26_0p, fa26_1, fa26_1p, fa26_10, fa26_10p, fa26_11, fa26_11p, fa26_12, fa26_12p, fa26_13, fa26_13p, fa26_14, fa26_14p, fa26_2, fa26_2p, fa26_3, fa26_3p, fa26_4, fa26_4p, fa26_5, fa26_5p, fa26_6, fa26_6p, fa26_7, fa26_7p, fa26_8, fa26_8p, fa26_9, fa26_9p, fa28_0, fa28_0p, fa28_1, fa28_1p, fa30_0, fa30_0p, fa30_1, fa30_1p, fa46_0, fa46_0p, fa46_1, fa46_1p, fa46_2, fa46_2p, fa46_3, fa46_3p, fa46_4, fa46_4p, fa46_5, fa46_5p, fa46_6, fa46_6p, fa86_0, fa86_0p, fa86_1, fa86_1p, fa86_2, fa86_2p, fa95_0, fa95_0p, fa95_1, fa95_1p, ld3, ld3p, ld4, ld4p, ld22, ld22p, ld23, ld23p, ld24, ld24p, ld26, ld26p, ld28, ld28p, ld30, ld30p, ld31, ld31p, ld46, ld46p, ld47, ld47p, ld52, ld52p, ld55, ld55p, ld57, ld57p, ld95, ld95p, st3s, st4s, st22s, st23s, st24s, st26w, st28w, st30w, st46w, st47s, st55s, st95w, ix22, ix22p, ix23, ix23p, ix24, ix24p, ix47, ix47p, ix56, ix56p, ix57, ix57p, ix101, ix101p, ln22, ln22p, ln23, ln23p, ln24, ln24p, ln47, ln47p, ln56, ln56p, ln57, ln57p, al22, al26, al28, al30, al46, al47, al95, cf14, cf15, cf16, cf17, cf18, cf19, cf20, cf21, cf22, cf23, cf24, cf25, cf26, cf27, cf28, cf29, cf30, cf31, cf32, cf33, cf34, cf35, cf36, cf37, cf38, cf39, cf40, cf41, cf42, cf43, cf44, cf45, cf46, cf47, cf48, cf49, cf50, cf51, cf52, cf53, cf54, cf55, cf56, cf57, cf58, cf59, cf60, cf61, cf62, cf63, cf64, cf65, cf66, cf67, cf68, cf69, cf70, cf71, cf72, cf73, cf74, cf75, cf76, cf77, cf78, cf79, cf80, bd26_0_1_2_7_8_9_10_11_12_13_14, bd26_0_1_2_7_8_9_10_11_12_13_14p, bd28_0, bd28_0p, bd28_0_1, bd28_0_1p, bd30_, bd30_p, bd30_0_1, bd30_0_1p, bd30_0, bd30_0p, bd46_0_1_2_3_4, bd46_0_1_2_3_4p, bd46_0_3_4, bd46_0_3_4p, bd86_0_1_2, bd86_0_1_2p, bd87_0_1_2_3, bd87_0_1_2_3p, bd95_0_1, bd95_0_1p, bs22_2_0_1, bs47_1_0, bs22_1_0, bs57_6_0_1_2_3_4_5, bs24_1_0, bs22_4_0_1_2_3, bs56_11_0_1_2_3_4_5_6_7_8_9_10, bs57_11_0_1_2_3_4_5_6_7_8_9_10, eq4, eq4p, eq28, eq28p, eq30, eq30p, eq31n, eq31np, eq31s, eq31sp, eq46, eq46p, eq50n, eq50np, eq50s, eq50sp, eq67n, eq67np, eq67s, eq67sp, ne4, ne4p, ne28, ne28p, ne30, ne30p, ne31n, ne31np, ne31s, ne31sp, ne46, ne46p, al76]
    refine ⟨a5, ?_, ((s5.pick 1 rfl rfl).cut l02).pick 1 rfl rfl, d5⟩
    have hin := way_in hw
    have e := compact_swept (w := w) (k := k) (W := wayL m) (S := S) (by have := gs.w1; omega) (fun c hc => in_bd (hin c hc)) hp (hs.imp_of_mem fun {a b} ha hb h => by
      rw [numI_in (hin a (hp.mem_iff.1 ha)), numI_in (hin b (hp.mem_iff.1 hb))] at h
      omega)
    unfold sweptM
    rw [hw, if_pos rfl, ← e]
    exact o5

end Go.Proofs.YtnpdploihlgcgaaDoor
end

section
/- The reference's moves and stack cells: the walks. -/
set_option linter.unusedSimpArgs false
set_option linter.unusedVariables false
set_option maxRecDepth 100000
namespace Go.Proofs.YtnpdploihlgcgaaDoor
open Go Go.HL

theorem runFrom_len {α : Type} {ok : Nat → Bool} {mk : Nat → α} : ∀ {k n : Nat}, (runFrom ok mk n k).length ≤ k
  | 0, n => Nat.le_refl _
  | k + 1, n => by
    unfold runFrom
    split
    · have := runFrom_len (ok := ok) (mk := mk) (k := k) (n := n + 1)
      simp only [List.length_cons]; omega
    · simp
theorem dirsL_len {α : Type} {D : Nat → List α} {b : Nat} (h : ∀ i, (D i).length ≤ b) : ∀ {k i : Nat}, (dirsL D i k).length ≤ k * b
  | 0, i => by simp [dirsL]
  | k + 1, i => by
    unfold dirsL
    have := dirsL_len h (k := k) (i := i + 1)
    have := h i
    rw [List.length_append, Nat.succ_mul]
    omega

theorem pickFrom_len {α : Type} {p : Nat → Bool} {mk : Nat → α} : ∀ {k n : Nat}, (pickFrom p mk n k).length ≤ k
  | 0, n => Nat.le_refl _
  | k + 1, n => by
    rw [pick_succ]
    have := pickFrom_len (p := p) (mk := mk) (k := k) (n := n + 1)
    split <;> (try simp only [List.length_cons]) <;> omega

end Go.Proofs.YtnpdploihlgcgaaDoor
end

section
/- The cells that a move sweeps, as the reference tells them. -/
set_option linter.unusedSimpArgs false
set_option linter.unusedVariables false
set_option maxRecDepth 100000
namespace Go.Proofs.YtnpdploihlgcgaaDoor
open Go Go.HL

def rwayL (m : Move) : List Cell := if m.k = 1 then (List.range (m.n.toNat + 1)).flatMap (fun (i : Nat) => cellsP (shiftR m.f m.d i)) else if m.k = 2 then squareL (m.f.x, m.f.y) else cellsP m.f
def rsweptM (C : Conf) (m : Move) : List Cell := if legalR C m = true then sweptL (wC C) (kC C) (rwayL m) else []

theorem swept_len {w k : Nat} {W : List Cell} (hw : w ≤ 16) (hk : k ≤ 16) : (sweptL w k W).length ≤ 256 := by
  have := dirsL_len (D := fun y => pickFrom (fun x => decide ((((x : Nat) : Int), ((y : Nat) : Int)) ∈ W)) (fun x => (((x : Nat) : Int), ((y : Nat) : Int))) 0 w) (b := 16) (fun i => Nat.le_trans pickFrom_len hw) (k := k) (i := 0)
  have h2 : k * 16 ≤ 16 * 16 := Nat.mul_le_mul_right _ hk
  unfold sweptL
  omega

theorem rway_eq {C : Conf} {m : Move} (hp : PB m.f) (hl : legalR C m = true) : rwayL m = wayL m := by
  unfold rwayL wayL
  by_cases h1 : m.k = 1
  · rw [if_pos h1, if_pos h1]
    unfold legalR at hl
    rw [Bool.and_eq_true, if_pos h1] at hl
    simp only [Bool.and_eq_true] at hl
    have hd := withinB_iff.1 hl.2.2.1
    congr 1
    funext i
    rw [shiftR_eq hp hd]
  · rw [if_neg h1, if_neg h1]
theorem swept_eq {C : Conf} (mk : MadeOk C) {m : Move} (hp : PB m.f) : sweptM (wC C) (kC C) (f3C C) m = rsweptM C m := by
  unfold sweptM rsweptM
  rw [legal_eq mk hp]
  cases hl : legalR C m with
  | false => rfl
  | true => rw [if_pos rfl, if_pos rfl, rway_eq hp hl]

end Go.Proofs.YtnpdploihlgcgaaDoor
end

section
/- The document's example is awake. -/
set_option linter.unusedSimpArgs false
set_option linter.unusedVariables false
set_option maxRecDepth 100000
namespace Go.Proofs.YtnpdploihlgcgaaDoor
open Go Go.HL

def C0 : Conf := ⟨2, 2, 1, [], [], [], [], 1, 1, 1, 1, 1, 1, 1, 1, false⟩

theorem conf_spec {G h : Hp} : HCalls Tryd.prog G 29 #[] h (fun u h' => u = confV C0 none 0 none 0 none 0 none 0 ∧ h' = h) := by
  refine HCalls.assume fun d => quietly (enter29 (by simp) ?_)
  unfold S29
  simp -implicitDefEqProofs (maxSteps := 2000000) (disch := first | with_reducible exact Nat.ne_of_beq_eq_false rfl | exact oneCell_int | exact oneCell_bool | omega | rfl | (simp; done) | fail) only [retK_ret, resL_cell, upd_ne, upd_eq, resL_nil1, opH_su, opH_sv, bd26_0_1_2_7_8_9_10_11_12_13_14, al26, resC_ptr, ld26, add_mk, Nat.add_zero, Nat.zero_add, st26w, cell_set_self, List.getElem?_cons_zero, Option.some.injEq, List.getElem?_cons_succ, exists_eq_left']
  intro x hx gx
  try simp -implicitDefEqProofs (maxSteps := 2000000) (disch := first | with_reducible exact Nat.ne_of_beq_eq_false rfl | exact oneCell_int | exact oneCell_bool | omega | rfl | (simp; done) | fail) only [opH_sv, opH_su, pureW_sv, opH_nil, pureW_nil, pick_t, pick_f, pick_tp, pick_fp, gd_tt, gd_ft, gd_tf, gd_ff, box_new, regs0, regs1, regs2, regs3, regs4, regs5, regs6, cells_agg, cells_int, cells_bool, cells_ptr, cells_slice, cells_string, cells_func, cells_nilFunc, cells_map, retK_ret, retK_normal, resL_tmp, resL_cell, resL_nil0, resL_nil1, resL_nil2, resL_nil3, resC_ptr, ex0, ex1, ex2, ex0p, ex1p, ex2p, HL.cond_true, HL.cond_false, thenK_normal, thenK_ret, thenK_exit, blockK_normal, blockK_ret, blockK_exit, scopeK_normal, scopeK_ret, scopeK_exit, wpH_pure, bin_add, bin_sub, bin_mul, bin_lss, bin_leq, bin_gtr, bin_geq, bin_quo, bin_rem, bin_quop, bin_remp, wrap_in, bin_addp, bin_subp, bin_mulp, bin_lssp, bin_leqp, bin_gtrp, bin_geqp, un_not, un_notp, un_neg, eq_int, ne_int, eq_intp, ne_intp, callV_fn, add_mk, upd_eq, upd_ne, cell_set_self, Nat.zero_add, Nat.add_zero, Option.some.injEq, exists_eq_left', List.getElem?_cons_succ, List.getElem?_cons_zero, true_and, and_true, bne_self_eq_false, beq_self_eq_true, Bool.not_true, Bool.not_false, Bool.and_true, Bool.and_self, Bool.and_false, Bool.true_and, List.length_cons, List.length_nil, ne_eq, not_false_eq_true, Nat.reduceAdd, Nat.reduceMul, if_true, if_false, oneCell_int, oneCell_bool, oneCell_ptr, oneCell_slice, oneCell_string, oneCell_func, oneCell_map, Int.toNat_natCast, List.set_cons_zero, List.set_cons_succ, Nat.lt_irrefl, Nat.zero_lt_succ, Nat.succ_lt_succ_iff, fa26_0, fa26_0p, fa26_1, fa26_1p, fa26_10, fa26_10p, fa26_11, fa26_11p, fa26_12, fa26_12p, fa26_13, fa26_13p, fa26_14, fa26_14p, fa26_2, fa26_2p, fa26_3, fa26_3p, fa26_4, fa26_4p, fa26_5, fa26_5p, fa26_6, fa26_6p, fa26_7, fa26_7p, fa26_8, fa26_8p, fa26_9, fa26_9p, fa28_0, fa28_0p, fa28_1, fa28_1p, fa30_0, fa30_0p, fa30_1, fa30_1p, fa46_0, fa46_0p, fa46_1, fa46_1p, fa46_2, fa46_2p, fa46_3, fa46_3p, fa46_4, fa46_4p, fa46_5, fa46_5p, fa46_6, fa46_6p, fa86_0, fa86_0p, fa86_1, fa86_1p, fa86_2, fa86_2p, fa95_0, fa95_0p, fa95_1, fa95_1p, ld3, ld3p, ld4, ld4p, ld22, ld22p, ld23, ld23p, ld24, ld24p, ld26, ld26p, ld28, ld28p, ld30, ld30p, ld31, ld31p, ld46, ld46p, ld47, ld47p, ld52, ld52p, ld55, ld55p, ld57, ld57p, ld95, ld95p, st3s, st4s, st22s, st23s, st24s, st26w, st28w, st30w, st46w, st47s, st55s, st95w, ix22, ix22p, ix23, ix23p, ix24, ix24p, ix47, ix47p, ix56, ix56p, ix57, ix57p, ix101, ix101p, ln22, ln22p, ln23, ln23p, ln24, ln24p, ln47, ln47p, ln56, ln56p, ln57, ln57p, al22, al26, al28, al30, al46, al47, al95, cf14, cf15, cf16, cf17, cf18, cf19, cf20, cf21, cf22, cf23, cf24, cf25, cf26, cf27, cf28, cf29, cf30, cf31, cf32, cf33, cf34, cf35, cf36, cf37, cf38, cf39, cf40, cf41, cf42, cf43, cf44, cf45, cf46, cf47, cf48, cf49, cf50, cf51, cf52, cf53, cf54, cf55, cf56, cf57, cf58, cf59, cf60, cf61, cf62, cf63, cf64, cf65, cf66, cf67, cf68, cf69, cf70, cf71, cf72, cf73, cf74, cf75, cf76, cf77, cf78, cf79, cf80, bd26_0_1_2_7_8_9_10_11_12_13_14, bd26_0_1_2_7_8_9_10_11_12_13_14p, bd28_0, bd28_0p, bd28_0_1, bd28_0_1p, bd30_, bd30_p, bd30_0_1, bd30_0_1p, bd30_0, bd30_0p, bd46_0_1_2_3_4, bd46_0_1_2_3_4p, bd46_0_3_4, bd46_0_3_4p, bd86_0_1_2, bd86_0_1_2p, bd87_0_1_2_3, bd87_0_1_2_3p, bd95_0_1, bd95_0_1p, bs22_2_0_1, bs47_1_0, bs22_1_0, bs57_6_0_1_2_3_4_5, bs24_1_0, bs22_4_0_1_2_3, bs56_11_0_1_2_3_4_5_6_7_8_9_10, bs57_11_0_1_2_3_4_5_6_7_8_9_10, eq4, eq4p, eq28, eq28p, eq30, eq30p, eq31n, eq31np, eq31s, eq31sp, eq46, eq46p, eq50n, eq50np, eq50s, eq50sp, eq67n, eq67np, eq67s, eq67sp, ne4, ne4p, ne28, ne28p, ne30, ne30p, ne31n, ne31np, ne31s, ne31sp, ne46, ne46p]
  first | exact le_set hx | exact ⟨rfl, le_set hx⟩

theorem ca_nil {G h : Hp} {C : Conf} (h1 : C.bl = []) (h2 : C.po = []) (h3 : C.ro = []) (h4 : C.st = []) : CA G h C none 0 none 0 none 0 none 0 := by
  obtain ⟨w, hh, ht, bl, po, ro, st, un, ac, sp, tu, ho, qu, re, bu, back⟩ := C
  subst h1 h2 h3 h4
  exact ⟨Slc.nil.sees (e := 28) (a := noHp) (by decide) (fun _ _ e => by cases e), Slc.nil.sees (e := 28) (a := noHp) (by decide) (fun _ _ e => by cases e), Slc.nil.sees (e := 30) (a := noHp) (by decide) (fun _ _ e => by cases e), [], Slc.nil.sees (e := 95) (a := noHp) (by decide) (fun _ _ e => by cases e), by simp⟩

theorem may_nil {C : Conf} (h1 : C.bl = []) (h2 : C.po = []) (h3 : C.ro = []) (h4 : C.st = []) : MayOk C ↔ numbersB C = true := by
  refine ⟨fun m => m.nums, fun n => ⟨n, by simp [h2], by simp [h3], by simp [h1], by simp [h1], by simp [h2], by simp [h3], by simp [h3], ?_⟩⟩
  exact ⟨by simp [h4], by simp [h4], by simp [h4], by simp [h4], by simp [h4], by simp [h4]⟩

theorem made0 : MadeOk C0 := by
  rw [made_may, may_nil rfl rfl rfl rfl]
  rfl

theorem moves0 : movesW (wC C0) (kC C0) (f3C C0) ⟨0, 0, false⟩ = [⟨1, 2, 1, ⟨0, 0, false⟩, ⟨0, 1, false⟩, 0, 0⟩, ⟨2, 0, 0, ⟨0, 0, false⟩, ⟨0, 0, true⟩, 0, 0⟩] := by decide +kernel

theorem Sees.move {G h : Hp} {sa : Option Addr} {cap n : Nat} {L : List Move} (s : Sees moveC G h (.slice sa n cap) L) {i : Nat} {x : Move} (hx : L[i]? = some x) :
    ∃ b o, sa = some ⟨b, o, none⟩ ∧ ∀ j, j < 11 → cellIn G h ⟨b, o + i * 11 + j, none⟩ = (moveC.enc x)[j]? := by
  obtain ⟨b, o, c, e1, e2⟩ := s.get hx
  simp only [Value.slice.injEq] at e1
  exact ⟨b, o, e1.1, e2⟩

set_option maxHeartbeats 4000000 in
theorem awake_spec {G h : Hp} (st : Steps G) : HCalls Tryd.prog G 17 #[] h (fun u h' => u = .bool true ∧ h' = h) := by
  refine HCalls.assume fun d => quietly (enter17 (by simp) ?_)
  unfold S17
  simp -implicitDefEqProofs (maxSteps := 2000000) (disch := first | with_reducible exact Nat.ne_of_beq_eq_false rfl | exact oneCell_int | exact oneCell_bool | omega | rfl | (simp; done) | fail) only [retK_ret, resL_tmp, upd_eq, resL_nil1, opH_sv, cf14, cf29]
  refine conf_spec.mono ?_
  rintro _ h0 ⟨rfl, rfl⟩
  refine (new_spec (C := C0) (ca_nil rfl rfl rfl rfl).cv st (by intro p hp; cases hp) (by decide)).mono ?_
  rintro _ h1 ⟨l1, d1, ⟨hm, ga, gp, kb, rfl, go, s1⟩ | ⟨hm, rfl⟩⟩
  rotate_left
  · exact absurd made0 hm
  simp -implicitDefEqProofs (maxSteps := 2000000) (disch := first | with_reducible exact Nat.ne_of_beq_eq_false rfl | exact oneCell_int | exact oneCell_bool | omega | rfl | (simp; done) | fail) only [ex1, ne_int, bne_self_eq_false, pick_f, gd_ff, ex0, eq31s, HL.cond_false]
  unfold S17_k1
  try simp -implicitDefEqProofs (maxSteps := 2000000) (disch := first | with_reducible exact Nat.ne_of_beq_eq_false rfl | exact oneCell_int | exact oneCell_bool | omega | rfl | (simp; done) | fail) only [upd_ne, upd_eq, retK_ret, resL_tmp, resL_nil1, opH_sv, cf25, cf26, bd30_]
  have pb : PB ⟨0, 0, false⟩ := ⟨⟨by decide, by decide⟩, ⟨by decide, by decide⟩⟩
  have gs1 : GS G h1 (.pointer (some ⟨gp, 0, none⟩)) (wC C0) (kC C0) (f3C C0) := (go.gs (G := G)).up (s1.in 0 rfl) d1
  refine (moves26_spec (gp := gp) (p := ⟨0, 0, false⟩)).mono ?_
  rintro _ h2 ⟨b1, b2, rfl, l2, d2, e1, e2⟩
  have gs2 := gs1.up l2 d2
  refine (moves25_spec (most := 9) e1 e2 gs2 st pb (by decide) (by decide)).mono ?_
  rintro u h3 ⟨ip, o, s3, d3⟩
  rw [moves0] at o
  change Slc moveC 46 ip u [⟨1, 2, 1, ⟨0, 0, false⟩, ⟨0, 1, false⟩, 0, 0⟩, ⟨2, 0, 0, ⟨0, 0, false⟩, ⟨0, 0, true⟩, 0, 0⟩] at o
  obtain ⟨sa, cap, rfl, hc⟩ := o.len (by decide)
  have gs3 := gs2.up (s3.in 1 rfl) d3
  have sv := o.sees (G := G) (by decide) (s3.in 0 rfl)
  obtain ⟨b, ofs, rfl, z⟩ := Sees.move (i := 0) sv rfl
  obtain ⟨b', ofs', eb, z'⟩ := Sees.move (i := 1) sv rfl
  cases eb
  have z00 := z 0 (by decide)
  have z01 := z 1 (by decide)
  have z02 := z 2 (by decide)
  have z10 := z' 0 (by decide)
  simp only [moveC, Nat.zero_mul, Nat.add_zero, Nat.one_mul, List.getElem?_cons_zero, List.getElem?_cons_succ] at z00 z01 z02 z10
  try simp -implicitDefEqProofs (maxSteps := 2000000) (disch := first | with_reducible exact Nat.ne_of_beq_eq_false rfl | exact oneCell_int | exact oneCell_bool | omega | rfl | (simp; done) | fail) only [List.length_cons, List.length_nil, Nat.zero_add, Nat.reduceAdd, ln47, eq_int]
  try simp -implicitDefEqProofs (maxSteps := 2000000) (disch := first | with_reducible exact Nat.ne_of_beq_eq_false rfl | exact oneCell_int | exact oneCell_bool | omega | rfl | (simp; done) | fail) only [show (((2 : Nat) : Int) == 2) = true from rfl, pick_t, gd_tt, opH_sv, ix47 (by decide : (0 : Int) ≤ 0) (by decide : (0 : Int) < (2 : Nat)), show Int.toNat 0 = 0 from rfl, Nat.zero_mul, add_mk, Nat.add_zero, fa46_0, ld3, z00, Option.some.injEq, exists_eq_left', eq_int, beq_self_eq_true, fa46_1, z01, fa46_2, z02, ix47 (by decide : (0 : Int) ≤ 1) (by decide : (1 : Int) < (2 : Nat)), Int.toNat_one, Nat.one_mul, z10, cf37, bd28_0_1]
  refine (num_spec (c := (1, 1)) gs3).mono ?_
  rintro _ _ ⟨rfl, rfl⟩
  try simp -implicitDefEqProofs (maxSteps := 2000000) (disch := first | with_reducible exact Nat.ne_of_beq_eq_false rfl | exact oneCell_int | exact oneCell_bool | omega | rfl | (simp; done) | fail) only [show numI (wC C0) (kC C0) (1, 1) = 3 from rfl, eq_int, beq_self_eq_true, true_and]
  first | exact (l1.trans l2).trans (s3.in 1 rfl) | exact ⟨rfl, (l1.trans l2).trans (s3.in 1 rfl)⟩

end Go.Proofs.YtnpdploihlgcgaaDoor
end

section
/- A config copied, in new memory. -/
set_option linter.unusedSimpArgs false
set_option linter.unusedVariables false
set_option maxRecDepth 100000
namespace Go.Proofs.YtnpdploihlgcgaaDoor
open Go Go.HL

theorem eoraw : ElemOk Tryd.prog 95 rawC.n 40 := ⟨by kernel_rfl, by kernel_rfl, by kernel_rfl⟩
theorem eopose : ElemOk Tryd.prog 30 poseC.n 24 := ⟨by kernel_rfl, by kernel_rfl, by kernel_rfl⟩

/-- So many elements of so many bytes find room. -/
def Room (n bytes : Nat) : Prop := (2 * n + 192) * bytes ≤ 281474976710656

theorem copyints_spec {G h : Hp} {v : Value} {L : List Int} (sv : Sees icC G h v L) (hl : Room L.length 8) : HCalls Tryd.prog G 75 #[v] h (fun u h' => ∃ ip, Slc icC 3 ip u L ∧ Sep [ip, h] h' ∧ Dis G h') := by
  refine HCalls.assume fun d => enter75 (by simp) ?_
  unfold S75
  simp -implicitDefEqProofs (maxSteps := 2000000) (disch := first | with_reducible exact Nat.ne_of_beq_eq_false rfl | exact oneCell_int | exact oneCell_bool | omega | rfl | (simp; done) | fail) only [regs0, retK_ret, resL_tmp, upd_eq, resL_nil1, opH_sv]
  refine append_big icC (by decide) un57 eoint (by decide) (Sep.one (h := h)).none d Slc.nil sv (by simpa [Room] using hl) fun v' a' h' o' s' d' => ?_
  try simp -implicitDefEqProofs (maxSteps := 2000000) (disch := first | with_reducible exact Nat.ne_of_beq_eq_false rfl | exact oneCell_int | exact oneCell_bool | omega | rfl | (simp; done) | fail) only [opH_sv, opH_su, pureW_sv, opH_nil, pureW_nil, pick_t, pick_f, pick_tp, pick_fp, gd_tt, gd_ft, gd_tf, gd_ff, box_new, regs0, regs1, regs2, regs3, regs4, regs5, regs6, cells_agg, cells_int, cells_bool, cells_ptr, cells_slice, cells_string, cells_func, cells_nilFunc, cells_map, retK_ret, retK_normal, resL_tmp, resL_cell, resL_nil0, resL_nil1, resL_nil2, resL_nil3, resC_ptr, ex0, ex1, ex2, ex0p, ex1p, ex2p, HL.cond_true, HL.cond_false, thenK_normal, thenK_ret, thenK_exit, blockK_normal, blockK_ret, blockK_exit, scopeK_normal, scopeK_ret, scopeK_exit, wpH_pure, bin_add, bin_sub, bin_mul, bin_lss, bin_leq, bin_gtr, bin_geq, bin_quo, bin_rem, bin_quop, bin_remp, wrap_in, bin_addp, bin_subp, bin_mulp, bin_lssp, bin_leqp, bin_gtrp, bin_geqp, un_not, un_notp, un_neg, eq_int, ne_int, eq_intp, ne_intp, callV_fn, add_mk, upd_eq, upd_ne, cell_set_self, Nat.zero_add, Nat.add_zero, Option.some.injEq, exists_eq_left', List.getElem?_cons_succ, List.getElem?_cons_zero, true_and, and_true, bne_self_eq_false, beq_self_eq_true, Bool.not_true, Bool.not_false, Bool.and_true, Bool.and_self, Bool.and_false, Bool.true_and, List.length_cons, List.length_nil, ne_eq, not_false_eq_true, Nat.reduceAdd, Nat.reduceMul, if_true, if_false, oneCell_int, oneCell_bool, oneCell_ptr, oneCell_slice, oneCell_string, oneCell_func, oneCell_map, Int.toNat_natCast, List.set_cons_zero, List.set_cons_succ, Nat.lt_irrefl, Nat.zero_lt_succ, Nat.succ_lt_succ_iff, fa26_0, fa26_0p, fa26_1, fa26_1p, fa26_10, fa26_10p, fa26_11, fa26_11p, fa26_12, fa26_12p, fa26_13, fa26_13p, fa26_14, fa26_14p, fa26_2, fa26_2p, fa26_3, fa26_3p, fa26_4, fa26_4p, fa26_5, fa26_5p, fa26_6, fa26_6p, fa26_7, fa26_7p, fa26_8, fa26_8p, fa26_9, fa26_9p, fa28_0, fa28_0p, fa28_1, fa28_1p, fa30_0, fa30_0p, fa30_1, fa30_1p, fa46_0, fa46_0p, fa46_1, fa46_1p, fa46_2, fa46_2p, fa46_3, fa46_3p, fa46_4, fa46_4p, fa46_5, fa46_5p, fa46_6, fa46_6p, fa86_0, fa86_0p, fa86_1, fa86_1p, fa86_2, fa86_2p, fa95_0, fa95_0p, fa95_1, fa95_1p, ld3, ld3p, ld4, ld4p, ld22, ld22p, ld23, ld23p, ld24, ld24p, ld26, ld26p, ld28, ld28p, ld30, ld30p, ld31, ld31p, ld46, ld46p, ld47, ld47p, ld52, ld52p, ld55, ld55p, ld57, ld57p, ld95, ld95p, st3s, st4s, st22s, st23s, st24s, st26w, st28w, st30w, st46w, st47s, st55s, st95w, ix22, ix22p, ix23, ix23p, ix24, ix24p, ix47, ix47p, ix56, ix56p, ix57, ix57p, ix101, ix101p, ln22, ln22p, ln23, ln23p, ln24, ln24p, ln47, ln47p, ln56, ln56p, ln57, ln57p, al22, al26, al28, al30, al46, al47, al95, cf14, cf15, cf16, cf17, cf18, cf19, cf20, cf21, cf22, cf23, cf24, cf25, cf26, cf27, cf28, cf29, cf30, cf31, cf32, cf33, cf34, cf35, cf36, cf37, cf38, cf39, cf40, cf41, cf42, cf43, cf44, cf45, cf46, cf47, cf48, cf49, cf50, cf51, cf52, cf53, cf54, cf55, cf56, cf57, cf58, cf59, cf60, cf61, cf62, cf63, cf64, cf65, cf66, cf67, cf68, cf69, cf70, cf71, cf72, cf73, cf74, cf75, cf76, cf77, cf78, cf79, cf80, bd26_0_1_2_7_8_9_10_11_12_13_14, bd26_0_1_2_7_8_9_10_11_12_13_14p, bd28_0, bd28_0p, bd28_0_1, bd28_0_1p, bd30_, bd30_p, bd30_0_1, bd30_0_1p, bd30_0, bd30_0p, bd46_0_1_2_3_4, bd46_0_1_2_3_4p, bd46_0_3_4, bd46_0_3_4p, bd86_0_1_2, bd86_0_1_2p, bd87_0_1_2_3, bd87_0_1_2_3p, bd95_0_1, bd95_0_1p, bs22_2_0_1, bs47_1_0, bs22_1_0, bs57_6_0_1_2_3_4_5, bs24_1_0, bs22_4_0_1_2_3, bs56_11_0_1_2_3_4_5_6_7_8_9_10, bs57_11_0_1_2_3_4_5_6_7_8_9_10, eq4, eq4p, eq28, eq28p, eq30, eq30p, eq31n, eq31np, eq31s, eq31sp, eq46, eq46p, eq50n, eq50np, eq50s, eq50sp, eq67n, eq67np, eq67s, eq67sp, ne4, ne4p, ne28, ne28p, ne30, ne30p, ne31n, ne31np, ne31s, ne31sp, ne46, ne46p]
  exact ⟨a', o', s', d'⟩

def Rel (pb : Hp) (raws : List Raw) (st : List (Cell × List Int)) : Prop := ∀ (i : Nat) (r : Raw) (s : Cell × List Int), raws[i]? = some r → st[i]? = some s → (r.x, r.y) = s.1 ∧ r.n = s.2.length ∧ Slc icC 3 pb (.slice r.a s.2.length r.c) s.2
/-- Stacks of one's own. -/
def StkO (pz : Hp) (v : Value) (st : List (Cell × List Int)) : Prop := ∃ raws pr pb, Slc rawC 95 pr v raws ∧ Sep [pr, pb] pz ∧ raws.length = st.length ∧ Rel pb raws st

theorem Rel.le {pb pb' : Hp} {raws : List Raw} {st : List (Cell × List Int)} (r : Rel pb raws st) (l : pb.le pb') : Rel pb' raws st := fun i x s h1 h2 => let ⟨a, b, c⟩ := r i x s h1 h2; ⟨a, b, c.le l⟩

set_option maxHeartbeats 2000000 in
theorem copystacks_spec {G h : Hp} {C : Conf} {ab : Option Addr} {cb : Nat} {ap : Option Addr} {cp : Nat} {ar : Option Addr} {cr : Nat} {az : Option Addr} {cs : Nat} (ca : CA G h C ab cb ap cp ar cr az cs)
    (hst : Room C.st.length 40) (hb : ∀ s ∈ C.st, Room s.2.length 8) : HCalls Tryd.prog G 50 #[.slice az C.st.length cs] h (fun u h' => ∃ pz, StkO pz u C.st ∧ Sep [pz, h] h' ∧ Dis G h') := by
  refine HCalls.assume fun d => enter50 (by simp) ?_
  unfold S50
  have hlb : C.st.length ≤ 7036874417664 := by unfold Room at hst; omega
  refine loop_I (fun m r h3 => ∃ (i : Nat) (raws : List Raw) (pr pb : Hp) (v : Value), m = C.st.length - i ∧ i ≤ C.st.length ∧ r 0 = .slice az C.st.length cs ∧ r 3 = v ∧ r 4 = .int .i64 i ∧ Slc rawC 95 pr v raws ∧ raws.length = i ∧ Rel pb raws C.st ∧ Sep [pr, pb, h] h3 ∧ Dis G h3) ?_
    (m := C.st.length) ⟨0, [], noHp, noHp, _, rfl, Nat.zero_le _, by simp -implicitDefEqProofs (maxSteps := 2000000) (disch := first | with_reducible exact Nat.ne_of_beq_eq_false rfl | exact oneCell_int | exact oneCell_bool | omega | rfl | (simp; done) | fail) only [upd_ne, regs0], by simp -implicitDefEqProofs (maxSteps := 2000000) (disch := first | with_reducible exact Nat.ne_of_beq_eq_false rfl | exact oneCell_int | exact oneCell_bool | omega | rfl | (simp; done) | fail) only [upd_ne, upd_eq], by simp -implicitDefEqProofs (maxSteps := 2000000) (disch := first | with_reducible exact Nat.ne_of_beq_eq_false rfl | exact oneCell_int | exact oneCell_bool | omega | rfl | (simp; done) | fail) only [upd_eq] <;> rfl, Slc.nil, rfl, fun i r s h1 => by simp at h1, (Sep.one.none).none, d⟩
  rintro m r h3 ⟨i, raws, pr, pb, v, rfl, hi, g0, g3, g4, o, hlen, rel, s3, d3⟩ X HX
  unfold S50_l2
  simp -implicitDefEqProofs (maxSteps := 2000000) (disch := first | with_reducible exact Nat.ne_of_beq_eq_false rfl | exact oneCell_int | exact oneCell_bool | omega | rfl | (simp; done) | fail) only [g0, g4, thenK_exit, blockK_exit, thenK_normal, if_true, opH_sv, ln24, bin_lss]
  refine cond_dec (fun hlt => ?_) (fun hge => ?_)
  rotate_left
  · obtain rfl : i = C.st.length := by omega
    try simp -implicitDefEqProofs (maxSteps := 2000000) (disch := first | with_reducible exact Nat.ne_of_beq_eq_false rfl | exact oneCell_int | exact oneCell_bool | omega | rfl | (simp; done) | fail) only [opH_sv, opH_su, pureW_sv, opH_nil, pureW_nil, pick_t, pick_f, pick_tp, pick_fp, gd_tt, gd_ft, gd_tf, gd_ff, box_new, regs0, regs1, regs2, regs3, regs4, regs5, regs6, cells_agg, cells_int, cells_bool, cells_ptr, cells_slice, cells_string, cells_func, cells_nilFunc, cells_map, retK_ret, retK_normal, resL_tmp, resL_cell, resL_nil0, resL_nil1, resL_nil2, resL_nil3, resC_ptr, ex0, ex1, ex2, ex0p, ex1p, ex2p, HL.cond_true, HL.cond_false, thenK_normal, thenK_ret, thenK_exit, blockK_normal, blockK_ret, blockK_exit, scopeK_normal, scopeK_ret, scopeK_exit, wpH_pure, bin_add, bin_sub, bin_mul, bin_lss, bin_leq, bin_gtr, bin_geq, bin_quo, bin_rem, bin_quop, bin_remp, wrap_in, bin_addp, bin_subp, bin_mulp, bin_lssp, bin_leqp, bin_gtrp, bin_geqp, un_not, un_notp, un_neg, eq_int, ne_int, eq_intp, ne_intp, callV_fn, add_mk, upd_eq, upd_ne, cell_set_self, Nat.zero_add, Nat.add_zero, Option.some.injEq, exists_eq_left', List.getElem?_cons_succ, List.getElem?_cons_zero, true_and, and_true, bne_self_eq_false, beq_self_eq_true, Bool.not_true, Bool.not_false, Bool.and_true, Bool.and_self, Bool.and_false, Bool.true_and, List.length_cons, List.length_nil, ne_eq, not_false_eq_true, Nat.reduceAdd, Nat.reduceMul, if_true, if_false, oneCell_int, oneCell_bool, oneCell_ptr, oneCell_slice, oneCell_string, oneCell_func, oneCell_map, Int.toNat_natCast, List.set_cons_zero, List.set_cons_succ, Nat.lt_irrefl, Nat.zero_lt_succ, Nat.succ_lt_succ_iff, fa26_0, fa26_0p, fa26_1, fa26_1p, fa26_10, fa26_10p, fa26_11, fa26_11p, fa26_12, fa26_12p, fa26_13, fa26_13p, fa26_14, fa26_14p, fa26_2, fa26_2p, fa26_3, fa26_3p, fa26_4, fa26_4p, fa26_5, fa26_5p, fa26_6, fa26_6p, fa26_7, fa26_7p, fa26_8, fa26_8p, fa26_9, fa26_9p, fa28_0, fa28_0p, fa28_1, fa28_1p, fa30_0, fa30_0p, fa30_1, fa30_1p, fa46_0, fa46_0p, fa46_1, fa46_1p, fa46_2, fa46_2p, fa46_3, fa46_3p, fa46_4, fa46_4p, fa46_5, fa46_5p, fa46_6, fa46_6p, fa86_0, fa86_0p, fa86_1, fa86_1p, fa86_2, fa86_2p, fa95_0, fa95_0p, fa95_1, fa95_1p, ld3, ld3p, ld4, ld4p, ld22, ld22p, ld23, ld23p, ld24, ld24p, ld26, ld26p, ld28, ld28p, ld30, ld30p, ld31, ld31p, ld46, ld46p, ld47, ld47p, ld52, ld52p, ld55, ld55p, ld57, ld57p, ld95, ld95p, st3s, st4s, st22s, st23s, st24s, st26w, st28w, st30w, st46w, st47s, st55s, st95w, ix22, ix22p, ix23, ix23p, ix24, ix24p, ix47, ix47p, ix56, ix56p, ix57, ix57p, ix101, ix101p, ln22, ln22p, ln23, ln23p, ln24, ln24p, ln47, ln47p, ln56, ln56p, ln57, ln57p, al22, al26, al28, al30, al46, al47, al95, cf14, cf15, cf16, cf17, cf18, cf19, cf20, cf21, cf22, cf23, cf24, cf25, cf26, cf27, cf28, cf29, cf30, cf31, cf32, cf33, cf34, cf35, cf36, cf37, cf38, cf39, cf40, cf41, cf42, cf43, cf44, cf45, cf46, cf47, cf48, cf49, cf50, cf51, cf52, cf53, cf54, cf55, cf56, cf57, cf58, cf59, cf60, cf61, cf62, cf63, cf64, cf65, cf66, cf67, cf68, cf69, cf70, cf71, cf72, cf73, cf74, cf75, cf76, cf77, cf78, cf79, cf80, bd26_0_1_2_7_8_9_10_11_12_13_14, bd26_0_1_2_7_8_9_10_11_12_13_14p, bd28_0, bd28_0p, bd28_0_1, bd28_0_1p, bd30_, bd30_p, bd30_0_1, bd30_0_1p, bd30_0, bd30_0p, bd46_0_1_2_3_4, bd46_0_1_2_3_4p, bd46_0_3_4, bd46_0_3_4p, bd86_0_1_2, bd86_0_1_2p, bd87_0_1_2_3, bd87_0_1_2_3p, bd95_0_1, bd95_0_1p, bs22_2_0_1, bs47_1_0, bs22_1_0, bs57_6_0_1_2_3_4_5, bs24_1_0, bs22_4_0_1_2_3, bs56_11_0_1_2_3_4_5_6_7_8_9_10, bs57_11_0_1_2_3_4_5_6_7_8_9_10, eq4, eq4p, eq28, eq28p, eq30, eq30p, eq31n, eq31np, eq31s, eq31sp, eq46, eq46p, eq50n, eq50np, eq50s, eq50sp, eq67n, eq67np, eq67s, eq67sp, ne4, ne4p, ne28, ne28p, ne30, ne30p, ne31n, ne31np, ne31s, ne31sp, ne46, ne46p]
    unfold S50_k1
    try simp -implicitDefEqProofs (maxSteps := 2000000) (disch := first | with_reducible exact Nat.ne_of_beq_eq_false rfl | exact oneCell_int | exact oneCell_bool | omega | rfl | (simp; done) | fail) only [upd_ne, g3, retK_ret, resL_tmp, upd_eq, resL_nil1]
    obtain ⟨pz, s4, t4⟩ := s3.pack2
    exact ⟨pz, ⟨raws, pr, pb, o, t4, hlen, rel⟩, s4, d3⟩
  have hlt' : i < C.st.length := by omega
  obtain ⟨s, hs⟩ : ∃ s, C.st[i]? = some s := ⟨_, List.getElem?_eq_getElem hlt'⟩
  have ca3 := ca.up (s3.in 2 rfl) d3
  obtain ⟨b, ofs, a, c, rfl, z0, z1, z2, sv⟩ := ca3.stk hs
  unfold S50_l2_k3
  refine ⟨h3, Hp.le.refl _, ?_⟩
  try simp -implicitDefEqProofs (maxSteps := 2000000) (disch := first | with_reducible exact Nat.ne_of_beq_eq_false rfl | exact oneCell_int | exact oneCell_bool | omega | rfl | (simp; done) | fail) only [upd_ne, g0, g4, opH_sv, pureW_sv, cf75, ix24p (Int.natCast_nonneg i) hlt, Int.toNat_natCast, add_mk, fa95_1p, ld57p, z2, Option.some.injEq, exists_eq_left', fa95_0p, Nat.add_zero, ld28p, z0, z1]
  refine (copyints_spec sv (hb s (List.mem_of_getElem? hs))).mono ?_
  rintro u h4 ⟨ip, o4, s4, d4⟩
  refine ⟨s4.in 1 rfl, ?_⟩
  obtain ⟨sa, cap, rfl, hcap⟩ := o4.len (by decide)
  try simp -implicitDefEqProofs (maxSteps := 2000000) (disch := first | with_reducible exact Nat.ne_of_beq_eq_false rfl | exact oneCell_int | exact oneCell_bool | omega | rfl | (simp; done) | fail) only [bd95_0_1p, bs24_1_0]
  intro x hx gx
  have s5 : Sep [ip, pr, pb, h] h4 := by
    have := s4.split s3
    simpa using this
  let rw0 : Raw := ⟨s.1.1, s.1.2, sa, s.2.length, cap⟩
  have s6 : Sep [pr, ip, pb, h] (h4.set x (.cells #[.int .i64 s.1.1, .int .i64 s.1.2, .slice sa s.2.length cap] 95 (0, 0))) := (s5.past hx).pick 1 rfl rfl
  have d6 : Dis G (h4.set x (.cells #[.int .i64 s.1.1, .int .i64 s.1.2, .slice sa s.2.length cap] 95 (0, 0))) := d4.set gx
  have b6 : (h4.set x (.cells #[.int .i64 s.1.1, .int .i64 s.1.2, .slice sa s.2.length cap] 95 (0, 0))) x = some (.cells #[.int .i64 s.1.1, .int .i64 s.1.2, .slice sa s.2.length cap] 95 (0, 0)) := set_self
  generalize Hp.set h4 x _ = h6 at s6 d6 b6 ⊢
  rw [g3]
  refine append_big rawC (by decide) un24 eoraw (by decide) (M := [rw0]) s6 d6 o (Sees.row (c := rawC) (L := [rw0]) b6 rfl (Nat.le_refl _)) (by
    unfold Room at hst
    refine Nat.le_trans (Nat.mul_le_mul_right _ ?_) hst
    rw [hlen, List.length_singleton]
    omega) fun v7 pr7 h7 o7 s7 d7 => ?_
  have s7' : Sep [ip, pb, pr7, h] h7 := (s7.pick 2 rfl rfl).pick 2 rfl rfl
  obtain ⟨pb7, s8, t8⟩ := s7'.pack2
  unfold S50_l2_k4
  try simp -implicitDefEqProofs (maxSteps := 2000000) (disch := first | with_reducible exact Nat.ne_of_beq_eq_false rfl | exact oneCell_int | exact oneCell_bool | omega | rfl | (simp; done) | fail) only [upd_ne, g4, thenK_normal, opH_sv, bin_add, wrap_in]
  refine HX (C.st.length - (i + 1)) _ _ (by omega) ⟨i + 1, raws ++ [rw0], pr7, pb7, v7, rfl, hlt', by simp -implicitDefEqProofs (maxSteps := 2000000) (disch := first | with_reducible exact Nat.ne_of_beq_eq_false rfl | exact oneCell_int | exact oneCell_bool | omega | rfl | (simp; done) | fail) only [upd_ne, g0], by simp -implicitDefEqProofs (maxSteps := 2000000) (disch := first | with_reducible exact Nat.ne_of_beq_eq_false rfl | exact oneCell_int | exact oneCell_bool | omega | rfl | (simp; done) | fail) only [upd_ne, upd_eq], by simp -implicitDefEqProofs (maxSteps := 2000000) (disch := first | with_reducible exact Nat.ne_of_beq_eq_false rfl | exact oneCell_int | exact oneCell_bool | omega | rfl | (simp; done) | fail) only [upd_eq] <;> rfl, o7, by simp [hlen], ?_, s8.pick 1 rfl rfl, d7⟩
  intro j r' s' hr' hs'
  by_cases hj : j < i
  · rw [List.getElem?_append_left (by omega)] at hr'
    exact (rel.le (t8.in 1 rfl)) j r' s' hr' hs'
  · have hj2 : j < (raws ++ [rw0]).length := (List.getElem?_eq_some_iff.1 hr').1
    obtain rfl : j = i := by simp at hj2; omega
    rw [List.getElem?_append_right (by omega), hlen, Nat.sub_self] at hr'
    cases hr'
    rw [hs] at hs'
    cases hs'
    exact ⟨rfl, rfl, o4.le (t8.in 0 rfl)⟩

abbrev confO (C : Conf) (vb vp vr vz : Value) : Obj := .cells #[.int .i64 C.w, .int .i64 C.h, .int .i64 C.ht, vb, vp, vr, vz, .int .i64 C.un, .int .i64 C.ac, .int .i64 C.sp, .int .i64 C.tu, .int .i64 C.ho, .int .i64 C.qu, .int .i64 C.re, .int .i64 C.bu, .bool C.back] 26 (0, 0)
abbrev confA (C : Conf) (vb vp vr vz : Value) : Value := .agg #[.int .i64 C.w, .int .i64 C.h, .int .i64 C.ht, vb, vp, vr, vz, .int .i64 C.un, .int .i64 C.ac, .int .i64 C.sp, .int .i64 C.tu, .int .i64 C.ho, .int .i64 C.qu, .int .i64 C.re, .int .i64 C.bu, .bool C.back]

theorem store26 {G h : Hp} {y : Nat} {C : Conf} {D : Conf} {v1 v2 v3 v4 : Value} {a1 a2 a3 a4 : Option Addr} {n1 n2 n3 n4 c1 c2 c3 c4 : Nat} {K : Unit → Hp → Prop} (hb : h y = some (confO D v1 v2 v3 v4)) :
    wpH Tryd.prog G (Instr.storeAt 26 (.pointer (some ⟨y, 0, none⟩)) (confA C (.slice a1 n1 c1) (.slice a2 n2 c2) (.slice a3 n3 c3) (.slice a4 n4 c4))) h K = K () (h.set y (confO C (.slice a1 n1 c1) (.slice a2 n2 c2) (.slice a3 n3 c3) (.slice a4 n4 c4))) := by
  conv => lhs; rw [← set_same hb]
  exact st26w

structure Fit0 (C : Conf) : Prop where
  bl : Room C.bl.length 16
  po : Room C.po.length 16
  ro : Room C.ro.length 24
  st : Room C.st.length 40
  bins : ∀ s ∈ C.st, Room s.2.length 8

def Cz : Conf := ⟨0, 0, 0, [], [], [], [], 0, 0, 0, 0, 0, 0, 0, 0, false⟩
abbrev nilV : Value := .slice none 0 0

/-- A config of one's own. -/
structure CO (h : Hp) (C : Conf) (u : Value) (h' pb pp pr pz : Hp) (vb vp vr vz : Value) : Prop where
  v : u = confA C vb vp vr vz
  bl : Slc cellC 28 pb vb C.bl
  po : Slc cellC 28 pp vp C.po
  ro : Slc poseC 30 pr vr C.ro
  st : StkO pz vz C.st
  sep : Sep [pb, pp, pr, pz, h] h'

def CopyR (G h : Hp) (C : Conf) (u : Value) (h' : Hp) : Prop := (∃ pb pp pr pz vb vp vr vz, CO h C u h' pb pp pr pz vb vp vr vz) ∧ Dis G h'

set_option maxHeartbeats 2000000 in
theorem copyconf_spec {G h : Hp} {v : Value} {C : Conf} (hv : CV G h v C) (fit : Fit0 C) : HCalls Tryd.prog G 15 #[v] h (CopyR G h C) := by
  obtain ⟨ab, cb, ap, cp, ar, cr, az, cs, rfl, ca⟩ := hv
  refine HCalls.assume fun d => enter15 (by simp) ?_
  unfold S15
  simp -implicitDefEqProofs (maxSteps := 2000000) (disch := first | with_reducible exact Nat.ne_of_beq_eq_false rfl | exact oneCell_int | exact oneCell_bool | omega | rfl | (simp; done) | fail) only [regs0, retK_ret, resL_cell, upd_ne, upd_eq, resL_nil1, opH_su, opH_sv, cf50, al26, resC_ptr, ld26, add_mk, Nat.add_zero, Nat.zero_add, box_new, cells_agg, fa26_6, ld24, fa26_5, ld23, fa26_4, ld22, fa26_3]
  intro x hx gx y hy gy
  have exy := ne_of_set hy
  have s2 : Sep [noHp, noHp.set x (confO C (.slice ab C.bl.length cb) (.slice ap C.po.length cp) (.slice ar C.ro.length cr) (.slice az C.st.length cs)), noHp.set y (confO Cz nilV nilV nilV nilV), h] _ := (((Sep.one (h := h)).new (o := confO C (.slice ab C.bl.length cb) (.slice ap C.po.length cp) (.slice ar C.ro.length cr) (.slice az C.st.length cs)) hx).new (o := confO Cz nilV nilV nilV nilV) hy).swap.none
  have d2 := (d.set (o := confO C (.slice ab C.bl.length cb) (.slice ap C.po.length cp) (.slice ar C.ro.length cr) (.slice az C.st.length cs)) gx).set (o := confO Cz nilV nilV nilV nilV) gy
  unfold Cz at s2 d2
  generalize Hp.set (Hp.set h x _) y _ = h2 at s2 d2 ⊢
  have cx : ∀ j, cellIn G h2 ⟨x, j, none⟩ = _ := fun j => cell_of (look_own (s2.at 1 rfl set_self))
  have ca2 := ca.up (s2.in 3 rfl) d2
  try simp -implicitDefEqProofs (maxSteps := 2000000) (disch := first | with_reducible exact Nat.ne_of_beq_eq_false rfl | exact oneCell_int | exact oneCell_bool | omega | rfl | (simp; done) | fail) only [cx, List.getElem?_cons_succ, List.getElem?_cons_zero, Option.some.injEq, exists_eq_left']
  refine append_big cellC (by decide) un22 eocell (by decide) s2 d2 Slc.nil ca2.bl (by simpa [Room] using fit.bl) fun vb pb h3 ob s3 d3 => ?_
  obtain ⟨sb, cpb, rfl, _⟩ := ob.len (by decide)
  rw [List.nil_append] at ob
  have hx3 := s3.at 1 rfl set_self
  try simp -implicitDefEqProofs (maxSteps := 2000000) (disch := first | with_reducible exact Nat.ne_of_beq_eq_false rfl | exact oneCell_int | exact oneCell_bool | omega | rfl | (simp; done) | fail) only [opH_sv, opH_su, pureW_sv, opH_nil, pureW_nil, pick_t, pick_f, pick_tp, pick_fp, gd_tt, gd_ft, gd_tf, gd_ff, box_new, regs0, regs1, regs2, regs3, regs4, regs5, regs6, cells_agg, cells_int, cells_bool, cells_ptr, cells_slice, cells_string, cells_func, cells_nilFunc, cells_map, retK_ret, retK_normal, resL_tmp, resL_cell, resL_nil0, resL_nil1, resL_nil2, resL_nil3, resC_ptr, ex0, ex1, ex2, ex0p, ex1p, ex2p, HL.cond_true, HL.cond_false, thenK_normal, thenK_ret, thenK_exit, blockK_normal, blockK_ret, blockK_exit, scopeK_normal, scopeK_ret, scopeK_exit, wpH_pure, bin_add, bin_sub, bin_mul, bin_lss, bin_leq, bin_gtr, bin_geq, bin_quo, bin_rem, bin_quop, bin_remp, wrap_in, bin_addp, bin_subp, bin_mulp, bin_lssp, bin_leqp, bin_gtrp, bin_geqp, un_not, un_notp, un_neg, eq_int, ne_int, eq_intp, ne_intp, callV_fn, add_mk, upd_eq, upd_ne, cell_set_self, Nat.zero_add, Nat.add_zero, Option.some.injEq, exists_eq_left', List.getElem?_cons_succ, List.getElem?_cons_zero, true_and, and_true, bne_self_eq_false, beq_self_eq_true, Bool.not_true, Bool.not_false, Bool.and_true, Bool.and_self, Bool.and_false, Bool.true_and, List.length_cons, List.length_nil, ne_eq, not_false_eq_true, Nat.reduceAdd, Nat.reduceMul, if_true, if_false, oneCell_int, oneCell_bool, oneCell_ptr, oneCell_slice, oneCell_string, oneCell_func, oneCell_map, Int.toNat_natCast, List.set_cons_zero, List.set_cons_succ, Nat.lt_irrefl, Nat.zero_lt_succ, Nat.succ_lt_succ_iff, fa26_0, fa26_0p, fa26_1, fa26_1p, fa26_10, fa26_10p, fa26_11, fa26_11p, fa26_12, fa26_12p, fa26_13, fa26_13p, fa26_14, fa26_14p, fa26_2, fa26_2p, fa26_3, fa26_3p, fa26_4, fa26_4p, fa26_5, fa26_5p, fa26_6, fa26_6p, fa26_7, fa26_7p, fa26_8, fa26_8p, fa26_9, fa26_9p, fa28_0, fa28_0p, fa28_1, fa28_1p, fa30_0, fa30_0p, fa30_1, fa30_1p, fa46_0, fa46_0p, fa46_1, fa46_1p, fa46_2, fa46_2p, fa46_3, fa46_3p, fa46_4, fa46_4p, fa46_5, fa46_5p, fa46_6, fa46_6p, fa86_0, fa86_0p, fa86_1, fa86_1p, fa86_2, fa86_2p, fa95_0, fa95_0p, fa95_1, fa95_1p, ld3, ld3p, ld4, ld4p, ld22, ld22p, ld23, ld23p, ld24, ld24p, ld26, ld26p, ld28, ld28p, ld30, ld30p, ld31, ld31p, ld46, ld46p, ld47, ld47p, ld52, ld52p, ld55, ld55p, ld57, ld57p, ld95, ld95p, st3s, st4s, st22s, st23s, st24s, st26w, st28w, st30w, st46w, st47s, st55s, st95w, ix22, ix22p, ix23, ix23p, ix24, ix24p, ix47, ix47p, ix56, ix56p, ix57, ix57p, ix101, ix101p, ln22, ln22p, ln23, ln23p, ln24, ln24p, ln47, ln47p, ln56, ln56p, ln57, ln57p, al22, al26, al28, al30, al46, al47, al95, cf14, cf15, cf16, cf17, cf18, cf19, cf20, cf21, cf22, cf23, cf24, cf25, cf26, cf27, cf28, cf29, cf30, cf31, cf32, cf33, cf34, cf35, cf36, cf37, cf38, cf39, cf40, cf41, cf42, cf43, cf44, cf45, cf46, cf47, cf48, cf49, cf50, cf51, cf52, cf53, cf54, cf55, cf56, cf57, cf58, cf59, cf60, cf61, cf62, cf63, cf64, cf65, cf66, cf67, cf68, cf69, cf70, cf71, cf72, cf73, cf74, cf75, cf76, cf77, cf78, cf79, cf80, bd26_0_1_2_7_8_9_10_11_12_13_14, bd26_0_1_2_7_8_9_10_11_12_13_14p, bd28_0, bd28_0p, bd28_0_1, bd28_0_1p, bd30_, bd30_p, bd30_0_1, bd30_0_1p, bd30_0, bd30_0p, bd46_0_1_2_3_4, bd46_0_1_2_3_4p, bd46_0_3_4, bd46_0_3_4p, bd86_0_1_2, bd86_0_1_2p, bd87_0_1_2_3, bd87_0_1_2_3p, bd95_0_1, bd95_0_1p, bs22_2_0_1, bs47_1_0, bs22_1_0, bs57_6_0_1_2_3_4_5, bs24_1_0, bs22_4_0_1_2_3, bs56_11_0_1_2_3_4_5_6_7_8_9_10, bs57_11_0_1_2_3_4_5_6_7_8_9_10, eq4, eq4p, eq28, eq28p, eq30, eq30p, eq31n, eq31np, eq31s, eq31sp, eq46, eq46p, eq50n, eq50np, eq50s, eq50sp, eq67n, eq67np, eq67s, eq67sp, ne4, ne4p, ne28, ne28p, ne30, ne30p, ne31n, ne31np, ne31s, ne31sp, ne46, ne46p]
  rw [store1_eq sz22 rfl hx3 (by simp)]
  have s4 : Sep [noHp, noHp.set x (confO C (.slice sb C.bl.length cpb) (.slice ap C.po.length cp) (.slice ar C.ro.length cr) (.slice az C.st.length cs)), pb, noHp.set y (confO ⟨0, 0, 0, [], [], [], [], 0, 0, 0, 0, 0, 0, 0, 0, false⟩ nilV nilV nilV nilV), h] (h3.set x (confO C (.slice sb C.bl.length cpb) (.slice ap C.po.length cp) (.slice ar C.ro.length cr) (.slice az C.st.length cs))) := by
    have := (s3.pick 1 rfl rfl).put (o := confO C (.slice sb C.bl.length cpb) (.slice ap C.po.length cp) (.slice ar C.ro.length cr) (.slice az C.st.length cs)) set_self
    rw [set_set] at this
    exact this.none
  have d4 : Dis G (h3.set x (confO C (.slice sb C.bl.length cpb) (.slice ap C.po.length cp) (.slice ar C.ro.length cr) (.slice az C.st.length cs))) := d3.set gx
  try simp -implicitDefEqProofs (maxSteps := 2000000) (disch := first | with_reducible exact Nat.ne_of_beq_eq_false rfl | exact oneCell_int | exact oneCell_bool | omega | rfl | (simp; done) | fail) only [List.nil_append, List.set_cons_succ, List.set_cons_zero, cell_set_self, List.getElem?_cons_succ, List.getElem?_cons_zero, Option.some.injEq, exists_eq_left']
  generalize Hp.set h3 x _ = h4 at s4 d4 ⊢
  refine append_big cellC (by decide) un22 eocell (by decide) s4 d4 Slc.nil (ca.up (s4.in 4 rfl) d4).po (by simpa [Room] using fit.po) fun vp pp h5 op s5 d5 => ?_
  obtain ⟨sp, cpp, rfl, _⟩ := op.len (by decide)
  rw [List.nil_append] at op
  have hx5 := s5.at 1 rfl set_self
  try simp -implicitDefEqProofs (maxSteps := 2000000) (disch := first | with_reducible exact Nat.ne_of_beq_eq_false rfl | exact oneCell_int | exact oneCell_bool | omega | rfl | (simp; done) | fail) only [opH_sv, opH_su, pureW_sv, opH_nil, pureW_nil, pick_t, pick_f, pick_tp, pick_fp, gd_tt, gd_ft, gd_tf, gd_ff, box_new, regs0, regs1, regs2, regs3, regs4, regs5, regs6, cells_agg, cells_int, cells_bool, cells_ptr, cells_slice, cells_string, cells_func, cells_nilFunc, cells_map, retK_ret, retK_normal, resL_tmp, resL_cell, resL_nil0, resL_nil1, resL_nil2, resL_nil3, resC_ptr, ex0, ex1, ex2, ex0p, ex1p, ex2p, HL.cond_true, HL.cond_false, thenK_normal, thenK_ret, thenK_exit, blockK_normal, blockK_ret, blockK_exit, scopeK_normal, scopeK_ret, scopeK_exit, wpH_pure, bin_add, bin_sub, bin_mul, bin_lss, bin_leq, bin_gtr, bin_geq, bin_quo, bin_rem, bin_quop, bin_remp, wrap_in, bin_addp, bin_subp, bin_mulp, bin_lssp, bin_leqp, bin_gtrp, bin_geqp, un_not, un_notp, un_neg, eq_int, ne_int, eq_intp, ne_intp, callV_fn, add_mk, upd_eq, upd_ne, cell_set_self, Nat.zero_add, Nat.add_zero, Option.some.injEq, exists_eq_left', List.getElem?_cons_succ, List.getElem?_cons_zero, true_and, and_true, bne_self_eq_false, beq_self_eq_true, Bool.not_true, Bool.not_false, Bool.and_true, Bool.and_self, Bool.and_false, Bool.true_and, List.length_cons, List.length_nil, ne_eq, not_false_eq_true, Nat.reduceAdd, Nat.reduceMul, if_true, if_false, oneCell_int, oneCell_bool, oneCell_ptr, oneCell_slice, oneCell_string, oneCell_func, oneCell_map, Int.toNat_natCast, List.set_cons_zero, List.set_cons_succ, Nat.lt_irrefl, Nat.zero_lt_succ, Nat.succ_lt_succ_iff, fa26_0, fa26_0p, fa26_1, fa26_1p, fa26_10, fa26_10p, fa26_11, fa26_11p, fa26_12, fa26_12p, fa26_13, fa26_13p, fa26_14, fa26_14p, fa26_2, fa26_2p, fa26_3, fa26_3p, fa26_4, fa26_4p, fa26_5, fa26_5p, fa26_6, fa26_6p, fa26_7, fa26_7p, fa26_8, fa26_8p, fa26_9, fa26_9p, fa28_0, fa28_0p, fa28_1, fa28_1p, fa30_0, fa30_0p, fa30_1, fa30_1p, fa46_0, fa46_0p, fa46_1, fa46_1p, fa46_2, fa46_2p, fa46_3, fa46_3p, fa46_4, fa46_4p, fa46_5, fa46_5p, fa46_6, fa46_6p, fa86_0, fa86_0p, fa86_1, fa86_1p, fa86_2, fa86_2p, fa95_0, fa95_0p, fa95_1, fa95_1p, ld3, ld3p, ld4, ld4p, ld22, ld22p, ld23, ld23p, ld24, ld24p, ld26, ld26p, ld28, ld28p, ld30, ld30p, ld31, ld31p, ld46, ld46p, ld47, ld47p, ld52, ld52p, ld55, ld55p, ld57, ld57p, ld95, ld95p, st3s, st4s, st22s, st23s, st24s, st26w, st28w, st30w, st46w, st47s, st55s, st95w, ix22, ix22p, ix23, ix23p, ix24, ix24p, ix47, ix47p, ix56, ix56p, ix57, ix57p, ix101, ix101p, ln22, ln22p, ln23, ln23p, ln24, ln24p, ln47, ln47p, ln56, ln56p, ln57, ln57p, al22, al26, al28, al30, al46, al47, al95, cf14, cf15, cf16, cf17, cf18, cf19, cf20, cf21, cf22, cf23, cf24, cf25, cf26, cf27, cf28, cf29, cf30, cf31, cf32, cf33, cf34, cf35, cf36, cf37, cf38, cf39, cf40, cf41, cf42, cf43, cf44, cf45, cf46, cf47, cf48, cf49, cf50, cf51, cf52, cf53, cf54, cf55, cf56, cf57, cf58, cf59, cf60, cf61, cf62, cf63, cf64, cf65, cf66, cf67, cf68, cf69, cf70, cf71, cf72, cf73, cf74, cf75, cf76, cf77, cf78, cf79, cf80, bd26_0_1_2_7_8_9_10_11_12_13_14, bd26_0_1_2_7_8_9_10_11_12_13_14p, bd28_0, bd28_0p, bd28_0_1, bd28_0_1p, bd30_, bd30_p, bd30_0_1, bd30_0_1p, bd30_0, bd30_0p, bd46_0_1_2_3_4, bd46_0_1_2_3_4p, bd46_0_3_4, bd46_0_3_4p, bd86_0_1_2, bd86_0_1_2p, bd87_0_1_2_3, bd87_0_1_2_3p, bd95_0_1, bd95_0_1p, bs22_2_0_1, bs47_1_0, bs22_1_0, bs57_6_0_1_2_3_4_5, bs24_1_0, bs22_4_0_1_2_3, bs56_11_0_1_2_3_4_5_6_7_8_9_10, bs57_11_0_1_2_3_4_5_6_7_8_9_10, eq4, eq4p, eq28, eq28p, eq30, eq30p, eq31n, eq31np, eq31s, eq31sp, eq46, eq46p, eq50n, eq50np, eq50s, eq50sp, eq67n, eq67np, eq67s, eq67sp, ne4, ne4p, ne28, ne28p, ne30, ne30p, ne31n, ne31np, ne31s, ne31sp, ne46, ne46p]
  rw [store1_eq sz22 rfl hx5 (by simp)]
  have s6 : Sep [noHp, noHp.set x (confO C (.slice sb C.bl.length cpb) (.slice sp C.po.length cpp) (.slice ar C.ro.length cr) (.slice az C.st.length cs)), pp, pb, noHp.set y (confO ⟨0, 0, 0, [], [], [], [], 0, 0, 0, 0, 0, 0, 0, 0, false⟩ nilV nilV nilV nilV), h] (h5.set x (confO C (.slice sb C.bl.length cpb) (.slice sp C.po.length cpp) (.slice ar C.ro.length cr) (.slice az C.st.length cs))) := by
    have := (s5.pick 1 rfl rfl).put (o := confO C (.slice sb C.bl.length cpb) (.slice sp C.po.length cpp) (.slice ar C.ro.length cr) (.slice az C.st.length cs)) set_self
    rw [set_set] at this
    exact this.none
  have d6 : Dis G (h5.set x (confO C (.slice sb C.bl.length cpb) (.slice sp C.po.length cpp) (.slice ar C.ro.length cr) (.slice az C.st.length cs))) := d5.set gx
  try simp -implicitDefEqProofs (maxSteps := 2000000) (disch := first | with_reducible exact Nat.ne_of_beq_eq_false rfl | exact oneCell_int | exact oneCell_bool | omega | rfl | (simp; done) | fail) only [List.nil_append, List.set_cons_succ, List.set_cons_zero, cell_set_self, List.getElem?_cons_succ, List.getElem?_cons_zero, Option.some.injEq, exists_eq_left']
  generalize Hp.set h5 x _ = h6 at s6 d6 ⊢
  refine append_big poseC (by decide) un23 eopose (by decide) s6 d6 Slc.nil (ca.up (s6.in 5 rfl) d6).ro (by simpa [Room] using fit.ro) fun vr pr h7 or s7 d7 => ?_
  obtain ⟨sr, cpr, rfl, _⟩ := or.len (by decide)
  rw [List.nil_append] at or
  have hx7 := s7.at 1 rfl set_self
  try simp -implicitDefEqProofs (maxSteps := 2000000) (disch := first | with_reducible exact Nat.ne_of_beq_eq_false rfl | exact oneCell_int | exact oneCell_bool | omega | rfl | (simp; done) | fail) only [opH_sv, opH_su, pureW_sv, opH_nil, pureW_nil, pick_t, pick_f, pick_tp, pick_fp, gd_tt, gd_ft, gd_tf, gd_ff, box_new, regs0, regs1, regs2, regs3, regs4, regs5, regs6, cells_agg, cells_int, cells_bool, cells_ptr, cells_slice, cells_string, cells_func, cells_nilFunc, cells_map, retK_ret, retK_normal, resL_tmp, resL_cell, resL_nil0, resL_nil1, resL_nil2, resL_nil3, resC_ptr, ex0, ex1, ex2, ex0p, ex1p, ex2p, HL.cond_true, HL.cond_false, thenK_normal, thenK_ret, thenK_exit, blockK_normal, blockK_ret, blockK_exit, scopeK_normal, scopeK_ret, scopeK_exit, wpH_pure, bin_add, bin_sub, bin_mul, bin_lss, bin_leq, bin_gtr, bin_geq, bin_quo, bin_rem, bin_quop, bin_remp, wrap_in, bin_addp, bin_subp, bin_mulp, bin_lssp, bin_leqp, bin_gtrp, bin_geqp, un_not, un_notp, un_neg, eq_int, ne_int, eq_intp, ne_intp, callV_fn, add_mk, upd_eq, upd_ne, cell_set_self, Nat.zero_add, Nat.add_zero, Option.some.injEq, exists_eq_left', List.getElem?_cons_succ, List.getElem?_cons_zero, true_and, and_true, bne_self_eq_false, beq_self_eq_true, Bool.not_true, Bool.not_false, Bool.and_true, Bool.and_self, Bool.and_false, Bool.true_and, List.length_cons, List.length_nil, ne_eq, not_false_eq_true, Nat.reduceAdd, Nat.reduceMul, if_true, if_false, oneCell_int, oneCell_bool, oneCell_ptr, oneCell_slice, oneCell_string, oneCell_func, oneCell_map, Int.toNat_natCast, List.set_cons_zero, List.set_cons_succ, Nat.lt_irrefl, Nat.zero_lt_succ, Nat.succ_lt_succ_iff, fa26_0, fa26_0p, fa26_1, fa26_1p, fa26_10, fa26_10p, fa26_11, fa26_11p, fa26_12, fa26_12p, fa26_13, fa26_13p, fa26_14, fa26_14p, fa26_2, fa26_2p, fa26_3, fa26_3p, fa26_4, fa26_4p, fa26_5, fa26_5p, fa26_6, fa26_6p, fa26_7, fa26_7p, fa26_8, fa26_8p, fa26_9, fa26_9p, fa28_0, fa28_0p, fa28_1, fa28_1p, fa30_0, fa30_0p, fa30_1, fa30_1p, fa46_0, fa46_0p, fa46_1, fa46_1p, fa46_2, fa46_2p, fa46_3, fa46_3p, fa46_4, fa46_4p, fa46_5, fa46_5p, fa46_6, fa46_6p, fa86_0, fa86_0p, fa86_1, fa86_1p, fa86_2, fa86_2p, fa95_0, fa95_0p, fa95_1, fa95_1p, ld3, ld3p, ld4, ld4p, ld22, ld22p, ld23, ld23p, ld24, ld24p, ld26, ld26p, ld28, ld28p, ld30, ld30p, ld31, ld31p, ld46, ld46p, ld47, ld47p, ld52, ld52p, ld55, ld55p, ld57, ld57p, ld95, ld95p, st3s, st4s, st22s, st23s, st24s, st26w, st28w, st30w, st46w, st47s, st55s, st95w, ix22, ix22p, ix23, ix23p, ix24, ix24p, ix47, ix47p, ix56, ix56p, ix57, ix57p, ix101, ix101p, ln22, ln22p, ln23, ln23p, ln24, ln24p, ln47, ln47p, ln56, ln56p, ln57, ln57p, al22, al26, al28, al30, al46, al47, al95, cf14, cf15, cf16, cf17, cf18, cf19, cf20, cf21, cf22, cf23, cf24, cf25, cf26, cf27, cf28, cf29, cf30, cf31, cf32, cf33, cf34, cf35, cf36, cf37, cf38, cf39, cf40, cf41, cf42, cf43, cf44, cf45, cf46, cf47, cf48, cf49, cf50, cf51, cf52, cf53, cf54, cf55, cf56, cf57, cf58, cf59, cf60, cf61, cf62, cf63, cf64, cf65, cf66, cf67, cf68, cf69, cf70, cf71, cf72, cf73, cf74, cf75, cf76, cf77, cf78, cf79, cf80, bd26_0_1_2_7_8_9_10_11_12_13_14, bd26_0_1_2_7_8_9_10_11_12_13_14p, bd28_0, bd28_0p, bd28_0_1, bd28_0_1p, bd30_, bd30_p, bd30_0_1, bd30_0_1p, bd30_0, bd30_0p, bd46_0_1_2_3_4, bd46_0_1_2_3_4p, bd46_0_3_4, bd46_0_3_4p, bd86_0_1_2, bd86_0_1_2p, bd87_0_1_2_3, bd87_0_1_2_3p, bd95_0_1, bd95_0_1p, bs22_2_0_1, bs47_1_0, bs22_1_0, bs57_6_0_1_2_3_4_5, bs24_1_0, bs22_4_0_1_2_3, bs56_11_0_1_2_3_4_5_6_7_8_9_10, bs57_11_0_1_2_3_4_5_6_7_8_9_10, eq4, eq4p, eq28, eq28p, eq30, eq30p, eq31n, eq31np, eq31s, eq31sp, eq46, eq46p, eq50n, eq50np, eq50s, eq50sp, eq67n, eq67np, eq67s, eq67sp, ne4, ne4p, ne28, ne28p, ne30, ne30p, ne31n, ne31np, ne31s, ne31sp, ne46, ne46p]
  rw [store1_eq sz23 rfl hx7 (by simp)]
  have s8 : Sep [noHp.set x (confO C (.slice sb C.bl.length cpb) (.slice sp C.po.length cpp) (.slice sr C.ro.length cpr) (.slice az C.st.length cs)), pr, pp, pb, noHp.set y (confO ⟨0, 0, 0, [], [], [], [], 0, 0, 0, 0, 0, 0, 0, 0, false⟩ nilV nilV nilV nilV), h] (h7.set x (confO C (.slice sb C.bl.length cpb) (.slice sp C.po.length cpp) (.slice sr C.ro.length cpr) (.slice az C.st.length cs))) := by
    have := (s7.pick 1 rfl rfl).put (o := confO C (.slice sb C.bl.length cpb) (.slice sp C.po.length cpp) (.slice sr C.ro.length cpr) (.slice az C.st.length cs)) set_self
    rw [set_set] at this
    exact this
  have d8 : Dis G (h7.set x (confO C (.slice sb C.bl.length cpb) (.slice sp C.po.length cpp) (.slice sr C.ro.length cpr) (.slice az C.st.length cs))) := d7.set gx
  try simp -implicitDefEqProofs (maxSteps := 2000000) (disch := first | with_reducible exact Nat.ne_of_beq_eq_false rfl | exact oneCell_int | exact oneCell_bool | omega | rfl | (simp; done) | fail) only [List.nil_append, List.set_cons_succ, List.set_cons_zero, cell_set_self, List.getElem?_cons_succ, List.getElem?_cons_zero, Option.some.injEq, exists_eq_left']
  generalize Hp.set h7 x _ = h8 at s8 d8 ⊢
  refine (copystacks_spec (ca.up (s8.in 5 rfl) d8) fit.st fit.bins).mono ?_
  rintro vz h9 ⟨pz, oz, s9, d9⟩
  have s9' : Sep [pz, noHp.set x (confO C (.slice sb C.bl.length cpb) (.slice sp C.po.length cpp) (.slice sr C.ro.length cpr) (.slice az C.st.length cs)), pr, pp, pb, noHp.set y (confO ⟨0, 0, 0, [], [], [], [], 0, 0, 0, 0, 0, 0, 0, 0, false⟩ nilV nilV nilV nilV), h] h9 := by
    have := s9.split s8
    simpa using this
  obtain ⟨sz, cpz, rfl⟩ : ∃ sz cpz, vz = .slice sz C.st.length cpz := by
    obtain ⟨raws, _, _, o, _, e, _⟩ := oz
    obtain ⟨a, b, e2, _⟩ := o.len (by decide)
    exact ⟨a, b, by rw [e2, e]⟩
  have hx9 := s9'.at 1 rfl set_self
  try simp -implicitDefEqProofs (maxSteps := 2000000) (disch := first | with_reducible exact Nat.ne_of_beq_eq_false rfl | exact oneCell_int | exact oneCell_bool | omega | rfl | (simp; done) | fail) only [opH_sv, opH_su, pureW_sv, opH_nil, pureW_nil, pick_t, pick_f, pick_tp, pick_fp, gd_tt, gd_ft, gd_tf, gd_ff, box_new, regs0, regs1, regs2, regs3, regs4, regs5, regs6, cells_agg, cells_int, cells_bool, cells_ptr, cells_slice, cells_string, cells_func, cells_nilFunc, cells_map, retK_ret, retK_normal, resL_tmp, resL_cell, resL_nil0, resL_nil1, resL_nil2, resL_nil3, resC_ptr, ex0, ex1, ex2, ex0p, ex1p, ex2p, HL.cond_true, HL.cond_false, thenK_normal, thenK_ret, thenK_exit, blockK_normal, blockK_ret, blockK_exit, scopeK_normal, scopeK_ret, scopeK_exit, wpH_pure, bin_add, bin_sub, bin_mul, bin_lss, bin_leq, bin_gtr, bin_geq, bin_quo, bin_rem, bin_quop, bin_remp, wrap_in, bin_addp, bin_subp, bin_mulp, bin_lssp, bin_leqp, bin_gtrp, bin_geqp, un_not, un_notp, un_neg, eq_int, ne_int, eq_intp, ne_intp, callV_fn, add_mk, upd_eq, upd_ne, cell_set_self, Nat.zero_add, Nat.add_zero, Option.some.injEq, exists_eq_left', List.getElem?_cons_succ, List.getElem?_cons_zero, true_and, and_true, bne_self_eq_false, beq_self_eq_true, Bool.not_true, Bool.not_false, Bool.and_true, Bool.and_self, Bool.and_false, Bool.true_and, List.length_cons, List.length_nil, ne_eq, not_false_eq_true, Nat.reduceAdd, Nat.reduceMul, if_true, if_false, oneCell_int, oneCell_bool, oneCell_ptr, oneCell_slice, oneCell_string, oneCell_func, oneCell_map, Int.toNat_natCast, List.set_cons_zero, List.set_cons_succ, Nat.lt_irrefl, Nat.zero_lt_succ, Nat.succ_lt_succ_iff, fa26_0, fa26_0p, fa26_1, fa26_1p, fa26_10, fa26_10p, fa26_11, fa26_11p, fa26_12, fa26_12p, fa26_13, fa26_13p, fa26_14, fa26_14p, fa26_2, fa26_2p, fa26_3, fa26_3p, fa26_4, fa26_4p, fa26_5, fa26_5p, fa26_6, fa26_6p, fa26_7, fa26_7p, fa26_8, fa26_8p, fa26_9, fa26_9p, fa28_0, fa28_0p, fa28_1, fa28_1p, fa30_0, fa30_0p, fa30_1, fa30_1p, fa46_0, fa46_0p, fa46_1, fa46_1p, fa46_2, fa46_2p, fa46_3, fa46_3p, fa46_4, fa46_4p, fa46_5, fa46_5p, fa46_6, fa46_6p, fa86_0, fa86_0p, fa86_1, fa86_1p, fa86_2, fa86_2p, fa95_0, fa95_0p, fa95_1, fa95_1p, ld3, ld3p, ld4, ld4p, ld22, ld22p, ld23, ld23p, ld24, ld24p, ld26, ld26p, ld28, ld28p, ld30, ld30p, ld31, ld31p, ld46, ld46p, ld47, ld47p, ld52, ld52p, ld55, ld55p, ld57, ld57p, ld95, ld95p, st3s, st4s, st22s, st23s, st24s, st26w, st28w, st30w, st46w, st47s, st55s, st95w, ix22, ix22p, ix23, ix23p, ix24, ix24p, ix47, ix47p, ix56, ix56p, ix57, ix57p, ix101, ix101p, ln22, ln22p, ln23, ln23p, ln24, ln24p, ln47, ln47p, ln56, ln56p, ln57, ln57p, al22, al26, al28, al30, al46, al47, al95, cf14, cf15, cf16, cf17, cf18, cf19, cf20, cf21, cf22, cf23, cf24, cf25, cf26, cf27, cf28, cf29, cf30, cf31, cf32, cf33, cf34, cf35, cf36, cf37, cf38, cf39, cf40, cf41, cf42, cf43, cf44, cf45, cf46, cf47, cf48, cf49, cf50, cf51, cf52, cf53, cf54, cf55, cf56, cf57, cf58, cf59, cf60, cf61, cf62, cf63, cf64, cf65, cf66, cf67, cf68, cf69, cf70, cf71, cf72, cf73, cf74, cf75, cf76, cf77, cf78, cf79, cf80, bd26_0_1_2_7_8_9_10_11_12_13_14, bd26_0_1_2_7_8_9_10_11_12_13_14p, bd28_0, bd28_0p, bd28_0_1, bd28_0_1p, bd30_, bd30_p, bd30_0_1, bd30_0_1p, bd30_0, bd30_0p, bd46_0_1_2_3_4, bd46_0_1_2_3_4p, bd46_0_3_4, bd46_0_3_4p, bd86_0_1_2, bd86_0_1_2p, bd87_0_1_2_3, bd87_0_1_2_3p, bd95_0_1, bd95_0_1p, bs22_2_0_1, bs47_1_0, bs22_1_0, bs57_6_0_1_2_3_4_5, bs24_1_0, bs22_4_0_1_2_3, bs56_11_0_1_2_3_4_5_6_7_8_9_10, bs57_11_0_1_2_3_4_5_6_7_8_9_10, eq4, eq4p, eq28, eq28p, eq30, eq30p, eq31n, eq31np, eq31s, eq31sp, eq46, eq46p, eq50n, eq50np, eq50s, eq50sp, eq67n, eq67np, eq67s, eq67sp, ne4, ne4p, ne28, ne28p, ne30, ne30p, ne31n, ne31np, ne31s, ne31sp, ne46, ne46p]
  rw [store1_eq sz24 rfl hx9 (by simp)]
  have s10 : Sep [noHp.set x (confO C (.slice sb C.bl.length cpb) (.slice sp C.po.length cpp) (.slice sr C.ro.length cpr) (.slice sz C.st.length cpz)), pz, pr, pp, pb, noHp.set y (confO ⟨0, 0, 0, [], [], [], [], 0, 0, 0, 0, 0, 0, 0, 0, false⟩ nilV nilV nilV nilV), h] (h9.set x (confO C (.slice sb C.bl.length cpb) (.slice sp C.po.length cpp) (.slice sr C.ro.length cpr) (.slice sz C.st.length cpz))) := by
    have := (s9'.pick 1 rfl rfl).put (o := confO C (.slice sb C.bl.length cpb) (.slice sp C.po.length cpp) (.slice sr C.ro.length cpr) (.slice sz C.st.length cpz)) set_self
    rw [set_set] at this
    exact this
  have d10 : Dis G (h9.set x (confO C (.slice sb C.bl.length cpb) (.slice sp C.po.length cpp) (.slice sr C.ro.length cpr) (.slice sz C.st.length cpz))) := d9.set gx
  try simp -implicitDefEqProofs (maxSteps := 2000000) (disch := first | with_reducible exact Nat.ne_of_beq_eq_false rfl | exact oneCell_int | exact oneCell_bool | omega | rfl | (simp; done) | fail) only [List.set_cons_succ, List.set_cons_zero, cell_set_self, List.getElem?_cons_zero, Option.some.injEq, List.getElem?_cons_succ, exists_eq_left']
  generalize Hp.set h9 x _ = h10 at s10 d10 ⊢
  have hy10 := s10.at 5 rfl set_self
  rw [store26 hy10]
  try simp -implicitDefEqProofs (maxSteps := 2000000) (disch := first | with_reducible exact Nat.ne_of_beq_eq_false rfl | exact oneCell_int | exact oneCell_bool | omega | rfl | (simp; done) | fail) only [cell_set_self, List.getElem?_cons_zero, Option.some.injEq, List.getElem?_cons_succ, exists_eq_left']
  refine ⟨⟨pb, pp, pr, pz, _, _, _, _, rfl, ob, op, or, oz, ?_⟩, d10.set gy⟩
  have s11 := ((s10.pick 5 rfl rfl).put (o := confO C (.slice sb C.bl.length cpb) (.slice sp C.po.length cpp) (.slice sr C.ro.length cpr) (.slice sz C.st.length cpz)) set_self).drop.drop
  have s12 : Sep [pz, pr, pp, pb, h] _ := s11
  exact ((s12.pick 1 rfl rfl).pick 2 rfl rfl).pick 3 rfl rfl

theorem StkO.len {pz : Hp} {v : Value} {st : List (Cell × List Int)} (o : StkO pz v st) : ∃ sz cpz, v = .slice sz st.length cpz := by
  obtain ⟨raws, _, _, o, _, e, _⟩ := o
  obtain ⟨a, b, e2, _⟩ := o.len (by decide)
  exact ⟨a, b, by rw [e2, e]⟩

/-- The copy, seen. -/
theorem CO.cv {G h h' h2 pb pp pr pz : Hp} {C : Conf} {u vb vp vr vz : Value} (c : CO h C u h' pb pp pr pz vb vp vr vz) (l : h'.le h2) : CV G h2 u C := by
  obtain ⟨rfl, ob, op, or, oz, s⟩ := c
  obtain ⟨sb, cb, rfl, _⟩ := ob.len (by decide)
  obtain ⟨sp, cp, rfl, _⟩ := op.len (by decide)
  obtain ⟨sr, cr, rfl, _⟩ := or.len (by decide)
  obtain ⟨sz, cz, rfl⟩ := oz.len
  refine ⟨sb, cb, sp, cp, sr, cr, sz, cz, rfl, ob.sees (by decide) ((s.in 0 rfl).trans l), op.sees (by decide) ((s.in 1 rfl).trans l), or.sees (by decide) ((s.in 2 rfl).trans l), ?_⟩
  obtain ⟨raws, pr', pb', o, t, e, rel⟩ := oz
  refine ⟨raws, o.sees (by decide) (((t.in 0 rfl).trans (s.in 3 rfl)).trans l), fun i r x h1 h2 => ?_⟩
  obtain ⟨a, b, c⟩ := rel i r x h1 h2
  exact ⟨a, b, c.sees (by decide) (((t.in 1 rfl).trans (s.in 3 rfl)).trans l)⟩

end Go.Proofs.YtnpdploihlgcgaaDoor
end

section
/- What the row's premise gives: the package's steps as they lie. -/
set_option linter.unusedSimpArgs false
set_option linter.unusedVariables false
set_option maxRecDepth 100000
namespace Go.Proofs.YtnpdploihlgcgaaDoor
open Go Go.HL Go.ChangeShapes Go.WideShapes Go.RowKit

theorem own_knob : ownKnob Tryd.prog.godebug = none := by kernel_rfl
theorem laid_out : laidOutB Tryd.prog = true := by kernel_rfl
theorem gSteps : Tryd.prog.globalNamed "skep/grid.steps" = some 0 := by kernel_rfl
theorem tSteps : (Tryd.prog.globals[0]?).map (·.type) = some 81 := by kernel_rfl

abbrev laidL : List (String × DataW Unit) := [("skep/grid.steps", Rows.laid_skep_grid_steps)]

theorem door_met (os : Os) (args : Array Value) : laidMetH Tryd.prog laidL ((World.doorLaid Tryd.prog 400 os).forCall (fun _ _ => 0) ⟨#[], args, []⟩).memory :=
  laidMetH_of_parts3 (fuel := 8) (laidMet_of_run' 8 (by kernel_rfl) (by kernel_rfl)) (by kernel_rfl) (by kernel_rfl)

theorem dec_fieldsD {H : Type} {enc : TypeId × Value → H} {P : Program} {w : World} {base : Nat} {spare : Nat → Bool} {held : Bool} {e : TypeId} {fuel : Nat} {cs : List Value} {y : DataW H × List MemPlace} {tos : List (TypeId × Nat)} (ht : structFields P e = some tos)
    (h : DataW.trod enc P w base spare held fuel e cs = some y) : cs.length = P.cellsOf e ∧ ∃ (xs : List (DataW H × List MemPlace)) (m : Nat), y = (.agg (xs.map (·.1)), xs.flatMap (·.2)) ∧ xs.length = tos.length ∧ ∀ (i : Nat) (t o : Nat), tos[i]? = some (t, o) → DataW.trod enc P w base spare held m t ((cs.drop o).take (P.cellsOf t)) = xs[i]? := by
  unfold structFields at ht
  split at ht
  · rename_i fs hfs
    obtain ⟨xs, n, _, h0, h1, h2, h3⟩ := DataW.trod_struct hfs h
    simp only [Option.some.injEq] at ht
    subst ht
    refine ⟨h1, xs, n, h0, by simp [h2], fun i t o hi => ?_⟩
    rw [List.getElem?_map, Array.getElem?_toList] at hi
    cases q : fs[i]? with
    | none => rw [q] at hi; cases hi
    | some f =>
      rw [q] at hi
      simp only [Option.map_some, Option.some.injEq, Prod.mk.injEq] at hi
      obtain ⟨rfl, rfl⟩ := hi
      exact h3 i f q
  · cases ht

theorem un3i : Tryd.prog.underlying 3 = some (.int .i64) := by kernel_rfl
theorem c3 : Tryd.prog.cellsOf 3 = 1 := by kernel_rfl
theorem c28 : Tryd.prog.cellsOf 28 = 2 := by kernel_rfl
theorem c81 : Tryd.prog.cellsOf 81 = 8 := by kernel_rfl
theorem sf28 : structFields Tryd.prog 28 = some [(3, 0), (3, 1)] := by kernel_rfl

theorem step_dec {H : Type} {enc : TypeId × Value → H} {w : World} {base : Nat} {spare : Nat → Bool} {held : Bool} {m : Nat} {cs : List Value} {x : DataW H × List MemPlace} {a b : Int}
    (h : DataW.trod enc Tryd.prog w base spare held m 28 cs = some x) (e : x.1 = .agg [.lit (.int .i64 a), .lit (.int .i64 b)]) : cs = [.int .i64 a, .int .i64 b] := by
  obtain ⟨hl, xs, n, rfl, hxl, d⟩ := dec_fieldsD sf28 h
  rw [c28] at hl
  match cs, hl, xs, hxl with
  | [v0, v1], _, [x0, x1], _ =>
  have h0 := d 0 3 0 rfl
  have h1 := d 1 3 1 rfl
  rw [c3] at h0 h1
  obtain ⟨k0, e0, f0, _⟩ := DataW.trod_int un3i (show DataW.trod _ _ _ _ _ _ n 3 _ = some x0 from h0)
  obtain ⟨k1, e1, f1, _⟩ := DataW.trod_int un3i (show DataW.trod _ _ _ _ _ _ n 3 _ = some x1 from h1)
  simp at e0 e1
  subst e0 e1 f0 f1
  simp at e
  obtain ⟨rfl, rfl⟩ := e
  rfl

theorem len8 {α : Type} {L : List α} (h : L.length = 8) : ∃ a b c d e f g i, L = [a, b, c, d, e, f, g, i] := by
  match L, h with
  | [a, b, c, d, e, f, g, i], _ => exact ⟨a, b, c, d, e, f, g, i, rfl⟩

theorem of_laid {W : World} (h : laidMetH Tryd.prog laidL W) : Steps (ground W) := by
  rw [MakeChecks.laidMetH_plain _ _ _ (by kernel_rfl)] at h
  obtain ⟨ps, ⟨g0, t0, cs0, f0, p0, q0, hg0, ht0, hv0, hd0, _, _⟩, _, _⟩ := h
  obtain rfl := Option.some.inj (gSteps.symm.trans hg0)
  obtain rfl := Option.some.inj (tSteps.symm.trans ht0)
  obtain ⟨xs, m, rfl, hx, hl, hxl, hel⟩ := DataW.trod_array un81 hd0
  rw [c81] at hl
  rw [c28] at hel
  simp only [Prod.mk.injEq] at hx
  obtain ⟨hx, _⟩ := hx
  have hobj : ∃ e f, W.heap[0]? = some (.cells cs0 e f) := by
    unfold World.var? at hv0
    rw [gSteps] at hv0
    simp only [Option.bind_some] at hv0
    split at hv0
    · rename_i c e f hc
      cases hv0
      exact ⟨e, f, hc⟩
    · cases hv0
  obtain ⟨e, f, hobj⟩ := hobj
  refine ⟨e, f, ?_⟩
  show W.heap[0]? = _
  rw [hobj]
  match xs, hxl with
  | [x0, x1, x2, x3], _ =>
  have h0 := hel 0 (by decide)
  have h1 := hel 1 (by decide)
  have h2 := hel 2 (by decide)
  have h3 := hel 3 (by decide)
  unfold Rows.laid_skep_grid_steps at hx
  simp only [List.map_cons, List.map_nil, DataW.agg.injEq, List.cons.injEq] at hx
  have k0 := step_dec (show DataW.trod _ _ _ _ _ _ m 28 _ = some x0 from h0) hx.1.symm
  have k1 := step_dec (show DataW.trod _ _ _ _ _ _ m 28 _ = some x1 from h1) hx.2.1.symm
  have k2 := step_dec (show DataW.trod _ _ _ _ _ _ m 28 _ = some x2 from h2) hx.2.2.1.symm
  have k3 := step_dec (show DataW.trod _ _ _ _ _ _ m 28 _ = some x3 from h3) hx.2.2.2.1.symm
  obtain ⟨cs⟩ := cs0
  obtain ⟨a0, a1, a2, a3, a4, a5, a6, a7, rfl⟩ := len8 hl
  simp at k0 k1 k2 k3
  obtain ⟨rfl, rfl⟩ := k0
  obtain ⟨rfl, rfl⟩ := k1
  obtain ⟨rfl, rfl⟩ := k2
  obtain ⟨rfl, rfl⟩ := k3
  rfl

end Go.Proofs.YtnpdploihlgcgaaDoor
end

section
/- GridMay: the walk. -/
set_option linter.unusedSimpArgs false
set_option linter.unusedVariables false
set_option maxRecDepth 100000
namespace Go.Proofs.YtnpdploihlgcgaaDoor
open Go Go.HL

theorem Fit0.lens {C : Conf} (f : Fit0 C) : C.bl.length ≤ 100000000000000 ∧ C.po.length ≤ 100000000000000 ∧ C.ro.length ≤ 100000000000000 ∧ C.st.length ≤ 100000000000000 := by
  obtain ⟨a, b, c, d, _⟩ := f
  unfold Room at a b c d
  omega

theorem CV.box {G h : Hp} {v : Value} {C : Conf} (hv : CV G h v C) : ∃ a1 n1 a2 n2 a3 n3 a4 n4, v = confV C a1 n1 a2 n2 a3 n3 a4 n4 := by
  obtain ⟨ab, cb, ap, cp, ar, cr, az, cs, rfl, ca⟩ := hv
  exact ⟨_, _, _, _, _, _, _, _, rfl⟩

end Go.Proofs.YtnpdploihlgcgaaDoor
end

section
/- GridLegal: the walk. -/
set_option linter.unusedSimpArgs false
set_option linter.unusedVariables false
set_option maxRecDepth 100000
namespace Go.Proofs.YtnpdploihlgcgaaDoor
open Go Go.HL

theorem swept_le {C : Conf} {m : Move} (w16 : wC C ≤ 16) (k16 : kC C ≤ 16) : (rsweptM C m).length ≤ 256 := by
  unfold rsweptM
  split
  · exact swept_len w16 k16
  · simp

end Go.Proofs.YtnpdploihlgcgaaDoor
end

section
/- Each legal run and turn is among the moves of its pose, just once. -/
set_option linter.unusedSimpArgs false
set_option linter.unusedVariables false
namespace Go.Proofs.YtnpdploihlgcgaaDoor
open Go Go.HL

variable {C : Conf}

theorem mem_runFrom {α : Type} {ok : Nat → Bool} {mk : Nat → α} {x : α} : ∀ {k n : Nat}, x ∈ runFrom ok mk n k ↔ ∃ j, n ≤ j ∧ j < n + k ∧ x = mk j ∧ ∀ i, n ≤ i → i ≤ j → ok i = true
  | 0, n => by
    unfold runFrom
    simp only [List.not_mem_nil, false_iff]
    rintro ⟨j, h1, h2, _⟩
    omega
  | k + 1, n => by
    unfold runFrom
    cases hb : ok n with
    | false =>
      simp only [Bool.false_eq_true, if_false, List.not_mem_nil, false_iff]
      rintro ⟨j, h1, h2, _, h⟩
      have := h n (Nat.le_refl _) h1
      rw [hb] at this; cases this
    | true =>
      simp only [if_true, List.mem_cons]
      rw [mem_runFrom]
      constructor
      · rintro (rfl | ⟨j, h1, h2, rfl, h⟩)
        · exact ⟨n, Nat.le_refl _, by omega, rfl, fun i a b => by obtain rfl : i = n := by omega
                                                                  exact hb⟩
        · exact ⟨j, by omega, by omega, rfl, fun i a b => by
            by_cases hi : i = n
            · subst hi; exact hb
            · exact h i (by omega) b⟩
      · rintro ⟨j, h1, h2, rfl, h⟩
        by_cases hj : j = n
        · subst hj; exact .inl rfl
        · exact .inr ⟨j, by omega, by omega, rfl, fun i a b => h i (by omega) b⟩
theorem mem_dirsL {α : Type} {D : Nat → List α} {x : α} : ∀ {k i : Nat}, x ∈ dirsL D i k ↔ ∃ j, i ≤ j ∧ j < i + k ∧ x ∈ D j
  | 0, i => by
    unfold dirsL
    simp only [List.not_mem_nil, false_iff]
    rintro ⟨j, h1, h2, _⟩
    omega
  | k + 1, i => by
    unfold dirsL
    rw [List.mem_append, mem_dirsL]
    constructor
    · rintro (h | ⟨j, h1, h2, h⟩)
      · exact ⟨i, Nat.le_refl _, by omega, h⟩
      · exact ⟨j, by omega, by omega, h⟩
    · rintro ⟨j, h1, h2, h⟩
      by_cases hj : j = i
      · subst hj; exact .inl h
      · exact .inr ⟨j, by omega, by omega, h⟩
theorem mem_rrun {p : Pose} {d : Nat} {x : Move} (h : x ∈ rrunD C p d) : ∃ n, 1 ≤ n ∧ n < 17 ∧ x = mkR p d n ∧ legalR C x = true := by
  obtain ⟨n, h1, h2, rfl, h3⟩ := mem_runFrom.1 h
  exact ⟨n, h1, by omega, rfl, h3 n h1 (Nat.le_refl _)⟩

theorem legal_fits {m : Move} (h : legalR C m = true) : fitsB C m.f = true := by
  unfold legalR at h
  exact (Bool.and_eq_true _ _ ▸ h).1

end Go.Proofs.YtnpdploihlgcgaaDoor
end

section
/- GridBack: the plain law. -/
set_option linter.unusedSimpArgs false
set_option linter.unusedVariables false
set_option maxRecDepth 100000
namespace Go.Proofs.YtnpdploihlgcgaaDoor
open Go Go.HL
variable {C : Conf}

def backM (m : Move) : Move := ⟨m.k, if m.k = 1 then (m.d + 2).tmod 4 else m.d, m.n, m.t, m.f, m.a, m.e⟩

theorem pose_ext {p q : Pose} (h1 : p.x = q.x) (h2 : p.y = q.y) (h3 : p.d = q.d) : p = q := by cases p; cases q; simp_all
theorem open_16 (mk : MadeOk C) {c : Cell} (h : openB C c = true) : (0 ≤ c.1 ∧ c.1 < wC C ∧ 0 ≤ c.2 ∧ c.2 < kC C) ∧ c.1 < 16 ∧ c.2 < 16 := by
  obtain ⟨e1, e2, _, w2, _, k2⟩ := within_wk mk.laid.w mk.laid.h
  unfold openB inB at h
  simp only [Bool.and_eq_true, decide_eq_true_eq, ge_iff_le] at h
  omega
theorem wr_s {x : Int} (h : -100 ≤ x ∧ x ≤ 100) : wr x = x := wr_in (by unfold Bd; omega)
theorem sh_small {p : Pose} {d n : Int} (hx : 0 ≤ p.x ∧ p.x < 16) (hy : 0 ≤ p.y ∧ p.y < 16) (hn : 0 ≤ n ∧ n ≤ 16) :
    (shiftR p d n).x = (if d = 1 then p.x + n else if d = 3 then p.x - n else p.x) ∧ (shiftR p d n).y = (if d = 0 then p.y - n else if d = 2 then p.y + n else p.y) ∧ (shiftR p d n).d = p.d := by
  unfold shiftR
  rw [wr_s (x := p.x + n) (by omega), wr_s (x := p.x - n) (by omega), wr_s (x := p.y - n) (by omega), wr_s (x := p.y + n) (by omega)]
  exact ⟨rfl, rfl, rfl⟩
theorem back_shift {p : Pose} {d n i : Int} (hx : 0 ≤ p.x ∧ p.x < 16) (hy : 0 ≤ p.y ∧ p.y < 16) (hd : 0 ≤ d ∧ d ≤ 3) (hn : 0 ≤ n ∧ n ≤ 16) (hi : 0 ≤ i ∧ i ≤ n) (tx : 0 ≤ (shiftR p d n).x ∧ (shiftR p d n).x < 16) (ty : 0 ≤ (shiftR p d n).y ∧ (shiftR p d n).y < 16) :
    shiftR (shiftR p d n) ((d + 2).tmod 4) i = shiftR p d (n - i) := by
  obtain ⟨a1, a2, a3⟩ := sh_small (d := (d + 2).tmod 4) (n := i) tx ty (by omega)
  obtain ⟨b1, b2, b3⟩ := sh_small (d := d) (n := n) hx hy hn
  obtain ⟨c1, c2, c3⟩ := sh_small (d := d) (n := n - i) hx hy (by omega)
  have hd4 : d = 0 ∨ d = 1 ∨ d = 2 ∨ d = 3 := by omega
  refine pose_ext ?_ ?_ (by rw [a3, b3, c3])
  · rw [a1, b1, c1]
    rcases hd4 with rfl | rfl | rfl | rfl <;> simp [show ((0 : Int) + 2).tmod 4 = 2 from rfl, show ((1 : Int) + 2).tmod 4 = 3 from rfl, show ((2 : Int) + 2).tmod 4 = 0 from rfl, show ((3 : Int) + 2).tmod 4 = 1 from rfl] <;> omega
  · rw [a2, b2, c2]
    rcases hd4 with rfl | rfl | rfl | rfl <;> simp [show ((0 : Int) + 2).tmod 4 = 2 from rfl, show ((1 : Int) + 2).tmod 4 = 3 from rfl, show ((2 : Int) + 2).tmod 4 = 0 from rfl, show ((3 : Int) + 2).tmod 4 = 1 from rfl] <;> omega

theorem sweptL_congr {w k : Nat} {W V : List Cell} (h : ∀ x, x ∈ W ↔ x ∈ V) : sweptL w k W = sweptL w k V :=
  rising_ext (n := numW w) swept_rising swept_rising fun x => by rw [swept_mem, swept_mem, h]
theorem three_len {L : List Cell} {a b c : Cell} (ha : a ∈ L) (hb : b ∈ L) (hc : c ∈ L) (ab : a ≠ b) (ac : a ≠ c) (bc : b ≠ c) : 3 ≤ L.length := by
  match L, ha, hb, hc with
  | [], ha, _, _ => cases ha
  | [x], ha, hb, _ => simp at ha hb; exact absurd (ha.trans hb.symm) ab
  | [x, y], ha, hb, hc =>
    simp at ha hb hc
    rcases ha with rfl | rfl <;> rcases hb with rfl | rfl <;> rcases hc with rfl | rfl <;> first | exact absurd rfl ab | exact absurd rfl ac | exact absurd rfl bc
  | x :: y :: z :: L, _, _, _ => simp

/-- A pose that fits: where it is. -/
theorem fits_16 (mk : MadeOk C) {p : Pose} (h : fitsB C p = true) : (0 ≤ p.x ∧ p.x < 16) ∧ (0 ≤ p.y ∧ p.y < 16) := by
  unfold fitsB at h
  rw [Bool.and_eq_true] at h
  have := open_16 mk h.1
  simp only at this
  omega
/-- The places of a run, all of them. -/
theorem run_fits (mk : MadeOk C) {m : Move} (hl : legalR C m = true) (h1 : m.k = 1) : 1 ≤ m.n ∧ m.n ≤ 16 ∧ (0 ≤ m.d ∧ m.d ≤ 3) ∧ m.t = shiftR m.f m.d m.n ∧ ∀ i : Int, 0 ≤ i → i ≤ m.n → fitsB C (shiftR m.f m.d i) = true := by
  have hf := legal_fits hl
  unfold legalR at hl
  rw [hf, Bool.true_and, if_pos h1] at hl
  simp only [Bool.and_eq_true, decide_eq_true_eq, List.all_eq_true, List.mem_range] at hl
  obtain ⟨hn, hd, ht, hs⟩ := hl
  obtain ⟨n1, n2⟩ := withinB_iff.1 hn
  refine ⟨n1, n2, withinB_iff.1 hd, ht, fun i h0 hi => ?_⟩
  by_cases hz : i = 0
  · subst hz
    obtain ⟨fx, fy⟩ := fits_16 mk hf
    obtain ⟨a1, a2, a3⟩ := sh_small (d := m.d) (n := 0) fx fy (by omega)
    rw [show shiftR m.f m.d 0 = m.f from pose_ext (by rw [a1]; simp) (by rw [a2]; simp) a3]
    exact hf
  · have := hs (i - 1).toNat (by omega)
    unfold rstepB at this
    rw [show (((i - 1).toNat : Nat) : Int) + 1 = i by omega] at this
    exact this

theorem back_run (mk : MadeOk C) {m : Move} (hl : legalR C m = true) (h1 : m.k = 1) : legalR C (backM m) = true ∧ rsweptM C m = rsweptM C (backM m) ∧ fitsB C m.t = true ∧ 3 ≤ (rsweptM C m).length := by
  obtain ⟨n1, n2, hd, ht, hs⟩ := run_fits mk hl h1
  have hf := legal_fits hl
  obtain ⟨fx, fy⟩ := fits_16 mk hf
  have hft : fitsB C m.t = true := by rw [ht]; exact hs m.n (by omega) (Int.le_refl _)
  obtain ⟨tx, ty⟩ := fits_16 mk hft
  have hbs : ∀ i : Int, 0 ≤ i → i ≤ m.n → shiftR m.t ((m.d + 2).tmod 4) i = shiftR m.f m.d (m.n - i) := fun i h0 hi => by
    have tx' := tx
    have ty' := ty
    rw [ht] at tx' ty'
    rw [ht]
    exact back_shift fx fy hd (by omega) ⟨h0, hi⟩ tx' ty'
  have ed : (backM m).d = (m.d + 2).tmod 4 := by unfold backM; simp only [if_pos h1]
  have hd' : 0 ≤ (m.d + 2).tmod 4 ∧ (m.d + 2).tmod 4 ≤ 3 := by
    have hd4 : m.d = 0 ∨ m.d = 1 ∨ m.d = 2 ∨ m.d = 3 := by omega
    rcases hd4 with e | e | e | e <;> rw [e] <;> decide
  have e0 : shiftR m.f m.d (m.n - m.n) = m.f := by
    rw [Int.sub_self]
    obtain ⟨a1, a2, a3⟩ := sh_small (d := m.d) (n := 0) fx fy (by omega)
    exact pose_ext (by rw [a1]; simp) (by rw [a2]; simp) a3
  have hlb : legalR C (backM m) = true := by
    unfold legalR
    rw [if_pos (show (backM m).k = 1 from h1), ed]
    simp only [Bool.and_eq_true, decide_eq_true_eq, List.all_eq_true, List.mem_range]
    refine ⟨hft, withinB_iff.2 ⟨n1, n2⟩, withinB_iff.2 hd', ?_, fun i hi => ?_⟩
    · show m.f = shiftR m.t ((m.d + 2).tmod 4) m.n
      rw [hbs m.n (by omega) (Int.le_refl _), e0]
    · have hi' : i < m.n.toNat := hi
      unfold rstepB
      rw [ed]
      show fitsB C (shiftR m.t _ ((i : Int) + 1)) = true
      rw [hbs _ (by omega) (by omega)]
      exact hs _ (by omega) (by omega)
  have mem1 : ∀ x, x ∈ rwayL m ↔ ∃ i : Nat, i ≤ m.n.toNat ∧ x ∈ cellsP (shiftR m.f m.d i) := fun x => by
    unfold rwayL
    rw [if_pos h1, List.mem_flatMap]
    constructor
    · rintro ⟨i, hi, hx⟩; exact ⟨i, by have := List.mem_range.1 hi; omega, hx⟩
    · rintro ⟨i, hi, hx⟩; exact ⟨i, List.mem_range.2 (by omega), hx⟩
  have mem2 : ∀ x, x ∈ rwayL (backM m) ↔ ∃ i : Nat, i ≤ m.n.toNat ∧ x ∈ cellsP (shiftR m.t ((m.d + 2).tmod 4) i) := fun x => by
    unfold rwayL
    rw [if_pos (show (backM m).k = 1 from h1), ed, List.mem_flatMap]
    constructor
    · rintro ⟨i, hi, hx⟩; exact ⟨i, by have : i < m.n.toNat + 1 := List.mem_range.1 hi; omega, hx⟩
    · rintro ⟨i, hi, hx⟩; exact ⟨i, List.mem_range.2 (show i < m.n.toNat + 1 by omega), hx⟩
  refine ⟨hlb, ?_, hft, ?_⟩
  · unfold rsweptM
    rw [if_pos hl, if_pos hlb]
    refine sweptL_congr fun x => ?_
    rw [mem1, mem2]
    constructor
    · rintro ⟨i, hi, hx⟩
      refine ⟨m.n.toNat - i, by omega, ?_⟩
      rw [hbs _ (by omega) (by omega), show m.n - ((m.n.toNat - i : Nat) : Int) = (i : Int) by omega]
      exact hx
    · rintro ⟨i, hi, hx⟩
      refine ⟨m.n.toNat - i, by omega, ?_⟩
      rw [hbs _ (by omega) (by omega)] at hx
      rw [show ((m.n.toNat - i : Nat) : Int) = m.n - (i : Int) by omega]
      exact hx
  · unfold rsweptM
    rw [if_pos hl]
    have hin : ∀ (i : Nat) (x : Cell), i ≤ m.n.toNat → x ∈ cellsP (shiftR m.f m.d i) → x ∈ sweptL (wC C) (kC C) (rwayL m) := fun i x hi hx => by
      rw [swept_mem]
      have hfi := hs i (by omega) (by omega)
      unfold fitsB at hfi
      rw [Bool.and_eq_true] at hfi
      refine ⟨?_, (mem1 x).2 ⟨i, hi, hx⟩⟩
      simp only [cellsP, List.mem_cons, List.not_mem_nil, or_false] at hx
      rcases hx with rfl | rfl
      · exact (open_16 mk hfi.1).1
      · exact (open_16 mk hfi.2).1
    have z0 : shiftR m.f m.d ((0 : Nat) : Int) = m.f := by
      obtain ⟨a1, a2, a3⟩ := sh_small (d := m.d) (n := ((0 : Nat) : Int)) fx fy (by omega)
      exact pose_ext (by rw [a1]; simp) (by rw [a2]; simp) a3
    obtain ⟨a1, a2, a3⟩ := sh_small (d := m.d) (n := 1) fx fy (by omega)
    have eA : east m.f = if m.f.d = true then (m.f.x, m.f.y + 1) else (m.f.x + 1, m.f.y) := by
      unfold east
      rw [wr_s (by omega), wr_s (by omega)]
    have h1f := hs 1 (by omega) (by omega)
    obtain ⟨sx, sy⟩ := fits_16 mk h1f
    have eB : east (shiftR m.f m.d 1) = if m.f.d = true then ((shiftR m.f m.d 1).x, (shiftR m.f m.d 1).y + 1) else ((shiftR m.f m.d 1).x + 1, (shiftR m.f m.d 1).y) := by
      unfold east
      rw [wr_s (by omega), wr_s (by omega), a3]
    have c0 : (m.f.x, m.f.y) ∈ sweptL (wC C) (kC C) (rwayL m) := hin 0 _ (by omega) (by rw [z0]; exact .head _)
    have c1 : east m.f ∈ sweptL (wC C) (kC C) (rwayL m) := hin 0 _ (by omega) (by rw [z0]; exact .tail _ (.head _))
    have c2 : ((shiftR m.f m.d 1).x, (shiftR m.f m.d 1).y) ∈ sweptL (wC C) (kC C) (rwayL m) := hin 1 _ (by omega) (.head _)
    have c3 : east (shiftR m.f m.d 1) ∈ sweptL (wC C) (kC C) (rwayL m) := hin 1 _ (by omega) (.tail _ (.head _))
    rw [eA] at c1
    rw [eB] at c3
    rw [a1, a2] at c2 c3
    have hd4 : m.d = 0 ∨ m.d = 1 ∨ m.d = 2 ∨ m.d = 3 := by omega
    cases hdn : m.f.d with
    | false =>
      rw [hdn] at c1 c3
      simp only [Bool.false_eq_true, if_false] at c1 c3
      rcases hd4 with e | e | e | e <;> simp only [e] at c2 c3
      · exact three_len c0 c1 c2 (by simp <;> omega) (by simp <;> omega) (by simp <;> omega)
      · exact three_len c0 c1 c3 (by simp <;> omega) (by simp <;> omega) (by simp <;> omega)
      · exact three_len c0 c1 c2 (by simp <;> omega) (by simp <;> omega) (by simp <;> omega)
      · exact three_len c0 c1 c2 (by simp <;> omega) (by simp <;> omega) (by simp <;> omega)
    | true =>
      rw [hdn] at c1 c3
      simp only [if_true] at c1 c3
      rcases hd4 with e | e | e | e <;> simp only [e] at c2 c3
      · exact three_len c0 c1 c2 (by simp <;> omega) (by simp <;> omega) (by simp <;> omega)
      · exact three_len c0 c1 c2 (by simp <;> omega) (by simp <;> omega) (by simp <;> omega)
      · exact three_len c0 c1 c3 (by simp <;> omega) (by simp <;> omega) (by simp <;> omega)
      · exact three_len c0 c1 c2 (by simp <;> omega) (by simp <;> omega) (by simp <;> omega)

theorem back_turn (mk : MadeOk C) {m : Move} (hl : legalR C m = true) (h2 : m.k = 2) : legalR C (backM m) = true ∧ rsweptM C m = rsweptM C (backM m) ∧ fitsB C m.t = true ∧ 3 ≤ (rsweptM C m).length := by
  have h1 : ¬ m.k = 1 := by omega
  have hf := legal_fits hl
  obtain ⟨fx, fy⟩ := fits_16 mk hf
  have hl0 := hl
  unfold legalR at hl0
  rw [hf, Bool.true_and, if_neg h1, if_pos h2] at hl0
  simp only [Bool.and_eq_true, decide_eq_true_eq, List.all_eq_true] at hl0
  obtain ⟨hs, hn, hd, ht⟩ := hl0
  have e1 : squareL (m.f.x, m.f.y) = [(m.f.x, m.f.y), (m.f.x + 1, m.f.y), (m.f.x, m.f.y + 1), (m.f.x + 1, m.f.y + 1)] := by
    unfold squareL
    simp only
    rw [wr_s (by omega), wr_s (by omega)]
  have hft : fitsB C m.t = true := by
    rw [ht]
    unfold fitsB east turnP
    simp only [Bool.and_eq_true]
    rw [e1] at hs
    refine ⟨hs _ (.head _), ?_⟩
    cases hdn : m.f.d with
    | false => simp only [Bool.not_false, if_true]; rw [wr_s (by omega)]; exact hs _ (.tail _ (.tail _ (.head _)))
    | true => simp only [Bool.not_true, Bool.false_eq_true, if_false]; rw [wr_s (by omega)]; exact hs _ (.tail _ (.head _))
  have etx : m.t.x = m.f.x ∧ m.t.y = m.f.y := by rw [ht]; exact ⟨rfl, rfl⟩
  have hlb : legalR C (backM m) = true := by
    unfold legalR
    rw [if_neg (show ¬ (backM m).k = 1 from h1), if_pos (show (backM m).k = 2 from h2)]
    simp only [Bool.and_eq_true, decide_eq_true_eq, List.all_eq_true]
    refine ⟨hft, ?_, hn, ?_, ?_⟩
    · show ∀ x ∈ squareL (m.t.x, m.t.y), _
      rw [etx.1, etx.2]
      exact hs
    · show (if m.k = 1 then _ else m.d) = 0
      rw [if_neg h1]; exact hd
    · show m.f = turnP m.t
      rw [ht]
      unfold turnP
      simp
  refine ⟨hlb, ?_, hft, ?_⟩
  · unfold rsweptM
    rw [if_pos hl, if_pos hlb]
    unfold rwayL
    rw [if_neg h1, if_pos h2, if_neg (show ¬ (backM m).k = 1 from h1), if_pos (show (backM m).k = 2 from h2)]
    show _ = sweptL _ _ (squareL (m.t.x, m.t.y))
    rw [etx.1, etx.2]
  · unfold rsweptM rwayL
    rw [if_pos hl, if_neg h1, if_pos h2]
    have hin : ∀ x ∈ squareL (m.f.x, m.f.y), x ∈ sweptL (wC C) (kC C) (squareL (m.f.x, m.f.y)) := fun x hx => by
      rw [swept_mem]
      exact ⟨(open_16 mk (hs x hx)).1, hx⟩
    rw [e1] at hin ⊢
    exact three_len (hin _ (.head _)) (hin _ (.tail _ (.head _))) (hin _ (.tail _ (.tail _ (.head _)))) (by simp; omega) (by simp; omega) (by simp; omega)

theorem back_all (mk : MadeOk C) {p : Pose} (hp : PB p) {m : Move} (h : m ∈ rmovesL C p) : m.f = p ∧ MB m ∧ MB (backM m) ∧ (m.k = 1 ∨ m.k = 2) ∧ (m.k = 1 → 0 ≤ m.d ∧ m.d ≤ 3) ∧ legalR C m = true ∧ legalR C (backM m) = true ∧ rsweptM C m = rsweptM C (backM m) ∧ fitsB C m.t = true ∧ 3 ≤ (rsweptM C m).length := by
  have key : m.f = p ∧ legalR C m = true ∧ (m.k = 1 ∨ m.k = 2) := by
    unfold rmovesL at h
    split at h
    · rcases List.mem_append.1 h with h | h
      · obtain ⟨j, _, _, hj⟩ := mem_dirsL.1 h
        obtain ⟨n, _, _, e1, e2⟩ := mem_rrun hj
        exact ⟨by rw [e1]; rfl, e2, .inl (by rw [e1]; rfl)⟩
      · split at h
        · rename_i hl
          simp at h
          exact ⟨by rw [h]; rfl, by rw [h]; exact hl, .inr (by rw [h]; rfl)⟩
        · cases h
    · cases h
  obtain ⟨ef, hl, hk⟩ := key
  have hall : legalR C (backM m) = true ∧ rsweptM C m = rsweptM C (backM m) ∧ fitsB C m.t = true ∧ 3 ≤ (rsweptM C m).length := by
    rcases hk with hk | hk
    · exact back_run mk hl hk
    · exact back_turn mk hl hk
  have hn : Bd m.n := by
    rcases hk with hk | hk
    · obtain ⟨n1, n2, _⟩ := run_fits mk hl hk
      unfold Bd; omega
    · have hl0 := hl
      unfold legalR at hl0
      rw [if_neg (by omega), if_pos hk] at hl0
      simp only [Bool.and_eq_true, decide_eq_true_eq] at hl0
      rw [hl0.2.2.1]
      unfold Bd; omega
  obtain ⟨tx, ty⟩ := fits_16 mk hall.2.2.1
  refine ⟨ef, ⟨hn, by rw [ef]; exact hp⟩, ⟨hn, ⟨by show Bd m.t.x; unfold Bd; omega, by show Bd m.t.y; unfold Bd; omega⟩⟩, hk, fun hk1 => (run_fits mk hl hk1).2.2.1, hl, hall.1, hall.2.1, hall.2.2.1, hall.2.2.2⟩

end Go.Proofs.YtnpdploihlgcgaaDoor
end

section
/- How far two cells are apart; GridAway: the walk. -/
set_option linter.unusedSimpArgs false
set_option linter.unusedVariables false
set_option maxRecDepth 100000
namespace Go.Proofs.YtnpdploihlgcgaaDoor
open Go Go.HL

def mx (a b : Int) : Int := if b > a then b else a
theorem max_two {P : Program} {G h : Hp} {a b : Int} {K : Value → Hp → Prop} : wpH P G (Builtin.max_ #[3, 3] 3 #[.int .i64 a, .int .i64 b]) h K = K (.int .i64 (mx a b)) h := rfl
def gapI (a b : Int) : Int := if a > b then a - b else b - a
def farB (n : Int) : Bool := withinB n (-1099511627776) 1099511627776
theorem far_iff {n : Int} : farB n = true ↔ -1099511627776 ≤ n ∧ n ≤ 1099511627776 := withinB_iff

theorem apart_spec {G h : Hp} {a b : Int} (ha : farB a = true) (hb : farB b = true) : HCalls Tryd.prog G 64 #[.int .i64 a, .int .i64 b] h (fun u h' => u = .int .i64 (gapI a b) ∧ h' = h) := by
  obtain ⟨a1, a2⟩ := far_iff.1 ha
  obtain ⟨b1, b2⟩ := far_iff.1 hb
  refine quietly (enter64 (by simp) ?_)
  unfold S64
  simp -implicitDefEqProofs (maxSteps := 2000000) (disch := first | with_reducible exact Nat.ne_of_beq_eq_false rfl | exact oneCell_int | exact oneCell_bool | omega | rfl | (simp; done) | fail) only [regs0, regs1, retK_ret, resL_tmp, upd_eq, resL_nil1, opH_sv, bin_sub, wrap_in, max_two]
  refine ⟨?_, Hp.le.refl h⟩
  unfold gapI mx
  congr 1
  split <;> split <;> omega
end Go.Proofs.YtnpdploihlgcgaaDoor
end

section
/- GridMoves: the walk. -/
set_option linter.unusedSimpArgs false
set_option linter.unusedVariables false
set_option maxRecDepth 100000
namespace Go.Proofs.YtnpdploihlgcgaaDoor
open Go Go.HL

theorem rmoves_len {C : Conf} {p : Pose} : (rmovesL C p).length ≤ 1000 := by
  unfold rmovesL
  split
  · have := dirsL_len (D := rrunD C p) (b := 16) (fun i => runFrom_len) (k := 4) (i := 0)
    rw [List.length_append]
    split <;> simp <;> omega
  · simp
end Go.Proofs.YtnpdploihlgcgaaDoor
end

section
/- GridBack: the walk. -/
set_option linter.unusedSimpArgs false
set_option linter.unusedVariables false
set_option maxRecDepth 100000
namespace Go.Proofs.YtnpdploihlgcgaaDoor
open Go Go.HL

theorem store_f {G H : Hp} {c : Nat} {m : Move} {x y : Int} {e : Bool} {K : Unit → Hp → Prop} :
    wpH Tryd.prog G (Instr.storeAt 30 (.pointer (some ⟨c, 3, none⟩)) (.agg #[.int .i64 x, .int .i64 y, .bool e])) (H.set c (moveO m)) K = K () (H.set c (moveO { m with f := ⟨x, y, e⟩ })) := by
  rw [store_eq sz30 (l := [.int .i64 m.k, .int .i64 m.d, .int .i64 m.n, .int .i64 m.f.x, .int .i64 m.f.y, .bool m.f.d, .int .i64 m.t.x, .int .i64 m.t.y, .bool m.t.d, .int .i64 m.a, .int .i64 m.e]) set_self rfl (by simp) (by simp [cells_agg, oneCell]), set_set]
  rfl
theorem store_t {G H : Hp} {c : Nat} {m : Move} {x y : Int} {e : Bool} {K : Unit → Hp → Prop} :
    wpH Tryd.prog G (Instr.storeAt 30 (.pointer (some ⟨c, 6, none⟩)) (.agg #[.int .i64 x, .int .i64 y, .bool e])) (H.set c (moveO m)) K = K () (H.set c (moveO { m with t := ⟨x, y, e⟩ })) := by
  rw [store_eq sz30 (l := [.int .i64 m.k, .int .i64 m.d, .int .i64 m.n, .int .i64 m.f.x, .int .i64 m.f.y, .bool m.f.d, .int .i64 m.t.x, .int .i64 m.t.y, .bool m.t.d, .int .i64 m.a, .int .i64 m.e]) set_self rfl (by simp) (by simp [cells_agg, oneCell]), set_set]
  rfl
set_option maxHeartbeats 4000000 in
theorem back_walk {G : Hp} {v : Value} {C : Conf} {p : Pose} (st : Steps G) (hv : CV G noHp v C) (fit : Fit0 C) (hp : ∀ p ∈ C.ro, PB p) (pb : PB p) : HCalls Tryd.prog G 11 #[v, poseV p] noHp (fun u _ => u = .bool true) := by
  obtain ⟨lb, lp, lr, ls⟩ := fit.lens
  have hv0 := hv
  obtain ⟨ab, cb, ap, cp, ar, cr, az, cs, rfl, ca⟩ := hv
  refine HCalls.assume fun d => enter11 (by simp) ?_
  unfold S11
  simp -implicitDefEqProofs only [regs0, regs1, retK_ret, resL_tmp, upd_eq, resL_nil1, opH_sv, cf16, cf14, cf15, box_new, cells_agg, ld26, add_mk, Nat.add_zero, Nat.zero_add]
  intro x hx gx
  generalize e1 : Hp.set noHp x _ = h1
  obtain ⟨l1, d1, b1⟩ := boxed e1 hx d gx
  intro y hy gy
  generalize e2 : Hp.set h1 y _ = h2
  obtain ⟨l2, d2, b2⟩ := boxed e2 hy d1 gy
  have cx : ∀ j, cellIn G h2 ⟨x, j, none⟩ = _ := fun j => cell_of (look_own (l2 _ _ b1))
  try simp -implicitDefEqProofs only [cx, List.getElem?_cons_zero, Option.some.injEq, List.getElem?_cons_succ, exists_eq_left']
  refine (copyconf_spec (hv0.up (l1.trans l2) d2) fit).mono ?_
  rintro u3 h3 ⟨⟨qb, qp, qr, qz, vb, vp, vr, vz, co⟩, d3⟩
  have l3 := co.sep.in 4 rfl
  refine (new_spec (co.cv (Hp.le.refl _)) st hp ls).mono ?_
  rintro _ h4 ⟨l4, d4, ⟨hm, ga, gp, kb, rfl, go, s4⟩ | ⟨hm, rfl⟩⟩
  rotate_left
  · have L4 := l3.trans l4
    have cx4 : ∀ j, cellIn G h4 ⟨x, j, none⟩ = _ := fun j => cell_of (look_own (L4 _ _ (l2 _ _ b1)))
    have hv4 := hv0.up ((l1.trans l2).trans L4) d4
    try simp -implicitDefEqProofs only [ex1, ne_int, show ((5 : Int) != 0) = true from rfl, pick_t, HL.cond_true, gd_tf, ex0, cx4, List.getElem?_cons_zero, Option.some.injEq, List.getElem?_cons_succ, exists_eq_left']
    refine (rmay_spec hv4).mono ?_
    rintro _ _ ⟨⟨b, rfl, hb⟩, rfl⟩
    obtain rfl : b = false := by cases b with | false => rfl | true => exact absurd (made_may.2 (hb.1 rfl)) hm
    try simp -implicitDefEqProofs only [un_not, Bool.not_false, pick_t, gd_tt, cf17]
    refine (awake_spec st).mono ?_
    rintro _ _ ⟨rfl, rfl⟩
    try simp -implicitDefEqProofs only []
  have L4 := l3.trans l4
  have by4 := L4 _ _ b2
  have cy4 : ∀ j, cellIn G h4 ⟨y, j, none⟩ = _ := fun j => cell_of (look_own by4)
  have gs4 := (go.gs (G := G)).up (s4.in 0 rfl) d4
  obtain ⟨ew, ek, w1, w16, k1, k16⟩ := within_wk hm.laid.w hm.laid.h
  try simp -implicitDefEqProofs only [ex1, ne_int, bne_self_eq_false, pick_f, gd_ff, ex0, eq31s, HL.cond_false]
  unfold S11_k1
  try simp -implicitDefEqProofs (disch := first | with_reducible exact Nat.ne_of_beq_eq_false rfl | omega) only [upd_ne, upd_eq, cf25, cf26, opH_sv, ld30, add_mk, Nat.add_zero, cy4, List.getElem?_cons_zero, Option.some.injEq, Nat.zero_add, List.getElem?_cons_succ, exists_eq_left']
  refine (moves26_spec (gp := gp) (p := p)).mono ?_
  rintro _ h5 ⟨g1, g2, rfl, l5, d5, m1, m2⟩
  try simp -implicitDefEqProofs only [opH_sv, opH_su, pureW_sv, opH_nil, pureW_nil, pick_t, pick_f, pick_tp, pick_fp, gd_tt, gd_ft, gd_tf, gd_ff, box_new, regs0, regs1, regs2, regs3, regs4, regs5, regs6, cells_agg, cells_int, cells_bool, cells_ptr, cells_slice, cells_string, cells_func, cells_nilFunc, cells_map, retK_ret, retK_normal, resL_tmp, resL_cell, resL_nil0, resL_nil1, resL_nil2, resL_nil3, resC_ptr, ex0, ex1, ex2, ex0p, ex1p, ex2p, HL.cond_true, HL.cond_false, thenK_normal, thenK_ret, thenK_exit, blockK_normal, blockK_ret, blockK_exit, scopeK_normal, scopeK_ret, scopeK_exit, wpH_pure, bin_add, bin_sub, bin_mul, bin_lss, bin_leq, bin_gtr, bin_geq, bin_quo, bin_rem, bin_quop, bin_remp, wrap_in, bin_addp, bin_subp, bin_mulp, bin_lssp, bin_leqp, bin_gtrp, bin_geqp, un_not, un_notp, un_neg, eq_int, ne_int, eq_intp, ne_intp, callV_fn, add_mk, upd_eq, upd_ne, cell_set_self, Nat.zero_add, Nat.add_zero, Option.some.injEq, exists_eq_left', List.getElem?_cons_succ, List.getElem?_cons_zero, true_and, and_true, bne_self_eq_false, beq_self_eq_true, Bool.not_true, Bool.not_false, Bool.and_true, Bool.and_self, Bool.and_false, Bool.true_and, List.length_cons, List.length_nil, ne_eq, not_false_eq_true, Nat.reduceAdd, Nat.reduceMul, if_true, if_false, oneCell_int, oneCell_bool, oneCell_ptr, oneCell_slice, oneCell_string, oneCell_func, oneCell_map, Int.toNat_natCast, List.set_cons_zero, List.set_cons_succ, Nat.lt_irrefl, Nat.zero_lt_succ, Nat.succ_lt_succ_iff, fa26_0, fa26_0p, fa26_1, fa26_1p, fa26_10, fa26_10p, fa26_11, fa26_11p, fa26_12, fa26_12p, fa26_13, fa26_13p, fa26_14, fa26_14p, fa26_2, fa26_2p, fa26_3, fa26_3p, fa26_4, fa26_4p, fa26_5, fa26_5p, fa26_6, fa26_6p, fa26_7, fa26_7p, fa26_8, fa26_8p, fa26_9, fa26_9p, fa28_0, fa28_0p, fa28_1, fa28_1p, fa30_0, fa30_0p, fa30_1, fa30_1p, fa46_0, fa46_0p, fa46_1, fa46_1p, fa46_2, fa46_2p, fa46_3, fa46_3p, fa46_4, fa46_4p, fa46_5, fa46_5p, fa46_6, fa46_6p, fa86_0, fa86_0p, fa86_1, fa86_1p, fa86_2, fa86_2p, fa95_0, fa95_0p, fa95_1, fa95_1p, ld3, ld3p, ld4, ld4p, ld22, ld22p, ld23, ld23p, ld24, ld24p, ld26, ld26p, ld28, ld28p, ld30, ld30p, ld31, ld31p, ld46, ld46p, ld47, ld47p, ld52, ld52p, ld55, ld55p, ld57, ld57p, ld95, ld95p, st3s, st4s, st22s, st23s, st24s, st26w, st28w, st30w, st46w, st47s, st55s, st95w, ix22, ix22p, ix23, ix23p, ix24, ix24p, ix47, ix47p, ix56, ix56p, ix57, ix57p, ix101, ix101p, ln22, ln22p, ln23, ln23p, ln24, ln24p, ln47, ln47p, ln56, ln56p, ln57, ln57p, al22, al26, al28, al30, al46, al47, al95, cf14, cf15, cf16, cf17, cf18, cf19, cf20, cf21, cf22, cf23, cf24, cf25, cf26, cf27, cf28, cf29, cf30, cf31, cf32, cf33, cf34, cf35, cf36, cf37, cf38, cf39, cf40, cf41, cf42, cf43, cf44, cf45, cf46, cf47, cf48, cf49, cf50, cf51, cf52, cf53, cf54, cf55, cf56, cf57, cf58, cf59, cf60, cf61, cf62, cf63, cf64, cf65, cf66, cf67, cf68, cf69, cf70, cf71, cf72, cf73, cf74, cf75, cf76, cf77, cf78, cf79, cf80, bd26_0_1_2_7_8_9_10_11_12_13_14, bd26_0_1_2_7_8_9_10_11_12_13_14p, bd28_0, bd28_0p, bd28_0_1, bd28_0_1p, bd30_, bd30_p, bd30_0_1, bd30_0_1p, bd30_0, bd30_0p, bd46_0_1_2_3_4, bd46_0_1_2_3_4p, bd46_0_3_4, bd46_0_3_4p, bd86_0_1_2, bd86_0_1_2p, bd87_0_1_2_3, bd87_0_1_2_3p, bd95_0_1, bd95_0_1p, bs22_2_0_1, bs47_1_0, bs22_1_0, bs57_6_0_1_2_3_4_5, bs24_1_0, bs22_4_0_1_2_3, bs56_11_0_1_2_3_4_5_6_7_8_9_10, bs57_11_0_1_2_3_4_5_6_7_8_9_10, eq4, eq4p, eq28, eq28p, eq30, eq30p, eq31n, eq31np, eq31s, eq31sp, eq46, eq46p, eq50n, eq50np, eq50s, eq50sp, eq67n, eq67np, eq67s, eq67sp, ne4, ne4p, ne28, ne28p, ne30, ne30p, ne31n, ne31np, ne31s, ne31sp, ne46, ne46p, al76]
  refine (moves25_spec (most := 1000) m1 m2 (gs4.up l5 d5) st pb (by decide) (by decide)).mono ?_
  rintro u6 h6 ⟨ip6, o6, s6, d6⟩
  rw [moves_eq hm pb, show (1000 : Int).toNat = 1000 from rfl, List.take_of_length_le rmoves_len] at o6
  obtain ⟨sa, cap, rfl, _⟩ := o6.len (by decide)
  have L6 : h4.le h6 := l5.trans (s6.in 1 rfl)
  have se6 := o6.sees (G := G) (by decide) (s6.in 0 rfl)
  have by6 := L6 _ _ by4
  have gs6 := gs4.up L6 d6
  have hall := fun m hm' => back_all (C := C) hm pb (m := m) hm'
  have hlen := rmoves_len (C := C) (p := p)
  generalize rmovesL C p = M at se6 hall hlen ⊢
  try simp -implicitDefEqProofs (disch := first | with_reducible exact Nat.ne_of_beq_eq_false rfl | omega) only [opH_sv, opH_su, pureW_sv, opH_nil, pureW_nil, pick_t, pick_f, pick_tp, pick_fp, gd_tt, gd_ft, gd_tf, gd_ff, box_new, regs0, regs1, regs2, regs3, regs4, regs5, regs6, cells_agg, cells_int, cells_bool, cells_ptr, cells_slice, cells_string, cells_func, cells_nilFunc, cells_map, retK_ret, retK_normal, resL_tmp, resL_cell, resL_nil0, resL_nil1, resL_nil2, resL_nil3, resC_ptr, ex0, ex1, ex2, ex0p, ex1p, ex2p, HL.cond_true, HL.cond_false, thenK_normal, thenK_ret, thenK_exit, blockK_normal, blockK_ret, blockK_exit, scopeK_normal, scopeK_ret, scopeK_exit, wpH_pure, bin_add, bin_sub, bin_mul, bin_lss, bin_leq, bin_gtr, bin_geq, bin_quo, bin_rem, bin_quop, bin_remp, wrap_in, bin_addp, bin_subp, bin_mulp, bin_lssp, bin_leqp, bin_gtrp, bin_geqp, un_not, un_notp, un_neg, eq_int, ne_int, eq_intp, ne_intp, callV_fn, add_mk, upd_eq, upd_ne, cell_set_self, Nat.zero_add, Nat.add_zero, Option.some.injEq, exists_eq_left', List.getElem?_cons_succ, List.getElem?_cons_zero, true_and, and_true, bne_self_eq_false, beq_self_eq_true, Bool.not_true, Bool.not_false, Bool.and_true, Bool.and_self, Bool.and_false, Bool.true_and, List.length_cons, List.length_nil, ne_eq, not_false_eq_true, Nat.reduceAdd, Nat.reduceMul, if_true, if_false, oneCell_int, oneCell_bool, oneCell_ptr, oneCell_slice, oneCell_string, oneCell_func, oneCell_map, Int.toNat_natCast, List.set_cons_zero, List.set_cons_succ, Nat.lt_irrefl, Nat.zero_lt_succ, Nat.succ_lt_succ_iff, fa26_0, fa26_0p, fa26_1, fa26_1p, fa26_10, fa26_10p, fa26_11, fa26_11p, fa26_12, fa26_12p, fa26_13, fa26_13p, fa26_14, fa26_14p, fa26_2, fa26_2p, fa26_3, fa26_3p, fa26_4, fa26_4p, fa26_5, fa26_5p, fa26_6, fa26_6p, fa26_7, fa26_7p, fa26_8, fa26_8p, fa26_9, fa26_9p, fa28_0, fa28_0p, fa28_1, fa28_1p, fa30_0, fa30_0p, fa30_1, fa30_1p, fa46_0, fa46_0p, fa46_1, fa46_1p, fa46_2, fa46_2p, fa46_3, fa46_3p, fa46_4, fa46_4p, fa46_5, fa46_5p, fa46_6, fa46_6p, fa86_0, fa86_0p, fa86_1, fa86_1p, fa86_2, fa86_2p, fa95_0, fa95_0p, fa95_1, fa95_1p, ld3, ld3p, ld4, ld4p, ld22, ld22p, ld23, ld23p, ld24, ld24p, ld26, ld26p, ld28, ld28p, ld30, ld30p, ld31, ld31p, ld46, ld46p, ld47, ld47p, ld52, ld52p, ld55, ld55p, ld57, ld57p, ld95, ld95p, st3s, st4s, st22s, st23s, st24s, st26w, st28w, st30w, st46w, st47s, st55s, st95w, ix22, ix22p, ix23, ix23p, ix24, ix24p, ix47, ix47p, ix56, ix56p, ix57, ix57p, ix101, ix101p, ln22, ln22p, ln23, ln23p, ln24, ln24p, ln47, ln47p, ln56, ln56p, ln57, ln57p, al22, al26, al28, al30, al46, al47, al95, cf14, cf15, cf16, cf17, cf18, cf19, cf20, cf21, cf22, cf23, cf24, cf25, cf26, cf27, cf28, cf29, cf30, cf31, cf32, cf33, cf34, cf35, cf36, cf37, cf38, cf39, cf40, cf41, cf42, cf43, cf44, cf45, cf46, cf47, cf48, cf49, cf50, cf51, cf52, cf53, cf54, cf55, cf56, cf57, cf58, cf59, cf60, cf61, cf62, cf63, cf64, cf65, cf66, cf67, cf68, cf69, cf70, cf71, cf72, cf73, cf74, cf75, cf76, cf77, cf78, cf79, cf80, bd26_0_1_2_7_8_9_10_11_12_13_14, bd26_0_1_2_7_8_9_10_11_12_13_14p, bd28_0, bd28_0p, bd28_0_1, bd28_0_1p, bd30_, bd30_p, bd30_0_1, bd30_0_1p, bd30_0, bd30_0p, bd46_0_1_2_3_4, bd46_0_1_2_3_4p, bd46_0_3_4, bd46_0_3_4p, bd86_0_1_2, bd86_0_1_2p, bd87_0_1_2_3, bd87_0_1_2_3p, bd95_0_1, bd95_0_1p, bs22_2_0_1, bs47_1_0, bs22_1_0, bs57_6_0_1_2_3_4_5, bs24_1_0, bs22_4_0_1_2_3, bs56_11_0_1_2_3_4_5_6_7_8_9_10, bs57_11_0_1_2_3_4_5_6_7_8_9_10, eq4, eq4p, eq28, eq28p, eq30, eq30p, eq31n, eq31np, eq31s, eq31sp, eq46, eq46p, eq50n, eq50np, eq50s, eq50sp, eq67n, eq67np, eq67s, eq67sp, ne4, ne4p, ne28, ne28p, ne30, ne30p, ne31n, ne31np, ne31s, ne31sp, ne46, ne46p, al76]
  refine loop_I (fun mm r h => ∃ i : Nat, mm = M.length - i ∧ i ≤ M.length ∧ r 3 = .pointer (some ⟨y, 0, none⟩) ∧ r 5 = .pointer (some ⟨gp, 0, none⟩) ∧ r 7 = .slice sa M.length cap ∧ r 8 = .int .i64 i ∧ h6.le h ∧ Dis G h) ?_
    (m := M.length) ⟨0, rfl, Nat.zero_le _, by simp -implicitDefEqProofs (disch := first | with_reducible exact Nat.ne_of_beq_eq_false rfl | omega) only [upd_ne, upd_eq], by simp -implicitDefEqProofs (disch := first | with_reducible exact Nat.ne_of_beq_eq_false rfl | omega) only [upd_ne, upd_eq], by simp -implicitDefEqProofs (disch := first | with_reducible exact Nat.ne_of_beq_eq_false rfl | omega) only [upd_ne, upd_eq], by simp -implicitDefEqProofs only [upd_eq] <;> rfl, Hp.le.refl _, d6⟩
  rintro mm r h ⟨i, rfl, hi, q3, q5, q7, q8, lh, dh⟩ X HX
  unfold S11_l3
  simp -implicitDefEqProofs only [q7, q8, thenK_exit, blockK_exit, thenK_normal, if_true, opH_sv, ln47, bin_lss]
  refine cond_dec (fun hlt => ?_) (fun hge => ?_)
  rotate_left
  · try simp -implicitDefEqProofs (disch := first | with_reducible exact Nat.ne_of_beq_eq_false rfl | omega) only [opH_sv, opH_su, pureW_sv, opH_nil, pureW_nil, pick_t, pick_f, pick_tp, pick_fp, gd_tt, gd_ft, gd_tf, gd_ff, box_new, regs0, regs1, regs2, regs3, regs4, regs5, regs6, cells_agg, cells_int, cells_bool, cells_ptr, cells_slice, cells_string, cells_func, cells_nilFunc, cells_map, retK_ret, retK_normal, resL_tmp, resL_cell, resL_nil0, resL_nil1, resL_nil2, resL_nil3, resC_ptr, ex0, ex1, ex2, ex0p, ex1p, ex2p, HL.cond_true, HL.cond_false, thenK_normal, thenK_ret, thenK_exit, blockK_normal, blockK_ret, blockK_exit, scopeK_normal, scopeK_ret, scopeK_exit, wpH_pure, bin_add, bin_sub, bin_mul, bin_lss, bin_leq, bin_gtr, bin_geq, bin_quo, bin_rem, bin_quop, bin_remp, wrap_in, bin_addp, bin_subp, bin_mulp, bin_lssp, bin_leqp, bin_gtrp, bin_geqp, un_not, un_notp, un_neg, eq_int, ne_int, eq_intp, ne_intp, callV_fn, add_mk, upd_eq, upd_ne, cell_set_self, Nat.zero_add, Nat.add_zero, Option.some.injEq, exists_eq_left', List.getElem?_cons_succ, List.getElem?_cons_zero, true_and, and_true, bne_self_eq_false, beq_self_eq_true, Bool.not_true, Bool.not_false, Bool.and_true, Bool.and_self, Bool.and_false, Bool.true_and, List.length_cons, List.length_nil, ne_eq, not_false_eq_true, Nat.reduceAdd, Nat.reduceMul, if_true, if_false, oneCell_int, oneCell_bool, oneCell_ptr, oneCell_slice, oneCell_string, oneCell_func, oneCell_map, Int.toNat_natCast, List.set_cons_zero, List.set_cons_succ, Nat.lt_irrefl, Nat.zero_lt_succ, Nat.succ_lt_succ_iff, fa26_0, fa26_0p, fa26_1, fa26_1p, fa26_10, fa26_10p, fa26_11, fa26_11p, fa26_12, fa26_12p, fa26_13, fa26_13p, fa26_14, fa26_14p, fa26_2, fa26_2p, fa26_3, fa26_3p, fa26_4, fa26_4p, fa26_5, fa26_5p, fa26_6, fa26_6p, fa26_7, fa26_7p, fa26_8, fa26_8p, fa26_9, fa26_9p, fa28_0, fa28_0p, fa28_1, fa28_1p, fa30_0, fa30_0p, fa30_1, fa30_1p, fa46_0, fa46_0p, fa46_1, fa46_1p, fa46_2, fa46_2p, fa46_3, fa46_3p, fa46_4, fa46_4p, fa46_5, fa46_5p, fa46_6, fa46_6p, fa86_0, fa86_0p, fa86_1, fa86_1p, fa86_2, fa86_2p, fa95_0, fa95_0p, fa95_1, fa95_1p, ld3, ld3p, ld4, ld4p, ld22, ld22p, ld23, ld23p, ld24, ld24p, ld26, ld26p, ld28, ld28p, ld30, ld30p, ld31, ld31p, ld46, ld46p, ld47, ld47p, ld52, ld52p, ld55, ld55p, ld57, ld57p, ld95, ld95p, st3s, st4s, st22s, st23s, st24s, st26w, st28w, st30w, st46w, st47s, st55s, st95w, ix22, ix22p, ix23, ix23p, ix24, ix24p, ix47, ix47p, ix56, ix56p, ix57, ix57p, ix101, ix101p, ln22, ln22p, ln23, ln23p, ln24, ln24p, ln47, ln47p, ln56, ln56p, ln57, ln57p, al22, al26, al28, al30, al46, al47, al95, cf14, cf15, cf16, cf17, cf18, cf19, cf20, cf21, cf22, cf23, cf24, cf25, cf26, cf27, cf28, cf29, cf30, cf31, cf32, cf33, cf34, cf35, cf36, cf37, cf38, cf39, cf40, cf41, cf42, cf43, cf44, cf45, cf46, cf47, cf48, cf49, cf50, cf51, cf52, cf53, cf54, cf55, cf56, cf57, cf58, cf59, cf60, cf61, cf62, cf63, cf64, cf65, cf66, cf67, cf68, cf69, cf70, cf71, cf72, cf73, cf74, cf75, cf76, cf77, cf78, cf79, cf80, bd26_0_1_2_7_8_9_10_11_12_13_14, bd26_0_1_2_7_8_9_10_11_12_13_14p, bd28_0, bd28_0p, bd28_0_1, bd28_0_1p, bd30_, bd30_p, bd30_0_1, bd30_0_1p, bd30_0, bd30_0p, bd46_0_1_2_3_4, bd46_0_1_2_3_4p, bd46_0_3_4, bd46_0_3_4p, bd86_0_1_2, bd86_0_1_2p, bd87_0_1_2_3, bd87_0_1_2_3p, bd95_0_1, bd95_0_1p, bs22_2_0_1, bs47_1_0, bs22_1_0, bs57_6_0_1_2_3_4_5, bs24_1_0, bs22_4_0_1_2_3, bs56_11_0_1_2_3_4_5_6_7_8_9_10, bs57_11_0_1_2_3_4_5_6_7_8_9_10, eq4, eq4p, eq28, eq28p, eq30, eq30p, eq31n, eq31np, eq31s, eq31sp, eq46, eq46p, eq50n, eq50np, eq50s, eq50sp, eq67n, eq67np, eq67s, eq67sp, ne4, ne4p, ne28, ne28p, ne30, ne30p, ne31n, ne31np, ne31s, ne31sp, ne46, ne46p, al76]
    unfold S11_k2
    refine (awake_spec st).mono ?_
    rintro _ _ ⟨rfl, rfl⟩
    try simp -implicitDefEqProofs (maxSteps := 2000000) (disch := first | with_reducible exact Nat.ne_of_beq_eq_false rfl | exact oneCell_int | exact oneCell_bool | omega | rfl | (simp; done) | fail) only [retK_ret, resL_tmp, upd_eq, resL_nil1]
  have hlt' : i < M.length := by omega
  obtain ⟨z, hz⟩ : ∃ z, M[i]? = some z := ⟨_, List.getElem?_eq_getElem hlt'⟩
  obtain ⟨ef, mbz, mbb, hk, hd, hl, hlb, hsw, hft, h3l⟩ := hall z (List.mem_of_getElem? hz)
  obtain ⟨b, o, c, e1, e2⟩ := (se6.up lh dh).get hz
  simp only [Value.slice.injEq] at e1
  obtain ⟨rfl, -, -⟩ := e1
  have x0 := e2 0 (by decide)
  have x1 := e2 1 (by decide)
  have x2 := e2 2 (by decide)
  have x3 := e2 3 (by decide)
  have x4 := e2 4 (by decide)
  have x5 := e2 5 (by decide)
  have x6 := e2 6 (by decide)
  have x7 := e2 7 (by decide)
  have x8 := e2 8 (by decide)
  have x9 := e2 9 (by decide)
  have x10 := e2 10 (by decide)
  simp only [moveC, Nat.add_zero, List.getElem?_cons_zero, List.getElem?_cons_succ] at x0 x1 x2 x3 x4 x5 x6 x7 x8 x9 x10
  unfold S11_l3_k4
  simp -implicitDefEqProofs (maxSteps := 2000000) (disch := first | with_reducible exact Nat.ne_of_beq_eq_false rfl | exact oneCell_int | exact oneCell_bool | omega | rfl | (simp; done) | fail) only [upd_ne, q7, q8, opH_su, opH_sv, al46, fa46_1, add_mk, Nat.zero_add, fa46_4, fa46_3, ld3, fa46_0, Nat.add_zero, ld30, Nat.reduceAdd, ld46, ix47, Int.toNat_natCast, x0, Option.some.injEq, x1, x2, x3, x4, x5, x6, x7, x8, x9, x10, exists_eq_left', st46w, cell_set_self, List.getElem?_cons_zero, List.getElem?_cons_succ]
  intro a ha ga'
  have ea : (h.set a (.cells #[.int .i64 z.k, .int .i64 z.d, .int .i64 z.n, .int .i64 z.f.x, .int .i64 z.f.y, .bool z.f.d, .int .i64 z.t.x, .int .i64 z.t.y, .bool z.t.d, .int .i64 z.a, .int .i64 z.e] 46 (0, 0))) = h.set a (moveO z) := rfl
  rw [ea]
  generalize ea' : Hp.set h a _ = ha1
  obtain ⟨la, da, ba⟩ := boxed ea' ha dh ga'
  intro c hc gc
  have eb : ∀ H : Hp, (H.set c (.cells #[.int .i64 z.k, .int .i64 z.d, .int .i64 z.n, .int .i64 z.f.x, .int .i64 z.f.y, .bool z.f.d, .int .i64 z.t.x, .int .i64 z.t.y, .bool z.t.d, .int .i64 z.a, .int .i64 z.e] 46 (0, 0))) = H.set c (moveO z) := fun _ => rfl
  have lc : ∀ X, ha1.le (ha1.set c X) := fun X => le_set hc
  have ca : ∀ X j, cellIn G (ha1.set c X) ⟨a, j, none⟩ = _ := fun X j => cell_of (look_own (lc X _ _ ba))
  have k6 : ∀ (r : Rg) (hb : Hp), r 3 = .pointer (some ⟨y, 0, none⟩) → r 5 = .pointer (some ⟨gp, 0, none⟩) → r 7 = .slice (some ⟨b, o, none⟩) M.length cap → r 8 = .int .i64 i → r 9 = .pointer (some ⟨a, 0, none⟩) → r 10 = .pointer (some ⟨c, 0, none⟩) →
      ha1.le hb → Dis G hb → hb c = some (moveO (backM z)) → S11_l3_k6 G (thenK X (blockK 0 (thenK (S11_k2 G (retK Tryd.prog G [ResultVar.tmp 4] fun u x => u = Value.bool true)) (retK Tryd.prog G [ResultVar.tmp 4] fun u x => u = Value.bool true)))) r hb := by
    intro r hb q3 q5 q7 q8 q9 q10 lb1 db1 hcb
    subst ef
    have lhb : h6.le hb := lh.trans (la.trans lb1)
    have ca : ∀ j, cellIn G hb ⟨a, j, none⟩ = _ := fun j => cell_of (look_own (lb1 _ _ ba))
    have cc : ∀ j, cellIn G hb ⟨c, j, none⟩ = _ := fun j => cell_of (look_own hcb)
    have cy : ∀ j, cellIn G hb ⟨y, j, none⟩ = _ := fun j => cell_of (look_own (lhb _ _ by6))
    have gsb := gs6.up lhb db1
    unfold S11_l3_k6
    try simp -implicitDefEqProofs only [q9, q3, q5, cf27, q10, cf23, cf47, thenK_ret, blockK_ret, retK_ret, resL_tmp, upd_eq, resL_nil1, pureW_sv, ld30p, add_mk, Nat.add_zero, cy, List.getElem?_cons_zero, Option.some.injEq, Nat.zero_add, List.getElem?_cons_succ, exists_eq_left', fa46_3p, ca, Nat.reduceAdd, ne30p, beq_self_eq_true, Bool.and_self, Bool.not_true, pick_fp, gd_ff, ld46p]
    refine (legal_spec (m := z) gsb st mbz).mono ?_
    rintro _ hb ⟨rfl, rfl⟩
    refine ⟨Hp.le.refl _, ?_⟩
    rw [legal_eq hm mbz.2, hl]
    try simp -implicitDefEqProofs only [un_notp, Bool.not_true, pick_fp, gd_ff, pureW_sv, ld46p, add_mk, Nat.add_zero, cc, List.getElem?_cons_zero, Option.some.injEq, Nat.zero_add, List.getElem?_cons_succ, exists_eq_left']
    refine (legal_spec (m := backM z) gsb st mbb).mono ?_
    rintro _ hb ⟨rfl, rfl⟩
    refine ⟨Hp.le.refl _, ?_⟩
    rw [legal_eq hm mbb.2, hlb]
    try simp -implicitDefEqProofs only [un_notp, Bool.not_true, pick_fp, gd_ff, pureW_sv, fa46_4p, add_mk, Nat.zero_add, ld30p, Nat.add_zero, ca, List.getElem?_cons_succ, List.getElem?_cons_zero, Option.some.injEq, Nat.reduceAdd, exists_eq_left']
    refine (fits_spec (p := z.t) gsb st mbb.2).mono ?_
    rintro _ hb ⟨rfl, rfl⟩
    refine ⟨Hp.le.refl _, ?_⟩
    rw [fits3_eq hm, hft]
    try simp -implicitDefEqProofs only [un_notp, Bool.not_true, pick_fp, gd_ff, pureW_sv, ld46p, add_mk, Nat.add_zero, ca, List.getElem?_cons_zero, Option.some.injEq, Nat.zero_add, List.getElem?_cons_succ, exists_eq_left']
    refine (swept_spec (m := z) gsb st mbz).mono ?_
    rintro u5 h5 ⟨i5, o5, s5, d5⟩
    have l5' : hb.le h5 := s5.in 1 rfl
    refine ⟨l5', ?_⟩
    rw [swept_eq hm mbz.2] at o5
    obtain ⟨sa5, cap5, rfl, _⟩ := o5.len (by decide)
    try simp -implicitDefEqProofs only [ln22p, bin_lssp]
    have h3' : ¬ ((((rsweptM C z).length : Nat) : Int) < 3) := by omega
    try simp -implicitDefEqProofs only [h3', decide_false, pick_fp, gd_ff, pureW_sv, cf20, cf47, ld46p, add_mk, Nat.add_zero, Nat.zero_add, ca, List.getElem?_cons_zero, Option.some.injEq, List.getElem?_cons_succ, exists_eq_left']
    refine (swept_spec (m := z) (gsb.up l5' d5) st mbz).mono ?_
    rintro u6 h6' ⟨i6, o6', s6', d6'⟩
    have l6' : h5.le h6' := s6'.in 1 rfl
    refine ⟨l5'.trans l6', ?_⟩
    rw [swept_eq hm mbz.2] at o6'
    try simp -implicitDefEqProofs only [cc, List.getElem?_cons_zero, Option.some.injEq, List.getElem?_cons_succ, exists_eq_left']
    refine (swept_spec (m := backM z) ((gsb.up l5' d5).up l6' d6') st mbb).mono ?_
    rintro u7 h7 ⟨i7, o7, s7, d7⟩
    have l7 : h6'.le h7 := s7.in 1 rfl
    rw [swept_eq hm mbb.2, ← hsw] at o7
    try simp -implicitDefEqProofs (disch := first | with_reducible exact Nat.ne_of_beq_eq_false rfl | omega) only [opH_sv, opH_su, pureW_sv, opH_nil, pureW_nil, pick_t, pick_f, pick_tp, pick_fp, gd_tt, gd_ft, gd_tf, gd_ff, box_new, regs0, regs1, regs2, regs3, regs4, regs5, regs6, cells_agg, cells_int, cells_bool, cells_ptr, cells_slice, cells_string, cells_func, cells_nilFunc, cells_map, retK_ret, retK_normal, resL_tmp, resL_cell, resL_nil0, resL_nil1, resL_nil2, resL_nil3, resC_ptr, ex0, ex1, ex2, ex0p, ex1p, ex2p, HL.cond_true, HL.cond_false, thenK_normal, thenK_ret, thenK_exit, blockK_normal, blockK_ret, blockK_exit, scopeK_normal, scopeK_ret, scopeK_exit, wpH_pure, bin_add, bin_sub, bin_mul, bin_lss, bin_leq, bin_gtr, bin_geq, bin_quo, bin_rem, bin_quop, bin_remp, wrap_in, bin_addp, bin_subp, bin_mulp, bin_lssp, bin_leqp, bin_gtrp, bin_geqp, un_not, un_notp, un_neg, eq_int, ne_int, eq_intp, ne_intp, callV_fn, add_mk, upd_eq, upd_ne, cell_set_self, Nat.zero_add, Nat.add_zero, Option.some.injEq, exists_eq_left', List.getElem?_cons_succ, List.getElem?_cons_zero, true_and, and_true, bne_self_eq_false, beq_self_eq_true, Bool.not_true, Bool.not_false, Bool.and_true, Bool.and_self, Bool.and_false, Bool.true_and, List.length_cons, List.length_nil, ne_eq, not_false_eq_true, Nat.reduceAdd, Nat.reduceMul, if_true, if_false, oneCell_int, oneCell_bool, oneCell_ptr, oneCell_slice, oneCell_string, oneCell_func, oneCell_map, Int.toNat_natCast, List.set_cons_zero, List.set_cons_succ, Nat.lt_irrefl, Nat.zero_lt_succ, Nat.succ_lt_succ_iff, fa26_0, fa26_0p, fa26_1, fa26_1p, fa26_10, fa26_10p, fa26_11, fa26_11p, fa26_12, fa26_12p, fa26_13, fa26_13p, fa26_14, fa26_14p, fa26_2, fa26_2p, fa26_3, fa26_3p, fa26_4, fa26_4p, fa26_5, fa26_5p, fa26_6, fa26_6p, fa26_7, fa26_7p, fa26_8, fa26_8p, fa26_9, fa26_9p, fa28_0, fa28_0p, fa28_1, fa28_1p, fa30_0, fa30_0p, fa30_1, fa30_1p, fa46_0, fa46_0p, fa46_1, fa46_1p, fa46_2, fa46_2p, fa46_3, fa46_3p, fa46_4, fa46_4p, fa46_5, fa46_5p, fa46_6, fa46_6p, fa86_0, fa86_0p, fa86_1, fa86_1p, fa86_2, fa86_2p, fa95_0, fa95_0p, fa95_1, fa95_1p, ld3, ld3p, ld4, ld4p, ld22, ld22p, ld23, ld23p, ld24, ld24p, ld26, ld26p, ld28, ld28p, ld30, ld30p, ld31, ld31p, ld46, ld46p, ld47, ld47p, ld52, ld52p, ld55, ld55p, ld57, ld57p, ld95, ld95p, st3s, st4s, st22s, st23s, st24s, st26w, st28w, st30w, st46w, st47s, st55s, st95w, ix22, ix22p, ix23, ix23p, ix24, ix24p, ix47, ix47p, ix56, ix56p, ix57, ix57p, ix101, ix101p, ln22, ln22p, ln23, ln23p, ln24, ln24p, ln47, ln47p, ln56, ln56p, ln57, ln57p, al22, al26, al28, al30, al46, al47, al95, cf14, cf15, cf16, cf17, cf18, cf19, cf20, cf21, cf22, cf23, cf24, cf25, cf26, cf27, cf28, cf29, cf30, cf31, cf32, cf33, cf34, cf35, cf36, cf37, cf38, cf39, cf40, cf41, cf42, cf43, cf44, cf45, cf46, cf47, cf48, cf49, cf50, cf51, cf52, cf53, cf54, cf55, cf56, cf57, cf58, cf59, cf60, cf61, cf62, cf63, cf64, cf65, cf66, cf67, cf68, cf69, cf70, cf71, cf72, cf73, cf74, cf75, cf76, cf77, cf78, cf79, cf80, bd26_0_1_2_7_8_9_10_11_12_13_14, bd26_0_1_2_7_8_9_10_11_12_13_14p, bd28_0, bd28_0p, bd28_0_1, bd28_0_1p, bd30_, bd30_p, bd30_0_1, bd30_0_1p, bd30_0, bd30_0p, bd46_0_1_2_3_4, bd46_0_1_2_3_4p, bd46_0_3_4, bd46_0_3_4p, bd86_0_1_2, bd86_0_1_2p, bd87_0_1_2_3, bd87_0_1_2_3p, bd95_0_1, bd95_0_1p, bs22_2_0_1, bs47_1_0, bs22_1_0, bs57_6_0_1_2_3_4_5, bs24_1_0, bs22_4_0_1_2_3, bs56_11_0_1_2_3_4_5_6_7_8_9_10, bs57_11_0_1_2_3_4_5_6_7_8_9_10, eq4, eq4p, eq28, eq28p, eq30, eq30p, eq31n, eq31np, eq31s, eq31sp, eq46, eq46p, eq50n, eq50np, eq50s, eq50sp, eq67n, eq67np, eq67s, eq67sp, ne4, ne4p, ne28, ne28p, ne30, ne30p, ne31n, ne31np, ne31s, ne31sp, ne46, ne46p, al76]
    refine (samecells_spec ((o6'.sees (by decide) (s6'.in 0 rfl)).up l7 d7) (o7.sees (by decide) (s7.in 0 rfl)) (by have := swept_le (C := C) (m := z) (by omega) (by omega); omega)).mono ?_
    rintro _ h7 ⟨rfl, rfl⟩
    try simp -implicitDefEqProofs (disch := first | with_reducible exact Nat.ne_of_beq_eq_false rfl | omega) only [decide_true, un_notp, Bool.not_true, HL.cond_false]
    unfold S11_l3_k5
    simp -implicitDefEqProofs (disch := first | with_reducible exact Nat.ne_of_beq_eq_false rfl | omega) only [upd_ne, q8, thenK_normal, opH_sv, bin_add, wrap_in]
    refine HX (M.length - (i + 1)) _ _ (by omega) ⟨i + 1, rfl, hlt', by simp -implicitDefEqProofs (disch := first | with_reducible exact Nat.ne_of_beq_eq_false rfl | omega) only [upd_ne, q3], by simp -implicitDefEqProofs (disch := first | with_reducible exact Nat.ne_of_beq_eq_false rfl | omega) only [upd_ne, q5], by simp -implicitDefEqProofs (maxSteps := 2000000) (disch := first | with_reducible exact Nat.ne_of_beq_eq_false rfl | exact oneCell_int | exact oneCell_bool | omega | rfl | (simp; done) | fail) only [upd_ne, q7], by simp -implicitDefEqProofs (maxSteps := 2000000) (disch := first | with_reducible exact Nat.ne_of_beq_eq_false rfl | exact oneCell_int | exact oneCell_bool | omega | rfl | (simp; done) | fail) only [upd_eq] <;> rfl, ?_, d7⟩
    exact lhb.trans (l5'.trans (l6'.trans l7))
  rw [eb]
  simp -implicitDefEqProofs (maxSteps := 2000000) (disch := first | with_reducible exact Nat.ne_of_beq_eq_false rfl | exact oneCell_int | exact oneCell_bool | omega | rfl | (simp; done) | fail) only [ca, List.getElem?_cons_succ, List.getElem?_cons_zero, Option.some.injEq, exists_eq_left', store_f, store_t, eq_int, bin_add, bin_rem, st3s, List.set_cons_succ, List.set_cons_zero]
  refine cond_bool (fun e => ?_) (fun e => ?_)
  · have hk1 : z.k = 1 := by simpa using e
    have hd' := hd hk1
    simp -implicitDefEqProofs (maxSteps := 2000000) (disch := first | with_reducible exact Nat.ne_of_beq_eq_false rfl | exact oneCell_int | exact oneCell_bool | omega | rfl | (simp; done) | fail) only [wrap_in]
    refine k6 _ _ (by simp -implicitDefEqProofs (disch := first | with_reducible exact Nat.ne_of_beq_eq_false rfl | omega) only [upd_ne, q3]) (by simp -implicitDefEqProofs (disch := first | with_reducible exact Nat.ne_of_beq_eq_false rfl | omega) only [upd_ne, q5]) (by simp -implicitDefEqProofs (disch := first | with_reducible exact Nat.ne_of_beq_eq_false rfl | omega) only [upd_ne, q7]) (by simp -implicitDefEqProofs (maxSteps := 2000000) (disch := first | with_reducible exact Nat.ne_of_beq_eq_false rfl | exact oneCell_int | exact oneCell_bool | omega | rfl | (simp; done) | fail) only [upd_ne, q8]) (by simp -implicitDefEqProofs (maxSteps := 2000000) (disch := first | with_reducible exact Nat.ne_of_beq_eq_false rfl | exact oneCell_int | exact oneCell_bool | omega | rfl | (simp; done) | fail) only [upd_ne, upd_eq]) (by simp -implicitDefEqProofs (maxSteps := 2000000) (disch := first | with_reducible exact Nat.ne_of_beq_eq_false rfl | exact oneCell_int | exact oneCell_bool | omega | rfl | (simp; done) | fail) only [upd_ne, upd_eq]) (lc _) (da.set gc) ?_
    rw [set_self]
    unfold backM
    rw [if_pos hk1]
  · have hk1 : ¬ z.k = 1 := by simpa using e
    refine k6 _ _ (by simp -implicitDefEqProofs (disch := first | with_reducible exact Nat.ne_of_beq_eq_false rfl | omega) only [upd_ne, q3]) (by simp -implicitDefEqProofs (disch := first | with_reducible exact Nat.ne_of_beq_eq_false rfl | omega) only [upd_ne, q5]) (by simp -implicitDefEqProofs (disch := first | with_reducible exact Nat.ne_of_beq_eq_false rfl | omega) only [upd_ne, q7]) (by simp -implicitDefEqProofs (disch := first | with_reducible exact Nat.ne_of_beq_eq_false rfl | omega) only [upd_ne, q8]) (by simp -implicitDefEqProofs (disch := first | with_reducible exact Nat.ne_of_beq_eq_false rfl | omega) only [upd_ne, upd_eq]) (by simp -implicitDefEqProofs (disch := first | with_reducible exact Nat.ne_of_beq_eq_false rfl | omega) only [upd_ne, upd_eq]) (lc _) (da.set gc) ?_
    rw [set_self]
    unfold backM
    rw [if_neg hk1]

end Go.Proofs.YtnpdploihlgcgaaDoor
end

section
/- A config that comes in as an argument. -/
set_option linter.unusedSimpArgs false
set_option linter.unusedVariables false
set_option maxRecDepth 100000
namespace Go.Proofs.YtnpdploihlgcgaaDoor
open Go Go.HL Go.ChangeShapes Go.WideShapes Go.RowKit

theorem light_of {H : Type} {P : Program} {ts : List TypeId} {ds : List (DataW H)} (h : (DataW.weightsEach P ts ds).all (· ≤ reachBytes) = true) {j : Nat} {t : TypeId} {d : DataW H} (ht : ts[j]? = some t) (hd : ds[j]? = some d) : Light P t d := fun n hn => by
  simpa using List.all_eq_true.1 h n (DataW.weights_mem_each ht hd n hn)

theorem okWide_structF {P : Program} {w : World} {r : Reach} {base : Nat} {t : TypeId} {v : Value} {tos : List (TypeId × Nat)} (ht : structFields P t = some tos) (hv : Value.okWide P w r base t v) : ∃ cs : Array Value, v = .agg cs := by
  unfold structFields at ht
  split at ht
  · rename_i fs hfs
    obtain ⟨cs, rfl, _⟩ := okWide_struct hfs hv
    exact ⟨cs, rfl⟩
  · cases ht

theorem sf30 : structFields Tryd.prog 30 = some [(28, 0), (4, 2)] := by kernel_rfl
theorem sf95 : structFields Tryd.prog 95 = some [(28, 0), (57, 2)] := by kernel_rfl
theorem sf26 : structFields Tryd.prog 26 = some [(3, 0), (3, 1), (3, 2), (22, 3), (22, 4), (23, 5), (24, 6), (3, 7), (3, 8), (3, 9), (3, 10), (3, 11), (3, 12), (3, 13), (3, 14), (4, 15)] := by kernel_rfl
theorem un4b : Tryd.prog.underlying 4 = some .bool := by kernel_rfl
theorem c4 : Tryd.prog.cellsOf 4 = 1 := by kernel_rfl
theorem c22 : Tryd.prog.cellsOf 22 = 1 := by kernel_rfl
theorem c23 : Tryd.prog.cellsOf 23 = 1 := by kernel_rfl
theorem c24 : Tryd.prog.cellsOf 24 = 1 := by kernel_rfl
theorem c26 : Tryd.prog.cellsOf 26 = 16 := by kernel_rfl
theorem c30 : Tryd.prog.cellsOf 30 = 3 := by kernel_rfl
theorem c57 : Tryd.prog.cellsOf 57 = 1 := by kernel_rfl
theorem c95 : Tryd.prog.cellsOf 95 = 3 := by kernel_rfl

section
variable {H : Type} {enc : TypeId × Value → H} {w : World} {base : Nat} {spare : Nat → Bool} {held : Bool}

theorem len2 {α : Type} {L : List α} (h : L.length = 2) : ∃ a b, L = [a, b] := by
  match L, h with
  | [a, b], _ => exact ⟨a, b, rfl⟩
theorem len3 {α : Type} {L : List α} (h : L.length = 3) : ∃ a b c, L = [a, b, c] := by
  match L, h with
  | [a, b, c], _ => exact ⟨a, b, c, rfl⟩

theorem cell_dec {m : Nat} {cs : List Value} {y : DataW H × List MemPlace} (h : DataW.trod enc Tryd.prog w base spare held m 28 cs = some y) : ∃ c : Cell, cs = cellC.enc c ∧ Bd c.1 ∧ Bd c.2 := by
  obtain ⟨hl, d⟩ := dec_fields sf28 h
  rw [c28] at hl
  obtain ⟨v0, v1, rfl⟩ := len2 hl
  obtain ⟨m0, z0, e0⟩ := d 0 _ _ rfl
  obtain ⟨m1, z1, e1⟩ := d 1 _ _ rfl
  rw [c3] at e0 e1
  obtain ⟨x0, f0, b0⟩ := dec_int un3i e0
  obtain ⟨x1, f1, b1⟩ := dec_int un3i e1
  simp at f0 f1
  subst f0 f1
  exact ⟨(x0, x1), rfl, b0, b1⟩
theorem pose_dec {m : Nat} {cs : List Value} {y : DataW H × List MemPlace} (h : DataW.trod enc Tryd.prog w base spare held m 30 cs = some y) : ∃ p : Pose, cs = poseC.enc p ∧ PB p := by
  obtain ⟨hl, d⟩ := dec_fields sf30 h
  rw [c30] at hl
  obtain ⟨v0, v1, v2, rfl⟩ := len3 hl
  obtain ⟨m0, z0, e0⟩ := d 0 _ _ rfl
  obtain ⟨m1, z1, e1⟩ := d 1 _ _ rfl
  rw [c28] at e0
  rw [c4] at e1
  obtain ⟨c, f0, b0⟩ := cell_dec e0
  obtain ⟨b, f1⟩ := dec_bool un4b e1
  simp [cellC] at f0 f1
  obtain ⟨rfl, rfl⟩ := f0
  subst f1
  exact ⟨⟨c.1, c.2, b⟩, rfl, b0⟩

/-- A stack among the arguments. -/
def RawOk (G : Hp) (r : Raw) : Prop := ∃ L : List Int, r.n = L.length ∧ Room L.length 8 ∧ ∀ h, Dis G h → Sees icC G h (.slice r.a r.n r.c) L

theorem room_of {n bytes : Nat} (h : n * bytes ≤ reachBytes) (hb : bytes ≤ 40) : Room n bytes := by
  unfold Room
  rw [show reachBytes = 140737488351232 from rfl] at h
  rw [Nat.add_mul, Nat.mul_assoc]
  have : 192 * bytes ≤ 7680 := by omega
  omega

theorem raw_dec {m : Nat} {cs : List Value} {y : DataW H × List MemPlace} (h : DataW.trod enc Tryd.prog w base spare held m 95 cs = some y) (hw : Light Tryd.prog 95 y.1) : ∃ r : Raw, cs = rawC.enc r ∧ RawOk (ground w) r := by
  obtain ⟨hl, d⟩ := dec_fieldsW sf95 h hw
  rw [c95] at hl
  obtain ⟨v0, v1, v2, rfl⟩ := len3 hl
  obtain ⟨m0, z0, e0, _⟩ := d 0 _ _ rfl
  obtain ⟨m1, z1, e1, w1⟩ := d 1 _ _ rfl
  rw [c28] at e0
  rw [c57] at e1
  obtain ⟨c, f0, b0⟩ := cell_dec e0
  obtain ⟨a, n, cap, L, f1, hL, hs, hg, _⟩ := dec_sliceW icC (fun _ => True) un57 c3 (by decide) (fun _ _ _ h _ => let ⟨x, e, _⟩ := dec_int un3i h; ⟨x, e, trivial⟩) e1 w1
  simp [cellC] at f0 f1
  obtain ⟨rfl, rfl⟩ := f0
  subst f1
  rw [show Tryd.prog.bytesOf 3 = 8 by kernel_rfl] at hs
  subst hL
  exact ⟨⟨c.1, c.2, a, L.length, cap⟩, rfl, L, rfl, room_of hs (by decide), hg⟩

theorem len16 {α : Type} {L : List α} (h : L.length = 16) : ∃ a b c d e f g i j k l m n o p q, L = [a, b, c, d, e, f, g, i, j, k, l, m, n, o, p, q] := by
  match L, h with
  | [a, b, c, d, e, f, g, i, j, k, l, m, n, o, p, q], _ => exact ⟨a, b, c, d, e, f, g, i, j, k, l, m, n, o, p, q, rfl⟩

theorem conf_dec {m : Nat} {cs : List Value} {y : DataW H × List MemPlace} (h : DataW.trod enc Tryd.prog w base spare held m 26 cs = some y) (hw : Light Tryd.prog 26 y.1) :
    ∃ C : Conf, (∀ h, Dis (ground w) h → CV (ground w) h (.agg cs.toArray) C) ∧ Fit0 C ∧ ∀ p ∈ C.ro, PB p := by
  obtain ⟨hl, d⟩ := dec_fieldsW sf26 h hw
  rw [c26] at hl
  obtain ⟨v0, v1, v2, v3, v4, v5, v6, v7, v8, v9, v10, v11, v12, v13, v14, v15, rfl⟩ := len16 hl
  obtain ⟨_, _, e0, _⟩ := d 0 _ _ rfl
  obtain ⟨_, _, e1, _⟩ := d 1 _ _ rfl
  obtain ⟨_, _, e2, _⟩ := d 2 _ _ rfl
  obtain ⟨_, _, e3, w3⟩ := d 3 _ _ rfl
  obtain ⟨_, _, e4, w4⟩ := d 4 _ _ rfl
  obtain ⟨_, _, e5, w5⟩ := d 5 _ _ rfl
  obtain ⟨_, _, e6, w6⟩ := d 6 _ _ rfl
  obtain ⟨_, _, e7, _⟩ := d 7 _ _ rfl
  obtain ⟨_, _, e8, _⟩ := d 8 _ _ rfl
  obtain ⟨_, _, e9, _⟩ := d 9 _ _ rfl
  obtain ⟨_, _, e10, _⟩ := d 10 _ _ rfl
  obtain ⟨_, _, e11, _⟩ := d 11 _ _ rfl
  obtain ⟨_, _, e12, _⟩ := d 12 _ _ rfl
  obtain ⟨_, _, e13, _⟩ := d 13 _ _ rfl
  obtain ⟨_, _, e14, _⟩ := d 14 _ _ rfl
  obtain ⟨_, _, e15, _⟩ := d 15 _ _ rfl
  simp only [c3, c4, c22, c23, c24] at e0 e1 e2 e3 e4 e5 e6 e7 e8 e9 e10 e11 e12 e13 e14 e15
  obtain ⟨x0, f0, _⟩ := dec_int un3i e0
  obtain ⟨x1, f1, _⟩ := dec_int un3i e1
  obtain ⟨x2, f2, _⟩ := dec_int un3i e2
  obtain ⟨ab, nb, cb, B, f3, hB, sB, gB, _⟩ := dec_sliceW cellC (fun _ => True) un22 c28 (by decide) (fun _ _ _ h _ => let ⟨x, e, _⟩ := cell_dec h; ⟨x, e, trivial⟩) e3 w3
  obtain ⟨ap, np, cp, PO, f4, hP, sP, gP, _⟩ := dec_sliceW cellC (fun _ => True) un22 c28 (by decide) (fun _ _ _ h _ => let ⟨x, e, _⟩ := cell_dec h; ⟨x, e, trivial⟩) e4 w4
  obtain ⟨ar, nr, cr, R, f5, hR, sR, gR, qR⟩ := dec_sliceW poseC PB un23 c30 (by decide) (fun _ _ _ h _ => pose_dec h) e5 w5
  obtain ⟨az, nz, cz, Z, f6, hZ, sZ, gZ, qZ⟩ := dec_sliceW rawC (RawOk (ground w)) un24 c95 (by decide) (fun _ _ _ h hw => raw_dec h hw) e6 w6
  obtain ⟨x7, f7, _⟩ := dec_int un3i e7
  obtain ⟨x8, f8, _⟩ := dec_int un3i e8
  obtain ⟨x9, f9, _⟩ := dec_int un3i e9
  obtain ⟨x10, f10, _⟩ := dec_int un3i e10
  obtain ⟨x11, f11, _⟩ := dec_int un3i e11
  obtain ⟨x12, f12, _⟩ := dec_int un3i e12
  obtain ⟨x13, f13, _⟩ := dec_int un3i e13
  obtain ⟨x14, f14, _⟩ := dec_int un3i e14
  obtain ⟨x15, f15⟩ := dec_bool un4b e15
  simp at f0 f1 f2 f3 f4 f5 f6 f7 f8 f9 f10 f11 f12 f13 f14 f15
  subst f0 f1 f2 f3 f4 f5 f6 f7 f8 f9 f10 f11 f12 f13 f14 f15
  subst hB hP hR hZ
  rw [show Tryd.prog.bytesOf 28 = 16 by kernel_rfl] at sB sP
  rw [show Tryd.prog.bytesOf 30 = 24 by kernel_rfl] at sR
  rw [show Tryd.prog.bytesOf 95 = 40 by kernel_rfl] at sZ
  obtain ⟨S, hS, qS⟩ := list_of (Q := fun i (s : Cell × List Int) => ∀ r, Z[i]? = some r → (r.x, r.y) = s.1 ∧ r.n = s.2.length ∧ Room s.2.length 8 ∧ ∀ h, Dis (ground w) h → Sees icC (ground w) h (.slice r.a s.2.length r.c) s.2) Z.length (fun i hi => by
    obtain ⟨L, e, rm, se⟩ := qZ _ (List.getElem_mem hi)
    refine ⟨((Z[i].x, Z[i].y), L), fun r hr => ?_⟩
    rw [List.getElem?_eq_getElem hi] at hr
    cases hr
    exact ⟨rfl, e, rm, fun h d => by rw [← e]; exact se h d⟩)
  refine ⟨⟨x0, x1, x2, B, PO, R, S, x7, x8, x9, x10, x11, x12, x13, x14, x15⟩, fun h d => ⟨ab, cb, ap, cp, ar, cr, az, cz, by simp only [confV, hS], gB h d, gP h d, gR h d, Z, by show Sees rawC _ h (.slice az S.length cz) Z; rw [hS]; exact gZ h d, fun i r s hr hs => ?_⟩, ⟨room_of sB (by decide), room_of sP (by decide), room_of sR (by decide), by show Room S.length 40; rw [hS]; exact room_of sZ (by decide), fun s hs => ?_⟩, qR⟩
  · obtain ⟨a, b, c, e⟩ := qS i s hs r hr
    exact ⟨a, b, e h d⟩
  · obtain ⟨i, hi⟩ := List.getElem?_of_mem hs
    have hi2 : i < Z.length := by rw [← hS]; exact (List.getElem?_eq_some_iff.1 hi).1
    exact (qS i s hi _ (List.getElem?_eq_getElem hi2)).2.2.1

theorem pose_arg {r : Reach} {b0 : Nat} {v : Value} {d : DataW H} {ps : List MemPlace} (k : Value.okWide Tryd.prog w r b0 30 v) (h : DataW.Trod enc Tryd.prog w base spare held 30 v d ps) : ∃ p : Pose, v = poseV p ∧ PB p := by
  obtain ⟨cs, rfl⟩ := okWide_structF sf30 k
  obtain ⟨m, h⟩ := h
  obtain ⟨c, e, b⟩ := pose_dec (cs := cs.toList) h
  exact ⟨c, by rw [← Array.toArray_toList (xs := cs), e]; rfl, b⟩
/-- The config as an argument. -/
theorem conf_arg {r : Reach} {b0 : Nat} {v : Value} {d : DataW H} {ps : List MemPlace} (k : Value.okWide Tryd.prog w r b0 26 v) (h : DataW.Trod enc Tryd.prog w base spare held 26 v d ps) (hl : Light Tryd.prog 26 d) :
    ∃ C : Conf, (∀ h, Dis (ground w) h → CV (ground w) h v C) ∧ Fit0 C ∧ ∀ p ∈ C.ro, PB p := by
  obtain ⟨cs, rfl⟩ := okWide_structF sf26 k
  obtain ⟨m, h⟩ := h
  obtain ⟨C, hC, f, hp⟩ := conf_dec (cs := cs.toList) h hl
  exact ⟨C, fun h d => by simpa using hC h d, f, hp⟩
end
end Go.Proofs.YtnpdploihlgcgaaDoor
end

section
/- A move that comes in as an argument. -/
set_option linter.unusedSimpArgs false
set_option linter.unusedVariables false
set_option maxRecDepth 100000
namespace Go.Proofs.YtnpdploihlgcgaaDoor
open Go Go.HL Go.ChangeShapes Go.WideShapes Go.RowKit

section
variable {H : Type} {enc : TypeId × Value → H} {w : World} {base : Nat} {spare : Nat → Bool} {held : Bool}

end
end Go.Proofs.YtnpdploihlgcgaaDoor
end
