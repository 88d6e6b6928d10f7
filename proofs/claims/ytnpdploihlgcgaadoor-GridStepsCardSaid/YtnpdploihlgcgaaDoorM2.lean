/- Texts of the proof, one behind the other. -/
import Derived.Test.YtnpdploihlgcgaaDoorM1
import Derived.Test.YtnpdploihlgcgaaDoorH3
section
/- The reference's answers on cells, poses: open, port, home, beside, stacked. -/
set_option linter.unusedSimpArgs false
set_option linter.unusedVariables false
set_option maxRecDepth 100000
namespace Go.Proofs.YtnpdploihlgcgaaDoor
open Go Go.HL

theorem boxed {G h h1 : Hp} {x : Nat} {o : Obj} (e : h.set x o = h1) (hx : h x = none) (d : Dis G h) (gx : G x = none) : h.le h1 ∧ Dis G h1 ∧ h1 x = some o := by
  subst e
  exact ⟨le_set hx, d.set gx, set_self⟩

theorem ropen_spec {G h : Hp} {v : Value} {C : Conf} {c : Cell} (hv : CV G h v C) (hL : C.bl.length ≤ 100000000000000) : HCalls Tryd.prog G 32 #[v, cellV c] h (fun u h' => u = .bool (openB C c) ∧ h' = h) := by
  have hv0 := hv
  obtain ⟨ab, cb, ap, cp, ar, cr, az, cs, rfl, ca⟩ := hv
  refine HCalls.assume fun d => quietly (enter32 (by simp) ?_)
  unfold S32
  simp -implicitDefEqProofs only [regs0, regs1, retK_ret, resL_tmp, upd_eq, resL_nil1, cf52, opH_sv, box_new, cells_agg, ld28, add_mk, Nat.add_zero, Nat.zero_add, ld26, cell_set_self, List.getElem?_cons_zero, Option.some.injEq, List.getElem?_cons_succ, exists_eq_left']
  intro x hx gx
  generalize e1 : Hp.set h x _ = h1
  obtain ⟨l1, d1, b1⟩ := boxed e1 hx d gx
  intro y hy gy
  generalize e2 : Hp.set h1 y _ = h2
  obtain ⟨l2, d2, b2⟩ := boxed e2 hy d1 gy
  have cx : ∀ k, cellIn G h2 ⟨x, k, none⟩ = _ := fun k => cell_of (look_own (l2 _ _ b1))
  have cy : ∀ k, cellIn G h2 ⟨y, k, none⟩ = _ := fun k => cell_of (look_own b2)
  have ca2 := ca.up (l1.trans l2) d2
  try simp -implicitDefEqProofs only [cx, List.getElem?_cons_zero, Option.some.injEq, List.getElem?_cons_succ, exists_eq_left']
  refine (in_spec ca2.cv).mono ?_
  rintro _ _ ⟨rfl, rfl⟩
  unfold openB
  cases hc : inB C c with
  | false => simp -implicitDefEqProofs only [pick_f, gd_ft]; exact ⟨rfl, l1.trans l2⟩
  | true =>
  simp -implicitDefEqProofs only [Bool.true_and, pick_t, gd_tt, cf53, opH_sv, ld28, add_mk, Nat.add_zero, Nat.zero_add, fa26_3, ld22, cx, List.getElem?_cons_succ, List.getElem?_cons_zero, Option.some.injEq, cy, exists_eq_left']
  refine (among_spec ca2.bl hL).mono ?_
  rintro _ _ ⟨rfl, rfl⟩
  simp -implicitDefEqProofs only [eq_int]
  refine ⟨?_, l1.trans l2⟩
  congr 1
  rw [Bool.eq_iff_iff]
  simp

theorem rport_spec {G h : Hp} {v : Value} {C : Conf} {c : Cell} (hv : CV G h v C) (hL : C.po.length ≤ 100000000000000) : HCalls Tryd.prog G 34 #[v, cellV c] h (fun u h' => u = .int .i64 (portI C c) ∧ h' = h) := by
  obtain ⟨ab, cb, ap, cp, ar, cr, az, cs, rfl, ca⟩ := hv
  refine HCalls.assume fun d => quietly (enter34 (by simp) ?_)
  unfold S34
  simp -implicitDefEqProofs only [regs0, regs1, opH_sv, box_new, cells_agg]
  intro x hx gx
  generalize e1 : Hp.set h x _ = h1
  obtain ⟨l1, d1, b1⟩ := boxed e1 hx d gx
  intro y hy gy
  generalize e2 : Hp.set h1 y _ = h2
  obtain ⟨l2, d2, b2⟩ := boxed e2 hy d1 gy
  have cx : ∀ k, cellIn G h2 ⟨x, k, none⟩ = _ := fun k => cell_of (look_own (l2 _ _ b1))
  have cy : ∀ k, cellIn G h2 ⟨y, k, none⟩ = _ := fun k => cell_of (look_own b2)
  have ca2 := ca.up (l1.trans l2) d2
  refine loop_I (fun m r h3 => ∃ i : Nat, m = C.po.length - i ∧ i ≤ C.po.length ∧ r 2 = .pointer (some ⟨x, 0, none⟩) ∧ r 3 = .pointer (some ⟨y, 0, none⟩) ∧ r 5 = .int .i64 i ∧ c ∉ C.po.take i ∧ h3 = h2) ?_
    (m := C.po.length) ⟨0, rfl, Nat.zero_le _, by simp -implicitDefEqProofs (disch := first | with_reducible exact Nat.ne_of_beq_eq_false rfl | omega) only [upd_ne, upd_eq], by simp -implicitDefEqProofs (disch := first | with_reducible exact Nat.ne_of_beq_eq_false rfl | omega) only [upd_ne, upd_eq], by simp -implicitDefEqProofs only [upd_eq] <;> rfl, by simp, rfl⟩
  rintro m r h3 ⟨i, rfl, hi, g2, g3, g5, hni, rfl⟩ X HX
  unfold S34_l2
  simp -implicitDefEqProofs only [g2, g5, thenK_exit, blockK_exit, thenK_normal, if_true, opH_sv, fa26_4, add_mk, Nat.zero_add, ld22, cx, List.getElem?_cons_succ, List.getElem?_cons_zero, Option.some.injEq, exists_eq_left', ln22, bin_lss]
  refine cond_dec (fun hlt => ?_) (fun hge => ?_)
  · have hlt' : i < C.po.length := by omega
    obtain ⟨z, hz⟩ : ∃ x, C.po[i]? = some x := ⟨_, List.getElem?_eq_getElem hlt'⟩
    obtain ⟨b, o, rfl, y0, y1⟩ := Sees.cell ca2.po hz
    have htk : C.po.take (i + 1) = C.po.take i ++ [z] := by rw [List.take_add_one, hz]; rfl
    unfold S34_l2_k3
    simp -implicitDefEqProofs (maxSteps := 2000000) (disch := first | with_reducible exact Nat.ne_of_beq_eq_false rfl | exact oneCell_int | exact oneCell_bool | omega | rfl | (simp; done) | fail) only [upd_ne, g2, g5, g3, thenK_ret, blockK_ret, retK_ret, resL_tmp, upd_eq, resL_nil1, pureW_sv, ld28p, add_mk, Nat.add_zero, cy, List.getElem?_cons_zero, Option.some.injEq, Nat.zero_add, List.getElem?_cons_succ, exists_eq_left', fa26_4p, ld22p, cx, ix22p (Int.natCast_nonneg i) hlt, Int.toNat_natCast, y0, y1, eq28p, Bool.and_true, cell_beq]
    cases hb : (z == c) with
    | true =>
      simp -implicitDefEqProofs (maxSteps := 2000000) (disch := first | with_reducible exact Nat.ne_of_beq_eq_false rfl | exact oneCell_int | exact oneCell_bool | omega | rfl | (simp; done) | fail) only [HL.cond_true]
      have hzc : z = c := by simpa using hb
      subst hzc
      refine ⟨?_, l1.trans l2⟩
      have hm : z ∈ C.po := List.mem_of_getElem? hz
      unfold portI
      rw [if_pos hm]
      congr 1
      have h1 : C.po = C.po.take i ++ z :: C.po.drop (i + 1) := by
        have := List.getElem?_eq_some_iff.1 hz
        conv => lhs; rw [← List.take_append_drop i C.po, List.drop_eq_getElem_cons hlt', this.2]
      rw [h1, List.idxOf_append, if_neg hni, List.idxOf_cons_self, List.length_take]
      omega
    | false =>
      simp -implicitDefEqProofs (maxSteps := 2000000) (disch := first | with_reducible exact Nat.ne_of_beq_eq_false rfl | exact oneCell_int | exact oneCell_bool | omega | rfl | (simp; done) | fail) only [HL.cond_false]
      unfold S34_l2_k4
      simp -implicitDefEqProofs (disch := first | with_reducible exact Nat.ne_of_beq_eq_false rfl | omega) only [upd_ne, g5, thenK_normal, opH_sv, bin_add, wrap_in]
      refine HX (C.po.length - (i + 1)) _ _ (by omega) ⟨i + 1, rfl, hlt', by simp -implicitDefEqProofs (disch := first | with_reducible exact Nat.ne_of_beq_eq_false rfl | omega) only [upd_ne, g2], by simp -implicitDefEqProofs (disch := first | with_reducible exact Nat.ne_of_beq_eq_false rfl | omega) only [upd_ne, g3], by simp -implicitDefEqProofs (disch := first | with_reducible exact Nat.ne_of_beq_eq_false rfl | omega) only [upd_eq] <;> rfl, ?_, rfl⟩
      rw [htk, List.mem_append, List.mem_singleton]
      rintro (h | rfl)
      · exact hni h
      · simp at hb
  · obtain rfl : i = C.po.length := by omega
    rw [List.take_of_length_le (Nat.le_refl _)] at hni
    show S34_k1 _ _ _ _
    unfold S34_k1
    simp -implicitDefEqProofs only [retK_ret, resL_tmp, upd_eq, resL_nil1]
    refine ⟨?_, l1.trans l2⟩
    unfold portI
    rw [if_neg hni]

theorem rcells_spec {G h : Hp} {p : Pose} : HCalls Tryd.prog G 22 #[poseV p] h (fun u h' => ∃ b, u = .slice (some ⟨b, 0, none⟩) 2 2 ∧ h b = none ∧ G b = none ∧ h' = h.set b (.cells #[.int .i64 p.x, .int .i64 p.y, .int .i64 (east p).1, .int .i64 (east p).2] 28 (0, 0))) := by
  refine HCalls.assume fun d => HCalls.less (enter22 (by simp) (R := fun u h' => ∃ b, u = .slice (some ⟨b, 0, none⟩) 2 2 ∧ h b = none ∧ G b = none ∧ (h.set b (.cells #[.int .i64 p.x, .int .i64 p.y, .int .i64 (east p).1, .int .i64 (east p).2] 28 (0, 0))).le h') ?_) ?_
  rotate_left
  · rintro v h' ⟨b, e, h1, h2, h3⟩
    exact ⟨_, h3, b, e, h1, h2, rfl⟩
  unfold S22
  simp -implicitDefEqProofs only [regs0, retK_ret, resL_tmp, upd_eq, resL_nil1, opH_sv, box_new, cells_agg, fa30_0, add_mk, Nat.add_zero, fa28_1, Nat.zero_add, ld3, fa28_0, ld28, fa30_1, ld4, cell_set_self, List.getElem?_cons_succ, List.getElem?_cons_zero, Option.some.injEq, exists_eq_left', bin_add, bd28_0_1, bs22_2_0_1]
  intro x hx gx
  generalize e1 : Hp.set h x _ = h1
  obtain ⟨l1, d1, b1⟩ := boxed e1 hx d gx
  have cx : ∀ k, cellIn G h1 ⟨x, k, none⟩ = _ := fun k => cell_of (look_own b1)
  try simp -implicitDefEqProofs only [opH_sv, opH_su, pureW_sv, opH_nil, pureW_nil, pick_t, pick_f, pick_tp, pick_fp, gd_tt, gd_ft, gd_tf, gd_ff, box_new, regs0, regs1, regs2, regs3, regs4, regs5, regs6, cells_agg, cells_int, cells_bool, cells_ptr, cells_slice, cells_string, cells_func, cells_nilFunc, cells_map, retK_ret, retK_normal, resL_tmp, resL_cell, resL_nil0, resL_nil1, resL_nil2, resL_nil3, resC_ptr, ex0, ex1, ex2, ex0p, ex1p, ex2p, HL.cond_true, HL.cond_false, thenK_normal, thenK_ret, thenK_exit, blockK_normal, blockK_ret, blockK_exit, scopeK_normal, scopeK_ret, scopeK_exit, wpH_pure, bin_add, bin_sub, bin_mul, bin_lss, bin_leq, bin_gtr, bin_geq, bin_quo, bin_rem, bin_quop, bin_remp, wrap_in, bin_addp, bin_subp, bin_mulp, bin_lssp, bin_leqp, bin_gtrp, bin_geqp, un_not, un_notp, un_neg, eq_int, ne_int, eq_intp, ne_intp, callV_fn, add_mk, upd_eq, upd_ne, cell_set_self, Nat.zero_add, Nat.add_zero, Option.some.injEq, exists_eq_left', List.getElem?_cons_succ, List.getElem?_cons_zero, true_and, and_true, bne_self_eq_false, beq_self_eq_true, Bool.not_true, Bool.not_false, Bool.and_true, Bool.and_self, Bool.and_false, Bool.true_and, List.length_cons, List.length_nil, ne_eq, not_false_eq_true, Nat.reduceAdd, Nat.reduceMul, if_true, if_false, oneCell_int, oneCell_bool, oneCell_ptr, oneCell_slice, oneCell_string, oneCell_func, oneCell_map, Int.toNat_natCast, List.set_cons_zero, List.set_cons_succ, Nat.lt_irrefl, Nat.zero_lt_succ, Nat.succ_lt_succ_iff, fa26_0, fa26_0p, fa26_1, fa26_1p, fa26_10, fa26_10p, fa26_11, fa26_11p, fa26_12, fa26_12p, fa26_13, fa26_13p, fa26_14, fa26_14p, fa26_2, fa26_2p, fa26_3, fa26_3p, fa26_4, fa26_4p, fa26_5, fa26_5p, fa26_6, fa26_6p, fa26_7, fa26_7p, fa26_8, fa26_8p, fa26_9, fa26_9p, fa28_0, fa28_0p, fa28_1, fa28_1p, fa30_0, fa30_0p, fa30_1, fa30_1p, fa46_0, fa46_0p, fa46_1, fa46_1p, fa46_2, fa46_2p, fa46_3, fa46_3p, fa46_4, fa46_4p, fa46_5, fa46_5p, fa46_6, fa46_6p, fa86_0, fa86_0p, fa86_1, fa86_1p, fa86_2, fa86_2p, fa95_0, fa95_0p, fa95_1, fa95_1p, ld3, ld3p, ld4, ld4p, ld22, ld22p, ld23, ld23p, ld24, ld24p, ld26, ld26p, ld28, ld28p, ld30, ld30p, ld31, ld31p, ld46, ld46p, ld47, ld47p, ld52, ld52p, ld55, ld55p, ld57, ld57p, ld95, ld95p, st3s, st4s, st22s, st23s, st24s, st26w, st28w, st30w, st46w, st47s, st55s, st95w, ix22, ix22p, ix23, ix23p, ix24, ix24p, ix47, ix47p, ix56, ix56p, ix57, ix57p, ix101, ix101p, ln22, ln22p, ln23, ln23p, ln24, ln24p, ln47, ln47p, ln56, ln56p, ln57, ln57p, al22, al26, al28, al30, al46, al47, al95, cf14, cf15, cf16, cf17, cf18, cf19, cf20, cf21, cf22, cf23, cf24, cf25, cf26, cf27, cf28, cf29, cf30, cf31, cf32, cf33, cf34, cf35, cf36, cf37, cf38, cf39, cf40, cf41, cf42, cf43, cf44, cf45, cf46, cf47, cf48, cf49, cf50, cf51, cf52, cf53, cf54, cf55, cf56, cf57, cf58, cf59, cf60, cf61, cf62, cf63, cf64, cf65, cf66, cf67, cf68, cf69, cf70, cf71, cf72, cf73, cf74, cf75, cf76, cf77, cf78, cf79, cf80, bd26_0_1_2_7_8_9_10_11_12_13_14, bd26_0_1_2_7_8_9_10_11_12_13_14p, bd28_0, bd28_0p, bd28_0_1, bd28_0_1p, bd30_, bd30_p, bd30_0_1, bd30_0_1p, bd30_0, bd30_0p, bd46_0_1_2_3_4, bd46_0_1_2_3_4p, bd46_0_3_4, bd46_0_3_4p, bd86_0_1_2, bd86_0_1_2p, bd87_0_1_2_3, bd87_0_1_2_3p, bd95_0_1, bd95_0_1p, bs22_2_0_1, bs47_1_0, bs22_1_0, bs57_6_0_1_2_3_4_5, bs24_1_0, bs22_4_0_1_2_3, bs56_11_0_1_2_3_4_5_6_7_8_9_10, bs57_11_0_1_2_3_4_5_6_7_8_9_10, eq4, eq4p, eq28, eq28p, eq30, eq30p, eq31n, eq31np, eq31s, eq31sp, eq46, eq46p, eq50n, eq50np, eq50s, eq50sp, eq67n, eq67np, eq67s, eq67sp, ne4, ne4p, ne28, ne28p, ne30, ne30p, ne31n, ne31np, ne31s, ne31sp, ne46, ne46p, cx]
  unfold east wr
  cases hd : p.d with
  | true =>
    try simp -implicitDefEqProofs only [if_true, HL.cond_true]
    intro b hb gb
    exact ⟨b, rfl, l1.none hb, gb, l1.both⟩
  | false =>
    try simp -implicitDefEqProofs only [HL.cond_false]
    unfold S22_k1
    simp -implicitDefEqProofs (disch := first | with_reducible exact Nat.ne_of_beq_eq_false rfl | omega) only [upd_ne, upd_eq, retK_ret, resL_tmp, resL_nil1, opH_sv, fa30_0, add_mk, Nat.add_zero, fa28_1, Nat.zero_add, ld3, fa28_0, ld28, cx, List.getElem?_cons_zero, Option.some.injEq, List.getElem?_cons_succ, exists_eq_left', bin_add, bd28_0_1, bs22_2_0_1]
    intro b hb gb
    exact ⟨b, rfl, l1.none hb, gb, l1.both⟩

theorem rfits_spec {G h : Hp} {v : Value} {C : Conf} {p : Pose} (hv : CV G h v C) (hL : C.bl.length ≤ 100000000000000) : HCalls Tryd.prog G 24 #[v, poseV p] h (fun u h' => u = .bool (fitsB C p) ∧ h' = h) := by
  obtain ⟨ab, cb, ap, cp, ar, cr, az, cs, rfl, ca⟩ := hv
  refine HCalls.assume fun d => quietly (enter24 (by simp) ?_)
  unfold S24
  simp -implicitDefEqProofs only [regs0, regs1, retK_ret, resL_tmp, upd_eq, resL_nil1, cf32, pureW_sv, cf22, opH_sv, box_new, cells_agg, ld30, add_mk, Nat.add_zero, cell_set_self, List.getElem?_cons_zero, Option.some.injEq, Nat.zero_add, List.getElem?_cons_succ, exists_eq_left', ld26p]
  intro x hx gx
  generalize e1 : Hp.set h x _ = h1
  obtain ⟨l1, d1, b1⟩ := boxed e1 hx d gx
  intro y hy gy
  generalize e2 : Hp.set h1 y _ = h2
  obtain ⟨l2, d2, b2⟩ := boxed e2 hy d1 gy
  have cy : ∀ k, cellIn G h2 ⟨y, k, none⟩ = _ := fun k => cell_of (look_own b2)
  try simp -implicitDefEqProofs only [opH_sv, opH_su, pureW_sv, opH_nil, pureW_nil, pick_t, pick_f, pick_tp, pick_fp, gd_tt, gd_ft, gd_tf, gd_ff, box_new, regs0, regs1, regs2, regs3, regs4, regs5, regs6, cells_agg, cells_int, cells_bool, cells_ptr, cells_slice, cells_string, cells_func, cells_nilFunc, cells_map, retK_ret, retK_normal, resL_tmp, resL_cell, resL_nil0, resL_nil1, resL_nil2, resL_nil3, resC_ptr, ex0, ex1, ex2, ex0p, ex1p, ex2p, HL.cond_true, HL.cond_false, thenK_normal, thenK_ret, thenK_exit, blockK_normal, blockK_ret, blockK_exit, scopeK_normal, scopeK_ret, scopeK_exit, wpH_pure, bin_add, bin_sub, bin_mul, bin_lss, bin_leq, bin_gtr, bin_geq, bin_quo, bin_rem, bin_quop, bin_remp, wrap_in, bin_addp, bin_subp, bin_mulp, bin_lssp, bin_leqp, bin_gtrp, bin_geqp, un_not, un_notp, un_neg, eq_int, ne_int, eq_intp, ne_intp, callV_fn, add_mk, upd_eq, upd_ne, cell_set_self, Nat.zero_add, Nat.add_zero, Option.some.injEq, exists_eq_left', List.getElem?_cons_succ, List.getElem?_cons_zero, true_and, and_true, bne_self_eq_false, beq_self_eq_true, Bool.not_true, Bool.not_false, Bool.and_true, Bool.and_self, Bool.and_false, Bool.true_and, List.length_cons, List.length_nil, ne_eq, not_false_eq_true, Nat.reduceAdd, Nat.reduceMul, if_true, if_false, oneCell_int, oneCell_bool, oneCell_ptr, oneCell_slice, oneCell_string, oneCell_func, oneCell_map, Int.toNat_natCast, List.set_cons_zero, List.set_cons_succ, Nat.lt_irrefl, Nat.zero_lt_succ, Nat.succ_lt_succ_iff, fa26_0, fa26_0p, fa26_1, fa26_1p, fa26_10, fa26_10p, fa26_11, fa26_11p, fa26_12, fa26_12p, fa26_13, fa26_13p, fa26_14, fa26_14p, fa26_2, fa26_2p, fa26_3, fa26_3p, fa26_4, fa26_4p, fa26_5, fa26_5p, fa26_6, fa26_6p, fa26_7, fa26_7p, fa26_8, fa26_8p, fa26_9, fa26_9p, fa28_0, fa28_0p, fa28_1, fa28_1p, fa30_0, fa30_0p, fa30_1, fa30_1p, fa46_0, fa46_0p, fa46_1, fa46_1p, fa46_2, fa46_2p, fa46_3, fa46_3p, fa46_4, fa46_4p, fa46_5, fa46_5p, fa46_6, fa46_6p, fa86_0, fa86_0p, fa86_1, fa86_1p, fa86_2, fa86_2p, fa95_0, fa95_0p, fa95_1, fa95_1p, ld3, ld3p, ld4, ld4p, ld22, ld22p, ld23, ld23p, ld24, ld24p, ld26, ld26p, ld28, ld28p, ld30, ld30p, ld31, ld31p, ld46, ld46p, ld47, ld47p, ld52, ld52p, ld55, ld55p, ld57, ld57p, ld95, ld95p, st3s, st4s, st22s, st23s, st24s, st26w, st28w, st30w, st46w, st47s, st55s, st95w, ix22, ix22p, ix23, ix23p, ix24, ix24p, ix47, ix47p, ix56, ix56p, ix57, ix57p, ix101, ix101p, ln22, ln22p, ln23, ln23p, ln24, ln24p, ln47, ln47p, ln56, ln56p, ln57, ln57p, al22, al26, al28, al30, al46, al47, al95, cf14, cf15, cf16, cf17, cf18, cf19, cf20, cf21, cf22, cf23, cf24, cf25, cf26, cf27, cf28, cf29, cf30, cf31, cf32, cf33, cf34, cf35, cf36, cf37, cf38, cf39, cf40, cf41, cf42, cf43, cf44, cf45, cf46, cf47, cf48, cf49, cf50, cf51, cf52, cf53, cf54, cf55, cf56, cf57, cf58, cf59, cf60, cf61, cf62, cf63, cf64, cf65, cf66, cf67, cf68, cf69, cf70, cf71, cf72, cf73, cf74, cf75, cf76, cf77, cf78, cf79, cf80, bd26_0_1_2_7_8_9_10_11_12_13_14, bd26_0_1_2_7_8_9_10_11_12_13_14p, bd28_0, bd28_0p, bd28_0_1, bd28_0_1p, bd30_, bd30_p, bd30_0_1, bd30_0_1p, bd30_0, bd30_0p, bd46_0_1_2_3_4, bd46_0_1_2_3_4p, bd46_0_3_4, bd46_0_3_4p, bd86_0_1_2, bd86_0_1_2p, bd87_0_1_2_3, bd87_0_1_2_3p, bd95_0_1, bd95_0_1p, bs22_2_0_1, bs47_1_0, bs22_1_0, bs57_6_0_1_2_3_4_5, bs24_1_0, bs22_4_0_1_2_3, bs56_11_0_1_2_3_4_5_6_7_8_9_10, bs57_11_0_1_2_3_4_5_6_7_8_9_10, eq4, eq4p, eq28, eq28p, eq30, eq30p, eq31n, eq31np, eq31s, eq31sp, eq46, eq46p, eq50n, eq50np, eq50s, eq50sp, eq67n, eq67np, eq67s, eq67sp, ne4, ne4p, ne28, ne28p, ne30, ne30p, ne31n, ne31np, ne31s, ne31sp, ne46, ne46p, cy]
  refine rcells_spec.mono ?_
  rintro _ _ ⟨b, rfl, hb, gb, rfl⟩
  generalize e3 : Hp.set h2 b _ = h3
  obtain ⟨l3, d3, b3⟩ := boxed e3 hb d2 gb
  have L := (l1.trans l2).trans l3
  have cx : ∀ k, cellIn G h3 ⟨x, k, none⟩ = _ := fun k => cell_of (look_own (l3 _ _ (l2 _ _ b1)))
  have cb3 : ∀ k, cellIn G h3 ⟨b, k, none⟩ = _ := fun k => cell_of (look_own b3)
  have ca3 := ca.up L d3
  try simp -implicitDefEqProofs only [cx, List.getElem?_cons_zero, Option.some.injEq, List.getElem?_cons_succ, ix22p (by decide : (0 : Int) ≤ 0) (by decide : (0 : Int) < (2 : Nat)), Int.toNat_zero, Nat.zero_mul, add_mk, Nat.add_zero, ld28p, cb3, Nat.zero_add, exists_eq_left']
  refine (ropen_spec (c := (p.x, p.y)) ca3.cv hL).mono ?_
  rintro _ _ ⟨rfl, rfl⟩
  unfold fitsB
  cases hc : openB C (p.x, p.y) with
  | false => simp -implicitDefEqProofs only [pick_fp, gd_ft]; exact ⟨rfl, L⟩
  | true =>
  try simp -implicitDefEqProofs only [Bool.true_and, pick_tp, gd_tt, cf32, pureW_sv, ix22p (by decide : (0 : Int) ≤ 1) (by decide : (1 : Int) < (2 : Nat)), Int.toNat_one, Nat.one_mul, add_mk, Nat.zero_add, ld28p, Nat.add_zero, Nat.reduceAdd, cb3, List.getElem?_cons_succ, List.getElem?_cons_zero, Option.some.injEq, exists_eq_left', ld26p, cx]
  refine (ropen_spec (c := east p) ca3.cv hL).mono ?_
  rintro _ _ ⟨rfl, rfl⟩
  try simp -implicitDefEqProofs only [true_and]
  first | exact L | exact ⟨by simp, L⟩

theorem rbeside_spec {G h : Hp} {v : Value} {C : Conf} {c : Cell} (hv : CV G h v C) (hL : C.bl.length ≤ 100000000000000) : HCalls Tryd.prog G 55 #[v, cellV c] h (fun u h' => u = .bool (besideB C c) ∧ h' = h) := by
  obtain ⟨ab, cb, ap, cp, ar, cr, az, cs, rfl, ca⟩ := hv
  refine HCalls.assume fun d => quietly (enter55 (by simp) ?_)
  unfold S55
  simp -implicitDefEqProofs only [regs0, regs1, retK_ret, resL_tmp, upd_eq, resL_nil1, cf32, opH_sv, box_new, cells_agg, fa28_1, add_mk, Nat.zero_add, ld3, fa28_0, Nat.add_zero, ld26, cell_set_self, List.getElem?_cons_zero, Option.some.injEq, exists_eq_left', bin_add, List.getElem?_cons_succ, bd28_0_1]
  intro x hx gx
  generalize e1 : Hp.set h x _ = h1
  obtain ⟨l1, d1, b1⟩ := boxed e1 hx d gx
  intro y hy gy
  generalize e2 : Hp.set h1 y _ = h2
  obtain ⟨l2, d2, b2⟩ := boxed e2 hy d1 gy
  have L := l1.trans l2
  have cx : ∀ k, cellIn G h2 ⟨x, k, none⟩ = _ := fun k => cell_of (look_own (l2 _ _ b1))
  have cy : ∀ k, cellIn G h2 ⟨y, k, none⟩ = _ := fun k => cell_of (look_own b2)
  have ca2 := ca.up L d2
  try simp -implicitDefEqProofs only [cx, List.getElem?_cons_zero, Option.some.injEq, List.getElem?_cons_succ, exists_eq_left']
  refine (ropen_spec (c := (IntKind.i64.wrap (c.1 + 1), c.2)) ca2.cv hL).mono ?_
  rintro _ _ ⟨rfl, rfl⟩
  unfold besideB wr
  cases hc : openB C (IntKind.i64.wrap (c.1 + 1), c.2) with
  | true => simp -implicitDefEqProofs only [pick_t, gd_tf]; first | exact L | exact ⟨rfl, L⟩
  | false =>
  try simp -implicitDefEqProofs only [pick_f, gd_ff, cf32, opH_sv, fa28_1, add_mk, Nat.zero_add, ld3, fa28_0, Nat.add_zero, ld26, cx, List.getElem?_cons_zero, Option.some.injEq, List.getElem?_cons_succ, cy, exists_eq_left', bin_add, bd28_0_1]
  refine (ropen_spec (c := (c.1, IntKind.i64.wrap (c.2 + 1))) ca2.cv hL).mono ?_
  rintro _ _ ⟨rfl, rfl⟩
  try simp -implicitDefEqProofs only [opH_sv, opH_su, pureW_sv, opH_nil, pureW_nil, pick_t, pick_f, pick_tp, pick_fp, gd_tt, gd_ft, gd_tf, gd_ff, box_new, regs0, regs1, regs2, regs3, regs4, regs5, regs6, cells_agg, cells_int, cells_bool, cells_ptr, cells_slice, cells_string, cells_func, cells_nilFunc, cells_map, retK_ret, retK_normal, resL_tmp, resL_cell, resL_nil0, resL_nil1, resL_nil2, resL_nil3, resC_ptr, ex0, ex1, ex2, ex0p, ex1p, ex2p, HL.cond_true, HL.cond_false, thenK_normal, thenK_ret, thenK_exit, blockK_normal, blockK_ret, blockK_exit, scopeK_normal, scopeK_ret, scopeK_exit, wpH_pure, bin_add, bin_sub, bin_mul, bin_lss, bin_leq, bin_gtr, bin_geq, bin_quo, bin_rem, bin_quop, bin_remp, wrap_in, bin_addp, bin_subp, bin_mulp, bin_lssp, bin_leqp, bin_gtrp, bin_geqp, un_not, un_notp, un_neg, eq_int, ne_int, eq_intp, ne_intp, callV_fn, add_mk, upd_eq, upd_ne, cell_set_self, Nat.zero_add, Nat.add_zero, Option.some.injEq, exists_eq_left', List.getElem?_cons_succ, List.getElem?_cons_zero, true_and, and_true, bne_self_eq_false, beq_self_eq_true, Bool.not_true, Bool.not_false, Bool.and_true, Bool.and_self, Bool.and_false, Bool.true_and, List.length_cons, List.length_nil, ne_eq, not_false_eq_true, Nat.reduceAdd, Nat.reduceMul, if_true, if_false, oneCell_int, oneCell_bool, oneCell_ptr, oneCell_slice, oneCell_string, oneCell_func, oneCell_map, Int.toNat_natCast, List.set_cons_zero, List.set_cons_succ, Nat.lt_irrefl, Nat.zero_lt_succ, Nat.succ_lt_succ_iff, fa26_0, fa26_0p, fa26_1, fa26_1p, fa26_10, fa26_10p, fa26_11, fa26_11p, fa26_12, fa26_12p, fa26_13, fa26_13p, fa26_14, fa26_14p, fa26_2, fa26_2p, fa26_3, fa26_3p, fa26_4, fa26_4p, fa26_5, fa26_5p, fa26_6, fa26_6p, fa26_7, fa26_7p, fa26_8, fa26_8p, fa26_9, fa26_9p, fa28_0, fa28_0p, fa28_1, fa28_1p, fa30_0, fa30_0p, fa30_1, fa30_1p, fa46_0, fa46_0p, fa46_1, fa46_1p, fa46_2, fa46_2p, fa46_3, fa46_3p, fa46_4, fa46_4p, fa46_5, fa46_5p, fa46_6, fa46_6p, fa86_0, fa86_0p, fa86_1, fa86_1p, fa86_2, fa86_2p, fa95_0, fa95_0p, fa95_1, fa95_1p, ld3, ld3p, ld4, ld4p, ld22, ld22p, ld23, ld23p, ld24, ld24p, ld26, ld26p, ld28, ld28p, ld30, ld30p, ld31, ld31p, ld46, ld46p, ld47, ld47p, ld52, ld52p, ld55, ld55p, ld57, ld57p, ld95, ld95p, st3s, st4s, st22s, st23s, st24s, st26w, st28w, st30w, st46w, st47s, st55s, st95w, ix22, ix22p, ix23, ix23p, ix24, ix24p, ix47, ix47p, ix56, ix56p, ix57, ix57p, ix101, ix101p, ln22, ln22p, ln23, ln23p, ln24, ln24p, ln47, ln47p, ln56, ln56p, ln57, ln57p, al22, al26, al28, al30, al46, al47, al95, cf14, cf15, cf16, cf17, cf18, cf19, cf20, cf21, cf22, cf23, cf24, cf25, cf26, cf27, cf28, cf29, cf30, cf31, cf32, cf33, cf34, cf35, cf36, cf37, cf38, cf39, cf40, cf41, cf42, cf43, cf44, cf45, cf46, cf47, cf48, cf49, cf50, cf51, cf52, cf53, cf54, cf55, cf56, cf57, cf58, cf59, cf60, cf61, cf62, cf63, cf64, cf65, cf66, cf67, cf68, cf69, cf70, cf71, cf72, cf73, cf74, cf75, cf76, cf77, cf78, cf79, cf80, bd26_0_1_2_7_8_9_10_11_12_13_14, bd26_0_1_2_7_8_9_10_11_12_13_14p, bd28_0, bd28_0p, bd28_0_1, bd28_0_1p, bd30_, bd30_p, bd30_0_1, bd30_0_1p, bd30_0, bd30_0p, bd46_0_1_2_3_4, bd46_0_1_2_3_4p, bd46_0_3_4, bd46_0_3_4p, bd86_0_1_2, bd86_0_1_2p, bd87_0_1_2_3, bd87_0_1_2_3p, bd95_0_1, bd95_0_1p, bs22_2_0_1, bs47_1_0, bs22_1_0, bs57_6_0_1_2_3_4_5, bs24_1_0, bs22_4_0_1_2_3, bs56_11_0_1_2_3_4_5_6_7_8_9_10, bs57_11_0_1_2_3_4_5_6_7_8_9_10, eq4, eq4p, eq28, eq28p, eq30, eq30p, eq31n, eq31np, eq31s, eq31sp, eq46, eq46p, eq50n, eq50np, eq50s, eq50sp, eq67n, eq67np, eq67s, eq67sp, ne4, ne4p, ne28, ne28p, ne30, ne30p, ne31n, ne31np, ne31s, ne31sp, ne46, ne46p]
  first | exact L | exact ⟨by simp, L⟩

theorem rhome_spec {G h : Hp} {v : Value} {C : Conf} {c : Cell} (hv : CV G h v C) (hL : C.ro.length ≤ 100000000000000) : HCalls Tryd.prog G 54 #[v, cellV c] h (fun u h' => u = .bool (homeB C c) ∧ h' = h) := by
  obtain ⟨ab, cb, ap, cp, ar, cr, az, cs, rfl, ca⟩ := hv
  refine HCalls.assume fun d => quietly (enter54 (by simp) ?_)
  unfold S54
  simp -implicitDefEqProofs only [regs0, regs1, opH_sv, box_new, cells_agg]
  intro x hx gx
  generalize e1 : Hp.set h x _ = h1
  obtain ⟨l1, d1, b1⟩ := boxed e1 hx d gx
  intro y hy gy
  generalize e2 : Hp.set h1 y _ = h2
  obtain ⟨l2, d2, b2⟩ := boxed e2 hy d1 gy
  have L := l1.trans l2
  have b1' := l2 _ _ b1
  have ca2 := ca.up L d2
  refine loop_I (fun m r h3 => ∃ i : Nat, m = C.ro.length - i ∧ i ≤ C.ro.length ∧ r 2 = .pointer (some ⟨x, 0, none⟩) ∧ r 3 = .pointer (some ⟨y, 0, none⟩) ∧ r 5 = .int .i64 i ∧ ((C.ro.take i).any fun p => decide (((cellsP p).count c : Int) > 0)) = false ∧ h2.le h3 ∧ Dis G h3) ?_
    (m := C.ro.length) ⟨0, rfl, Nat.zero_le _, by simp -implicitDefEqProofs (disch := first | with_reducible exact Nat.ne_of_beq_eq_false rfl | omega) only [upd_ne, upd_eq], by simp -implicitDefEqProofs (disch := first | with_reducible exact Nat.ne_of_beq_eq_false rfl | omega) only [upd_ne, upd_eq], by simp -implicitDefEqProofs only [upd_eq] <;> rfl, by simp, Hp.le.refl _, d2⟩
  rintro m r h3 ⟨i, rfl, hi, g2, g3, g5, hni, l3, d3⟩ X HX
  have cx : ∀ k, cellIn G h3 ⟨x, k, none⟩ = _ := fun k => cell_of (look_own (l3 _ _ b1'))
  unfold S54_l2
  simp -implicitDefEqProofs only [g2, g5, thenK_exit, blockK_exit, thenK_normal, if_true, opH_sv, fa26_5, add_mk, Nat.zero_add, ld23, cx, List.getElem?_cons_succ, List.getElem?_cons_zero, Option.some.injEq, exists_eq_left', ln23, bin_lss]
  refine cond_dec (fun hlt => ?_) (fun hge => ?_)
  · have hlt' : i < C.ro.length := by omega
    obtain ⟨z, hz⟩ : ∃ x, C.ro[i]? = some x := ⟨_, List.getElem?_eq_getElem hlt'⟩
    have ca3 := ca2.up l3 d3
    obtain ⟨b, o, rfl, y0, y1, y2⟩ := Sees.pose ca3.ro hz
    have htk : C.ro.take (i + 1) = C.ro.take i ++ [z] := by rw [List.take_add_one, hz]; rfl
    unfold S54_l2_k3
    refine ⟨h3, Hp.le.refl _, ?_⟩
    simp -implicitDefEqProofs (disch := first | with_reducible exact Nat.ne_of_beq_eq_false rfl | omega) only [upd_ne, g2, g5, g3, thenK_ret, blockK_ret, retK_ret, resL_tmp, upd_eq, resL_nil1, pureW_sv, cf53, ld28p, add_mk, Nat.add_zero, Nat.zero_add, cf22, fa26_5p, ld23p, cx, List.getElem?_cons_succ, List.getElem?_cons_zero, Option.some.injEq, exists_eq_left', ix23p (Int.natCast_nonneg i) hlt, Int.toNat_natCast, ld30p, y0, y1, y2]
    refine (rcells_spec (p := z)).mono ?_
    rintro _ _ ⟨b', rfl, hb, gb, rfl⟩
    generalize e4 : Hp.set h3 b' _ = h4
    obtain ⟨l4, d4, b4⟩ := boxed e4 hb d3 gb
    have cy : ∀ k, cellIn G h3 ⟨y, k, none⟩ = _ := fun k => cell_of (look_own (l3 _ _ b2))
    refine ⟨l4, ?_⟩
    try simp -implicitDefEqProofs only [cy, List.getElem?_cons_zero, Option.some.injEq, List.getElem?_cons_succ, exists_eq_left']
    refine (among_spec (L := cellsP z) (c := c) (Sees.row b4 rfl (Nat.le_refl _)) (by simp [cellsP])).mono ?_
    rintro _ _ ⟨rfl, rfl⟩
    try simp -implicitDefEqProofs only [bin_gtrp]
    cases hb : decide (((cellsP z).count c : Int) > 0) with
    | true =>
      try simp -implicitDefEqProofs only [HL.cond_true]
      refine ⟨?_, (L.trans l3).trans l4⟩
      unfold homeB
      congr 1
      symm
      rw [List.any_eq_true]
      exact ⟨z, List.mem_of_getElem? hz, hb⟩
    | false =>
      try simp -implicitDefEqProofs only [HL.cond_false]
      unfold S54_l2_k4
      simp -implicitDefEqProofs (disch := first | with_reducible exact Nat.ne_of_beq_eq_false rfl | omega) only [upd_ne, g5, thenK_normal, opH_sv, bin_add, wrap_in]
      refine HX (C.ro.length - (i + 1)) _ _ (by omega) ⟨i + 1, rfl, hlt', by simp -implicitDefEqProofs (disch := first | with_reducible exact Nat.ne_of_beq_eq_false rfl | omega) only [upd_ne, g2], by simp -implicitDefEqProofs (disch := first | with_reducible exact Nat.ne_of_beq_eq_false rfl | omega) only [upd_ne, g3], by simp -implicitDefEqProofs (disch := first | with_reducible exact Nat.ne_of_beq_eq_false rfl | omega) only [upd_eq] <;> rfl, ?_, l3.trans l4, d4⟩
      rw [htk, List.any_append, hni]
      simp only [List.any_cons, List.any_nil, hb]
      rfl
  · obtain rfl : i = C.ro.length := by omega
    rw [List.take_of_length_le (Nat.le_refl _)] at hni
    show S54_k1 _ _ _ _
    unfold S54_k1
    simp -implicitDefEqProofs only [retK_ret, resL_tmp, upd_eq, resL_nil1]
    refine ⟨?_, L.trans l3⟩
    unfold homeB
    rw [hni]

theorem rstacked_spec {G h : Hp} {v : Value} {C : Conf} {c : Cell} (hv : CV G h v C) (hL : C.bl.length ≤ 100000000000000) (hP : C.po.length ≤ 100000000000000) (hR : C.ro.length ≤ 100000000000000) : HCalls Tryd.prog G 36 #[v, cellV c] h (fun u h' => u = .bool (stackedB C c) ∧ h' = h) := by
  obtain ⟨ab, cb, ap, cp, ar, cr, az, cs, rfl, ca⟩ := hv
  refine HCalls.assume fun d => quietly (enter36 (by simp) ?_)
  unfold S36
  simp -implicitDefEqProofs only [regs0, regs1, retK_ret, resL_tmp, upd_eq, resL_nil1, cf32, opH_sv, box_new, cells_agg, ld28, add_mk, Nat.add_zero, Nat.zero_add, ld26, cell_set_self, List.getElem?_cons_zero, Option.some.injEq, List.getElem?_cons_succ, exists_eq_left']
  intro x hx gx
  generalize e1 : Hp.set h x _ = h1
  obtain ⟨l1, d1, b1⟩ := boxed e1 hx d gx
  intro y hy gy
  generalize e2 : Hp.set h1 y _ = h2
  obtain ⟨l2, d2, b2⟩ := boxed e2 hy d1 gy
  have L := l1.trans l2
  have cx : ∀ k, cellIn G h2 ⟨x, k, none⟩ = _ := fun k => cell_of (look_own (l2 _ _ b1))
  have cy : ∀ k, cellIn G h2 ⟨y, k, none⟩ = _ := fun k => cell_of (look_own b2)
  have ca2 := ca.up L d2
  unfold stackedB
  try simp -implicitDefEqProofs only [cx, List.getElem?_cons_zero, Option.some.injEq, List.getElem?_cons_succ, exists_eq_left']
  refine (ropen_spec ca2.cv hL).mono ?_
  rintro _ _ ⟨rfl, rfl⟩
  cases hc : openB C c with
  | false => simp -implicitDefEqProofs only [pick_f, gd_ft]; exact ⟨by simp, L⟩
  | true =>
  try simp -implicitDefEqProofs only [Bool.true_and, pick_t, gd_tt, opH_sv, cf34, ld28, add_mk, Nat.add_zero, Nat.zero_add, ld26, cx, List.getElem?_cons_zero, Option.some.injEq, List.getElem?_cons_succ, cy, exists_eq_left']
  refine (rport_spec ca2.cv hP).mono ?_
  rintro _ _ ⟨rfl, rfl⟩
  try simp -implicitDefEqProofs only [bin_lss]
  cases hc2 : decide (portI C c < 0) with
  | false => simp -implicitDefEqProofs only [pick_f, gd_ft]; exact ⟨by simp, L⟩
  | true =>
  try simp -implicitDefEqProofs only [Bool.true_and, pick_t, gd_tt, opH_sv, cf54, ld28, add_mk, Nat.add_zero, Nat.zero_add, ld26, cx, List.getElem?_cons_zero, Option.some.injEq, List.getElem?_cons_succ, cy, exists_eq_left']
  refine (rhome_spec ca2.cv hR).mono ?_
  rintro _ _ ⟨rfl, rfl⟩
  try simp -implicitDefEqProofs only [un_not]
  cases hc3 : homeB C c with
  | true => simp -implicitDefEqProofs only [Bool.not_true, pick_f, gd_ft]; exact ⟨by simp, L⟩
  | false =>
  try simp -implicitDefEqProofs only [Bool.not_false, Bool.true_and, pick_t, gd_tt, cf55, opH_sv, ld28, add_mk, Nat.add_zero, Nat.zero_add, ld26, cx, List.getElem?_cons_zero, Option.some.injEq, List.getElem?_cons_succ, cy, exists_eq_left']
  refine (rbeside_spec ca2.cv hL).mono ?_
  rintro _ _ ⟨rfl, rfl⟩
  try simp -implicitDefEqProofs only [true_and]
  first | exact L | exact ⟨by simp, L⟩

end Go.Proofs.YtnpdploihlgcgaaDoor
end

section
/- The reference: the numbers, the stacks, what may be. -/
set_option linter.unusedSimpArgs false
set_option linter.unusedVariables false
set_option maxRecDepth 100000
namespace Go.Proofs.YtnpdploihlgcgaaDoor
open Go Go.HL

def numbersB (C : Conf) : Bool := withinB C.w 1 16 && (withinB C.h 1 16 && (withinB C.ht 1 8 && (withinB C.un 1 1000 && (withinB C.ac 1 1000 && (withinB C.sp 1 1000 && (withinB C.tu 1 1000 && (withinB C.ho 1 1000 && (withinB C.re 1 1000 && (withinB C.qu 1 16 && (withinB C.bu 1 1048576))))))))))

theorem numbers_spec {G h : Hp} {v : Value} {C : Conf} (hv : CV G h v C) : HCalls Tryd.prog G 51 #[v] h (fun u h' => u = .bool (numbersB C) ∧ h' = h) := by
  obtain ⟨ab, cb, ap, cp, ar, cr, az, cs, rfl, ca⟩ := hv
  refine HCalls.assume fun d => quietly (enter51 (by simp) ?_)
  unfold S51
  simp -implicitDefEqProofs only [regs0, retK_ret, resL_tmp, upd_eq, resL_nil1, cf58, opH_sv, box_new, cells_agg, fa26_0, add_mk, Nat.add_zero, ld3, cell_set_self, List.getElem?_cons_zero, Option.some.injEq, exists_eq_left']
  intro x hx gx
  generalize e1 : Hp.set h x _ = h1
  obtain ⟨l1, d1, b1⟩ := boxed e1 hx d gx
  have cx : ∀ k, cellIn G h1 ⟨x, k, none⟩ = _ := fun k => cell_of (look_own b1)
  unfold numbersB
  try simp -implicitDefEqProofs only [opH_sv, opH_su, pureW_sv, opH_nil, pureW_nil, pick_t, pick_f, pick_tp, pick_fp, gd_tt, gd_ft, gd_tf, gd_ff, box_new, regs0, regs1, regs2, regs3, regs4, regs5, regs6, cells_agg, cells_int, cells_bool, cells_ptr, cells_slice, cells_string, cells_func, cells_nilFunc, cells_map, retK_ret, retK_normal, resL_tmp, resL_cell, resL_nil0, resL_nil1, resL_nil2, resL_nil3, resC_ptr, ex0, ex1, ex2, ex0p, ex1p, ex2p, HL.cond_true, HL.cond_false, thenK_normal, thenK_ret, thenK_exit, blockK_normal, blockK_ret, blockK_exit, scopeK_normal, scopeK_ret, scopeK_exit, wpH_pure, bin_add, bin_sub, bin_mul, bin_lss, bin_leq, bin_gtr, bin_geq, bin_quo, bin_rem, bin_quop, bin_remp, wrap_in, bin_addp, bin_subp, bin_mulp, bin_lssp, bin_leqp, bin_gtrp, bin_geqp, un_not, un_notp, un_neg, eq_int, ne_int, eq_intp, ne_intp, callV_fn, add_mk, upd_eq, upd_ne, cell_set_self, Nat.zero_add, Nat.add_zero, Option.some.injEq, exists_eq_left', List.getElem?_cons_succ, List.getElem?_cons_zero, true_and, and_true, bne_self_eq_false, beq_self_eq_true, Bool.not_true, Bool.not_false, Bool.and_true, Bool.and_self, Bool.and_false, Bool.true_and, List.length_cons, List.length_nil, ne_eq, not_false_eq_true, Nat.reduceAdd, Nat.reduceMul, if_true, if_false, oneCell_int, oneCell_bool, oneCell_ptr, oneCell_slice, oneCell_string, oneCell_func, oneCell_map, Int.toNat_natCast, List.set_cons_zero, List.set_cons_succ, Nat.lt_irrefl, Nat.zero_lt_succ, Nat.succ_lt_succ_iff, fa26_0, fa26_0p, fa26_1, fa26_1p, fa26_10, fa26_10p, fa26_11, fa26_11p, fa26_12, fa26_12p, fa26_13, fa26_13p, fa26_14, fa26_14p, fa26_2, fa26_2p, fa26_3, fa26_3p, fa26_4, fa26_4p, fa26_5, fa26_5p, fa26_6, fa26_6p, fa26_7, fa26_7p, fa26_8, fa26_8p, fa26_9, fa26_9p, fa28_0, fa28_0p, fa28_1, fa28_1p, fa30_0, fa30_0p, fa30_1, fa30_1p, fa46_0, fa46_0p, fa46_1, fa46_1p, fa46_2, fa46_2p, fa46_3, fa46_3p, fa46_4, fa46_4p, fa46_5, fa46_5p, fa46_6, fa46_6p, fa86_0, fa86_0p, fa86_1, fa86_1p, fa86_2, fa86_2p, fa95_0, fa95_0p, fa95_1, fa95_1p, ld3, ld3p, ld4, ld4p, ld22, ld22p, ld23, ld23p, ld24, ld24p, ld26, ld26p, ld28, ld28p, ld30, ld30p, ld31, ld31p, ld46, ld46p, ld47, ld47p, ld52, ld52p, ld55, ld55p, ld57, ld57p, ld95, ld95p, st3s, st4s, st22s, st23s, st24s, st26w, st28w, st30w, st46w, st47s, st55s, st95w, ix22, ix22p, ix23, ix23p, ix24, ix24p, ix47, ix47p, ix56, ix56p, ix57, ix57p, ix101, ix101p, ln22, ln22p, ln23, ln23p, ln24, ln24p, ln47, ln47p, ln56, ln56p, ln57, ln57p, al22, al26, al28, al30, al46, al47, al95, cf14, cf15, cf16, cf17, cf18, cf19, cf20, cf21, cf22, cf23, cf24, cf25, cf26, cf27, cf28, cf29, cf30, cf31, cf32, cf33, cf34, cf35, cf36, cf37, cf38, cf39, cf40, cf41, cf42, cf43, cf44, cf45, cf46, cf47, cf48, cf49, cf50, cf51, cf52, cf53, cf54, cf55, cf56, cf57, cf58, cf59, cf60, cf61, cf62, cf63, cf64, cf65, cf66, cf67, cf68, cf69, cf70, cf71, cf72, cf73, cf74, cf75, cf76, cf77, cf78, cf79, cf80, bd26_0_1_2_7_8_9_10_11_12_13_14, bd26_0_1_2_7_8_9_10_11_12_13_14p, bd28_0, bd28_0p, bd28_0_1, bd28_0_1p, bd30_, bd30_p, bd30_0_1, bd30_0_1p, bd30_0, bd30_0p, bd46_0_1_2_3_4, bd46_0_1_2_3_4p, bd46_0_3_4, bd46_0_3_4p, bd86_0_1_2, bd86_0_1_2p, bd87_0_1_2_3, bd87_0_1_2_3p, bd95_0_1, bd95_0_1p, bs22_2_0_1, bs47_1_0, bs22_1_0, bs57_6_0_1_2_3_4_5, bs24_1_0, bs22_4_0_1_2_3, bs56_11_0_1_2_3_4_5_6_7_8_9_10, bs57_11_0_1_2_3_4_5_6_7_8_9_10, eq4, eq4p, eq28, eq28p, eq30, eq30p, eq31n, eq31np, eq31s, eq31sp, eq46, eq46p, eq50n, eq50np, eq50s, eq50sp, eq67n, eq67np, eq67s, eq67sp, ne4, ne4p, ne28, ne28p, ne30, ne30p, ne31n, ne31np, ne31s, ne31sp, ne46, ne46p, cx]
  refine (rwithin_spec (n := C.w) (a := 1) (b := 16)).mono ?_
  rintro _ _ ⟨rfl, rfl⟩
  cases hc0 : withinB C.w 1 16 with
  | false => try simp -implicitDefEqProofs only [pick_f, gd_ft]; exact ⟨by simp, l1⟩
  | true =>
  try simp -implicitDefEqProofs only [Bool.true_and, pick_t, gd_tt, cf58, opH_sv, fa26_1, add_mk, Nat.zero_add, ld3, cx, List.getElem?_cons_succ, List.getElem?_cons_zero, Option.some.injEq, exists_eq_left']
  refine (rwithin_spec (n := C.h) (a := 1) (b := 16)).mono ?_
  rintro _ _ ⟨rfl, rfl⟩
  cases hc1 : withinB C.h 1 16 with
  | false => try simp -implicitDefEqProofs only [pick_f, gd_ft]; exact ⟨by simp, l1⟩
  | true =>
  try simp -implicitDefEqProofs only [Bool.true_and, pick_t, gd_tt, cf58, opH_sv, fa26_2, add_mk, Nat.zero_add, ld3, cx, List.getElem?_cons_succ, List.getElem?_cons_zero, Option.some.injEq, exists_eq_left']
  refine (rwithin_spec (n := C.ht) (a := 1) (b := 8)).mono ?_
  rintro _ _ ⟨rfl, rfl⟩
  cases hc2 : withinB C.ht 1 8 with
  | false => try simp -implicitDefEqProofs only [pick_f, gd_ft]; exact ⟨by simp, l1⟩
  | true =>
  try simp -implicitDefEqProofs only [Bool.true_and, pick_t, gd_tt, cf58, opH_sv, fa26_7, add_mk, Nat.zero_add, ld3, cx, List.getElem?_cons_succ, List.getElem?_cons_zero, Option.some.injEq, exists_eq_left']
  refine (rwithin_spec (n := C.un) (a := 1) (b := 1000)).mono ?_
  rintro _ _ ⟨rfl, rfl⟩
  cases hc3 : withinB C.un 1 1000 with
  | false => try simp -implicitDefEqProofs only [pick_f, gd_ft]; exact ⟨by simp, l1⟩
  | true =>
  try simp -implicitDefEqProofs only [Bool.true_and, pick_t, gd_tt, cf58, opH_sv, fa26_8, add_mk, Nat.zero_add, ld3, cx, List.getElem?_cons_succ, List.getElem?_cons_zero, Option.some.injEq, exists_eq_left']
  refine (rwithin_spec (n := C.ac) (a := 1) (b := 1000)).mono ?_
  rintro _ _ ⟨rfl, rfl⟩
  cases hc4 : withinB C.ac 1 1000 with
  | false => try simp -implicitDefEqProofs only [pick_f, gd_ft]; exact ⟨by simp, l1⟩
  | true =>
  try simp -implicitDefEqProofs only [Bool.true_and, pick_t, gd_tt, cf58, opH_sv, fa26_9, add_mk, Nat.zero_add, ld3, cx, List.getElem?_cons_succ, List.getElem?_cons_zero, Option.some.injEq, exists_eq_left']
  refine (rwithin_spec (n := C.sp) (a := 1) (b := 1000)).mono ?_
  rintro _ _ ⟨rfl, rfl⟩
  cases hc5 : withinB C.sp 1 1000 with
  | false => try simp -implicitDefEqProofs only [pick_f, gd_ft]; exact ⟨by simp, l1⟩
  | true =>
  try simp -implicitDefEqProofs only [Bool.true_and, pick_t, gd_tt, cf58, opH_sv, fa26_10, add_mk, Nat.zero_add, ld3, cx, List.getElem?_cons_succ, List.getElem?_cons_zero, Option.some.injEq, exists_eq_left']
  refine (rwithin_spec (n := C.tu) (a := 1) (b := 1000)).mono ?_
  rintro _ _ ⟨rfl, rfl⟩
  cases hc6 : withinB C.tu 1 1000 with
  | false => try simp -implicitDefEqProofs only [pick_f, gd_ft]; exact ⟨by simp, l1⟩
  | true =>
  try simp -implicitDefEqProofs only [Bool.true_and, pick_t, gd_tt, cf58, opH_sv, fa26_11, add_mk, Nat.zero_add, ld3, cx, List.getElem?_cons_succ, List.getElem?_cons_zero, Option.some.injEq, exists_eq_left']
  refine (rwithin_spec (n := C.ho) (a := 1) (b := 1000)).mono ?_
  rintro _ _ ⟨rfl, rfl⟩
  cases hc7 : withinB C.ho 1 1000 with
  | false => try simp -implicitDefEqProofs only [pick_f, gd_ft]; exact ⟨by simp, l1⟩
  | true =>
  try simp -implicitDefEqProofs only [Bool.true_and, pick_t, gd_tt, cf58, opH_sv, fa26_13, add_mk, Nat.zero_add, ld3, cx, List.getElem?_cons_succ, List.getElem?_cons_zero, Option.some.injEq, exists_eq_left']
  refine (rwithin_spec (n := C.re) (a := 1) (b := 1000)).mono ?_
  rintro _ _ ⟨rfl, rfl⟩
  cases hc8 : withinB C.re 1 1000 with
  | false => try simp -implicitDefEqProofs only [pick_f, gd_ft]; exact ⟨by simp, l1⟩
  | true =>
  try simp -implicitDefEqProofs only [Bool.true_and, pick_t, gd_tt, cf58, opH_sv, fa26_12, add_mk, Nat.zero_add, ld3, cx, List.getElem?_cons_succ, List.getElem?_cons_zero, Option.some.injEq, exists_eq_left']
  refine (rwithin_spec (n := C.qu) (a := 1) (b := 16)).mono ?_
  rintro _ _ ⟨rfl, rfl⟩
  cases hc9 : withinB C.qu 1 16 with
  | false => try simp -implicitDefEqProofs only [pick_f, gd_ft]; exact ⟨by simp, l1⟩
  | true =>
  try simp -implicitDefEqProofs only [Bool.true_and, pick_t, gd_tt, cf58, opH_sv, fa26_14, add_mk, Nat.zero_add, ld3, cx, List.getElem?_cons_succ, List.getElem?_cons_zero, Option.some.injEq, exists_eq_left']
  refine (rwithin_spec (n := C.bu) (a := 1) (b := 1048576)).mono ?_
  rintro _ _ ⟨rfl, rfl⟩
  try simp -implicitDefEqProofs only [true_and]
  first | exact l1 | exact ⟨by simp, l1⟩

theorem icget {G h : Hp} {b o i : Nat} {x : Int} (e : ∀ j, j < icC.n → cellIn G h ⟨b, o + i * icC.n + j, none⟩ = (icC.enc x)[j]?) : cellIn G h ⟨b, o + i * 1, none⟩ = some (.int .i64 x) := e 0 (by decide)
theorem Sees.int {G h : Hp} {sa : Option Addr} {n cap : Nat} {L : List Int} (s : Sees icC G h (.slice sa n cap) L) {i : Nat} {x : Int} (hx : L[i]? = some x) :
    ∃ b o, sa = some ⟨b, o, none⟩ ∧ cellIn G h ⟨b, o + i, none⟩ = some (.int .i64 x) := by
  obtain ⟨b, o, c, e1, e2⟩ := s.get hx
  simp only [Value.slice.injEq] at e1
  have := icget e2
  rw [Nat.mul_one] at this
  exact ⟨b, o, e1.1, this⟩

theorem CA.stk {G h : Hp} {C : Conf} {ab : Option Addr} {cb : Nat} {ap : Option Addr} {cp : Nat} {ar : Option Addr} {cr : Nat} {az : Option Addr} {cs : Nat} (ca : CA G h C ab cb ap cp ar cr az cs) {i : Nat} {s : Cell × List Int} (hs : C.st[i]? = some s) :
    ∃ b o a c, az = some ⟨b, o, none⟩ ∧ cellIn G h ⟨b, o + i * 3, none⟩ = some (.int .i64 s.1.1) ∧ cellIn G h ⟨b, o + i * 3 + 1, none⟩ = some (.int .i64 s.1.2) ∧ cellIn G h ⟨b, o + i * 3 + 2, none⟩ = some (.slice a s.2.length c) ∧ Sees icC G h (.slice a s.2.length c) s.2 := by
  obtain ⟨raw, h1, h2⟩ := ca.st
  obtain ⟨sa, cp2, e⟩ := h1.len
  have hl : C.st.length = raw.length := by simp only [Value.slice.injEq] at e; exact e.2.1
  have hi : i < raw.length := by rw [← hl]; exact (List.getElem?_eq_some_iff.1 hs).1
  have hr : raw[i]? = some raw[i] := List.getElem?_eq_getElem hi
  obtain ⟨k1, k2, k3⟩ := h2 i _ s hr hs
  obtain ⟨b, o, c, e1, e2⟩ := h1.get hr
  simp only [Value.slice.injEq] at e1
  have z0 := e2 0 (by decide)
  have z1 := e2 1 (by decide)
  have z2 := e2 2 (by decide)
  simp only [rawC, Nat.add_zero, List.getElem?_cons_zero, List.getElem?_cons_succ] at z0 z1 z2
  refine ⟨b, o, _, _, e1.1, ?_, ?_, ?_, k3⟩
  · rw [z0, ← k1]
  · rw [z1, ← k1]
  · rw [z2, k2]

/-- What the stacks must be. -/
structure BinsOk (C : Conf) : Prop where
  few : C.st.length ≤ 257
  each : ∀ s ∈ C.st, stackedB C s.1 = true ∧ (s.2.length : Int) ≤ C.ht
  apart : (C.st.map Prod.fst).Nodup
  most : (C.st.flatMap Prod.snd).length ≤ 512
  nums : ∀ b ∈ C.st.flatMap Prod.snd, withinB b 1 1000000000 = true
  once : (C.st.flatMap Prod.snd).Nodup

theorem bins_in1 {G h : Hp} {C : Conf} {ab : Option Addr} {cb : Nat} {ap : Option Addr} {cp : Nat} {ar : Option Addr} {cr : Nat} {az : Option Addr} {cs : Nat} (ca : CA G h C ab cb ap cp ar cr az cs) {x : Nat}
    (cx : ∀ k, cellIn G h ⟨x, k, none⟩ = [Value.int .i64 C.w, .int .i64 C.h, .int .i64 C.ht, .slice ab C.bl.length cb, .slice ap C.po.length cp, .slice ar C.ro.length cr, .slice az C.st.length cs, .int .i64 C.un, .int .i64 C.ac, .int .i64 C.sp, .int .i64 C.tu, .int .i64 C.ho, .int .i64 C.qu, .int .i64 C.re, .int .i64 C.bu, .bool C.back][k]?)
    {i : Nat} {s : Cell × List Int} (hs : C.st[i]? = some s) (hi : i < 1000) {KK : Exit → Rg → Hp → Prop} (r : Rg) (g1 : r 1 = .pointer (some ⟨x, 0, none⟩)) (g4 : r 4 = .int .i64 i) (g5 : r 5 = .int .i64 0)
    (H1 : s.1 ∉ (C.st.take i).map Prod.fst → ∀ r' : Rg, r' 1 = r 1 → r' 3 = r 3 → r' 4 = r 4 → KK (.exit 2) r' h)
    (H2 : s.1 ∈ (C.st.take i).map Prod.fst → ∀ r' : Rg, r' 2 = .bool false → KK .ret r' h) : loopP (S56_l11_l16 G) r h KK := by
  have hil : i < C.st.length := (List.getElem?_eq_some_iff.1 hs).1
  obtain ⟨b, o, a, c, e1, z0, z1, z2, z3⟩ := ca.stk hs
  refine loop_I (fun m r2 h3 => ∃ k : Nat, m = i - k ∧ k ≤ i ∧ r2 1 = r 1 ∧ r2 3 = r 3 ∧ r2 4 = r 4 ∧ r2 5 = .int .i64 k ∧ h3 = h ∧ s.1 ∉ (C.st.take k).map Prod.fst) ?_
    (m := i) ⟨0, rfl, Nat.zero_le _, rfl, rfl, rfl, by rw [g5]; rfl, rfl, by simp⟩
  rintro m r2 h3 ⟨k, rfl, hk, k1, k3, k4, k5, rfl, hn⟩ X HX
  rw [g1] at k1
  rw [g4] at k4
  unfold S56_l11_l16
  simp -implicitDefEqProofs (disch := first | with_reducible exact Nat.ne_of_beq_eq_false rfl | omega) only [k5, k4, thenK_exit, opH_sv, bin_lss]
  refine cond_dec (fun hlt => ?_) (fun hge => ?_)
  · have hlt' : k < i := by omega
    obtain ⟨t, ht⟩ : ∃ x, C.st[k]? = some x := ⟨_, List.getElem?_eq_getElem (by omega)⟩
    obtain ⟨b', o', a', c', e1', y0, y1, y2, y3⟩ := ca.stk ht
    subst e1
    cases e1'
    have htk : C.st.take (k + 1) = C.st.take k ++ [t] := by rw [List.take_add_one, ht]; rfl
    unfold S56_l11_l16_k17
    simp -implicitDefEqProofs (disch := first | with_reducible exact Nat.ne_of_beq_eq_false rfl | omega) only [upd_ne, k1, k5, k4, thenK_ret, pureW_sv, fa26_6p, add_mk, Nat.zero_add, ld24p, cx, List.getElem?_cons_succ, List.getElem?_cons_zero, Option.some.injEq, exists_eq_left', ix24p (Int.natCast_nonneg i) (show (i : Int) < C.st.length by omega), Int.toNat_natCast, fa95_0p, Nat.add_zero, ld28p, z0, z1, ix24p (Int.natCast_nonneg k) (show (k : Int) < C.st.length by omega), y0, y1, eq28p, Bool.and_true, cell_beq]
    cases hb : (t.1 == s.1) with
    | true =>
      try simp -implicitDefEqProofs (maxSteps := 2000000) (disch := first | with_reducible exact Nat.ne_of_beq_eq_false rfl | exact oneCell_int | exact oneCell_bool | omega | rfl | (simp; done) | fail) only [HL.cond_true]
      refine H2 ?_ _ (by simp -implicitDefEqProofs (maxSteps := 2000000) (disch := first | with_reducible exact Nat.ne_of_beq_eq_false rfl | exact oneCell_int | exact oneCell_bool | omega | rfl | (simp; done) | fail) only [upd_eq])
      have : t.1 = s.1 := by simpa using hb
      rw [← this]
      exact List.mem_map_of_mem (f := Prod.fst) (List.mem_of_getElem? (i := k) (by rw [List.getElem?_take, if_pos hlt', ht]))
    | false =>
      try simp -implicitDefEqProofs (disch := first | with_reducible exact Nat.ne_of_beq_eq_false rfl | omega) only [HL.cond_false]
      unfold S56_l11_l16_k18
      simp -implicitDefEqProofs (maxSteps := 2000000) (disch := first | with_reducible exact Nat.ne_of_beq_eq_false rfl | exact oneCell_int | exact oneCell_bool | omega | rfl | (simp; done) | fail) only [upd_ne, k5, thenK_normal, opH_sv, bin_add, wrap_in]
      refine HX (i - (k + 1)) _ _ (by omega) ⟨k + 1, rfl, hlt', by simp -implicitDefEqProofs (maxSteps := 2000000) (disch := first | with_reducible exact Nat.ne_of_beq_eq_false rfl | exact oneCell_int | exact oneCell_bool | omega | rfl | (simp; done) | fail) only [upd_ne, k1, g1], by simp -implicitDefEqProofs (maxSteps := 2000000) (disch := first | with_reducible exact Nat.ne_of_beq_eq_false rfl | exact oneCell_int | exact oneCell_bool | omega | rfl | (simp; done) | fail) only [upd_ne, k3], by simp -implicitDefEqProofs (maxSteps := 2000000) (disch := first | with_reducible exact Nat.ne_of_beq_eq_false rfl | exact oneCell_int | exact oneCell_bool | omega | rfl | (simp; done) | fail) only [upd_ne, k4, g4], by simp -implicitDefEqProofs (maxSteps := 2000000) (disch := first | with_reducible exact Nat.ne_of_beq_eq_false rfl | exact oneCell_int | exact oneCell_bool | omega | rfl | (simp; done) | fail) only [upd_eq] <;> rfl, rfl, ?_⟩
      rw [htk, List.map_append, List.mem_append]
      rintro (q | q)
      · exact hn q
      · simp at q
        rw [q] at hb
        simp at hb
  · obtain rfl : k = i := by omega
    exact H1 hn _ (by simp -implicitDefEqProofs (disch := first | with_reducible exact Nat.ne_of_beq_eq_false rfl | omega) only [upd_ne, k1, g1]) (by simp -implicitDefEqProofs (disch := first | with_reducible exact Nat.ne_of_beq_eq_false rfl | omega) only [upd_ne, k3]) (by simp -implicitDefEqProofs (disch := first | with_reducible exact Nat.ne_of_beq_eq_false rfl | omega) only [upd_ne, k4, g4])

theorem eoint : ElemOk Tryd.prog 3 icC.n 8 := ⟨by kernel_rfl, by kernel_rfl, by kernel_rfl⟩

/-- Row by row: each number is told to be a bin's, none twice. -/
theorem bins_in2 {G h : Hp} {v : Value} {L : List Int} (sv : Sees icC G h v L) {i : Nat} {y : Int} (hy : L[i]? = some y) (hi : i < 100000) {KK : Exit → Rg → Hp → Prop} (r : Rg) (g3 : r 3 = v) (g6 : r 6 = .int .i64 i) (g7 : r 7 = .int .i64 0)
    (H1 : y ∉ L.take i → ∀ r' : Rg, r' 3 = r 3 → r' 6 = r 6 → KK (.exit 6) r' h)
    (H2 : y ∈ L.take i → ∀ r' : Rg, r' 2 = .bool false → KK .ret r' h) : loopP (S56_l4_l8 G) r h KK := by
  have hil : i < L.length := (List.getElem?_eq_some_iff.1 hy).1
  obtain ⟨sa, cap, rfl⟩ := sv.len
  obtain ⟨b, o, e1, z0⟩ := Sees.int sv hy
  refine loop_I (fun m r2 h3 => ∃ k : Nat, m = i - k ∧ k ≤ i ∧ r2 3 = r 3 ∧ r2 6 = r 6 ∧ r2 7 = .int .i64 k ∧ h3 = h ∧ y ∉ L.take k) ?_
    (m := i) ⟨0, rfl, Nat.zero_le _, rfl, rfl, by rw [g7]; rfl, rfl, by simp⟩
  rintro m r2 h3 ⟨k, rfl, hk, k3, k6, k7, rfl, hn⟩ X HX
  rw [g3] at k3
  rw [g6] at k6
  subst e1
  unfold S56_l4_l8
  simp -implicitDefEqProofs (disch := first | with_reducible exact Nat.ne_of_beq_eq_false rfl | omega) only [k7, k6, thenK_exit, opH_sv, bin_lss]
  refine cond_dec (fun hlt => ?_) (fun hge => ?_)
  · have hlt' : k < i := by omega
    obtain ⟨t, ht⟩ : ∃ x, L[k]? = some x := ⟨_, List.getElem?_eq_getElem (by omega)⟩
    obtain ⟨b', o', e1', y0⟩ := Sees.int sv ht
    cases e1'
    have htk : L.take (k + 1) = L.take k ++ [t] := by rw [List.take_add_one, ht]; rfl
    unfold S56_l4_l8_k9
    simp -implicitDefEqProofs (disch := first | with_reducible exact Nat.ne_of_beq_eq_false rfl | omega) only [upd_ne, k3, k7, k6, thenK_ret, pureW_sv, ix57p (Int.natCast_nonneg i) (show (i : Int) < L.length by omega), Int.toNat_natCast, Nat.mul_one, add_mk, ld3p, z0, Option.some.injEq, exists_eq_left', ix57p (Int.natCast_nonneg k) (show (k : Int) < L.length by omega), y0, eq_intp]
    cases hb : (t == y) with
    | true =>
      try simp -implicitDefEqProofs (maxSteps := 2000000) (disch := first | with_reducible exact Nat.ne_of_beq_eq_false rfl | exact oneCell_int | exact oneCell_bool | omega | rfl | (simp; done) | fail) only [HL.cond_true]
      refine H2 ?_ _ (by simp -implicitDefEqProofs (maxSteps := 2000000) (disch := first | with_reducible exact Nat.ne_of_beq_eq_false rfl | exact oneCell_int | exact oneCell_bool | omega | rfl | (simp; done) | fail) only [upd_eq])
      have : t = y := by simpa using hb
      rw [← this]
      exact List.mem_of_getElem? (i := k) (by rw [List.getElem?_take, if_pos hlt', ht])
    | false =>
      try simp -implicitDefEqProofs (disch := first | with_reducible exact Nat.ne_of_beq_eq_false rfl | omega) only [HL.cond_false]
      unfold S56_l4_l8_k10
      simp -implicitDefEqProofs (maxSteps := 2000000) (disch := first | with_reducible exact Nat.ne_of_beq_eq_false rfl | exact oneCell_int | exact oneCell_bool | omega | rfl | (simp; done) | fail) only [upd_ne, k7, thenK_normal, opH_sv, bin_add, wrap_in]
      refine HX (i - (k + 1)) _ _ (by omega) ⟨k + 1, rfl, hlt', by simp -implicitDefEqProofs (maxSteps := 2000000) (disch := first | with_reducible exact Nat.ne_of_beq_eq_false rfl | exact oneCell_int | exact oneCell_bool | omega | rfl | (simp; done) | fail) only [upd_ne, k3, g3], by simp -implicitDefEqProofs (maxSteps := 2000000) (disch := first | with_reducible exact Nat.ne_of_beq_eq_false rfl | exact oneCell_int | exact oneCell_bool | omega | rfl | (simp; done) | fail) only [upd_ne, k6, g6], by simp -implicitDefEqProofs (maxSteps := 2000000) (disch := first | with_reducible exact Nat.ne_of_beq_eq_false rfl | exact oneCell_int | exact oneCell_bool | omega | rfl | (simp; done) | fail) only [upd_eq] <;> rfl, rfl, ?_⟩
      rw [htk, List.mem_append]
      rintro (q | q)
      · exact hn q
      · simp at q
        rw [q] at hb
        simp at hb
  · obtain rfl : k = i := by omega
    exact H1 hn _ (by simp -implicitDefEqProofs (disch := first | with_reducible exact Nat.ne_of_beq_eq_false rfl | omega) only [upd_ne, k3, g3]) (by simp -implicitDefEqProofs (disch := first | with_reducible exact Nat.ne_of_beq_eq_false rfl | omega) only [upd_ne, k6, g6])

theorem take_get {α : Type} {L : List α} {i : Nat} {x : α} (hx : L[i]? = some x) : L.take (i + 1) = L.take i ++ [x] := by rw [List.take_add_one, hx]; rfl
theorem nodup_take_succ {α : Type} {L : List α} {i : Nat} {x : α} (hx : L[i]? = some x) (h1 : (L.take i).Nodup) (h2 : x ∉ L.take i) : (L.take (i + 1)).Nodup := by
  rw [take_get hx]
  exact List.nodup_append.2 ⟨h1, by simp, fun a ha b hb => by simp at hb; subst hb; exact fun e => h2 (e ▸ ha)⟩
theorem not_nodup {α : Type} {L : List α} {i : Nat} {x : α} (hx : L[i]? = some x) (h2 : x ∈ L.take i) : ¬ L.Nodup := by
  intro h
  have : (L.take (i + 1)).Nodup := h.sublist (List.take_sublist _ _)
  rw [take_get hx] at this
  exact (List.nodup_append.1 this).2.2 x h2 x (by simp) rfl

/-- Behind the stacks: all their numbers. -/
theorem bins_out {G h : Hp} {v : Value} {L : List Int} (sv : Sees icC G h v L) (hL : L.length ≤ 10000) (R : Bool → Prop) {h0 : Hp} (h0l : h0.le h) (r : Rg) (g3 : r 3 = v)
    (H1 : L.length ≤ 512 → (∀ b ∈ L, withinB b 1 1000000000 = true) → L.Nodup → R true) (H2 : L.length > 512 ∨ (∃ b ∈ L, withinB b 1 1000000000 = false) ∨ ¬ L.Nodup → R false) :
    S56_k1 G (retK Tryd.prog G [.tmp 2] fun u h' => (∃ b, u = .bool b ∧ R b) ∧ h0.le h') r h := by
  obtain ⟨sa, cap, hve⟩ := sv.len
  unfold S56_k1
  simp -implicitDefEqProofs only [g3, hve, retK_ret, resL_tmp, upd_eq, resL_nil1, opH_sv, ln57, bin_gtr]
  by_cases hlen : L.length ≤ 512
  rotate_left
  · have e : decide ((L.length : Int) > 512) = true := by rw [decide_eq_true_iff]; omega
    simp -implicitDefEqProofs only [e, HL.cond_true]
    exact ⟨⟨_, rfl, H2 (.inl (by omega))⟩, h0l⟩
  have e : decide ((L.length : Int) > 512) = false := by rw [decide_eq_false_iff_not]; omega
  simp -implicitDefEqProofs only [e, HL.cond_false]
  unfold S56_k2
  refine loop_I (fun m r2 h3 => ∃ i : Nat, m = L.length - i ∧ i ≤ L.length ∧ r2 3 = v ∧ r2 6 = .int .i64 i ∧ h3 = h ∧ (∀ b ∈ L.take i, withinB b 1 1000000000 = true) ∧ (L.take i).Nodup) ?_
    (m := L.length) ⟨0, rfl, Nat.zero_le _, by simp -implicitDefEqProofs (disch := first | with_reducible exact Nat.ne_of_beq_eq_false rfl | omega) only [upd_ne, g3, hve], by simp -implicitDefEqProofs only [upd_eq] <;> rfl, rfl, by simp, by simp⟩
  rintro m r2 h3 ⟨i, rfl, hi, k3, k6, rfl, hw, hnd⟩ X HX
  unfold S56_l4
  simp -implicitDefEqProofs only [k3, hve, k6, thenK_exit, blockK_exit, thenK_normal, if_true, opH_sv, ln57, bin_lss]
  refine cond_dec (fun hlt => ?_) (fun hge => ?_)
  rotate_left
  · obtain rfl : i = L.length := by omega
    rw [List.take_of_length_le (Nat.le_refl _)] at hw hnd
    try simp -implicitDefEqProofs only [opH_sv, opH_su, pureW_sv, opH_nil, pureW_nil, pick_t, pick_f, pick_tp, pick_fp, gd_tt, gd_ft, gd_tf, gd_ff, box_new, regs0, regs1, regs2, regs3, regs4, regs5, regs6, cells_agg, cells_int, cells_bool, cells_ptr, cells_slice, cells_string, cells_func, cells_nilFunc, cells_map, retK_ret, retK_normal, resL_tmp, resL_cell, resL_nil0, resL_nil1, resL_nil2, resL_nil3, resC_ptr, ex0, ex1, ex2, ex0p, ex1p, ex2p, HL.cond_true, HL.cond_false, thenK_normal, thenK_ret, thenK_exit, blockK_normal, blockK_ret, blockK_exit, scopeK_normal, scopeK_ret, scopeK_exit, wpH_pure, bin_add, bin_sub, bin_mul, bin_lss, bin_leq, bin_gtr, bin_geq, bin_quo, bin_rem, bin_quop, bin_remp, wrap_in, bin_addp, bin_subp, bin_mulp, bin_lssp, bin_leqp, bin_gtrp, bin_geqp, un_not, un_notp, un_neg, eq_int, ne_int, eq_intp, ne_intp, callV_fn, add_mk, upd_eq, upd_ne, cell_set_self, Nat.zero_add, Nat.add_zero, Option.some.injEq, exists_eq_left', List.getElem?_cons_succ, List.getElem?_cons_zero, true_and, and_true, bne_self_eq_false, beq_self_eq_true, Bool.not_true, Bool.not_false, Bool.and_true, Bool.and_self, Bool.and_false, Bool.true_and, List.length_cons, List.length_nil, ne_eq, not_false_eq_true, Nat.reduceAdd, Nat.reduceMul, if_true, if_false, oneCell_int, oneCell_bool, oneCell_ptr, oneCell_slice, oneCell_string, oneCell_func, oneCell_map, Int.toNat_natCast, List.set_cons_zero, List.set_cons_succ, Nat.lt_irrefl, Nat.zero_lt_succ, Nat.succ_lt_succ_iff, fa26_0, fa26_0p, fa26_1, fa26_1p, fa26_10, fa26_10p, fa26_11, fa26_11p, fa26_12, fa26_12p, fa26_13, fa26_13p, fa26_14, fa26_14p, fa26_2, fa26_2p, fa26_3, fa26_3p, fa26_4, fa26_4p, fa26_5, fa26_5p, fa26_6, fa26_6p, fa26_7, fa26_7p, fa26_8, fa26_8p, fa26_9, fa26_9p, fa28_0, fa28_0p, fa28_1, fa28_1p, fa30_0, fa30_0p, fa30_1, fa30_1p, fa46_0, fa46_0p, fa46_1, fa46_1p, fa46_2, fa46_2p, fa46_3, fa46_3p, fa46_4, fa46_4p, fa46_5, fa46_5p, fa46_6, fa46_6p, fa86_0, fa86_0p, fa86_1, fa86_1p, fa86_2, fa86_2p, fa95_0, fa95_0p, fa95_1, fa95_1p, ld3, ld3p, ld4, ld4p, ld22, ld22p, ld23, ld23p, ld24, ld24p, ld26, ld26p, ld28, ld28p, ld30, ld30p, ld31, ld31p, ld46, ld46p, ld47, ld47p, ld52, ld52p, ld55, ld55p, ld57, ld57p, ld95, ld95p, st3s, st4s, st22s, st23s, st24s, st26w, st28w, st30w, st46w, st47s, st55s, st95w, ix22, ix22p, ix23, ix23p, ix24, ix24p, ix47, ix47p, ix56, ix56p, ix57, ix57p, ix101, ix101p, ln22, ln22p, ln23, ln23p, ln24, ln24p, ln47, ln47p, ln56, ln56p, ln57, ln57p, al22, al26, al28, al30, al46, al47, al95, cf14, cf15, cf16, cf17, cf18, cf19, cf20, cf21, cf22, cf23, cf24, cf25, cf26, cf27, cf28, cf29, cf30, cf31, cf32, cf33, cf34, cf35, cf36, cf37, cf38, cf39, cf40, cf41, cf42, cf43, cf44, cf45, cf46, cf47, cf48, cf49, cf50, cf51, cf52, cf53, cf54, cf55, cf56, cf57, cf58, cf59, cf60, cf61, cf62, cf63, cf64, cf65, cf66, cf67, cf68, cf69, cf70, cf71, cf72, cf73, cf74, cf75, cf76, cf77, cf78, cf79, cf80, bd26_0_1_2_7_8_9_10_11_12_13_14, bd26_0_1_2_7_8_9_10_11_12_13_14p, bd28_0, bd28_0p, bd28_0_1, bd28_0_1p, bd30_, bd30_p, bd30_0_1, bd30_0_1p, bd30_0, bd30_0p, bd46_0_1_2_3_4, bd46_0_1_2_3_4p, bd46_0_3_4, bd46_0_3_4p, bd86_0_1_2, bd86_0_1_2p, bd87_0_1_2_3, bd87_0_1_2_3p, bd95_0_1, bd95_0_1p, bs22_2_0_1, bs47_1_0, bs22_1_0, bs57_6_0_1_2_3_4_5, bs24_1_0, bs22_4_0_1_2_3, bs56_11_0_1_2_3_4_5_6_7_8_9_10, bs57_11_0_1_2_3_4_5_6_7_8_9_10, eq4, eq4p, eq28, eq28p, eq30, eq30p, eq31n, eq31np, eq31s, eq31sp, eq46, eq46p, eq50n, eq50np, eq50s, eq50sp, eq67n, eq67np, eq67s, eq67sp, ne4, ne4p, ne28, ne28p, ne30, ne30p, ne31n, ne31np, ne31s, ne31sp, ne46, ne46p]
    unfold S56_k3
    simp -implicitDefEqProofs only [retK_ret, resL_tmp, upd_eq, resL_nil1]
    exact ⟨⟨_, rfl, H1 hlen hw hnd⟩, h0l⟩
  have hlt' : i < L.length := by omega
  obtain ⟨y, hy⟩ : ∃ x, L[i]? = some x := ⟨_, List.getElem?_eq_getElem hlt'⟩
  rw [hve] at sv
  obtain ⟨b, o, rfl, z0⟩ := Sees.int sv hy
  unfold S56_l4_k5
  simp -implicitDefEqProofs (disch := first | with_reducible exact Nat.ne_of_beq_eq_false rfl | omega) only [upd_ne, k3, hve, k6, thenK_ret, blockK_ret, retK_ret, resL_tmp, upd_eq, resL_nil1, opH_sv, cf58, ix57 (Int.natCast_nonneg i) (show (i : Int) < L.length by omega), Int.toNat_natCast, Nat.mul_one, add_mk, ld3, z0, Option.some.injEq, exists_eq_left']
  refine (rwithin_spec (n := y) (a := 1) (b := 1000000000)).mono ?_
  rintro _ _ ⟨rfl, rfl⟩
  cases hb : withinB y 1 1000000000 with
  | false =>
    try simp -implicitDefEqProofs only [un_not, Bool.not_false, HL.cond_true]
    exact ⟨⟨_, rfl, H2 (.inr (.inl ⟨y, List.mem_of_getElem? hy, hb⟩))⟩, h0l⟩
  | true =>
    try simp -implicitDefEqProofs (disch := first | with_reducible exact Nat.ne_of_beq_eq_false rfl | omega) only [un_not, Bool.not_true, HL.cond_false]
    unfold S56_l4_k7
    refine bins_in2 sv hy (by omega) _ (by simp -implicitDefEqProofs (disch := first | with_reducible exact Nat.ne_of_beq_eq_false rfl | omega) only [upd_ne, k3, hve]) (by simp -implicitDefEqProofs (disch := first | with_reducible exact Nat.ne_of_beq_eq_false rfl | omega) only [upd_ne, k6]) (by simp -implicitDefEqProofs (disch := first | with_reducible exact Nat.ne_of_beq_eq_false rfl | omega) only [upd_eq]) (fun hn r' j3 j6 => ?_) (fun hm r' j2 => ?_)
    · simp only [blockK_exit, if_true, blockK_normal, thenK_normal]
      unfold S56_l4_k6
      have j6' : r' 6 = .int .i64 i := j6.trans (by simp -implicitDefEqProofs (disch := first | with_reducible exact Nat.ne_of_beq_eq_false rfl | omega) only [upd_ne, k6])
      simp -implicitDefEqProofs (disch := first | with_reducible exact Nat.ne_of_beq_eq_false rfl | omega) only [j6', thenK_normal, opH_sv, bin_add, wrap_in]
      refine HX (L.length - (i + 1)) _ _ (by omega) ⟨i + 1, rfl, hlt', ?_, by simp -implicitDefEqProofs (disch := first | with_reducible exact Nat.ne_of_beq_eq_false rfl | omega) only [upd_eq] <;> rfl, rfl, ?_, nodup_take_succ hy hnd hn⟩
      · simp -implicitDefEqProofs (disch := first | with_reducible exact Nat.ne_of_beq_eq_false rfl | omega) only [upd_ne, j3, k3]
      · rw [take_get hy]
        intro c hc
        rcases List.mem_append.1 hc with hc | hc
        · exact hw c hc
        · simp at hc; rw [hc]; exact hb
    · simp -implicitDefEqProofs only [blockK_ret, thenK_ret, retK_ret, resL_tmp, j2, resL_nil1]
      exact ⟨⟨_, rfl, H2 (.inr (.inr (not_nodup hy hm)))⟩, h0l⟩

end Go.Proofs.YtnpdploihlgcgaaDoor
end

section
/- The reference: the stacks, and what may be. -/
set_option linter.unusedSimpArgs false
set_option linter.unusedVariables false
set_option maxRecDepth 100000
namespace Go.Proofs.YtnpdploihlgcgaaDoor
open Go Go.HL

theorem flat_len {C : Conf} {L : List (Cell × List Int)} (h : ∀ s ∈ L, (s.2.length : Int) ≤ C.ht) (ht : C.ht ≤ 8) : (L.flatMap Prod.snd).length ≤ 8 * L.length := by
  induction L with
  | nil => simp
  | cons s L ih =>
    have h1 := h s (.head _)
    have h2 := ih fun t ht => h t (.tail _ ht)
    rw [List.flatMap_cons, List.length_append, List.length_cons]
    omega

set_option maxHeartbeats 1000000 in
theorem bins_spec {G h : Hp} {v : Value} {C : Conf} (hv : CV G h v C) (ht : C.ht ≤ 8) (hL : C.bl.length ≤ 100000000000000) (hP : C.po.length ≤ 100000000000000) (hR : C.ro.length ≤ 100000000000000) :
    HCalls Tryd.prog G 56 #[v] h (fun u h' => (∃ b, u = .bool b ∧ (b = true ↔ BinsOk C)) ∧ h' = h) := by
  obtain ⟨ab, cb, ap, cp, ar, cr, az, cs, rfl, ca⟩ := hv
  refine HCalls.assume fun d => quietly (enter56 (by simp) ?_)
  unfold S56
  simp -implicitDefEqProofs (maxSteps := 2000000) (disch := first | with_reducible exact Nat.ne_of_beq_eq_false rfl | exact oneCell_int | exact oneCell_bool | omega | rfl | (simp; done) | fail) only [regs0, opH_sv, box_new, cells_agg]
  intro x hx gx
  generalize e1 : Hp.set h x _ = h1
  obtain ⟨l1, d1, b1⟩ := boxed e1 hx d gx
  refine loop_I (fun m r h3 => ∃ (i : Nat) (lp : Hp) (v3 : Value), m = C.st.length - i ∧ i ≤ C.st.length ∧ i ≤ 257 ∧ r 1 = .pointer (some ⟨x, 0, none⟩) ∧ r 3 = v3 ∧ r 4 = .int .i64 i ∧
     (∀ s ∈ C.st.take i, stackedB C s.1 = true ∧ (s.2.length : Int) ≤ C.ht) ∧ ((C.st.take i).map Prod.fst).Nodup ∧ Slc icC 3 lp v3 ((C.st.take i).flatMap Prod.snd) ∧ Sep [lp, h1] h3 ∧ Dis G h3) ?_
    (m := C.st.length) ⟨0, noHp, _, rfl, Nat.zero_le _, Nat.zero_le _, by simp -implicitDefEqProofs (maxSteps := 2000000) (disch := first | with_reducible exact Nat.ne_of_beq_eq_false rfl | exact oneCell_int | exact oneCell_bool | omega | rfl | (simp; done) | fail) only [upd_ne, upd_eq], by simp -implicitDefEqProofs (maxSteps := 2000000) (disch := first | with_reducible exact Nat.ne_of_beq_eq_false rfl | exact oneCell_int | exact oneCell_bool | omega | rfl | (simp; done) | fail) only [upd_ne, upd_eq] <;> rfl, by simp -implicitDefEqProofs (maxSteps := 2000000) (disch := first | with_reducible exact Nat.ne_of_beq_eq_false rfl | exact oneCell_int | exact oneCell_bool | omega | rfl | (simp; done) | fail) only [upd_eq] <;> rfl, by simp, by simp, Slc.nil, Sep.one.none, d1⟩
  rintro m r h3 ⟨i, lp, v3, rfl, hi, hi2, g1, g3, g4, hok, hnd, o3, s3, d3⟩ X HX
  have l3 : h1.le h3 := s3.in 1 rfl
  have cx : ∀ k, cellIn G h3 ⟨x, k, none⟩ = _ := fun k => cell_of (look_own (l3 _ _ b1))
  have ca3 := ca.up (l1.trans l3) d3
  have hfl := flat_len (C := C) (fun s hs => (hok s hs).2) ht
  rw [List.length_take, Nat.min_eq_left hi] at hfl
  unfold S56_l11
  simp -implicitDefEqProofs (maxSteps := 2000000) (disch := first | with_reducible exact Nat.ne_of_beq_eq_false rfl | exact oneCell_int | exact oneCell_bool | omega | rfl | (simp; done) | fail) only [g1, g4, thenK_exit, blockK_exit, thenK_normal, if_true, opH_sv, fa26_6, add_mk, Nat.zero_add, ld24, cx, List.getElem?_cons_succ, List.getElem?_cons_zero, Option.some.injEq, exists_eq_left', ln24, bin_lss]
  refine cond_dec (fun hlt => ?_) (fun hge => ?_)
  rotate_left
  · obtain rfl : i = C.st.length := by omega
    rw [List.take_of_length_le (Nat.le_refl _)] at hok hnd o3 hfl
    try simp -implicitDefEqProofs (maxSteps := 2000000) (disch := first | with_reducible exact Nat.ne_of_beq_eq_false rfl | exact oneCell_int | exact oneCell_bool | omega | rfl | (simp; done) | fail) only [opH_sv, opH_su, pureW_sv, opH_nil, pureW_nil, pick_t, pick_f, pick_tp, pick_fp, gd_tt, gd_ft, gd_tf, gd_ff, box_new, regs0, regs1, regs2, regs3, regs4, regs5, regs6, cells_agg, cells_int, cells_bool, cells_ptr, cells_slice, cells_string, cells_func, cells_nilFunc, cells_map, retK_ret, retK_normal, resL_tmp, resL_cell, resL_nil0, resL_nil1, resL_nil2, resL_nil3, resC_ptr, ex0, ex1, ex2, ex0p, ex1p, ex2p, HL.cond_true, HL.cond_false, thenK_normal, thenK_ret, thenK_exit, blockK_normal, blockK_ret, blockK_exit, scopeK_normal, scopeK_ret, scopeK_exit, wpH_pure, bin_add, bin_sub, bin_mul, bin_lss, bin_leq, bin_gtr, bin_geq, bin_quo, bin_rem, bin_quop, bin_remp, wrap_in, bin_addp, bin_subp, bin_mulp, bin_lssp, bin_leqp, bin_gtrp, bin_geqp, un_not, un_notp, un_neg, eq_int, ne_int, eq_intp, ne_intp, callV_fn, add_mk, upd_eq, upd_ne, cell_set_self, Nat.zero_add, Nat.add_zero, Option.some.injEq, exists_eq_left', List.getElem?_cons_succ, List.getElem?_cons_zero, true_and, and_true, bne_self_eq_false, beq_self_eq_true, Bool.not_true, Bool.not_false, Bool.and_true, Bool.and_self, Bool.and_false, Bool.true_and, List.length_cons, List.length_nil, ne_eq, not_false_eq_true, Nat.reduceAdd, Nat.reduceMul, if_true, if_false, oneCell_int, oneCell_bool, oneCell_ptr, oneCell_slice, oneCell_string, oneCell_func, oneCell_map, Int.toNat_natCast, List.set_cons_zero, List.set_cons_succ, Nat.lt_irrefl, Nat.zero_lt_succ, Nat.succ_lt_succ_iff, fa26_0, fa26_0p, fa26_1, fa26_1p, fa26_10, fa26_10p, fa26_11, fa26_11p, fa26_12, fa26_12p, fa26_13, fa26_13p, fa26_14, fa26_14p, fa26_2, fa26_2p, fa26_3, fa26_3p, fa26_4, fa26_4p, fa26_5, fa26_5p, fa26_6, fa26_6p, fa26_7, fa26_7p, fa26_8, fa26_8p, fa26_9, fa26_9p, fa28_0, fa28_0p, fa28_1, fa28_1p, fa30_0, fa30_0p, fa30_1, fa30_1p, fa46_0, fa46_0p, fa46_1, fa46_1p, fa46_2, fa46_2p, fa46_3, fa46_3p, fa46_4, fa46_4p, fa46_5, fa46_5p, fa46_6, fa46_6p, fa86_0, fa86_0p, fa86_1, fa86_1p, fa86_2, fa86_2p, fa95_0, fa95_0p, fa95_1, fa95_1p, ld3, ld3p, ld4, ld4p, ld22, ld22p, ld23, ld23p, ld24, ld24p, ld26, ld26p, ld28, ld28p, ld30, ld30p, ld31, ld31p, ld46, ld46p, ld47, ld47p, ld52, ld52p, ld55, ld55p, ld57, ld57p, ld95, ld95p, st3s, st4s, st22s, st23s, st24s, st26w, st28w, st30w, st46w, st47s, st55s, st95w, ix22, ix22p, ix23, ix23p, ix24, ix24p, ix47, ix47p, ix56, ix56p, ix57, ix57p, ix101, ix101p, ln22, ln22p, ln23, ln23p, ln24, ln24p, ln47, ln47p, ln56, ln56p, ln57, ln57p, al22, al26, al28, al30, al46, al47, al95, cf14, cf15, cf16, cf17, cf18, cf19, cf20, cf21, cf22, cf23, cf24, cf25, cf26, cf27, cf28, cf29, cf30, cf31, cf32, cf33, cf34, cf35, cf36, cf37, cf38, cf39, cf40, cf41, cf42, cf43, cf44, cf45, cf46, cf47, cf48, cf49, cf50, cf51, cf52, cf53, cf54, cf55, cf56, cf57, cf58, cf59, cf60, cf61, cf62, cf63, cf64, cf65, cf66, cf67, cf68, cf69, cf70, cf71, cf72, cf73, cf74, cf75, cf76, cf77, cf78, cf79, cf80, bd26_0_1_2_7_8_9_10_11_12_13_14, bd26_0_1_2_7_8_9_10_11_12_13_14p, bd28_0, bd28_0p, bd28_0_1, bd28_0_1p, bd30_, bd30_p, bd30_0_1, bd30_0_1p, bd30_0, bd30_0p, bd46_0_1_2_3_4, bd46_0_1_2_3_4p, bd46_0_3_4, bd46_0_3_4p, bd86_0_1_2, bd86_0_1_2p, bd87_0_1_2_3, bd87_0_1_2_3p, bd95_0_1, bd95_0_1p, bs22_2_0_1, bs47_1_0, bs22_1_0, bs57_6_0_1_2_3_4_5, bs24_1_0, bs22_4_0_1_2_3, bs56_11_0_1_2_3_4_5_6_7_8_9_10, bs57_11_0_1_2_3_4_5_6_7_8_9_10, eq4, eq4p, eq28, eq28p, eq30, eq30p, eq31n, eq31np, eq31s, eq31sp, eq46, eq46p, eq50n, eq50np, eq50s, eq50sp, eq67n, eq67np, eq67s, eq67sp, ne4, ne4p, ne28, ne28p, ne30, ne30p, ne31n, ne31np, ne31s, ne31sp, ne46, ne46p]
    refine bins_out (v := v3) (o3.sees (by decide) s3.hd) (by omega) (fun b => b = true ↔ BinsOk C) (l1.trans l3) _ (by simp -implicitDefEqProofs (maxSteps := 2000000) (disch := first | with_reducible exact Nat.ne_of_beq_eq_false rfl | exact oneCell_int | exact oneCell_bool | omega | rfl | (simp; done) | fail) only [upd_ne, g3]) (fun h1 h2 h3 => ?_) (fun hbad => ?_)
    · exact ⟨fun _ => ⟨hi2, hok, hnd, h1, h2, h3⟩, fun _ => rfl⟩
    · refine ⟨fun e => absurd e (by decide), fun B => ?_⟩
      exfalso
      rcases hbad with hb | ⟨b, hb1, hb2⟩ | hb
      · have := B.most; omega
      · have := B.nums b hb1; rw [hb2] at this; cases this
      · exact hb B.once
  have hlt' : i < C.st.length := by omega
  obtain ⟨s, hs⟩ : ∃ x, C.st[i]? = some x := ⟨_, List.getElem?_eq_getElem hlt'⟩
  have hsm : s ∈ C.st := List.mem_of_getElem? hs
  obtain ⟨b, o, a, c, rfl, z0, z1, z2, z3⟩ := ca3.stk hs
  have no : ∀ {P : Prop}, ¬ P → (false = true ↔ P) := fun h => ⟨fun e => absurd e (by decide), fun p => (h p).elim⟩
  unfold S56_l11_k12
  by_cases h257 : i < 257
  rotate_left
  · have e : decide ((i : Int) > 256) = true := by rw [decide_eq_true_iff]; omega
    simp -implicitDefEqProofs (maxSteps := 2000000) (disch := first | with_reducible exact Nat.ne_of_beq_eq_false rfl | exact oneCell_int | exact oneCell_bool | omega | rfl | (simp; done) | fail) only [upd_ne, g4, thenK_ret, blockK_ret, retK_ret, resL_tmp, upd_eq, resL_nil1, pureW_sv, bin_gtrp, e, pick_tp, HL.cond_true, gd_tf]
    exact ⟨⟨_, rfl, no fun B => by have := B.few; omega⟩, l1.trans l3⟩
  have e : decide ((i : Int) > 256) = false := by rw [decide_eq_false_iff_not]; omega
  simp -implicitDefEqProofs (maxSteps := 2000000) (disch := first | with_reducible exact Nat.ne_of_beq_eq_false rfl | exact oneCell_int | exact oneCell_bool | omega | rfl | (simp; done) | fail) only [upd_ne, g4, g1, thenK_ret, blockK_ret, retK_ret, resL_tmp, upd_eq, resL_nil1, pureW_sv, bin_gtrp, e, pick_fp, gd_ff, cf36, fa26_6p, add_mk, Nat.zero_add, ld24p, cx, List.getElem?_cons_succ, List.getElem?_cons_zero, Option.some.injEq, exists_eq_left', ix24p (Int.natCast_nonneg i) hlt, Int.toNat_natCast, fa95_0p, Nat.add_zero, ld28p, z0, z1, ld26p]
  refine (rstacked_spec (c := s.1) ca3.cv hL hP hR).mono ?_
  rintro _ _ ⟨rfl, rfl⟩
  cases hst : stackedB C s.1 with
  | false =>
    try simp -implicitDefEqProofs (maxSteps := 2000000) (disch := first | with_reducible exact Nat.ne_of_beq_eq_false rfl | exact oneCell_int | exact oneCell_bool | omega | rfl | (simp; done) | fail) only [un_notp, Bool.not_false, pick_tp, HL.cond_true, gd_tf]
    exact ⟨⟨_, rfl, no fun B => by have := (B.each s hsm).1; rw [hst] at this; cases this⟩, l1.trans l3⟩
  | true =>
  try simp -implicitDefEqProofs (maxSteps := 2000000) (disch := first | with_reducible exact Nat.ne_of_beq_eq_false rfl | exact oneCell_int | exact oneCell_bool | omega | rfl | (simp; done) | fail) only [un_notp, Bool.not_true, pick_fp, gd_ff, pureW_sv, fa26_2p, add_mk, Nat.zero_add, ld3p, cx, List.getElem?_cons_succ, List.getElem?_cons_zero, Option.some.injEq, exists_eq_left', fa26_6p, ld24p, ix24p (Int.natCast_nonneg i) hlt, Int.toNat_natCast, fa95_1p, ld57p, z2, ln57p, bin_gtrp]
  by_cases hlen : (s.2.length : Int) ≤ C.ht
  rotate_left
  · have e : decide ((s.2.length : Int) > C.ht) = true := by rw [decide_eq_true_iff]; omega
    simp -implicitDefEqProofs (maxSteps := 2000000) (disch := first | with_reducible exact Nat.ne_of_beq_eq_false rfl | exact oneCell_int | exact oneCell_bool | omega | rfl | (simp; done) | fail) only [e, HL.cond_true]
    exact ⟨⟨_, rfl, no fun B => hlen (B.each s hsm).2⟩, l1.trans l3⟩
  have e : decide ((s.2.length : Int) > C.ht) = false := by rw [decide_eq_false_iff_not]; omega
  simp -implicitDefEqProofs (maxSteps := 2000000) (disch := first | with_reducible exact Nat.ne_of_beq_eq_false rfl | exact oneCell_int | exact oneCell_bool | omega | rfl | (simp; done) | fail) only [e, HL.cond_false]
  unfold S56_l11_k14
  refine bins_in1 ca3 cx hs (by omega) _ (by simp -implicitDefEqProofs (maxSteps := 2000000) (disch := first | with_reducible exact Nat.ne_of_beq_eq_false rfl | exact oneCell_int | exact oneCell_bool | omega | rfl | (simp; done) | fail) only [upd_ne, g1]) (by simp -implicitDefEqProofs (maxSteps := 2000000) (disch := first | with_reducible exact Nat.ne_of_beq_eq_false rfl | exact oneCell_int | exact oneCell_bool | omega | rfl | (simp; done) | fail) only [upd_ne, g4]) (by simp -implicitDefEqProofs (maxSteps := 2000000) (disch := first | with_reducible exact Nat.ne_of_beq_eq_false rfl | exact oneCell_int | exact oneCell_bool | omega | rfl | (simp; done) | fail) only [upd_eq]) (fun hn r' j1 j3 j4 => ?_) (fun hm r' j2 => ?_)
  · simp only [blockK_exit, if_true, blockK_normal, thenK_normal]
    have j1' : r' 1 = .pointer (some ⟨x, 0, none⟩) := j1.trans (by simp -implicitDefEqProofs (maxSteps := 2000000) (disch := first | with_reducible exact Nat.ne_of_beq_eq_false rfl | exact oneCell_int | exact oneCell_bool | omega | rfl | (simp; done) | fail) only [upd_ne, g1])
    have j3' : r' 3 = v3 := j3.trans (by simp -implicitDefEqProofs (maxSteps := 2000000) (disch := first | with_reducible exact Nat.ne_of_beq_eq_false rfl | exact oneCell_int | exact oneCell_bool | omega | rfl | (simp; done) | fail) only [upd_ne, g3])
    have j4' : r' 4 = .int .i64 i := j4.trans (by simp -implicitDefEqProofs (maxSteps := 2000000) (disch := first | with_reducible exact Nat.ne_of_beq_eq_false rfl | exact oneCell_int | exact oneCell_bool | omega | rfl | (simp; done) | fail) only [upd_ne, g4])
    unfold S56_l11_k15
    simp -implicitDefEqProofs (maxSteps := 2000000) (disch := first | with_reducible exact Nat.ne_of_beq_eq_false rfl | exact oneCell_int | exact oneCell_bool | omega | rfl | (simp; done) | fail) only [j1', j4', j3', opH_sv, fa26_6, add_mk, Nat.zero_add, ld24, cx, List.getElem?_cons_succ, List.getElem?_cons_zero, Option.some.injEq, exists_eq_left', ix24 (Int.natCast_nonneg i) hlt, Int.toNat_natCast, fa95_1, ld57, z2]
    refine append_piece icC (by decide) un57 eoint (by decide) (by decide) s3 d3 o3 z3 (by omega) fun v' a' h' o' s' d' => ?_
    unfold S56_l11_k13
    simp -implicitDefEqProofs (maxSteps := 2000000) (disch := first | with_reducible exact Nat.ne_of_beq_eq_false rfl | exact oneCell_int | exact oneCell_bool | omega | rfl | (simp; done) | fail) only [upd_ne, j4', thenK_normal, opH_sv, bin_add, wrap_in]
    refine HX (C.st.length - (i + 1)) _ _ (by omega) ⟨i + 1, a', v', rfl, hlt', by omega, by simp -implicitDefEqProofs (maxSteps := 2000000) (disch := first | with_reducible exact Nat.ne_of_beq_eq_false rfl | exact oneCell_int | exact oneCell_bool | omega | rfl | (simp; done) | fail) only [upd_ne, j1'], by simp -implicitDefEqProofs (maxSteps := 2000000) (disch := first | with_reducible exact Nat.ne_of_beq_eq_false rfl | exact oneCell_int | exact oneCell_bool | omega | rfl | (simp; done) | fail) only [upd_ne, upd_eq], by simp -implicitDefEqProofs (maxSteps := 2000000) (disch := first | with_reducible exact Nat.ne_of_beq_eq_false rfl | exact oneCell_int | exact oneCell_bool | omega | rfl | (simp; done) | fail) only [upd_eq] <;> rfl, ?_, ?_, ?_, s', d'⟩
    · rw [take_get hs]
      intro t ht'
      rcases List.mem_append.1 ht' with q | q
      · exact hok t q
      · simp at q; rw [q]; exact ⟨hst, hlen⟩
    · rw [take_get hs, List.map_append]
      exact List.nodup_append.2 ⟨hnd, by simp, fun p hp q hq => by simp at hq; subst hq; exact fun e => hn (e ▸ hp)⟩
    · rw [take_get hs, List.flatMap_append]
      simpa using o'
  · simp -implicitDefEqProofs (maxSteps := 2000000) (disch := first | with_reducible exact Nat.ne_of_beq_eq_false rfl | exact oneCell_int | exact oneCell_bool | omega | rfl | (simp; done) | fail) only [blockK_ret, thenK_ret, retK_ret, resL_tmp, j2, resL_nil1]
    refine ⟨⟨_, rfl, no fun B => ?_⟩, l1.trans l3⟩
    refine not_nodup (L := C.st.map Prod.fst) (i := i) (x := s.1) (by rw [List.getElem?_map, hs]; rfl) ?_ B.apart
    rw [← List.map_take]
    exact hm

end Go.Proofs.YtnpdploihlgcgaaDoor
end

section
/- The reference: what may be. -/
set_option linter.unusedSimpArgs false
set_option linter.unusedVariables false
set_option maxRecDepth 100000
namespace Go.Proofs.YtnpdploihlgcgaaDoor
open Go Go.HL

/-- What may be. -/
structure MayOk (C : Conf) : Prop where
  nums : numbersB C = true
  po8 : C.po.length ≤ 8
  ro8 : C.ro.length ≤ 8
  bl256 : C.bl.length ≤ 256
  blk : ∀ c ∈ C.bl, inB C c = true ∧ C.bl.count c ≤ 1 ∧ C.po.count c = 0
  prt : ∀ c ∈ C.po, inB C c = true ∧ C.po.count c ≤ 1 ∧ homeB C c = false ∧ besideB C c = true
  fit : ∀ p ∈ C.ro, fitsB C p = true
  once : ∀ c ∈ C.ro.flatMap cellsP, (C.ro.flatMap cellsP).count c ≤ 1
  bins : BinsOk C

theorem may_bl {G h : Hp} {C : Conf} {ab : Option Addr} {cb : Nat} {ap : Option Addr} {cp : Nat} {ar : Option Addr} {cr : Nat} {az : Option Addr} {cs : Nat} (ca : CA G h C ab cb ap cp ar cr az cs) {x : Nat}
    (cx : ∀ k, cellIn G h ⟨x, k, none⟩ = [Value.int .i64 C.w, .int .i64 C.h, .int .i64 C.ht, .slice ab C.bl.length cb, .slice ap C.po.length cp, .slice ar C.ro.length cr, .slice az C.st.length cs, .int .i64 C.un, .int .i64 C.ac, .int .i64 C.sp, .int .i64 C.tu, .int .i64 C.ho, .int .i64 C.qu, .int .i64 C.re, .int .i64 C.bu, .bool C.back][k]?) {KK : Exit → Rg → Hp → Prop} (hL : C.bl.length ≤ 256) (hP : C.po.length ≤ 8) (r : Rg) (g1 : r 1 = .pointer (some ⟨x, 0, none⟩)) (g3 : r 3 = .int .i64 0)
    (H1 : (∀ c ∈ C.bl, inB C c = true ∧ C.bl.count c ≤ 1 ∧ C.po.count c = 0) → ∀ r' : Rg, r' 1 = r 1 → KK (.exit 0) r' h)
    (H2 : (∃ c ∈ C.bl, ¬ (inB C c = true ∧ C.bl.count c ≤ 1 ∧ C.po.count c = 0)) → ∀ r' : Rg, r' 2 = .bool false → KK .ret r' h) : loopP (S16_l16 G) r h KK := by
  refine loop_I (fun m r2 h3 => ∃ i : Nat, m = C.bl.length - i ∧ i ≤ C.bl.length ∧ r2 1 = r 1 ∧ r2 3 = .int .i64 i ∧ h3 = h ∧ (∀ c ∈ C.bl.take i, inB C c = true ∧ C.bl.count c ≤ 1 ∧ C.po.count c = 0)) ?_
    (m := C.bl.length) ⟨0, rfl, Nat.zero_le _, rfl, by rw [g3]; rfl, rfl, by simp⟩
  rintro m r2 h3 ⟨i, rfl, hi, k1, k3, rfl, hw⟩ X HX
  rw [g1] at k1
  unfold S16_l16
  simp -implicitDefEqProofs only [k1, k3, thenK_exit, opH_sv, fa26_3, add_mk, Nat.zero_add, ld22, cx, List.getElem?_cons_succ, List.getElem?_cons_zero, Option.some.injEq, exists_eq_left', ln22, bin_lss]
  refine cond_dec (fun hlt => ?_) (fun hge => ?_)
  rotate_left
  · obtain rfl : i = C.bl.length := by omega
    rw [List.take_of_length_le (Nat.le_refl _)] at hw
    exact H1 hw _ (by simp -implicitDefEqProofs (disch := first | with_reducible exact Nat.ne_of_beq_eq_false rfl | omega) only [upd_ne, k1, g1])
  have hlt' : i < C.bl.length := by omega
  obtain ⟨y, hy⟩ : ∃ x, C.bl[i]? = some x := ⟨_, List.getElem?_eq_getElem hlt'⟩
  have hym : y ∈ C.bl := List.mem_of_getElem? hy
  obtain ⟨b, o, rfl, z0, z1⟩ := Sees.cell ca.bl hy
  unfold S16_l16_k17
  simp -implicitDefEqProofs (disch := first | with_reducible exact Nat.ne_of_beq_eq_false rfl | omega) only [upd_ne, k1, k3, thenK_ret, pureW_sv, cf52, fa26_3p, add_mk, Nat.zero_add, ld22p, cx, List.getElem?_cons_succ, List.getElem?_cons_zero, Option.some.injEq, exists_eq_left', ix22p (Int.natCast_nonneg i) hlt, Int.toNat_natCast, ld28p, Nat.add_zero, z0, z1, ld26p]
  refine (in_spec (c := y) ca.cv).mono ?_
  rintro _ _ ⟨rfl, rfl⟩
  cases h1 : inB C y with
  | false =>
    try simp -implicitDefEqProofs only [un_notp, Bool.not_false, pick_tp, HL.cond_true, gd_tf]
    exact H2 ⟨y, hym, fun q => by rw [h1] at q; exact absurd q.1 (by decide)⟩ _ (by simp -implicitDefEqProofs only [upd_eq])
  | true =>
  try simp -implicitDefEqProofs only [un_notp, Bool.not_true, pick_fp, gd_ff, pureW_sv, cf53, fa26_3p, add_mk, Nat.zero_add, ld22p, cx, List.getElem?_cons_succ, List.getElem?_cons_zero, Option.some.injEq, exists_eq_left', ix22p (Int.natCast_nonneg i) hlt, Int.toNat_natCast, ld28p, Nat.add_zero, z0, z1]
  refine (among_spec (c := y) ca.bl (by omega)).mono ?_
  rintro _ _ ⟨rfl, rfl⟩
  try simp -implicitDefEqProofs only [bin_gtrp]
  by_cases h2 : C.bl.count y ≤ 1
  rotate_left
  · have e : decide ((C.bl.count y : Int) > 1) = true := by rw [decide_eq_true_iff]; omega
    simp -implicitDefEqProofs only [e, pick_tp, HL.cond_true, gd_tf]
    exact H2 ⟨y, hym, fun q => h2 q.2.1⟩ _ (by simp -implicitDefEqProofs only [upd_eq])
  have e : decide ((C.bl.count y : Int) > 1) = false := by rw [decide_eq_false_iff_not]; omega
  try simp -implicitDefEqProofs only [e, pick_fp, gd_ff, pureW_sv, cf53, fa26_3p, add_mk, Nat.zero_add, ld22p, cx, List.getElem?_cons_succ, List.getElem?_cons_zero, Option.some.injEq, exists_eq_left', ix22p (Int.natCast_nonneg i) hlt, Int.toNat_natCast, ld28p, Nat.add_zero, z0, z1, fa26_4p]
  refine (among_spec (c := y) ca.po (by omega)).mono ?_
  rintro _ _ ⟨rfl, rfl⟩
  try simp -implicitDefEqProofs only [bin_gtrp]
  by_cases h3 : C.po.count y = 0
  rotate_left
  · have e : decide ((C.po.count y : Int) > 0) = true := by rw [decide_eq_true_iff]; omega
    simp -implicitDefEqProofs only [e, HL.cond_true]
    exact H2 ⟨y, hym, fun q => h3 q.2.2⟩ _ (by simp -implicitDefEqProofs only [upd_eq])
  have e : decide ((C.po.count y : Int) > 0) = false := by rw [decide_eq_false_iff_not]; omega
  simp -implicitDefEqProofs only [e, HL.cond_false]
  unfold S16_l16_k18
  simp -implicitDefEqProofs (disch := first | with_reducible exact Nat.ne_of_beq_eq_false rfl | omega) only [upd_ne, k3, thenK_normal, opH_sv, bin_add, wrap_in]
  refine HX (C.bl.length - (i + 1)) _ _ (by omega) ⟨i + 1, rfl, hlt', by simp -implicitDefEqProofs (disch := first | with_reducible exact Nat.ne_of_beq_eq_false rfl | omega) only [upd_ne, k1, g1], by simp -implicitDefEqProofs (disch := first | with_reducible exact Nat.ne_of_beq_eq_false rfl | omega) only [upd_eq] <;> rfl, rfl, ?_⟩
  rw [take_get hy]
  intro c hc
  rcases List.mem_append.1 hc with q | q
  · exact hw c q
  · simp at q; rw [q]; exact ⟨h1, h2, h3⟩

theorem may_po {G h : Hp} {C : Conf} {ab : Option Addr} {cb : Nat} {ap : Option Addr} {cp : Nat} {ar : Option Addr} {cr : Nat} {az : Option Addr} {cs : Nat} (ca : CA G h C ab cb ap cp ar cr az cs) {x : Nat}
    (cx : ∀ k, cellIn G h ⟨x, k, none⟩ = [Value.int .i64 C.w, .int .i64 C.h, .int .i64 C.ht, .slice ab C.bl.length cb, .slice ap C.po.length cp, .slice ar C.ro.length cr, .slice az C.st.length cs, .int .i64 C.un, .int .i64 C.ac, .int .i64 C.sp, .int .i64 C.tu, .int .i64 C.ho, .int .i64 C.qu, .int .i64 C.re, .int .i64 C.bu, .bool C.back][k]?) {KK : Exit → Rg → Hp → Prop} (hL : C.bl.length ≤ 256) (hP : C.po.length ≤ 8) (hR : C.ro.length ≤ 8) (r : Rg) (g1 : r 1 = .pointer (some ⟨x, 0, none⟩)) (g4 : r 4 = .int .i64 0)
    (H1 : (∀ c ∈ C.po, inB C c = true ∧ C.po.count c ≤ 1 ∧ homeB C c = false ∧ besideB C c = true) → ∀ r' : Rg, r' 1 = r 1 → KK (.exit 2) r' h)
    (H2 : (∃ c ∈ C.po, ¬ (inB C c = true ∧ C.po.count c ≤ 1 ∧ homeB C c = false ∧ besideB C c = true)) → ∀ r' : Rg, r' 2 = .bool false → KK .ret r' h) : loopP (S16_l13 G) r h KK := by
  refine loop_I (fun m r2 h3 => ∃ i : Nat, m = C.po.length - i ∧ i ≤ C.po.length ∧ r2 1 = r 1 ∧ r2 4 = .int .i64 i ∧ h3 = h ∧ (∀ c ∈ C.po.take i, inB C c = true ∧ C.po.count c ≤ 1 ∧ homeB C c = false ∧ besideB C c = true)) ?_
    (m := C.po.length) ⟨0, rfl, Nat.zero_le _, rfl, by rw [g4]; rfl, rfl, by simp⟩
  rintro m r2 h3 ⟨i, rfl, hi, k1, k4, rfl, hw⟩ X HX
  rw [g1] at k1
  unfold S16_l13
  simp -implicitDefEqProofs only [k1, k4, thenK_exit, opH_sv, fa26_4, add_mk, Nat.zero_add, ld22, cx, List.getElem?_cons_succ, List.getElem?_cons_zero, Option.some.injEq, exists_eq_left', ln22, bin_lss]
  refine cond_dec (fun hlt => ?_) (fun hge => ?_)
  rotate_left
  · obtain rfl : i = C.po.length := by omega
    rw [List.take_of_length_le (Nat.le_refl _)] at hw
    exact H1 hw _ (by simp -implicitDefEqProofs (disch := first | with_reducible exact Nat.ne_of_beq_eq_false rfl | omega) only [upd_ne, k1, g1])
  have hlt' : i < C.po.length := by omega
  obtain ⟨y, hy⟩ : ∃ x, C.po[i]? = some x := ⟨_, List.getElem?_eq_getElem hlt'⟩
  have hym : y ∈ C.po := List.mem_of_getElem? hy
  obtain ⟨b, o, rfl, z0, z1⟩ := Sees.cell ca.po hy
  unfold S16_l13_k14
  simp -implicitDefEqProofs (disch := first | with_reducible exact Nat.ne_of_beq_eq_false rfl | omega) only [upd_ne, k1, k4, thenK_ret, pureW_sv, cf52, fa26_4p, add_mk, Nat.zero_add, ld22p, cx, List.getElem?_cons_succ, List.getElem?_cons_zero, Option.some.injEq, exists_eq_left', ix22p (Int.natCast_nonneg i) hlt, Int.toNat_natCast, ld28p, Nat.add_zero, z0, z1, ld26p]
  refine (in_spec (c := y) ca.cv).mono ?_
  rintro _ _ ⟨rfl, rfl⟩
  cases h1 : inB C y with
  | false =>
    try simp -implicitDefEqProofs only [un_notp, Bool.not_false, pick_tp, HL.cond_true, gd_tf]
    exact H2 ⟨y, hym, fun q => by rw [h1] at q; exact absurd q.1 (by decide)⟩ _ (by simp -implicitDefEqProofs only [upd_eq])
  | true =>
  try simp -implicitDefEqProofs only [un_notp, Bool.not_true, pick_fp, gd_ff, pureW_sv, cf53, fa26_4p, add_mk, Nat.zero_add, ld22p, cx, List.getElem?_cons_succ, List.getElem?_cons_zero, Option.some.injEq, exists_eq_left', ix22p (Int.natCast_nonneg i) hlt, Int.toNat_natCast, ld28p, Nat.add_zero, z0, z1]
  refine (among_spec (c := y) ca.po (by omega)).mono ?_
  rintro _ _ ⟨rfl, rfl⟩
  try simp -implicitDefEqProofs only [bin_gtrp]
  by_cases h2 : C.po.count y ≤ 1
  rotate_left
  · have e : decide ((C.po.count y : Int) > 1) = true := by rw [decide_eq_true_iff]; omega
    simp -implicitDefEqProofs only [e, pick_tp, HL.cond_true, gd_tf]
    exact H2 ⟨y, hym, fun q => h2 q.2.1⟩ _ (by simp -implicitDefEqProofs only [upd_eq])
  have e : decide ((C.po.count y : Int) > 1) = false := by rw [decide_eq_false_iff_not]; omega
  try simp -implicitDefEqProofs only [e, pick_fp, gd_ff, cf54, pureW_sv, fa26_4p, add_mk, Nat.zero_add, ld22p, cx, List.getElem?_cons_succ, List.getElem?_cons_zero, Option.some.injEq, exists_eq_left', ix22p (Int.natCast_nonneg i) hlt, Int.toNat_natCast, ld28p, Nat.add_zero, z0, z1, ld26p]
  refine (rhome_spec (c := y) ca.cv (by omega)).mono ?_
  rintro _ _ ⟨rfl, rfl⟩
  cases h3 : homeB C y with
  | true =>
    try simp -implicitDefEqProofs only [pick_tp, HL.cond_true, gd_tf]
    exact H2 ⟨y, hym, fun q => by rw [h3] at q; exact absurd q.2.2.1 (by decide)⟩ _ (by simp -implicitDefEqProofs only [upd_eq])
  | false =>
  try simp -implicitDefEqProofs only [pick_fp, gd_ff, pureW_sv, cf55, fa26_4p, add_mk, Nat.zero_add, ld22p, cx, List.getElem?_cons_succ, List.getElem?_cons_zero, Option.some.injEq, exists_eq_left', ix22p (Int.natCast_nonneg i) hlt, Int.toNat_natCast, ld28p, Nat.add_zero, z0, z1, ld26p]
  refine (rbeside_spec (c := y) ca.cv (by omega)).mono ?_
  rintro _ _ ⟨rfl, rfl⟩
  cases h4 : besideB C y with
  | false =>
    try simp -implicitDefEqProofs only [un_notp, Bool.not_false, HL.cond_true]
    exact H2 ⟨y, hym, fun q => by rw [h4] at q; exact absurd q.2.2.2 (by decide)⟩ _ (by simp -implicitDefEqProofs only [upd_eq])
  | true =>
  try simp -implicitDefEqProofs only [un_notp, Bool.not_true, HL.cond_false]
  unfold S16_l13_k15
  simp -implicitDefEqProofs (disch := first | with_reducible exact Nat.ne_of_beq_eq_false rfl | omega) only [upd_ne, k4, thenK_normal, opH_sv, bin_add, wrap_in]
  refine HX (C.po.length - (i + 1)) _ _ (by omega) ⟨i + 1, rfl, hlt', by simp -implicitDefEqProofs (disch := first | with_reducible exact Nat.ne_of_beq_eq_false rfl | omega) only [upd_ne, k1, g1], by simp -implicitDefEqProofs (disch := first | with_reducible exact Nat.ne_of_beq_eq_false rfl | omega) only [upd_eq] <;> rfl, rfl, ?_⟩
  rw [take_get hy]
  intro c hc
  rcases List.mem_append.1 hc with q | q
  · exact hw c q
  · simp at q; rw [q]; exact ⟨h1, h2, h3, h4⟩

theorem eocell : ElemOk Tryd.prog 28 cellC.n 16 := ⟨by kernel_rfl, by kernel_rfl, by kernel_rfl⟩

theorem flat_cells (L : List Pose) : (L.flatMap cellsP).length = 2 * L.length := by
  induction L with
  | nil => rfl
  | cons p L ih => rw [List.flatMap_cons, List.length_append, ih, List.length_cons]; simp [cellsP]; omega

theorem may_ro {G h0 : Hp} {C : Conf} {ab : Option Addr} {cb : Nat} {ap : Option Addr} {cp : Nat} {ar : Option Addr} {cr : Nat} {az : Option Addr} {cs : Nat} (ca : CA G h0 C ab cb ap cp ar cr az cs) {x : Nat} (d0 : Dis G h0)
    (bx : h0 x = some (.cells #[.int .i64 C.w, .int .i64 C.h, .int .i64 C.ht, .slice ab C.bl.length cb, .slice ap C.po.length cp, .slice ar C.ro.length cr, .slice az C.st.length cs, .int .i64 C.un, .int .i64 C.ac, .int .i64 C.sp, .int .i64 C.tu, .int .i64 C.ho, .int .i64 C.qu, .int .i64 C.re, .int .i64 C.bu, .bool C.back] 26 (0, 0)))
    {KK : Exit → Rg → Hp → Prop} (hL : C.bl.length ≤ 256) (hR : C.ro.length ≤ 8) (r : Rg) (g1 : r 1 = .pointer (some ⟨x, 0, none⟩)) (g5 : r 5 = .slice none 0 0) (g6 : r 6 = .int .i64 0)
    (H1 : (∀ p ∈ C.ro, fitsB C p = true) → ∀ (r' : Rg) h' lp, r' 1 = r 1 → h0.le h' → Dis G h' → lp.le h' → Slc cellC 28 lp (r' 5) (C.ro.flatMap cellsP) → KK (.exit 4) r' h')
    (H2 : (∃ p ∈ C.ro, fitsB C p = false) → ∀ (r' : Rg) h', h0.le h' → r' 2 = .bool false → KK .ret r' h') : loopP (S16_l9 G) r h0 KK := by
  refine loop_I (fun m r2 h3 => ∃ (i : Nat) (lp : Hp), m = C.ro.length - i ∧ i ≤ C.ro.length ∧ r2 1 = r 1 ∧ r2 6 = .int .i64 i ∧ (∀ p ∈ C.ro.take i, fitsB C p = true) ∧ Slc cellC 28 lp (r2 5) ((C.ro.take i).flatMap cellsP) ∧ Sep [lp, h0] h3 ∧ Dis G h3) ?_
    (m := C.ro.length) ⟨0, noHp, rfl, Nat.zero_le _, rfl, by rw [g6]; rfl, by simp, by rw [g5]; exact Slc.nil, Sep.one.none, d0⟩
  rintro m r2 h3 ⟨i, lp, rfl, hi, k1, k6, hw, o3, s3, d3⟩ X HX
  rw [g1] at k1
  have l3 : h0.le h3 := s3.in 1 rfl
  have cx : ∀ k, cellIn G h3 ⟨x, k, none⟩ = _ := fun k => cell_of (look_own (l3 _ _ bx))
  have ca3 := ca.up l3 d3
  unfold S16_l9
  simp -implicitDefEqProofs only [k1, k6, thenK_exit, opH_sv, fa26_5, add_mk, Nat.zero_add, ld23, cx, List.getElem?_cons_succ, List.getElem?_cons_zero, Option.some.injEq, exists_eq_left', ln23, bin_lss]
  refine cond_dec (fun hlt => ?_) (fun hge => ?_)
  rotate_left
  · obtain rfl : i = C.ro.length := by omega
    rw [List.take_of_length_le (Nat.le_refl _)] at hw o3
    exact H1 hw _ _ lp (by simp -implicitDefEqProofs (disch := first | with_reducible exact Nat.ne_of_beq_eq_false rfl | omega) only [upd_ne, k1, g1]) l3 d3 s3.hd (by simp -implicitDefEqProofs (disch := first | with_reducible exact Nat.ne_of_beq_eq_false rfl | omega) only [upd_ne]; exact o3)
  have hlt' : i < C.ro.length := by omega
  obtain ⟨y, hy⟩ : ∃ x, C.ro[i]? = some x := ⟨_, List.getElem?_eq_getElem hlt'⟩
  have hym : y ∈ C.ro := List.mem_of_getElem? hy
  obtain ⟨b, o, rfl, z0, z1, z2⟩ := Sees.pose ca3.ro hy
  unfold S16_l9_k10
  simp -implicitDefEqProofs (disch := first | with_reducible exact Nat.ne_of_beq_eq_false rfl | omega) only [upd_ne, k1, k6, thenK_ret, pureW_sv, cf24, fa26_5p, add_mk, Nat.zero_add, ld23p, cx, List.getElem?_cons_succ, List.getElem?_cons_zero, Option.some.injEq, exists_eq_left', ix23p (Int.natCast_nonneg i) hlt, Int.toNat_natCast, ld30p, Nat.add_zero, z0, z1, z2, ld26p]
  refine (rfits_spec (p := y) ca3.cv (by omega)).mono ?_
  rintro _ h3 ⟨rfl, rfl⟩
  cases h1 : fitsB C y with
  | false =>
    try simp -implicitDefEqProofs only [un_notp, Bool.not_false, HL.cond_true]
    exact H2 ⟨y, hym, h1⟩ _ _ l3 (by simp -implicitDefEqProofs only [upd_eq])
  | true =>
  try simp -implicitDefEqProofs (disch := first | with_reducible exact Nat.ne_of_beq_eq_false rfl | omega) only [un_notp, Bool.not_true, HL.cond_false]
  unfold S16_l9_k12
  simp -implicitDefEqProofs (disch := first | with_reducible exact Nat.ne_of_beq_eq_false rfl | omega) only [upd_ne, k1, k6, opH_sv, cf22, fa26_5, add_mk, Nat.zero_add, ld23, cx, List.getElem?_cons_succ, List.getElem?_cons_zero, Option.some.injEq, exists_eq_left', ix23 (Int.natCast_nonneg i) hlt, Int.toNat_natCast, ld30, Nat.add_zero, z0, z1, z2]
  refine (rcells_spec (p := y)).mono ?_
  rintro _ _ ⟨b', rfl, hb, gb, rfl⟩
  generalize e4 : Hp.set h3 b' _ = h4
  obtain ⟨l4, d4, b4⟩ := boxed e4 hb d3 gb
  have hlen := flat_cells (C.ro.take i)
  rw [List.length_take] at hlen
  have s4 : Sep [lp, h0] h4 := s3.le l4
  try simp -implicitDefEqProofs (disch := first | with_reducible exact Nat.ne_of_beq_eq_false rfl | omega) only [opH_sv, opH_su, pureW_sv, opH_nil, pureW_nil, pick_t, pick_f, pick_tp, pick_fp, gd_tt, gd_ft, gd_tf, gd_ff, box_new, regs0, regs1, regs2, regs3, regs4, regs5, regs6, cells_agg, cells_int, cells_bool, cells_ptr, cells_slice, cells_string, cells_func, cells_nilFunc, cells_map, retK_ret, retK_normal, resL_tmp, resL_cell, resL_nil0, resL_nil1, resL_nil2, resL_nil3, resC_ptr, ex0, ex1, ex2, ex0p, ex1p, ex2p, HL.cond_true, HL.cond_false, thenK_normal, thenK_ret, thenK_exit, blockK_normal, blockK_ret, blockK_exit, scopeK_normal, scopeK_ret, scopeK_exit, wpH_pure, bin_add, bin_sub, bin_mul, bin_lss, bin_leq, bin_gtr, bin_geq, bin_quo, bin_rem, bin_quop, bin_remp, wrap_in, bin_addp, bin_subp, bin_mulp, bin_lssp, bin_leqp, bin_gtrp, bin_geqp, un_not, un_notp, un_neg, eq_int, ne_int, eq_intp, ne_intp, callV_fn, add_mk, upd_eq, upd_ne, cell_set_self, Nat.zero_add, Nat.add_zero, Option.some.injEq, exists_eq_left', List.getElem?_cons_succ, List.getElem?_cons_zero, true_and, and_true, bne_self_eq_false, beq_self_eq_true, Bool.not_true, Bool.not_false, Bool.and_true, Bool.and_self, Bool.and_false, Bool.true_and, List.length_cons, List.length_nil, ne_eq, not_false_eq_true, Nat.reduceAdd, Nat.reduceMul, if_true, if_false, oneCell_int, oneCell_bool, oneCell_ptr, oneCell_slice, oneCell_string, oneCell_func, oneCell_map, Int.toNat_natCast, List.set_cons_zero, List.set_cons_succ, Nat.lt_irrefl, Nat.zero_lt_succ, Nat.succ_lt_succ_iff, fa26_0, fa26_0p, fa26_1, fa26_1p, fa26_10, fa26_10p, fa26_11, fa26_11p, fa26_12, fa26_12p, fa26_13, fa26_13p, fa26_14, fa26_14p, fa26_2, fa26_2p, fa26_3, fa26_3p, fa26_4, fa26_4p, fa26_5, fa26_5p, fa26_6, fa26_6p, fa26_7, fa26_7p, fa26_8, fa26_8p, fa26_9, fa26_9p, fa28_0, fa28_0p, fa28_1, fa28_1p, fa30_0, fa30_0p, fa30_1, fa30_1p, fa46_0, fa46_0p, fa46_1, fa46_1p, fa46_2, fa46_2p, fa46_3, fa46_3p, fa46_4, fa46_4p, fa46_5, fa46_5p, fa46_6, fa46_6p, fa86_0, fa86_0p, fa86_1, fa86_1p, fa86_2, fa86_2p, fa95_0, fa95_0p, fa95_1, fa95_1p, ld3, ld3p, ld4, ld4p, ld22, ld22p, ld23, ld23p, ld24, ld24p, ld26, ld26p, ld28, ld28p, ld30, ld30p, ld31, ld31p, ld46, ld46p, ld47, ld47p, ld52, ld52p, ld55, ld55p, ld57, ld57p, ld95, ld95p, st3s, st4s, st22s, st23s, st24s, st26w, st28w, st30w, st46w, st47s, st55s, st95w, ix22, ix22p, ix23, ix23p, ix24, ix24p, ix47, ix47p, ix56, ix56p, ix57, ix57p, ix101, ix101p, ln22, ln22p, ln23, ln23p, ln24, ln24p, ln47, ln47p, ln56, ln56p, ln57, ln57p, al22, al26, al28, al30, al46, al47, al95, cf14, cf15, cf16, cf17, cf18, cf19, cf20, cf21, cf22, cf23, cf24, cf25, cf26, cf27, cf28, cf29, cf30, cf31, cf32, cf33, cf34, cf35, cf36, cf37, cf38, cf39, cf40, cf41, cf42, cf43, cf44, cf45, cf46, cf47, cf48, cf49, cf50, cf51, cf52, cf53, cf54, cf55, cf56, cf57, cf58, cf59, cf60, cf61, cf62, cf63, cf64, cf65, cf66, cf67, cf68, cf69, cf70, cf71, cf72, cf73, cf74, cf75, cf76, cf77, cf78, cf79, cf80, bd26_0_1_2_7_8_9_10_11_12_13_14, bd26_0_1_2_7_8_9_10_11_12_13_14p, bd28_0, bd28_0p, bd28_0_1, bd28_0_1p, bd30_, bd30_p, bd30_0_1, bd30_0_1p, bd30_0, bd30_0p, bd46_0_1_2_3_4, bd46_0_1_2_3_4p, bd46_0_3_4, bd46_0_3_4p, bd86_0_1_2, bd86_0_1_2p, bd87_0_1_2_3, bd87_0_1_2_3p, bd95_0_1, bd95_0_1p, bs22_2_0_1, bs47_1_0, bs22_1_0, bs57_6_0_1_2_3_4_5, bs24_1_0, bs22_4_0_1_2_3, bs56_11_0_1_2_3_4_5_6_7_8_9_10, bs57_11_0_1_2_3_4_5_6_7_8_9_10, eq4, eq4p, eq28, eq28p, eq30, eq30p, eq31n, eq31np, eq31s, eq31sp, eq46, eq46p, eq50n, eq50np, eq50s, eq50sp, eq67n, eq67np, eq67s, eq67sp, ne4, ne4p, ne28, ne28p, ne30, ne30p, ne31n, ne31np, ne31s, ne31sp, ne46, ne46p]
  refine append_piece cellC (by decide) un22 eocell (by decide) (by decide) (M := cellsP y) s4 d4 o3 (Sees.row b4 rfl (Nat.le_refl _)) (by rw [hlen, show (cellsP y).length = 2 from rfl]; omega) fun v' a' h' o' s' d' => ?_
  unfold S16_l9_k11
  simp -implicitDefEqProofs (maxSteps := 2000000) (disch := first | with_reducible exact Nat.ne_of_beq_eq_false rfl | exact oneCell_int | exact oneCell_bool | omega | rfl | (simp; done) | fail) only [upd_ne, k6, thenK_normal, opH_sv, bin_add, wrap_in]
  refine HX (C.ro.length - (i + 1)) _ _ (by omega) ⟨i + 1, a', rfl, hlt', by simp -implicitDefEqProofs (maxSteps := 2000000) (disch := first | with_reducible exact Nat.ne_of_beq_eq_false rfl | exact oneCell_int | exact oneCell_bool | omega | rfl | (simp; done) | fail) only [upd_ne, k1, g1], by simp -implicitDefEqProofs (maxSteps := 2000000) (disch := first | with_reducible exact Nat.ne_of_beq_eq_false rfl | exact oneCell_int | exact oneCell_bool | omega | rfl | (simp; done) | fail) only [upd_eq] <;> rfl, ?_, ?_, s', d'⟩
  · rw [take_get hy]
    intro c hc
    rcases List.mem_append.1 hc with q | q
    · exact hw c q
    · simp at q; rw [q]; exact h1
  · simp -implicitDefEqProofs (disch := first | with_reducible exact Nat.ne_of_beq_eq_false rfl | omega) only [upd_ne, upd_eq]
    rw [take_get hy, List.flatMap_append]
    simpa using o'

theorem may_once {G h : Hp} {L : List Cell} {v : Value} (sv : Sees cellC G h v L) (hL : L.length ≤ 1000) {KK : Exit → Rg → Hp → Prop} (r : Rg) (g5 : r 5 = v) (g7 : r 7 = .int .i64 0)
    (H1 : (∀ c ∈ L, L.count c ≤ 1) → ∀ r' : Rg, r' 1 = r 1 → KK (.exit 6) r' h)
    (H2 : (∃ c ∈ L, ¬ L.count c ≤ 1) → ∀ r' : Rg, r' 2 = .bool false → KK .ret r' h) : loopP (S16_l6 G) r h KK := by
  obtain ⟨sa, cap, rfl⟩ := sv.len
  refine loop_I (fun m r2 h3 => ∃ i : Nat, m = L.length - i ∧ i ≤ L.length ∧ r2 1 = r 1 ∧ r2 5 = r 5 ∧ r2 7 = .int .i64 i ∧ h3 = h ∧ (∀ c ∈ L.take i, L.count c ≤ 1)) ?_
    (m := L.length) ⟨0, rfl, Nat.zero_le _, rfl, rfl, by rw [g7]; rfl, rfl, by simp⟩
  rintro m r2 h3 ⟨i, rfl, hi, k1, k5, k7, rfl, hw⟩ X HX
  rw [g5] at k5
  unfold S16_l6
  simp -implicitDefEqProofs only [k5, k7, thenK_exit, opH_sv, ln22, bin_lss]
  refine cond_dec (fun hlt => ?_) (fun hge => ?_)
  rotate_left
  · obtain rfl : i = L.length := by omega
    rw [List.take_of_length_le (Nat.le_refl _)] at hw
    exact H1 hw _ (by simp -implicitDefEqProofs (disch := first | with_reducible exact Nat.ne_of_beq_eq_false rfl | omega) only [upd_ne, k1])
  have hlt' : i < L.length := by omega
  obtain ⟨y, hy⟩ : ∃ x, L[i]? = some x := ⟨_, List.getElem?_eq_getElem hlt'⟩
  obtain ⟨b, o, rfl, z0, z1⟩ := Sees.cell sv hy
  unfold S16_l6_k7
  simp -implicitDefEqProofs (disch := first | with_reducible exact Nat.ne_of_beq_eq_false rfl | omega) only [upd_ne, k5, k7, thenK_ret, opH_sv, cf53, ix22 (Int.natCast_nonneg i) hlt, Int.toNat_natCast, add_mk, ld28, Nat.add_zero, z0, Option.some.injEq, z1, exists_eq_left']
  refine (among_spec (c := y) sv (by omega)).mono ?_
  rintro _ _ ⟨rfl, rfl⟩
  try simp -implicitDefEqProofs only [bin_gtr]
  by_cases h2 : L.count y ≤ 1
  rotate_left
  · have e : decide ((L.count y : Int) > 1) = true := by rw [decide_eq_true_iff]; omega
    simp -implicitDefEqProofs only [e, HL.cond_true]
    exact H2 ⟨y, List.mem_of_getElem? hy, h2⟩ _ (by simp -implicitDefEqProofs only [upd_eq])
  have e : decide ((L.count y : Int) > 1) = false := by rw [decide_eq_false_iff_not]; omega
  simp -implicitDefEqProofs only [e, HL.cond_false]
  unfold S16_l6_k8
  simp -implicitDefEqProofs (disch := first | with_reducible exact Nat.ne_of_beq_eq_false rfl | omega) only [upd_ne, k7, thenK_normal, opH_sv, bin_add, wrap_in]
  refine HX (L.length - (i + 1)) _ _ (by omega) ⟨i + 1, rfl, hlt', by simp -implicitDefEqProofs (disch := first | with_reducible exact Nat.ne_of_beq_eq_false rfl | omega) only [upd_ne, k1], by simp -implicitDefEqProofs (disch := first | with_reducible exact Nat.ne_of_beq_eq_false rfl | omega) only [upd_ne, k5, g5], by simp -implicitDefEqProofs (disch := first | with_reducible exact Nat.ne_of_beq_eq_false rfl | omega) only [upd_eq] <;> rfl, rfl, ?_⟩
  rw [take_get hy]
  intro c hc
  rcases List.mem_append.1 hc with q | q
  · exact hw c q
  · simp at q; rw [q]; exact h2

set_option maxHeartbeats 1000000 in
theorem rmay_spec {G h : Hp} {v : Value} {C : Conf} (hv : CV G h v C) :
    HCalls Tryd.prog G 16 #[v] h (fun u h' => (∃ b, u = .bool b ∧ (b = true ↔ MayOk C)) ∧ h' = h) := by
  obtain ⟨ab, cb, ap, cp, ar, cr, az, cs, rfl, ca⟩ := hv
  refine HCalls.assume fun d => quietly (enter16 (by simp) ?_)
  unfold S16
  simp -implicitDefEqProofs only [regs0, retK_ret, resL_tmp, upd_eq, resL_nil1, opH_sv, cf51, box_new, cells_agg, ld26, add_mk, Nat.add_zero, cell_set_self, List.getElem?_cons_zero, Option.some.injEq, Nat.zero_add, List.getElem?_cons_succ, exists_eq_left']
  intro x hx gx
  generalize e1 : Hp.set h x _ = h1
  obtain ⟨l1, d1, b1⟩ := boxed e1 hx d gx
  have cx : ∀ k, cellIn G h1 ⟨x, k, none⟩ = _ := fun k => cell_of (look_own b1)
  have ca1 := ca.up l1 d1
  have no : ∀ {P : Prop}, ¬ P → (false = true ↔ P) := fun h => ⟨fun e => absurd e (by decide), fun p => (h p).elim⟩
  try simp -implicitDefEqProofs only [opH_sv, opH_su, pureW_sv, opH_nil, pureW_nil, pick_t, pick_f, pick_tp, pick_fp, gd_tt, gd_ft, gd_tf, gd_ff, box_new, regs0, regs1, regs2, regs3, regs4, regs5, regs6, cells_agg, cells_int, cells_bool, cells_ptr, cells_slice, cells_string, cells_func, cells_nilFunc, cells_map, retK_ret, retK_normal, resL_tmp, resL_cell, resL_nil0, resL_nil1, resL_nil2, resL_nil3, resC_ptr, ex0, ex1, ex2, ex0p, ex1p, ex2p, HL.cond_true, HL.cond_false, thenK_normal, thenK_ret, thenK_exit, blockK_normal, blockK_ret, blockK_exit, scopeK_normal, scopeK_ret, scopeK_exit, wpH_pure, bin_add, bin_sub, bin_mul, bin_lss, bin_leq, bin_gtr, bin_geq, bin_quo, bin_rem, bin_quop, bin_remp, wrap_in, bin_addp, bin_subp, bin_mulp, bin_lssp, bin_leqp, bin_gtrp, bin_geqp, un_not, un_notp, un_neg, eq_int, ne_int, eq_intp, ne_intp, callV_fn, add_mk, upd_eq, upd_ne, cell_set_self, Nat.zero_add, Nat.add_zero, Option.some.injEq, exists_eq_left', List.getElem?_cons_succ, List.getElem?_cons_zero, true_and, and_true, bne_self_eq_false, beq_self_eq_true, Bool.not_true, Bool.not_false, Bool.and_true, Bool.and_self, Bool.and_false, Bool.true_and, List.length_cons, List.length_nil, ne_eq, not_false_eq_true, Nat.reduceAdd, Nat.reduceMul, if_true, if_false, oneCell_int, oneCell_bool, oneCell_ptr, oneCell_slice, oneCell_string, oneCell_func, oneCell_map, Int.toNat_natCast, List.set_cons_zero, List.set_cons_succ, Nat.lt_irrefl, Nat.zero_lt_succ, Nat.succ_lt_succ_iff, fa26_0, fa26_0p, fa26_1, fa26_1p, fa26_10, fa26_10p, fa26_11, fa26_11p, fa26_12, fa26_12p, fa26_13, fa26_13p, fa26_14, fa26_14p, fa26_2, fa26_2p, fa26_3, fa26_3p, fa26_4, fa26_4p, fa26_5, fa26_5p, fa26_6, fa26_6p, fa26_7, fa26_7p, fa26_8, fa26_8p, fa26_9, fa26_9p, fa28_0, fa28_0p, fa28_1, fa28_1p, fa30_0, fa30_0p, fa30_1, fa30_1p, fa46_0, fa46_0p, fa46_1, fa46_1p, fa46_2, fa46_2p, fa46_3, fa46_3p, fa46_4, fa46_4p, fa46_5, fa46_5p, fa46_6, fa46_6p, fa86_0, fa86_0p, fa86_1, fa86_1p, fa86_2, fa86_2p, fa95_0, fa95_0p, fa95_1, fa95_1p, ld3, ld3p, ld4, ld4p, ld22, ld22p, ld23, ld23p, ld24, ld24p, ld26, ld26p, ld28, ld28p, ld30, ld30p, ld31, ld31p, ld46, ld46p, ld47, ld47p, ld52, ld52p, ld55, ld55p, ld57, ld57p, ld95, ld95p, st3s, st4s, st22s, st23s, st24s, st26w, st28w, st30w, st46w, st47s, st55s, st95w, ix22, ix22p, ix23, ix23p, ix24, ix24p, ix47, ix47p, ix56, ix56p, ix57, ix57p, ix101, ix101p, ln22, ln22p, ln23, ln23p, ln24, ln24p, ln47, ln47p, ln56, ln56p, ln57, ln57p, al22, al26, al28, al30, al46, al47, al95, cf14, cf15, cf16, cf17, cf18, cf19, cf20, cf21, cf22, cf23, cf24, cf25, cf26, cf27, cf28, cf29, cf30, cf31, cf32, cf33, cf34, cf35, cf36, cf37, cf38, cf39, cf40, cf41, cf42, cf43, cf44, cf45, cf46, cf47, cf48, cf49, cf50, cf51, cf52, cf53, cf54, cf55, cf56, cf57, cf58, cf59, cf60, cf61, cf62, cf63, cf64, cf65, cf66, cf67, cf68, cf69, cf70, cf71, cf72, cf73, cf74, cf75, cf76, cf77, cf78, cf79, cf80, bd26_0_1_2_7_8_9_10_11_12_13_14, bd26_0_1_2_7_8_9_10_11_12_13_14p, bd28_0, bd28_0p, bd28_0_1, bd28_0_1p, bd30_, bd30_p, bd30_0_1, bd30_0_1p, bd30_0, bd30_0p, bd46_0_1_2_3_4, bd46_0_1_2_3_4p, bd46_0_3_4, bd46_0_3_4p, bd86_0_1_2, bd86_0_1_2p, bd87_0_1_2_3, bd87_0_1_2_3p, bd95_0_1, bd95_0_1p, bs22_2_0_1, bs47_1_0, bs22_1_0, bs57_6_0_1_2_3_4_5, bs24_1_0, bs22_4_0_1_2_3, bs56_11_0_1_2_3_4_5_6_7_8_9_10, bs57_11_0_1_2_3_4_5_6_7_8_9_10, eq4, eq4p, eq28, eq28p, eq30, eq30p, eq31n, eq31np, eq31s, eq31sp, eq46, eq46p, eq50n, eq50np, eq50s, eq50sp, eq67n, eq67np, eq67s, eq67sp, ne4, ne4p, ne28, ne28p, ne30, ne30p, ne31n, ne31np, ne31s, ne31sp, ne46, ne46p, cx]
  refine (numbers_spec ca1.cv).mono ?_
  rintro _ _ ⟨rfl, rfl⟩
  cases hn : numbersB C with
  | false =>
    try simp -implicitDefEqProofs only [un_not, Bool.not_false, pick_t, HL.cond_true, gd_tf]
    exact ⟨⟨_, rfl, no fun M => by have := M.nums; rw [hn] at this; cases this⟩, l1⟩
  | true =>
  have hht : C.ht ≤ 8 := by
    unfold numbersB withinB at hn
    simp only [Bool.and_eq_true, decide_eq_true_eq] at hn
    exact hn.2.2.1.2
  try simp -implicitDefEqProofs only [un_not, Bool.not_true, pick_f, gd_ff, opH_sv, fa26_4, add_mk, Nat.zero_add, ld22, cx, List.getElem?_cons_succ, List.getElem?_cons_zero, Option.some.injEq, exists_eq_left', ln22, bin_gtr]
  by_cases hP : C.po.length ≤ 8
  rotate_left
  · have e : decide ((C.po.length : Int) > 8) = true := by rw [decide_eq_true_iff]; omega
    simp -implicitDefEqProofs only [e, pick_t, HL.cond_true, gd_tf]
    exact ⟨⟨_, rfl, no fun M => hP M.po8⟩, l1⟩
  have e : decide ((C.po.length : Int) > 8) = false := by rw [decide_eq_false_iff_not]; omega
  try simp -implicitDefEqProofs only [e, pick_f, gd_ff, opH_sv, fa26_5, add_mk, Nat.zero_add, ld23, cx, List.getElem?_cons_succ, List.getElem?_cons_zero, Option.some.injEq, exists_eq_left', ln23, bin_gtr]
  by_cases hR : C.ro.length ≤ 8
  rotate_left
  · have e : decide ((C.ro.length : Int) > 8) = true := by rw [decide_eq_true_iff]; omega
    simp -implicitDefEqProofs only [e, pick_t, HL.cond_true, gd_tf]
    exact ⟨⟨_, rfl, no fun M => hR M.ro8⟩, l1⟩
  have e : decide ((C.ro.length : Int) > 8) = false := by rw [decide_eq_false_iff_not]; omega
  try simp -implicitDefEqProofs only [e, pick_f, gd_ff, opH_sv, fa26_3, add_mk, Nat.zero_add, ld22, cx, List.getElem?_cons_succ, List.getElem?_cons_zero, Option.some.injEq, exists_eq_left', ln22, bin_gtr]
  by_cases hL : C.bl.length ≤ 256
  rotate_left
  · have e : decide ((C.bl.length : Int) > 256) = true := by rw [decide_eq_true_iff]; omega
    simp -implicitDefEqProofs only [e, HL.cond_true]
    exact ⟨⟨_, rfl, no fun M => hL M.bl256⟩, l1⟩
  have e : decide ((C.bl.length : Int) > 256) = false := by rw [decide_eq_false_iff_not]; omega
  simp -implicitDefEqProofs only [e, HL.cond_false]
  unfold S16_k1
  refine may_bl ca1 cx hL hP _ (by simp -implicitDefEqProofs (disch := first | with_reducible exact Nat.ne_of_beq_eq_false rfl | omega) only [upd_ne, upd_eq]) (by simp -implicitDefEqProofs only [upd_eq]) (fun hbl r' j1 => ?_) (fun ⟨c, hc, hbad⟩ r' j2 => ?_)
  rotate_left
  · simp -implicitDefEqProofs only [blockK_ret, thenK_ret, retK_ret, resL_tmp, j2, resL_nil1]
    exact ⟨⟨_, rfl, no fun M => hbad (M.blk c hc)⟩, l1⟩
  simp only [blockK_exit, if_true, blockK_normal, thenK_normal]
  have j1' : r' 1 = .pointer (some ⟨x, 0, none⟩) := j1.trans (by simp -implicitDefEqProofs (disch := first | with_reducible exact Nat.ne_of_beq_eq_false rfl | omega) only [upd_ne, upd_eq])
  unfold S16_k2
  refine may_po ca1 cx hL hP hR _ (by simp -implicitDefEqProofs (disch := first | with_reducible exact Nat.ne_of_beq_eq_false rfl | omega) only [upd_ne, j1']) (by simp -implicitDefEqProofs only [upd_eq]) (fun hpo r'' j1 => ?_) (fun ⟨c, hc, hbad⟩ r' j2 => ?_)
  rotate_left
  · simp -implicitDefEqProofs only [blockK_ret, thenK_ret, retK_ret, resL_tmp, j2, resL_nil1]
    exact ⟨⟨_, rfl, no fun M => hbad (M.prt c hc)⟩, l1⟩
  simp only [blockK_exit, if_true, blockK_normal, thenK_normal]
  have j1'' : r'' 1 = .pointer (some ⟨x, 0, none⟩) := j1.trans (by simp -implicitDefEqProofs (disch := first | with_reducible exact Nat.ne_of_beq_eq_false rfl | omega) only [upd_ne, j1'])
  unfold S16_k3
  refine may_ro ca1 d1 b1 hL hR _ (by simp -implicitDefEqProofs (disch := first | with_reducible exact Nat.ne_of_beq_eq_false rfl | omega) only [upd_ne, j1'']) (by simp -implicitDefEqProofs (disch := first | with_reducible exact Nat.ne_of_beq_eq_false rfl | omega) only [upd_ne, upd_eq]) (by simp -implicitDefEqProofs only [upd_eq]) (fun hro r3 h3 lp j1 l3 d3 llp o3 => ?_) (fun ⟨p, hp, hbad⟩ r3 h3 l3 j2 => ?_)
  rotate_left
  · simp -implicitDefEqProofs only [blockK_ret, thenK_ret, retK_ret, resL_tmp, j2, resL_nil1]
    exact ⟨⟨_, rfl, no fun M => by have := M.fit p hp; rw [hbad] at this; cases this⟩, l1.trans l3⟩
  simp only [blockK_exit, if_true, blockK_normal, thenK_normal]
  have j31 : r3 1 = .pointer (some ⟨x, 0, none⟩) := j1.trans (by simp -implicitDefEqProofs (disch := first | with_reducible exact Nat.ne_of_beq_eq_false rfl | omega) only [upd_ne, j1''])
  unfold S16_k4
  refine may_once (o3.sees (by decide) llp) (by rw [flat_cells]; omega) _ (by simp -implicitDefEqProofs (disch := first | with_reducible exact Nat.ne_of_beq_eq_false rfl | omega) only [upd_ne]) (by simp -implicitDefEqProofs only [upd_eq]) (fun hon r4 j1 => ?_) (fun ⟨c, hc, hbad⟩ r4 j2 => ?_)
  rotate_left
  · simp -implicitDefEqProofs only [blockK_ret, thenK_ret, retK_ret, resL_tmp, j2, resL_nil1]
    exact ⟨⟨_, rfl, no fun M => hbad (M.once c hc)⟩, l1.trans l3⟩
  simp only [blockK_exit, if_true, blockK_normal, thenK_normal]
  have j41 : r4 1 = .pointer (some ⟨x, 0, none⟩) := j1.trans (by simp -implicitDefEqProofs (disch := first | with_reducible exact Nat.ne_of_beq_eq_false rfl | omega) only [upd_ne, j31])
  have cx3 : ∀ k, cellIn G h3 ⟨x, k, none⟩ = _ := fun k => cell_of (look_own (l3 _ _ b1))
  unfold S16_k5
  simp -implicitDefEqProofs only [j41, retK_ret, resL_tmp, upd_eq, resL_nil1, cf56, opH_sv, ld26, add_mk, Nat.add_zero, cx3, List.getElem?_cons_zero, Option.some.injEq, Nat.zero_add, List.getElem?_cons_succ, exists_eq_left']
  refine (bins_spec (ca1.up l3 d3).cv hht (by omega) (by omega) (by omega)).mono ?_
  rintro _ h3 ⟨⟨b, rfl, hb⟩, rfl⟩
  try simp -implicitDefEqProofs only [opH_sv, opH_su, pureW_sv, opH_nil, pureW_nil, pick_t, pick_f, pick_tp, pick_fp, gd_tt, gd_ft, gd_tf, gd_ff, box_new, regs0, regs1, regs2, regs3, regs4, regs5, regs6, cells_agg, cells_int, cells_bool, cells_ptr, cells_slice, cells_string, cells_func, cells_nilFunc, cells_map, retK_ret, retK_normal, resL_tmp, resL_cell, resL_nil0, resL_nil1, resL_nil2, resL_nil3, resC_ptr, ex0, ex1, ex2, ex0p, ex1p, ex2p, HL.cond_true, HL.cond_false, thenK_normal, thenK_ret, thenK_exit, blockK_normal, blockK_ret, blockK_exit, scopeK_normal, scopeK_ret, scopeK_exit, wpH_pure, bin_add, bin_sub, bin_mul, bin_lss, bin_leq, bin_gtr, bin_geq, bin_quo, bin_rem, bin_quop, bin_remp, wrap_in, bin_addp, bin_subp, bin_mulp, bin_lssp, bin_leqp, bin_gtrp, bin_geqp, un_not, un_notp, un_neg, eq_int, ne_int, eq_intp, ne_intp, callV_fn, add_mk, upd_eq, upd_ne, cell_set_self, Nat.zero_add, Nat.add_zero, Option.some.injEq, exists_eq_left', List.getElem?_cons_succ, List.getElem?_cons_zero, true_and, and_true, bne_self_eq_false, beq_self_eq_true, Bool.not_true, Bool.not_false, Bool.and_true, Bool.and_self, Bool.and_false, Bool.true_and, List.length_cons, List.length_nil, ne_eq, not_false_eq_true, Nat.reduceAdd, Nat.reduceMul, if_true, if_false, oneCell_int, oneCell_bool, oneCell_ptr, oneCell_slice, oneCell_string, oneCell_func, oneCell_map, Int.toNat_natCast, List.set_cons_zero, List.set_cons_succ, Nat.lt_irrefl, Nat.zero_lt_succ, Nat.succ_lt_succ_iff, fa26_0, fa26_0p, fa26_1, fa26_1p, fa26_10, fa26_10p, fa26_11, fa26_11p, fa26_12, fa26_12p, fa26_13, fa26_13p, fa26_14, fa26_14p, fa26_2, fa26_2p, fa26_3, fa26_3p, fa26_4, fa26_4p, fa26_5, fa26_5p, fa26_6, fa26_6p, fa26_7, fa26_7p, fa26_8, fa26_8p, fa26_9, fa26_9p, fa28_0, fa28_0p, fa28_1, fa28_1p, fa30_0, fa30_0p, fa30_1, fa30_1p, fa46_0, fa46_0p, fa46_1, fa46_1p, fa46_2, fa46_2p, fa46_3, fa46_3p, fa46_4, fa46_4p, fa46_5, fa46_5p, fa46_6, fa46_6p, fa86_0, fa86_0p, fa86_1, fa86_1p, fa86_2, fa86_2p, fa95_0, fa95_0p, fa95_1, fa95_1p, ld3, ld3p, ld4, ld4p, ld22, ld22p, ld23, ld23p, ld24, ld24p, ld26, ld26p, ld28, ld28p, ld30, ld30p, ld31, ld31p, ld46, ld46p, ld47, ld47p, ld52, ld52p, ld55, ld55p, ld57, ld57p, ld95, ld95p, st3s, st4s, st22s, st23s, st24s, st26w, st28w, st30w, st46w, st47s, st55s, st95w, ix22, ix22p, ix23, ix23p, ix24, ix24p, ix47, ix47p, ix56, ix56p, ix57, ix57p, ix101, ix101p, ln22, ln22p, ln23, ln23p, ln24, ln24p, ln47, ln47p, ln56, ln56p, ln57, ln57p, al22, al26, al28, al30, al46, al47, al95, cf14, cf15, cf16, cf17, cf18, cf19, cf20, cf21, cf22, cf23, cf24, cf25, cf26, cf27, cf28, cf29, cf30, cf31, cf32, cf33, cf34, cf35, cf36, cf37, cf38, cf39, cf40, cf41, cf42, cf43, cf44, cf45, cf46, cf47, cf48, cf49, cf50, cf51, cf52, cf53, cf54, cf55, cf56, cf57, cf58, cf59, cf60, cf61, cf62, cf63, cf64, cf65, cf66, cf67, cf68, cf69, cf70, cf71, cf72, cf73, cf74, cf75, cf76, cf77, cf78, cf79, cf80, bd26_0_1_2_7_8_9_10_11_12_13_14, bd26_0_1_2_7_8_9_10_11_12_13_14p, bd28_0, bd28_0p, bd28_0_1, bd28_0_1p, bd30_, bd30_p, bd30_0_1, bd30_0_1p, bd30_0, bd30_0p, bd46_0_1_2_3_4, bd46_0_1_2_3_4p, bd46_0_3_4, bd46_0_3_4p, bd86_0_1_2, bd86_0_1_2p, bd87_0_1_2_3, bd87_0_1_2_3p, bd95_0_1, bd95_0_1p, bs22_2_0_1, bs47_1_0, bs22_1_0, bs57_6_0_1_2_3_4_5, bs24_1_0, bs22_4_0_1_2_3, bs56_11_0_1_2_3_4_5_6_7_8_9_10, bs57_11_0_1_2_3_4_5_6_7_8_9_10, eq4, eq4p, eq28, eq28p, eq30, eq30p, eq31n, eq31np, eq31s, eq31sp, eq46, eq46p, eq50n, eq50np, eq50s, eq50sp, eq67n, eq67np, eq67s, eq67sp, ne4, ne4p, ne28, ne28p, ne30, ne30p, ne31n, ne31np, ne31s, ne31sp, ne46, ne46p]
  exact ⟨⟨_, rfl, hb.trans ⟨fun B => ⟨hn, hP, hR, hL, hbl, hpo, hro, hon, B⟩, fun M => M.bins⟩⟩, l1.trans l3⟩

end Go.Proofs.YtnpdploihlgcgaaDoor
end
