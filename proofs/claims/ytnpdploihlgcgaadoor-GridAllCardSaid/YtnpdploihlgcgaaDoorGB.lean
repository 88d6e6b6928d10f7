/- The reference's answers on cells, poses: open, port, home, beside, stacked. -/
import Derived.Test.YtnpdploihlgcgaaDoorGA
set_option linter.unusedSimpArgs false
set_option linter.unusedVariables false
set_option maxRecDepth 100000
namespace Go.Proofs.YtnpdploihlgcgaaDoor
open Go Go.HL

theorem boxed {G h h1 : Hp} {x : Nat} {o : Obj} (e : h.set x o = h1) (hx : h x = none) (d : Dis G h) (gx : G x = none) : h.le h1 ∧ Dis G h1 ∧ h1 x = some o := by
  subst e
  exact ⟨le_set hx, d.set gx, set_self⟩

theorem ropen_spec {G h : Hp} {v : Value} {C : Conf} {c : Cell} (hv : CV G h v C) (hL : C.bl.length ≤ 100000000000000) : HCalls Tryd.prog G 32 #[v, cellV c] h (fun u h' => u = .bool (openB C c) ∧ h' = h) := by
  have hv0 := hv
  obtain ⟨ab, cb, ap, cp, ar, cr, az, cs, rfl, ca⟩ := hv
  refine HCalls.assume fun d => quietly (enter32 (by simp) ?_)
  unfold S32
  simp -implicitDefEqProofs (maxSteps := 2000000) (disch := first | with_reducible exact Nat.ne_of_beq_eq_false rfl | exact oneCell_int | exact oneCell_bool | omega | rfl | (simp; done) | fail) only [regs0, regs1, retK_ret, resL_tmp, upd_eq, resL_nil1, cf52, opH_sv, box_new, cells_agg, ld28, add_mk, Nat.add_zero, Nat.zero_add, ld26, cell_set_self, List.getElem?_cons_zero, Option.some.injEq, List.getElem?_cons_succ, exists_eq_left']
  intro x hx gx
  generalize e1 : Hp.set h x _ = h1
  obtain ⟨l1, d1, b1⟩ := boxed e1 hx d gx
  intro y hy gy
  generalize e2 : Hp.set h1 y _ = h2
  obtain ⟨l2, d2, b2⟩ := boxed e2 hy d1 gy
  have cx : ∀ k, cellIn G h2 ⟨x, k, none⟩ = _ := fun k => cell_of (look_own (l2 _ _ b1))
  have cy : ∀ k, cellIn G h2 ⟨y, k, none⟩ = _ := fun k => cell_of (look_own b2)
  have ca2 := ca.up (l1.trans l2) d2
  try simp -implicitDefEqProofs (maxSteps := 2000000) (disch := first | with_reducible exact Nat.ne_of_beq_eq_false rfl | exact oneCell_int | exact oneCell_bool | omega | rfl | (simp; done) | fail) only [cx, List.getElem?_cons_zero, Option.some.injEq, List.getElem?_cons_succ, exists_eq_left']
  refine (in_spec ca2.cv).mono ?_
  rintro _ _ ⟨rfl, rfl⟩
  unfold openB
  cases hc : inB C c with
  | false => simp -implicitDefEqProofs (maxSteps := 2000000) (disch := first | with_reducible exact Nat.ne_of_beq_eq_false rfl | exact oneCell_int | exact oneCell_bool | omega | rfl | (simp; done) | fail) only [pick_f, gd_ft]; exact ⟨rfl, l1.trans l2⟩
  | true =>
  simp -implicitDefEqProofs (maxSteps := 2000000) (disch := first | with_reducible exact Nat.ne_of_beq_eq_false rfl | exact oneCell_int | exact oneCell_bool | omega | rfl | (simp; done) | fail) only [Bool.true_and, pick_t, gd_tt, cf53, opH_sv, ld28, add_mk, Nat.add_zero, Nat.zero_add, fa26_3, ld22, cx, List.getElem?_cons_succ, List.getElem?_cons_zero, Option.some.injEq, cy, exists_eq_left']
  refine (among_spec ca2.bl hL).mono ?_
  rintro _ _ ⟨rfl, rfl⟩
  simp -implicitDefEqProofs (maxSteps := 2000000) (disch := first | with_reducible exact Nat.ne_of_beq_eq_false rfl | exact oneCell_int | exact oneCell_bool | omega | rfl | (simp; done) | fail) only [eq_int]
  refine ⟨?_, l1.trans l2⟩
  congr 1
  rw [Bool.eq_iff_iff]
  simp

theorem rport_spec {G h : Hp} {v : Value} {C : Conf} {c : Cell} (hv : CV G h v C) (hL : C.po.length ≤ 100000000000000) : HCalls Tryd.prog G 34 #[v, cellV c] h (fun u h' => u = .int .i64 (portI C c) ∧ h' = h) := by
  obtain ⟨ab, cb, ap, cp, ar, cr, az, cs, rfl, ca⟩ := hv
  refine HCalls.assume fun d => quietly (enter34 (by simp) ?_)
  unfold S34
  simp -implicitDefEqProofs (maxSteps := 2000000) (disch := first | with_reducible exact Nat.ne_of_beq_eq_false rfl | exact oneCell_int | exact oneCell_bool | omega | rfl | (simp; done) | fail) only [regs0, regs1, opH_sv, box_new, cells_agg]
  intro x hx gx
  generalize e1 : Hp.set h x _ = h1
  obtain ⟨l1, d1, b1⟩ := boxed e1 hx d gx
  intro y hy gy
  generalize e2 : Hp.set h1 y _ = h2
  obtain ⟨l2, d2, b2⟩ := boxed e2 hy d1 gy
  have cx : ∀ k, cellIn G h2 ⟨x, k, none⟩ = _ := fun k => cell_of (look_own (l2 _ _ b1))
  have cy : ∀ k, cellIn G h2 ⟨y, k, none⟩ = _ := fun k => cell_of (look_own b2)
  have ca2 := ca.up (l1.trans l2) d2
  refine loop_I (fun m r h3 => ∃ i : Nat, m = C.po.length - i ∧ i ≤ C.po.length ∧ r 2 = .pointer (some ⟨x, 0, none⟩) ∧ r 3 = .pointer (some ⟨y, 0, none⟩) ∧ r 5 = .int .i64 i ∧ c ∉ C.po.take i ∧ h3 = h2) ?_
    (m := C.po.length) ⟨0, rfl, Nat.zero_le _, by simp -implicitDefEqProofs (maxSteps := 2000000) (disch := first | with_reducible exact Nat.ne_of_beq_eq_false rfl | exact oneCell_int | exact oneCell_bool | omega | rfl | (simp; done) | fail) only [upd_ne, upd_eq], by simp -implicitDefEqProofs (maxSteps := 2000000) (disch := first | with_reducible exact Nat.ne_of_beq_eq_false rfl | exact oneCell_int | exact oneCell_bool | omega | rfl | (simp; done) | fail) only [upd_ne, upd_eq], by simp -implicitDefEqProofs (maxSteps := 2000000) (disch := first | with_reducible exact Nat.ne_of_beq_eq_false rfl | exact oneCell_int | exact oneCell_bool | omega | rfl | (simp; done) | fail) only [upd_eq] <;> rfl, by simp, rfl⟩
  rintro m r h3 ⟨i, rfl, hi, g2, g3, g5, hni, rfl⟩ X HX
  unfold S34_l2
  simp -implicitDefEqProofs (maxSteps := 2000000) (disch := first | with_reducible exact Nat.ne_of_beq_eq_false rfl | exact oneCell_int | exact oneCell_bool | omega | rfl | (simp; done) | fail) only [g2, g5, thenK_exit, blockK_exit, thenK_normal, if_true, opH_sv, fa26_4, add_mk, Nat.zero_add, ld22, cx, List.getElem?_cons_succ, List.getElem?_cons_zero, Option.some.injEq, exists_eq_left', ln22, bin_lss]
  refine cond_dec (fun hlt => ?_) (fun hge => ?_)
  · have hlt' : i < C.po.length := by omega
    obtain ⟨z, hz⟩ : ∃ x, C.po[i]? = some x := ⟨_, List.getElem?_eq_getElem hlt'⟩
    obtain ⟨b, o, rfl, y0, y1⟩ := Sees.cell ca2.po hz
    have htk : C.po.take (i + 1) = C.po.take i ++ [z] := by rw [List.take_add_one, hz]; rfl
    unfold S34_l2_k3
    simp -implicitDefEqProofs (maxSteps := 2000000) (disch := first | with_reducible exact Nat.ne_of_beq_eq_false rfl | exact oneCell_int | exact oneCell_bool | omega | rfl | (simp; done) | fail) only [upd_ne, g2, g5, g3, thenK_ret, blockK_ret, retK_ret, resL_tmp, upd_eq, resL_nil1, pureW_sv, ld28p, add_mk, Nat.add_zero, cy, List.getElem?_cons_zero, Option.some.injEq, Nat.zero_add, List.getElem?_cons_succ, exists_eq_left', fa26_4p, ld22p, cx, ix22p (Int.natCast_nonneg i) hlt, Int.toNat_natCast, y0, y1, eq28p, Bool.and_true, cell_beq]
    cases hb : (z == c) with
    | true =>
      simp -implicitDefEqProofs (maxSteps := 2000000) (disch := first | with_reducible exact Nat.ne_of_beq_eq_false rfl | exact oneCell_int | exact oneCell_bool | omega | rfl | (simp; done) | fail) only [HL.cond_true]
      have hzc : z = c := by simpa using hb
      subst hzc
      refine ⟨?_, l1.trans l2⟩
      have hm : z ∈ C.po := List.mem_of_getElem? hz
      unfold portI
      rw [if_pos hm]
      congr 1
      have h1 : C.po = C.po.take i ++ z :: C.po.drop (i + 1) := by
        have := List.getElem?_eq_some_iff.1 hz
        conv => lhs; rw [← List.take_append_drop i C.po, List.drop_eq_getElem_cons hlt', this.2]
      rw [h1, List.idxOf_append, if_neg hni, List.idxOf_cons_self, List.length_take]
      omega
    | false =>
      simp -implicitDefEqProofs (maxSteps := 2000000) (disch := first | with_reducible exact Nat.ne_of_beq_eq_false rfl | exact oneCell_int | exact oneCell_bool | omega | rfl | (simp; done) | fail) only [HL.cond_false]
      unfold S34_l2_k4
      simp -implicitDefEqProofs (maxSteps := 2000000) (disch := first | with_reducible exact Nat.ne_of_beq_eq_false rfl | exact oneCell_int | exact oneCell_bool | omega | rfl | (simp; done) | fail) only [upd_ne, g5, thenK_normal, opH_sv, bin_add, wrap_in]
      refine HX (C.po.length - (i + 1)) _ _ (by omega) ⟨i + 1, rfl, hlt', by simp -implicitDefEqProofs (maxSteps := 2000000) (disch := first | with_reducible exact Nat.ne_of_beq_eq_false rfl | exact oneCell_int | exact oneCell_bool | omega | rfl | (simp; done) | fail) only [upd_ne, g2], by simp -implicitDefEqProofs (maxSteps := 2000000) (disch := first | with_reducible exact Nat.ne_of_beq_eq_false rfl | exact oneCell_int | exact oneCell_bool | omega | rfl | (simp; done) | fail) only [upd_ne, g3], by simp -implicitDefEqProofs (maxSteps := 2000000) (disch := first | with_reducible exact Nat.ne_of_beq_eq_false rfl | exact oneCell_int | exact oneCell_bool | omega | rfl | (simp; done) | fail) only [upd_eq] <;> rfl, ?_, rfl⟩
      rw [htk, List.mem_append, List.mem_singleton]
      rintro (h | rfl)
      · exact hni h
      · simp at hb
  · obtain rfl : i = C.po.length := by omega
    rw [List.take_of_length_le (Nat.le_refl _)] at hni
    show S34_k1 _ _ _ _
    unfold S34_k1
    simp -implicitDefEqProofs (maxSteps := 2000000) (disch := first | with_reducible exact Nat.ne_of_beq_eq_false rfl | exact oneCell_int | exact oneCell_bool | omega | rfl | (simp; done) | fail) only [retK_ret, resL_tmp, upd_eq, resL_nil1]
    refine ⟨?_, l1.trans l2⟩
    unfold portI
    rw [if_neg hni]

theorem rcells_spec {G h : Hp} {p : Pose} : HCalls Tryd.prog G 22 #[poseV p] h (fun u h' => ∃ b, u = .slice (some ⟨b, 0, none⟩) 2 2 ∧ h b = none ∧ G b = none ∧ h' = h.set b (.cells #[.int .i64 p.x, .int .i64 p.y, .int .i64 (east p).1, .int .i64 (east p).2] 28 (0, 0))) := by
  refine HCalls.assume fun d => HCalls.less (enter22 (by simp) (R := fun u h' => ∃ b, u = .slice (some ⟨b, 0, none⟩) 2 2 ∧ h b = none ∧ G b = none ∧ (h.set b (.cells #[.int .i64 p.x, .int .i64 p.y, .int .i64 (east p).1, .int .i64 (east p).2] 28 (0, 0))).le h') ?_) ?_
  rotate_left
  · rintro v h' ⟨b, e, h1, h2, h3⟩
    exact ⟨_, h3, b, e, h1, h2, rfl⟩
  unfold S22
  simp -implicitDefEqProofs (maxSteps := 2000000) (disch := first | with_reducible exact Nat.ne_of_beq_eq_false rfl | exact oneCell_int | exact oneCell_bool | omega | rfl | (simp; done) | fail) only [regs0, retK_ret, resL_tmp, upd_eq, resL_nil1, opH_sv, box_new, cells_agg, fa30_0, add_mk, Nat.add_zero, fa28_1, Nat.zero_add, ld3, fa28_0, ld28, fa30_1, ld4, cell_set_self, List.getElem?_cons_succ, List.getElem?_cons_zero, Option.some.injEq, exists_eq_left', bin_add, bd28_0_1, bs22_2_0_1]
  intro x hx gx
  generalize e1 : Hp.set h x _ = h1
  obtain ⟨l1, d1, b1⟩ := boxed e1 hx d gx
  have cx : ∀ k, cellIn G h1 ⟨x, k, none⟩ = _ := fun k => cell_of (look_own b1)
  try simp -implicitDefEqProofs (maxSteps := 2000000) (disch := first | with_reducible exact Nat.ne_of_beq_eq_false rfl | exact oneCell_int | exact oneCell_bool | omega | rfl | (simp; done) | fail) only [opH_sv, opH_su, pureW_sv, opH_nil, pureW_nil, pick_t, pick_f, pick_tp, pick_fp, gd_tt, gd_ft, gd_tf, gd_ff, box_new, regs0, regs1, regs2, regs3, regs4, regs5, regs6, cells_agg, cells_int, cells_bool, cells_ptr, cells_slice, cells_string, cells_func, cells_nilFunc, cells_map, retK_ret, retK_normal, resL_tmp, resL_cell, resL_nil0, resL_nil1, resL_nil2, resL_nil3, resC_ptr, ex0, ex1, ex2, ex0p, ex1p, ex2p, HL.cond_true, HL.cond_false, thenK_normal, thenK_ret, thenK_exit, blockK_normal, blockK_ret, blockK_exit, scopeK_normal, scopeK_ret, scopeK_exit, wpH_pure, bin_add, bin_sub, bin_mul, bin_lss, bin_leq, bin_gtr, bin_geq, bin_quo, bin_rem, bin_quop, bin_remp, wrap_in, bin_addp, bin_subp, bin_mulp, bin_lssp, bin_leqp, bin_gtrp, bin_geqp, un_not, un_notp, un_neg, eq_int, ne_int, eq_intp, ne_intp, callV_fn, add_mk, upd_eq, upd_ne, cell_set_self, Nat.zero_add, Nat.add_zero, Option.some.injEq, exists_eq_left', List.getElem?_cons_succ, List.getElem?_cons_zero, true_and, and_true, bne_self_eq_false, beq_self_eq_true, Bool.not_true, Bool.not_false, Bool.and_true, Bool.and_self, Bool.and_false, Bool.true_and, List.length_cons, List.length_nil, ne_eq, not_false_eq_true, Nat.reduceAdd, Nat.reduceMul, if_true, if_false, oneCell_int, oneCell_bool, oneCell_ptr, oneCell_slice, oneCell_string, oneCell_func, oneCell_map, Int.toNat_natCast, List.set_cons_zero, List.set_cons_succ, Nat.lt_irrefl, Nat.zero_lt_succ, Nat.succ_lt_succ_iff, fa26_0, fa26_0p, fa26_1, fa26_1p, fa26_10, fa26_10p, fa26_11, fa26_11p, fa26_12, fa26_12p, fa26_13, fa26_13p, fa26_14, fa26_14p, fa26_2, fa26_2p, fa26_3, fa26_3p, fa26_4, fa26_4p, fa26_5, fa26_5p, fa26_6, fa26_6p, fa26_7, fa26_7p, fa26_8, fa26_8p, fa26_9, fa26_9p, fa28_0, fa28_0p, fa28_1, fa28_1p, fa30_0, fa30_0p, fa30_1, fa30_1p, fa46_0, fa46_0p, fa46_1, fa46_1p, fa46_2, fa46_2p, fa46_3, fa46_3p, fa46_4, fa46_4p, fa46_5, fa46_5p, fa46_6, fa46_6p, fa86_0, fa86_0p, fa86_1, fa86_1p, fa86_2, fa86_2p, fa95_0, fa95_0p, fa95_1, fa95_1p, ld3, ld3p, ld4, ld4p, ld22, ld22p, ld23, ld23p, ld24, ld24p, ld26, ld26p, ld28, ld28p, ld30, ld30p, ld31, ld31p, ld46, ld46p, ld47, ld47p, ld52, ld52p, ld55, ld55p, ld57, ld57p, ld95, ld95p, st3s, st4s, st22s, st23s, st24s, st26w, st28w, st30w, st46w, st47s, st55s, st95w, ix22, ix22p, ix23, ix23p, ix24, ix24p, ix47, ix47p, ix56, ix56p, ix57, ix57p, ix101, ix101p, ln22, ln22p, ln23, ln23p, ln24, ln24p, ln47, ln47p, ln56, ln56p, ln57, ln57p, al22, al26, al28, al30, al46, al47, al95, cf14, cf15, cf16, cf17, cf18, cf19, cf20, cf21, cf22, cf23, cf24, cf25, cf26, cf27, cf28, cf29, cf30, cf31, cf32, cf33, cf34, cf35, cf36, cf37, cf38, cf39, cf40, cf41, cf42, cf43, cf44, cf45, cf46, cf47, cf48, cf49, cf50, cf51, cf52, cf53, cf54, cf55, cf56, cf57, cf58, cf59, cf60, cf61, cf62, cf63, cf64, cf65, cf66, cf67, cf68, cf69, cf70, cf71, cf72, cf73, cf74, cf75, cf76, cf77, cf78, cf79, cf80, bd26_0_1_2_7_8_9_10_11_12_13_14, bd26_0_1_2_7_8_9_10_11_12_13_14p, bd28_0, bd28_0p, bd28_0_1, bd28_0_1p, bd30_, bd30_p, bd30_0_1, bd30_0_1p, bd30_0, bd30_0p, bd46_0_1_2_3_4, bd46_0_1_2_3_4p, bd46_0_3_4, bd46_0_3_4p, bd86_0_1_2, bd86_0_1_2p, bd87_0_1_2_3, bd87_0_1_2_3p, bd95_0_1, bd95_0_1p, bs22_2_0_1, bs47_1_0, bs22_1_0, bs57_6_0_1_2_3_4_5, bs24_1_0, bs22_4_0_1_2_3, bs56_11_0_1_2_3_4_5_6_7_8_9_10, bs57_11_0_1_2_3_4_5_6_7_8_9_10, eq4, eq4p, eq28, eq28p, eq30, eq30p, eq31n, eq31np, eq31s, eq31sp, eq46, eq46p, eq50n, eq50np, eq50s, eq50sp, eq67n, eq67np, eq67s, eq67sp, ne4, ne4p, ne28, ne28p, ne30, ne30p, ne31n, ne31np, ne31s, ne31sp, ne46, ne46p, cx]
  unfold east wr
  cases hd : p.d with
  | true =>
    try simp -implicitDefEqProofs (maxSteps := 2000000) (disch := first | with_reducible exact Nat.ne_of_beq_eq_false rfl | exact oneCell_int | exact oneCell_bool | omega | rfl | (simp; done) | fail) only [if_true, HL.cond_true]
    intro b hb gb
    exact ⟨b, rfl, l1.none hb, gb, l1.both⟩
  | false =>
    try simp -implicitDefEqProofs (maxSteps := 2000000) (disch := first | with_reducible exact Nat.ne_of_beq_eq_false rfl | exact oneCell_int | exact oneCell_bool | omega | rfl | (simp; done) | fail) only [HL.cond_false]
    unfold S22_k1
    simp -implicitDefEqProofs (maxSteps := 2000000) (disch := first | with_reducible exact Nat.ne_of_beq_eq_false rfl | exact oneCell_int | exact oneCell_bool | omega | rfl | (simp; done) | fail) only [upd_ne, upd_eq, retK_ret, resL_tmp, resL_nil1, opH_sv, fa30_0, add_mk, Nat.add_zero, fa28_1, Nat.zero_add, ld3, fa28_0, ld28, cx, List.getElem?_cons_zero, Option.some.injEq, List.getElem?_cons_succ, exists_eq_left', bin_add, bd28_0_1, bs22_2_0_1]
    intro b hb gb
    exact ⟨b, rfl, l1.none hb, gb, l1.both⟩

theorem rfits_spec {G h : Hp} {v : Value} {C : Conf} {p : Pose} (hv : CV G h v C) (hL : C.bl.length ≤ 100000000000000) : HCalls Tryd.prog G 24 #[v, poseV p] h (fun u h' => u = .bool (fitsB C p) ∧ h' = h) := by
  obtain ⟨ab, cb, ap, cp, ar, cr, az, cs, rfl, ca⟩ := hv
  refine HCalls.assume fun d => quietly (enter24 (by simp) ?_)
  unfold S24
  simp -implicitDefEqProofs (maxSteps := 2000000) (disch := first | with_reducible exact Nat.ne_of_beq_eq_false rfl | exact oneCell_int | exact oneCell_bool | omega | rfl | (simp; done) | fail) only [regs0, regs1, retK_ret, resL_tmp, upd_eq, resL_nil1, cf32, pureW_sv, cf22, opH_sv, box_new, cells_agg, ld30, add_mk, Nat.add_zero, cell_set_self, List.getElem?_cons_zero, Option.some.injEq, Nat.zero_add, List.getElem?_cons_succ, exists_eq_left', ld26p]
  intro x hx gx
  generalize e1 : Hp.set h x _ = h1
  obtain ⟨l1, d1, b1⟩ := boxed e1 hx d gx
  intro y hy gy
  generalize e2 : Hp.set h1 y _ = h2
  obtain ⟨l2, d2, b2⟩ := boxed e2 hy d1 gy
  have cy : ∀ k, cellIn G h2 ⟨y, k, none⟩ = _ := fun k => cell_of (look_own b2)
  try simp -implicitDefEqProofs (maxSteps := 2000000) (disch := first | with_reducible exact Nat.ne_of_beq_eq_false rfl | exact oneCell_int | exact oneCell_bool | omega | rfl | (simp; done) | fail) only [opH_sv, opH_su, pureW_sv, opH_nil, pureW_nil, pick_t, pick_f, pick_tp, pick_fp, gd_tt, gd_ft, gd_tf, gd_ff, box_new, regs0, regs1, regs2, regs3, regs4, regs5, regs6, cells_agg, cells_int, cells_bool, cells_ptr, cells_slice, cells_string, cells_func, cells_nilFunc, cells_map, retK_ret, retK_normal, resL_tmp, resL_cell, resL_nil0, resL_nil1, resL_nil2, resL_nil3, resC_ptr, ex0, ex1, ex2, ex0p, ex1p, ex2p, HL.cond_true, HL.cond_false, thenK_normal, thenK_ret, thenK_exit, blockK_normal, blockK_ret, blockK_exit, scopeK_normal, scopeK_ret, scopeK_exit, wpH_pure, bin_add, bin_sub, bin_mul, bin_lss, bin_leq, bin_gtr, bin_geq, bin_quo, bin_rem, bin_quop, bin_remp, wrap_in, bin_addp, bin_subp, bin_mulp, bin_lssp, bin_leqp, bin_gtrp, bin_geqp, un_not, un_notp, un_neg, eq_int, ne_int, eq_intp, ne_intp, callV_fn, add_mk, upd_eq, upd_ne, cell_set_self, Nat.zero_add, Nat.add_zero, Option.some.injEq, exists_eq_left', List.getElem?_cons_succ, List.getElem?_cons_zero, true_and, and_true, bne_self_eq_false, beq_self_eq_true, Bool.not_true, Bool.not_false, Bool.and_true, Bool.and_self, Bool.and_false, Bool.true_and, List.length_cons, List.length_nil, ne_eq, not_false_eq_true, Nat.reduceAdd, Nat.reduceMul, if_true, if_false, oneCell_int, oneCell_bool, oneCell_ptr, oneCell_slice, oneCell_string, oneCell_func, oneCell_map, Int.toNat_natCast, List.set_cons_zero, List.set_cons_succ, Nat.lt_irrefl, Nat.zero_lt_succ, Nat.succ_lt_succ_iff, fa26_0, fa26_0p, fa26_1, fa26_1p, fa26_10, fa26_10p, fa26_11, fa26_11p, fa26_12, fa26_12p, fa26_13, fa26_13p, fa26_14, fa26_14p, fa26_2, fa26_2p, fa26_3, fa26_3p, fa26_4, fa26_4p, fa26_5, fa26_5p, fa26_6, fa26_6p, fa26_7, fa26_7p, fa26_8, fa26_8p, fa26_9, fa26_9p, fa28_0, fa28_0p, fa28_1, fa28_1p, fa30_0, fa30_0p, fa30_1, fa30_1p, fa46_0, fa46_0p, fa46_1, fa46_1p, fa46_2, fa46_2p, fa46_3, fa46_3p, fa46_4, fa46_4p, fa46_5, fa46_5p, fa46_6, fa46_6p, fa86_0, fa86_0p, fa86_1, fa86_1p, fa86_2, fa86_2p, fa95_0, fa95_0p, fa95_1, fa95_1p, ld3, ld3p, ld4, ld4p, ld22, ld22p, ld23, ld23p, ld24, ld24p, ld26, ld26p, ld28, ld28p, ld30, ld30p, ld31, ld31p, ld46, ld46p, ld47, ld47p, ld52, ld52p, ld55, ld55p, ld57, ld57p, ld95, ld95p, st3s, st4s, st22s, st23s, st24s, st26w, st28w, st30w, st46w, st47s, st55s, st95w, ix22, ix22p, ix23, ix23p, ix24, ix24p, ix47, ix47p, ix56, ix56p, ix57, ix57p, ix101, ix101p, ln22, ln22p, ln23, ln23p, ln24, ln24p, ln47, ln47p, ln56, ln56p, ln57, ln57p, al22, al26, al28, al30, al46, al47, al95, cf14, cf15, cf16, cf17, cf18, cf19, cf20, cf21, cf22, cf23, cf24, cf25, cf26, cf27, cf28, cf29, cf30, cf31, cf32, cf33, cf34, cf35, cf36, cf37, cf38, cf39, cf40, cf41, cf42, cf43, cf44, cf45, cf46, cf47, cf48, cf49, cf50, cf51, cf52, cf53, cf54, cf55, cf56, cf57, cf58, cf59, cf60, cf61, cf62, cf63, cf64, cf65, cf66, cf67, cf68, cf69, cf70, cf71, cf72, cf73, cf74, cf75, cf76, cf77, cf78, cf79, cf80, bd26_0_1_2_7_8_9_10_11_12_13_14, bd26_0_1_2_7_8_9_10_11_12_13_14p, bd28_0, bd28_0p, bd28_0_1, bd28_0_1p, bd30_, bd30_p, bd30_0_1, bd30_0_1p, bd30_0, bd30_0p, bd46_0_1_2_3_4, bd46_0_1_2_3_4p, bd46_0_3_4, bd46_0_3_4p, bd86_0_1_2, bd86_0_1_2p, bd87_0_1_2_3, bd87_0_1_2_3p, bd95_0_1, bd95_0_1p, bs22_2_0_1, bs47_1_0, bs22_1_0, bs57_6_0_1_2_3_4_5, bs24_1_0, bs22_4_0_1_2_3, bs56_11_0_1_2_3_4_5_6_7_8_9_10, bs57_11_0_1_2_3_4_5_6_7_8_9_10, eq4, eq4p, eq28, eq28p, eq30, eq30p, eq31n, eq31np, eq31s, eq31sp, eq46, eq46p, eq50n, eq50np, eq50s, eq50sp, eq67n, eq67np, eq67s, eq67sp, ne4, ne4p, ne28, ne28p, ne30, ne30p, ne31n, ne31np, ne31s, ne31sp, ne46, ne46p, cy]
  refine rcells_spec.mono ?_
  rintro _ _ ⟨b, rfl, hb, gb, rfl⟩
  generalize e3 : Hp.set h2 b _ = h3
  obtain ⟨l3, d3, b3⟩ := boxed e3 hb d2 gb
  have L := (l1.trans l2).trans l3
  have cx : ∀ k, cellIn G h3 ⟨x, k, none⟩ = _ := fun k => cell_of (look_own (l3 _ _ (l2 _ _ b1)))
  have cb3 : ∀ k, cellIn G h3 ⟨b, k, none⟩ = _ := fun k => cell_of (look_own b3)
  have ca3 := ca.up L d3
  try simp -implicitDefEqProofs (maxSteps := 2000000) (disch := first | with_reducible exact Nat.ne_of_beq_eq_false rfl | exact oneCell_int | exact oneCell_bool | omega | rfl | (simp; done) | fail) only [cx, List.getElem?_cons_zero, Option.some.injEq, List.getElem?_cons_succ, ix22p (by decide : (0 : Int) ≤ 0) (by decide : (0 : Int) < (2 : Nat)), Int.toNat_zero, Nat.zero_mul, add_mk, Nat.add_zero, ld28p, cb3, Nat.zero_add, exists_eq_left']
  refine (ropen_spec (c := (p.x, p.y)) ca3.cv hL).mono ?_
  rintro _ _ ⟨rfl, rfl⟩
  unfold fitsB
  cases hc : openB C (p.x, p.y) with
  | false => simp -implicitDefEqProofs (maxSteps := 2000000) (disch := first | with_reducible exact Nat.ne_of_beq_eq_false rfl | exact oneCell_int | exact oneCell_bool | omega | rfl | (simp; done) | fail) only [pick_fp, gd_ft]; exact ⟨rfl, L⟩
  | true =>
  try simp -implicitDefEqProofs (maxSteps := 2000000) (disch := first | with_reducible exact Nat.ne_of_beq_eq_false rfl | exact oneCell_int | exact oneCell_bool | omega | rfl | (simp; done) | fail) only [Bool.true_and, pick_tp, gd_tt, cf32, pureW_sv, ix22p (by decide : (0 : Int) ≤ 1) (by decide : (1 : Int) < (2 : Nat)), Int.toNat_one, Nat.one_mul, add_mk, Nat.zero_add, ld28p, Nat.add_zero, Nat.reduceAdd, cb3, List.getElem?_cons_succ, List.getElem?_cons_zero, Option.some.injEq, exists_eq_left', ld26p, cx]
  refine (ropen_spec (c := east p) ca3.cv hL).mono ?_
  rintro _ _ ⟨rfl, rfl⟩
  try simp -implicitDefEqProofs (maxSteps := 2000000) (disch := first | with_reducible exact Nat.ne_of_beq_eq_false rfl | exact oneCell_int | exact oneCell_bool | omega | rfl | (simp; done) | fail) only [true_and]
  first | exact L | exact ⟨by simp, L⟩

theorem rbeside_spec {G h : Hp} {v : Value} {C : Conf} {c : Cell} (hv : CV G h v C) (hL : C.bl.length ≤ 100000000000000) : HCalls Tryd.prog G 55 #[v, cellV c] h (fun u h' => u = .bool (besideB C c) ∧ h' = h) := by
  obtain ⟨ab, cb, ap, cp, ar, cr, az, cs, rfl, ca⟩ := hv
  refine HCalls.assume fun d => quietly (enter55 (by simp) ?_)
  unfold S55
  simp -implicitDefEqProofs (maxSteps := 2000000) (disch := first | with_reducible exact Nat.ne_of_beq_eq_false rfl | exact oneCell_int | exact oneCell_bool | omega | rfl | (simp; done) | fail) only [regs0, regs1, retK_ret, resL_tmp, upd_eq, resL_nil1, cf32, opH_sv, box_new, cells_agg, fa28_1, add_mk, Nat.zero_add, ld3, fa28_0, Nat.add_zero, ld26, cell_set_self, List.getElem?_cons_zero, Option.some.injEq, exists_eq_left', bin_add, List.getElem?_cons_succ, bd28_0_1]
  intro x hx gx
  generalize e1 : Hp.set h x _ = h1
  obtain ⟨l1, d1, b1⟩ := boxed e1 hx d gx
  intro y hy gy
  generalize e2 : Hp.set h1 y _ = h2
  obtain ⟨l2, d2, b2⟩ := boxed e2 hy d1 gy
  have L := l1.trans l2
  have cx : ∀ k, cellIn G h2 ⟨x, k, none⟩ = _ := fun k => cell_of (look_own (l2 _ _ b1))
  have cy : ∀ k, cellIn G h2 ⟨y, k, none⟩ = _ := fun k => cell_of (look_own b2)
  have ca2 := ca.up L d2
  try simp -implicitDefEqProofs (maxSteps := 2000000) (disch := first | with_reducible exact Nat.ne_of_beq_eq_false rfl | exact oneCell_int | exact oneCell_bool | omega | rfl | (simp; done) | fail) only [cx, List.getElem?_cons_zero, Option.some.injEq, List.getElem?_cons_succ, exists_eq_left']
  refine (ropen_spec (c := (IntKind.i64.wrap (c.1 + 1), c.2)) ca2.cv hL).mono ?_
  rintro _ _ ⟨rfl, rfl⟩
  unfold besideB wr
  cases hc : openB C (IntKind.i64.wrap (c.1 + 1), c.2) with
  | true => simp -implicitDefEqProofs (maxSteps := 2000000) (disch := first | with_reducible exact Nat.ne_of_beq_eq_false rfl | exact oneCell_int | exact oneCell_bool | omega | rfl | (simp; done) | fail) only [pick_t, gd_tf]; first | exact L | exact ⟨rfl, L⟩
  | false =>
  try simp -implicitDefEqProofs (maxSteps := 2000000) (disch := first | with_reducible exact Nat.ne_of_beq_eq_false rfl | exact oneCell_int | exact oneCell_bool | omega | rfl | (simp; done) | fail) only [pick_f, gd_ff, cf32, opH_sv, fa28_1, add_mk, Nat.zero_add, ld3, fa28_0, Nat.add_zero, ld26, cx, List.getElem?_cons_zero, Option.some.injEq, List.getElem?_cons_succ, cy, exists_eq_left', bin_add, bd28_0_1]
  refine (ropen_spec (c := (c.1, IntKind.i64.wrap (c.2 + 1))) ca2.cv hL).mono ?_
  rintro _ _ ⟨rfl, rfl⟩
  try simp -implicitDefEqProofs (maxSteps := 2000000) (disch := first | with_reducible exact Nat.ne_of_beq_eq_false rfl | exact oneCell_int | exact oneCell_bool | omega | rfl | (simp; done) | fail) only [opH_sv, opH_su, pureW_sv, opH_nil, pureW_nil, pick_t, pick_f, pick_tp, pick_fp, gd_tt, gd_ft, gd_tf, gd_ff, box_new, regs0, regs1, regs2, regs3, regs4, regs5, regs6, cells_agg, cells_int, cells_bool, cells_ptr, cells_slice, cells_string, cells_func, cells_nilFunc, cells_map, retK_ret, retK_normal, resL_tmp, resL_cell, resL_nil0, resL_nil1, resL_nil2, resL_nil3, resC_ptr, ex0, ex1, ex2, ex0p, ex1p, ex2p, HL.cond_true, HL.cond_false, thenK_normal, thenK_ret, thenK_exit, blockK_normal, blockK_ret, blockK_exit, scopeK_normal, scopeK_ret, scopeK_exit, wpH_pure, bin_add, bin_sub, bin_mul, bin_lss, bin_leq, bin_gtr, bin_geq, bin_quo, bin_rem, bin_quop, bin_remp, wrap_in, bin_addp, bin_subp, bin_mulp, bin_lssp, bin_leqp, bin_gtrp, bin_geqp, un_not, un_notp, un_neg, eq_int, ne_int, eq_intp, ne_intp, callV_fn, add_mk, upd_eq, upd_ne, cell_set_self, Nat.zero_add, Nat.add_zero, Option.some.injEq, exists_eq_left', List.getElem?_cons_succ, List.getElem?_cons_zero, true_and, and_true, bne_self_eq_false, beq_self_eq_true, Bool.not_true, Bool.not_false, Bool.and_true, Bool.and_self, Bool.and_false, Bool.true_and, List.length_cons, List.length_nil, ne_eq, not_false_eq_true, Nat.reduceAdd, Nat.reduceMul, if_true, if_false, oneCell_int, oneCell_bool, oneCell_ptr, oneCell_slice, oneCell_string, oneCell_func, oneCell_map, Int.toNat_natCast, List.set_cons_zero, List.set_cons_succ, Nat.lt_irrefl, Nat.zero_lt_succ, Nat.succ_lt_succ_iff, fa26_0, fa26_0p, fa26_1, fa26_1p, fa26_10, fa26_10p, fa26_11, fa26_11p, fa26_12, fa26_12p, fa26_13, fa26_13p, fa26_14, fa26_14p, fa26_2, fa26_2p, fa26_3, fa26_3p, fa26_4, fa26_4p, fa26_5, fa26_5p, fa26_6, fa26_6p, fa26_7, fa26_7p, fa26_8, fa26_8p, fa26_9, fa26_9p, fa28_0, fa28_0p, fa28_1, fa28_1p, fa30_0, fa30_0p, fa30_1, fa30_1p, fa46_0, fa46_0p, fa46_1, fa46_1p, fa46_2, fa46_2p, fa46_3, fa46_3p, fa46_4, fa46_4p, fa46_5, fa46_5p, fa46_6, fa46_6p, fa86_0, fa86_0p, fa86_1, fa86_1p, fa86_2, fa86_2p, fa95_0, fa95_0p, fa95_1, fa95_1p, ld3, ld3p, ld4, ld4p, ld22, ld22p, ld23, ld23p, ld24, ld24p, ld26, ld26p, ld28, ld28p, ld30, ld30p, ld31, ld31p, ld46, ld46p, ld47, ld47p, ld52, ld52p, ld55, ld55p, ld57, ld57p, ld95, ld95p, st3s, st4s, st22s, st23s, st24s, st26w, st28w, st30w, st46w, st47s, st55s, st95w, ix22, ix22p, ix23, ix23p, ix24, ix24p, ix47, ix47p, ix56, ix56p, ix57, ix57p, ix101, ix101p, ln22, ln22p, ln23, ln23p, ln24, ln24p, ln47, ln47p, ln56, ln56p, ln57, ln57p, al22, al26, al28, al30, al46, al47, al95, cf14, cf15, cf16, cf17, cf18, cf19, cf20, cf21, cf22, cf23, cf24, cf25, cf26, cf27, cf28, cf29, cf30, cf31, cf32, cf33, cf34, cf35, cf36, cf37, cf38, cf39, cf40, cf41, cf42, cf43, cf44, cf45, cf46, cf47, cf48, cf49, cf50, cf51, cf52, cf53, cf54, cf55, cf56, cf57, cf58, cf59, cf60, cf61, cf62, cf63, cf64, cf65, cf66, cf67, cf68, cf69, cf70, cf71, cf72, cf73, cf74, cf75, cf76, cf77, cf78, cf79, cf80, bd26_0_1_2_7_8_9_10_11_12_13_14, bd26_0_1_2_7_8_9_10_11_12_13_14p, bd28_0, bd28_0p, bd28_0_1, bd28_0_1p, bd30_, bd30_p, bd30_0_1, bd30_0_1p, bd30_0, bd30_0p, bd46_0_1_2_3_4, bd46_0_1_2_3_4p, bd46_0_3_4, bd46_0_3_4p, bd86_0_1_2, bd86_0_1_2p, bd87_0_1_2_3, bd87_0_1_2_3p, bd95_0_1, bd95_0_1p, bs22_2_0_1, bs47_1_0, bs22_1_0, bs57_6_0_1_2_3_4_5, bs24_1_0, bs22_4_0_1_2_3, bs56_11_0_1_2_3_4_5_6_7_8_9_10, bs57_11_0_1_2_3_4_5_6_7_8_9_10, eq4, eq4p, eq28, eq28p, eq30, eq30p, eq31n, eq31np, eq31s, eq31sp, eq46, eq46p, eq50n, eq50np, eq50s, eq50sp, eq67n, eq67np, eq67s, eq67sp, ne4, ne4p, ne28, ne28p, ne30, ne30p, ne31n, ne31np, ne31s, ne31sp, ne46, ne46p]
  first | exact L | exact ⟨by simp, L⟩

theorem rhome_spec {G h : Hp} {v : Value} {C : Conf} {c : Cell} (hv : CV G h v C) (hL : C.ro.length ≤ 100000000000000) : HCalls Tryd.prog G 54 #[v, cellV c] h (fun u h' => u = .bool (homeB C c) ∧ h' = h) := by
  obtain ⟨ab, cb, ap, cp, ar, cr, az, cs, rfl, ca⟩ := hv
  refine HCalls.assume fun d => quietly (enter54 (by simp) ?_)
  unfold S54
  simp -implicitDefEqProofs (maxSteps := 2000000) (disch := first | with_reducible exact Nat.ne_of_beq_eq_false rfl | exact oneCell_int | exact oneCell_bool | omega | rfl | (simp; done) | fail) only [regs0, regs1, opH_sv, box_new, cells_agg]
  intro x hx gx
  generalize e1 : Hp.set h x _ = h1
  obtain ⟨l1, d1, b1⟩ := boxed e1 hx d gx
  intro y hy gy
  generalize e2 : Hp.set h1 y _ = h2
  obtain ⟨l2, d2, b2⟩ := boxed e2 hy d1 gy
  have L := l1.trans l2
  have b1' := l2 _ _ b1
  have ca2 := ca.up L d2
  refine loop_I (fun m r h3 => ∃ i : Nat, m = C.ro.length - i ∧ i ≤ C.ro.length ∧ r 2 = .pointer (some ⟨x, 0, none⟩) ∧ r 3 = .pointer (some ⟨y, 0, none⟩) ∧ r 5 = .int .i64 i ∧ ((C.ro.take i).any fun p => decide (((cellsP p).count c : Int) > 0)) = false ∧ h2.le h3 ∧ Dis G h3) ?_
    (m := C.ro.length) ⟨0, rfl, Nat.zero_le _, by simp -implicitDefEqProofs (maxSteps := 2000000) (disch := first | with_reducible exact Nat.ne_of_beq_eq_false rfl | exact oneCell_int | exact oneCell_bool | omega | rfl | (simp; done) | fail) only [upd_ne, upd_eq], by simp -implicitDefEqProofs (maxSteps := 2000000) (disch := first | with_reducible exact Nat.ne_of_beq_eq_false rfl | exact oneCell_int | exact oneCell_bool | omega | rfl | (simp; done) | fail) only [upd_ne, upd_eq], by simp -implicitDefEqProofs (maxSteps := 2000000) (disch := first | with_reducible exact Nat.ne_of_beq_eq_false rfl | exact oneCell_int | exact oneCell_bool | omega | rfl | (simp; done) | fail) only [upd_eq] <;> rfl, by simp, Hp.le.refl _, d2⟩
  rintro m r h3 ⟨i, rfl, hi, g2, g3, g5, hni, l3, d3⟩ X HX
  have cx : ∀ k, cellIn G h3 ⟨x, k, none⟩ = _ := fun k => cell_of (look_own (l3 _ _ b1'))
  unfold S54_l2
  simp -implicitDefEqProofs (maxSteps := 2000000) (disch := first | with_reducible exact Nat.ne_of_beq_eq_false rfl | exact oneCell_int | exact oneCell_bool | omega | rfl | (simp; done) | fail) only [g2, g5, thenK_exit, blockK_exit, thenK_normal, if_true, opH_sv, fa26_5, add_mk, Nat.zero_add, ld23, cx, List.getElem?_cons_succ, List.getElem?_cons_zero, Option.some.injEq, exists_eq_left', ln23, bin_lss]
  refine cond_dec (fun hlt => ?_) (fun hge => ?_)
  · have hlt' : i < C.ro.length := by omega
    obtain ⟨z, hz⟩ : ∃ x, C.ro[i]? = some x := ⟨_, List.getElem?_eq_getElem hlt'⟩
    have ca3 := ca2.up l3 d3
    obtain ⟨b, o, rfl, y0, y1, y2⟩ := Sees.pose ca3.ro hz
    have htk : C.ro.take (i + 1) = C.ro.take i ++ [z] := by rw [List.take_add_one, hz]; rfl
    unfold S54_l2_k3
    refine ⟨h3, Hp.le.refl _, ?_⟩
    simp -implicitDefEqProofs (maxSteps := 2000000) (disch := first | with_reducible exact Nat.ne_of_beq_eq_false rfl | exact oneCell_int | exact oneCell_bool | omega | rfl | (simp; done) | fail) only [upd_ne, g2, g5, g3, thenK_ret, blockK_ret, retK_ret, resL_tmp, upd_eq, resL_nil1, pureW_sv, cf53, ld28p, add_mk, Nat.add_zero, Nat.zero_add, cf22, fa26_5p, ld23p, cx, List.getElem?_cons_succ, List.getElem?_cons_zero, Option.some.injEq, exists_eq_left', ix23p (Int.natCast_nonneg i) hlt, Int.toNat_natCast, ld30p, y0, y1, y2]
    refine (rcells_spec (p := z)).mono ?_
    rintro _ _ ⟨b', rfl, hb, gb, rfl⟩
    generalize e4 : Hp.set h3 b' _ = h4
    obtain ⟨l4, d4, b4⟩ := boxed e4 hb d3 gb
    have cy : ∀ k, cellIn G h3 ⟨y, k, none⟩ = _ := fun k => cell_of (look_own (l3 _ _ b2))
    refine ⟨l4, ?_⟩
    try simp -implicitDefEqProofs (maxSteps := 2000000) (disch := first | with_reducible exact Nat.ne_of_beq_eq_false rfl | exact oneCell_int | exact oneCell_bool | omega | rfl | (simp; done) | fail) only [cy, List.getElem?_cons_zero, Option.some.injEq, List.getElem?_cons_succ, exists_eq_left']
    refine (among_spec (L := cellsP z) (c := c) (Sees.row b4 rfl (Nat.le_refl _)) (by simp [cellsP])).mono ?_
    rintro _ _ ⟨rfl, rfl⟩
    try simp -implicitDefEqProofs (maxSteps := 2000000) (disch := first | with_reducible exact Nat.ne_of_beq_eq_false rfl | exact oneCell_int | exact oneCell_bool | omega | rfl | (simp; done) | fail) only [bin_gtrp]
    cases hb : decide (((cellsP z).count c : Int) > 0) with
    | true =>
      try simp -implicitDefEqProofs (maxSteps := 2000000) (disch := first | with_reducible exact Nat.ne_of_beq_eq_false rfl | exact oneCell_int | exact oneCell_bool | omega | rfl | (simp; done) | fail) only [HL.cond_true]
      refine ⟨?_, (L.trans l3).trans l4⟩
      unfold homeB
      congr 1
      symm
      rw [List.any_eq_true]
      exact ⟨z, List.mem_of_getElem? hz, hb⟩
    | false =>
      try simp -implicitDefEqProofs (maxSteps := 2000000) (disch := first | with_reducible exact Nat.ne_of_beq_eq_false rfl | exact oneCell_int | exact oneCell_bool | omega | rfl | (simp; done) | fail) only [HL.cond_false]
      unfold S54_l2_k4
      simp -implicitDefEqProofs (maxSteps := 2000000) (disch := first | with_reducible exact Nat.ne_of_beq_eq_false rfl | exact oneCell_int | exact oneCell_bool | omega | rfl | (simp; done) | fail) only [upd_ne, g5, thenK_normal, opH_sv, bin_add, wrap_in]
      refine HX (C.ro.length - (i + 1)) _ _ (by omega) ⟨i + 1, rfl, hlt', by simp -implicitDefEqProofs (maxSteps := 2000000) (disch := first | with_reducible exact Nat.ne_of_beq_eq_false rfl | exact oneCell_int | exact oneCell_bool | omega | rfl | (simp; done) | fail) only [upd_ne, g2], by simp -implicitDefEqProofs (maxSteps := 2000000) (disch := first | with_reducible exact Nat.ne_of_beq_eq_false rfl | exact oneCell_int | exact oneCell_bool | omega | rfl | (simp; done) | fail) only [upd_ne, g3], by simp -implicitDefEqProofs (maxSteps := 2000000) (disch := first | with_reducible exact Nat.ne_of_beq_eq_false rfl | exact oneCell_int | exact oneCell_bool | omega | rfl | (simp; done) | fail) only [upd_eq] <;> rfl, ?_, l3.trans l4, d4⟩
      rw [htk, List.any_append, hni]
      simp only [List.any_cons, List.any_nil, hb]
      rfl
  · obtain rfl : i = C.ro.length := by omega
    rw [List.take_of_length_le (Nat.le_refl _)] at hni
    show S54_k1 _ _ _ _
    unfold S54_k1
    simp -implicitDefEqProofs (maxSteps := 2000000) (disch := first | with_reducible exact Nat.ne_of_beq_eq_false rfl | exact oneCell_int | exact oneCell_bool | omega | rfl | (simp; done) | fail) only [retK_ret, resL_tmp, upd_eq, resL_nil1]
    refine ⟨?_, L.trans l3⟩
    unfold homeB
    rw [hni]

theorem rstacked_spec {G h : Hp} {v : Value} {C : Conf} {c : Cell} (hv : CV G h v C) (hL : C.bl.length ≤ 100000000000000) (hP : C.po.length ≤ 100000000000000) (hR : C.ro.length ≤ 100000000000000) : HCalls Tryd.prog G 36 #[v, cellV c] h (fun u h' => u = .bool (stackedB C c) ∧ h' = h) := by
  obtain ⟨ab, cb, ap, cp, ar, cr, az, cs, rfl, ca⟩ := hv
  refine HCalls.assume fun d => quietly (enter36 (by simp) ?_)
  unfold S36
  simp -implicitDefEqProofs (maxSteps := 2000000) (disch := first | with_reducible exact Nat.ne_of_beq_eq_false rfl | exact oneCell_int | exact oneCell_bool | omega | rfl | (simp; done) | fail) only [regs0, regs1, retK_ret, resL_tmp, upd_eq, resL_nil1, cf32, opH_sv, box_new, cells_agg, ld28, add_mk, Nat.add_zero, Nat.zero_add, ld26, cell_set_self, List.getElem?_cons_zero, Option.some.injEq, List.getElem?_cons_succ, exists_eq_left']
  intro x hx gx
  generalize e1 : Hp.set h x _ = h1
  obtain ⟨l1, d1, b1⟩ := boxed e1 hx d gx
  intro y hy gy
  generalize e2 : Hp.set h1 y _ = h2
  obtain ⟨l2, d2, b2⟩ := boxed e2 hy d1 gy
  have L := l1.trans l2
  have cx : ∀ k, cellIn G h2 ⟨x, k, none⟩ = _ := fun k => cell_of (look_own (l2 _ _ b1))
  have cy : ∀ k, cellIn G h2 ⟨y, k, none⟩ = _ := fun k => cell_of (look_own b2)
  have ca2 := ca.up L d2
  unfold stackedB
  try simp -implicitDefEqProofs (maxSteps := 2000000) (disch := first | with_reducible exact Nat.ne_of_beq_eq_false rfl | exact oneCell_int | exact oneCell_bool | omega | rfl | (simp; done) | fail) only [cx, List.getElem?_cons_zero, Option.some.injEq, List.getElem?_cons_succ, exists_eq_left']
  refine (ropen_spec ca2.cv hL).mono ?_
  rintro _ _ ⟨rfl, rfl⟩
  cases hc : openB C c with
  | false => simp -implicitDefEqProofs (maxSteps := 2000000) (disch := first | with_reducible exact Nat.ne_of_beq_eq_false rfl | exact oneCell_int | exact oneCell_bool | omega | rfl | (simp; done) | fail) only [pick_f, gd_ft]; exact ⟨by simp, L⟩
  | true =>
  try simp -implicitDefEqProofs (maxSteps := 2000000) (disch := first | with_reducible exact Nat.ne_of_beq_eq_false rfl | exact oneCell_int | exact oneCell_bool | omega | rfl | (simp; done) | fail) only [Bool.true_and, pick_t, gd_tt, opH_sv, cf34, ld28, add_mk, Nat.add_zero, Nat.zero_add, ld26, cx, List.getElem?_cons_zero, Option.some.injEq, List.getElem?_cons_succ, cy, exists_eq_left']
  refine (rport_spec ca2.cv hP).mono ?_
  rintro _ _ ⟨rfl, rfl⟩
  try simp -implicitDefEqProofs (maxSteps := 2000000) (disch := first | with_reducible exact Nat.ne_of_beq_eq_false rfl | exact oneCell_int | exact oneCell_bool | omega | rfl | (simp; done) | fail) only [bin_lss]
  cases hc2 : decide (portI C c < 0) with
  | false => simp -implicitDefEqProofs (maxSteps := 2000000) (disch := first | with_reducible exact Nat.ne_of_beq_eq_false rfl | exact oneCell_int | exact oneCell_bool | omega | rfl | (simp; done) | fail) only [pick_f, gd_ft]; exact ⟨by simp, L⟩
  | true =>
  try simp -implicitDefEqProofs (maxSteps := 2000000) (disch := first | with_reducible exact Nat.ne_of_beq_eq_false rfl | exact oneCell_int | exact oneCell_bool | omega | rfl | (simp; done) | fail) only [Bool.true_and, pick_t, gd_tt, opH_sv, cf54, ld28, add_mk, Nat.add_zero, Nat.zero_add, ld26, cx, List.getElem?_cons_zero, Option.some.injEq, List.getElem?_cons_succ, cy, exists_eq_left']
  refine (rhome_spec ca2.cv hR).mono ?_
  rintro _ _ ⟨rfl, rfl⟩
  try simp -implicitDefEqProofs (maxSteps := 2000000) (disch := first | with_reducible exact Nat.ne_of_beq_eq_false rfl | exact oneCell_int | exact oneCell_bool | omega | rfl | (simp; done) | fail) only [un_not]
  cases hc3 : homeB C c with
  | true => simp -implicitDefEqProofs (maxSteps := 2000000) (disch := first | with_reducible exact Nat.ne_of_beq_eq_false rfl | exact oneCell_int | exact oneCell_bool | omega | rfl | (simp; done) | fail) only [Bool.not_true, pick_f, gd_ft]; exact ⟨by simp, L⟩
  | false =>
  try simp -implicitDefEqProofs (maxSteps := 2000000) (disch := first | with_reducible exact Nat.ne_of_beq_eq_false rfl | exact oneCell_int | exact oneCell_bool | omega | rfl | (simp; done) | fail) only [Bool.not_false, Bool.true_and, pick_t, gd_tt, cf55, opH_sv, ld28, add_mk, Nat.add_zero, Nat.zero_add, ld26, cx, List.getElem?_cons_zero, Option.some.injEq, List.getElem?_cons_succ, cy, exists_eq_left']
  refine (rbeside_spec ca2.cv hL).mono ?_
  rintro _ _ ⟨rfl, rfl⟩
  try simp -implicitDefEqProofs (maxSteps := 2000000) (disch := first | with_reducible exact Nat.ne_of_beq_eq_false rfl | exact oneCell_int | exact oneCell_bool | omega | rfl | (simp; done) | fail) only [true_and]
  first | exact L | exact ⟨by simp, L⟩

end Go.Proofs.YtnpdploihlgcgaaDoor
