/- The program's grid of a config. -/
import Derived.Test.YtnpdploihlgcgaaDoorGM
set_option linter.unusedSimpArgs false
set_option linter.unusedVariables false
set_option maxRecDepth 100000
namespace Go.Proofs.YtnpdploihlgcgaaDoor
open Go Go.HL

def wC (C : Conf) : Nat := C.w.toNat
def kC (C : Conf) : Nat := C.h.toNat
def f0C (C : Conf) : Nat → Nat → Int := kd (C.bl ++ C.po) C.bl.length
def f3C (C : Conf) : Nat → Nat → Int := f2 (wC C) (kC C) (f0C C) (C.ro.flatMap cellsP)

structure MadeOk (C : Conf) : Prop where
  six : ∀ n ∈ [C.un, C.ac, C.sp, C.tu, C.ho, C.re], withinB n 1 1000 = true
  ht : withinB C.ht 1 8 = true
  qu : withinB C.qu 1 16 = true
  bu : withinB C.bu 1 1048576 = true
  laid : LaidOk C
  rob : RobotsOk (wC C) (kC C) (f0C C) C.ro
  sta : StacksOk (wC C) (kC C) (f3C C) C.ht C.st

def MadeR (G h : Hp) (C : Conf) (u : Value) (h' : Hp) : Prop := h.le h' ∧ Dis G h' ∧
  ((MadeOk C ∧ ∃ ga gp kb, u = .pointer (some ⟨gp, 0, none⟩) ∧ GO ga gp kb (wC C) (kC C) (f3C C) ∧ Sep [ga, h] h') ∨ (¬ MadeOk C ∧ u = .pointer none))

theorem CA.gstk {G h h0 a : Hp} {C : Conf} {ab : Option Addr} {cb : Nat} {ap : Option Addr} {cp : Nat} {ar : Option Addr} {cr : Nat} {az : Option Addr} {cs : Nat} (ca : CA G h0 C ab cb ap cp ar cr az cs) (s : Sep [a, h0] h) (d : Dis G h) : GStk (under G h a) (.slice az C.st.length cs) C.st := by
  obtain ⟨raw, h1, h2⟩ := ca.st
  refine ⟨raw, h1.gnd s d, ?_, fun i r t hr ht => ?_⟩
  · obtain ⟨sa, c, e⟩ := h1.len
    simp only [Value.slice.injEq] at e
    exact e.2.1.symm
  · obtain ⟨k1, k2, k3⟩ := h2 i r t hr ht
    exact ⟨k1, k2, k3.gnd s d⟩

set_option maxHeartbeats 2000000 in
theorem made_spec {G h : Hp} {v : Value} {C : Conf} (hv : CV G h v C) (st : Steps G) (hp : ∀ p ∈ C.ro, PB p) (hsl : C.st.length ≤ 100000000000000) : HCalls Tryd.prog G 49 #[v] h (MadeR G h C) := by
  obtain ⟨ab, cb, ap, cp, ar, cr, az, cs, rfl, ca⟩ := hv
  refine HCalls.assume fun d => enter49 (by simp) ?_
  unfold S49
  simp -implicitDefEqProofs (maxSteps := 2000000) (disch := first | with_reducible exact Nat.ne_of_beq_eq_false rfl | exact oneCell_int | exact oneCell_bool | omega | rfl | (simp; done) | fail) only [regs0, opH_sv, box_new, cells_agg, fa26_13, add_mk, Nat.zero_add, ld3, fa26_11, fa26_10, fa26_9, fa26_8, fa26_7, cell_set_self, List.getElem?_cons_succ, List.getElem?_cons_zero, Option.some.injEq, exists_eq_left', bs57_6_0_1_2_3_4_5, ln57]
  intro x hx gx
  generalize e1 : Hp.set h x _ = h1
  obtain ⟨l1, d1, b1⟩ := boxed e1 hx d gx
  have cx : ∀ j, cellIn G h1 ⟨x, j, none⟩ = _ := fun j => cell_of (look_own b1)
  try simp -implicitDefEqProofs (maxSteps := 2000000) (disch := first | with_reducible exact Nat.ne_of_beq_eq_false rfl | exact oneCell_int | exact oneCell_bool | omega | rfl | (simp; done) | fail) only [opH_sv, opH_su, pureW_sv, opH_nil, pureW_nil, pick_t, pick_f, pick_tp, pick_fp, gd_tt, gd_ft, gd_tf, gd_ff, box_new, regs0, regs1, regs2, regs3, regs4, regs5, regs6, cells_agg, cells_int, cells_bool, cells_ptr, cells_slice, cells_string, cells_func, cells_nilFunc, cells_map, retK_ret, retK_normal, resL_tmp, resL_cell, resL_nil0, resL_nil1, resL_nil2, resL_nil3, resC_ptr, ex0, ex1, ex2, ex0p, ex1p, ex2p, HL.cond_true, HL.cond_false, thenK_normal, thenK_ret, thenK_exit, blockK_normal, blockK_ret, blockK_exit, scopeK_normal, scopeK_ret, scopeK_exit, wpH_pure, bin_add, bin_sub, bin_mul, bin_lss, bin_leq, bin_gtr, bin_geq, bin_quo, bin_rem, bin_quop, bin_remp, wrap_in, bin_addp, bin_subp, bin_mulp, bin_lssp, bin_leqp, bin_gtrp, bin_geqp, un_not, un_notp, un_neg, eq_int, ne_int, eq_intp, ne_intp, callV_fn, add_mk, upd_eq, upd_ne, cell_set_self, Nat.zero_add, Nat.add_zero, Option.some.injEq, exists_eq_left', List.getElem?_cons_succ, List.getElem?_cons_zero, true_and, and_true, bne_self_eq_false, beq_self_eq_true, Bool.not_true, Bool.not_false, Bool.and_true, Bool.and_self, Bool.and_false, Bool.true_and, List.length_cons, List.length_nil, ne_eq, not_false_eq_true, Nat.reduceAdd, Nat.reduceMul, if_true, if_false, oneCell_int, oneCell_bool, oneCell_ptr, oneCell_slice, oneCell_string, oneCell_func, oneCell_map, Int.toNat_natCast, List.set_cons_zero, List.set_cons_succ, Nat.lt_irrefl, Nat.zero_lt_succ, Nat.succ_lt_succ_iff, fa26_0, fa26_0p, fa26_1, fa26_1p, fa26_10, fa26_10p, fa26_11, fa26_11p, fa26_12, fa26_12p, fa26_13, fa26_13p, fa26_14, fa26_14p, fa26_2, fa26_2p, fa26_3, fa26_3p, fa26_4, fa26_4p, fa26_5, fa26_5p, fa26_6, fa26_6p, fa26_7, fa26_7p, fa26_8, fa26_8p, fa26_9, fa26_9p, fa28_0, fa28_0p, fa28_1, fa28_1p, fa30_0, fa30_0p, fa30_1, fa30_1p, fa46_0, fa46_0p, fa46_1, fa46_1p, fa46_2, fa46_2p, fa46_3, fa46_3p, fa46_4, fa46_4p, fa46_5, fa46_5p, fa46_6, fa46_6p, fa86_0, fa86_0p, fa86_1, fa86_1p, fa86_2, fa86_2p, fa95_0, fa95_0p, fa95_1, fa95_1p, ld3, ld3p, ld4, ld4p, ld22, ld22p, ld23, ld23p, ld24, ld24p, ld26, ld26p, ld28, ld28p, ld30, ld30p, ld31, ld31p, ld46, ld46p, ld47, ld47p, ld52, ld52p, ld55, ld55p, ld57, ld57p, ld95, ld95p, st3s, st4s, st22s, st23s, st24s, st26w, st28w, st30w, st46w, st47s, st55s, st95w, ix22, ix22p, ix23, ix23p, ix24, ix24p, ix47, ix47p, ix56, ix56p, ix57, ix57p, ix101, ix101p, ln22, ln22p, ln23, ln23p, ln24, ln24p, ln47, ln47p, ln56, ln56p, ln57, ln57p, al22, al26, al28, al30, al46, al47, al95, cf14, cf15, cf16, cf17, cf18, cf19, cf20, cf21, cf22, cf23, cf24, cf25, cf26, cf27, cf28, cf29, cf30, cf31, cf32, cf33, cf34, cf35, cf36, cf37, cf38, cf39, cf40, cf41, cf42, cf43, cf44, cf45, cf46, cf47, cf48, cf49, cf50, cf51, cf52, cf53, cf54, cf55, cf56, cf57, cf58, cf59, cf60, cf61, cf62, cf63, cf64, cf65, cf66, cf67, cf68, cf69, cf70, cf71, cf72, cf73, cf74, cf75, cf76, cf77, cf78, cf79, cf80, bd26_0_1_2_7_8_9_10_11_12_13_14, bd26_0_1_2_7_8_9_10_11_12_13_14p, bd28_0, bd28_0p, bd28_0_1, bd28_0_1p, bd30_, bd30_p, bd30_0_1, bd30_0_1p, bd30_0, bd30_0p, bd46_0_1_2_3_4, bd46_0_1_2_3_4p, bd46_0_3_4, bd46_0_3_4p, bd86_0_1_2, bd86_0_1_2p, bd87_0_1_2_3, bd87_0_1_2_3p, bd95_0_1, bd95_0_1p, bs22_2_0_1, bs47_1_0, bs22_1_0, bs57_6_0_1_2_3_4_5, bs24_1_0, bs22_4_0_1_2_3, bs56_11_0_1_2_3_4_5_6_7_8_9_10, bs57_11_0_1_2_3_4_5_6_7_8_9_10, eq4, eq4p, eq28, eq28p, eq30, eq30p, eq31n, eq31np, eq31s, eq31sp, eq46, eq46p, eq50n, eq50np, eq50s, eq50sp, eq67n, eq67np, eq67s, eq67sp, ne4, ne4p, ne28, ne28p, ne30, ne30p, ne31n, ne31np, ne31s, ne31sp, ne46, ne46p, cx]
  intro nb hnb gnb
  generalize e2 : Hp.set h1 nb _ = h2
  obtain ⟨l2, d2, b2⟩ := boxed e2 hnb d1 gnb
  have L2 := l1.trans l2
  have cx2 : ∀ j, cellIn G h2 ⟨x, j, none⟩ = _ := fun j => cell_of (look_own (l2 _ _ b1))
  have sv : Sees icC G h2 (.slice (some ⟨nb, 0, none⟩) 6 6) [C.un, C.ac, C.sp, C.tu, C.ho, C.re] := Sees.row (c := icC) (L := [C.un, C.ac, C.sp, C.tu, C.ho, C.re]) b2 rfl (Nat.le_refl _)
  have no : ∀ {hh : Hp}, ¬ MadeOk C → h.le hh → Dis G hh → MadeR G h C (.pointer none) hh := fun q l d => ⟨l, d, .inr ⟨q, rfl⟩⟩
  try simp -implicitDefEqProofs (maxSteps := 2000000) (disch := first | with_reducible exact Nat.ne_of_beq_eq_false rfl | exact oneCell_int | exact oneCell_bool | omega | rfl | (simp; done) | fail) only [opH_sv, opH_su, pureW_sv, opH_nil, pureW_nil, pick_t, pick_f, pick_tp, pick_fp, gd_tt, gd_ft, gd_tf, gd_ff, box_new, regs0, regs1, regs2, regs3, regs4, regs5, regs6, cells_agg, cells_int, cells_bool, cells_ptr, cells_slice, cells_string, cells_func, cells_nilFunc, cells_map, retK_ret, retK_normal, resL_tmp, resL_cell, resL_nil0, resL_nil1, resL_nil2, resL_nil3, resC_ptr, ex0, ex1, ex2, ex0p, ex1p, ex2p, HL.cond_true, HL.cond_false, thenK_normal, thenK_ret, thenK_exit, blockK_normal, blockK_ret, blockK_exit, scopeK_normal, scopeK_ret, scopeK_exit, wpH_pure, bin_add, bin_sub, bin_mul, bin_lss, bin_leq, bin_gtr, bin_geq, bin_quo, bin_rem, bin_quop, bin_remp, wrap_in, bin_addp, bin_subp, bin_mulp, bin_lssp, bin_leqp, bin_gtrp, bin_geqp, un_not, un_notp, un_neg, eq_int, ne_int, eq_intp, ne_intp, callV_fn, add_mk, upd_eq, upd_ne, cell_set_self, Nat.zero_add, Nat.add_zero, Option.some.injEq, exists_eq_left', List.getElem?_cons_succ, List.getElem?_cons_zero, true_and, and_true, bne_self_eq_false, beq_self_eq_true, Bool.not_true, Bool.not_false, Bool.and_true, Bool.and_self, Bool.and_false, Bool.true_and, List.length_cons, List.length_nil, ne_eq, not_false_eq_true, Nat.reduceAdd, Nat.reduceMul, if_true, if_false, oneCell_int, oneCell_bool, oneCell_ptr, oneCell_slice, oneCell_string, oneCell_func, oneCell_map, Int.toNat_natCast, List.set_cons_zero, List.set_cons_succ, Nat.lt_irrefl, Nat.zero_lt_succ, Nat.succ_lt_succ_iff, fa26_0, fa26_0p, fa26_1, fa26_1p, fa26_10, fa26_10p, fa26_11, fa26_11p, fa26_12, fa26_12p, fa26_13, fa26_13p, fa26_14, fa26_14p, fa26_2, fa26_2p, fa26_3, fa26_3p, fa26_4, fa26_4p, fa26_5, fa26_5p, fa26_6, fa26_6p, fa26_7, fa26_7p, fa26_8, fa26_8p, fa26_9, fa26_9p, fa28_0, fa28_0p, fa28_1, fa28_1p, fa30_0, fa30_0p, fa30_1, fa30_1p, fa46_0, fa46_0p, fa46_1, fa46_1p, fa46_2, fa46_2p, fa46_3, fa46_3p, fa46_4, fa46_4p, fa46_5, fa46_5p, fa46_6, fa46_6p, fa86_0, fa86_0p, fa86_1, fa86_1p, fa86_2, fa86_2p, fa95_0, fa95_0p, fa95_1, fa95_1p, ld3, ld3p, ld4, ld4p, ld22, ld22p, ld23, ld23p, ld24, ld24p, ld26, ld26p, ld28, ld28p, ld30, ld30p, ld31, ld31p, ld46, ld46p, ld47, ld47p, ld52, ld52p, ld55, ld55p, ld57, ld57p, ld95, ld95p, st3s, st4s, st22s, st23s, st24s, st26w, st28w, st30w, st46w, st47s, st55s, st95w, ix22, ix22p, ix23, ix23p, ix24, ix24p, ix47, ix47p, ix56, ix56p, ix57, ix57p, ix101, ix101p, ln22, ln22p, ln23, ln23p, ln24, ln24p, ln47, ln47p, ln56, ln56p, ln57, ln57p, al22, al26, al28, al30, al46, al47, al95, cf14, cf15, cf16, cf17, cf18, cf19, cf20, cf21, cf22, cf23, cf24, cf25, cf26, cf27, cf28, cf29, cf30, cf31, cf32, cf33, cf34, cf35, cf36, cf37, cf38, cf39, cf40, cf41, cf42, cf43, cf44, cf45, cf46, cf47, cf48, cf49, cf50, cf51, cf52, cf53, cf54, cf55, cf56, cf57, cf58, cf59, cf60, cf61, cf62, cf63, cf64, cf65, cf66, cf67, cf68, cf69, cf70, cf71, cf72, cf73, cf74, cf75, cf76, cf77, cf78, cf79, cf80, bd26_0_1_2_7_8_9_10_11_12_13_14, bd26_0_1_2_7_8_9_10_11_12_13_14p, bd28_0, bd28_0p, bd28_0_1, bd28_0_1p, bd30_, bd30_p, bd30_0_1, bd30_0_1p, bd30_0, bd30_0p, bd46_0_1_2_3_4, bd46_0_1_2_3_4p, bd46_0_3_4, bd46_0_3_4p, bd86_0_1_2, bd86_0_1_2p, bd87_0_1_2_3, bd87_0_1_2_3p, bd95_0_1, bd95_0_1p, bs22_2_0_1, bs47_1_0, bs22_1_0, bs57_6_0_1_2_3_4_5, bs24_1_0, bs22_4_0_1_2_3, bs56_11_0_1_2_3_4_5_6_7_8_9_10, bs57_11_0_1_2_3_4_5_6_7_8_9_10, eq4, eq4p, eq28, eq28p, eq30, eq30p, eq31n, eq31np, eq31s, eq31sp, eq46, eq46p, eq50n, eq50np, eq50s, eq50sp, eq67n, eq67np, eq67s, eq67sp, ne4, ne4p, ne28, ne28p, ne30, ne30p, ne31n, ne31np, ne31s, ne31sp, ne46, ne46p]
  refine loop_I (fun m r h3 => ∃ j : Nat, m = 6 - j ∧ j ≤ 6 ∧ r 1 = .pointer (some ⟨x, 0, none⟩) ∧ r 19 = .slice (some ⟨nb, 0, none⟩) 6 6 ∧ r 20 = .int .i64 6 ∧ r 21 = .int .i64 j ∧ h3 = h2 ∧ ∀ n ∈ [C.un, C.ac, C.sp, C.tu, C.ho, C.re].take j, withinB n 1 1000 = true) ?_
    (m := 6) ⟨0, rfl, by decide, by simp -implicitDefEqProofs (maxSteps := 2000000) (disch := first | with_reducible exact Nat.ne_of_beq_eq_false rfl | exact oneCell_int | exact oneCell_bool | omega | rfl | (simp; done) | fail) only [upd_ne, upd_eq], by simp -implicitDefEqProofs (maxSteps := 2000000) (disch := first | with_reducible exact Nat.ne_of_beq_eq_false rfl | exact oneCell_int | exact oneCell_bool | omega | rfl | (simp; done) | fail) only [upd_ne, upd_eq], by simp -implicitDefEqProofs (maxSteps := 2000000) (disch := first | with_reducible exact Nat.ne_of_beq_eq_false rfl | exact oneCell_int | exact oneCell_bool | omega | rfl | (simp; done) | fail) only [upd_ne, upd_eq] <;> rfl, by simp -implicitDefEqProofs (maxSteps := 2000000) (disch := first | with_reducible exact Nat.ne_of_beq_eq_false rfl | exact oneCell_int | exact oneCell_bool | omega | rfl | (simp; done) | fail) only [upd_eq] <;> rfl, rfl, by simp⟩
  rintro m r h3 ⟨j, rfl, hj, g1, g19, g20, g21, rfl, hw⟩ X HX
  unfold S49_l4
  simp -implicitDefEqProofs (maxSteps := 2000000) (disch := first | with_reducible exact Nat.ne_of_beq_eq_false rfl | exact oneCell_int | exact oneCell_bool | omega | rfl | (simp; done) | fail) only [g21, g20, thenK_exit, blockK_exit, thenK_normal, if_true, opH_sv, bin_lss]
  refine cond_dec (fun hlt => ?_) (fun hge => ?_)
  · have hlt' : j < 6 := by omega
    obtain ⟨y, hy⟩ : ∃ n, [C.un, C.ac, C.sp, C.tu, C.ho, C.re][j]? = some n := ⟨_, List.getElem?_eq_getElem (by simpa using hlt')⟩
    obtain ⟨b, o, eb, z0⟩ := Sees.int sv hy
    cases eb
    rw [Nat.zero_add] at z0
    unfold S49_l4_k5
    simp -implicitDefEqProofs (maxSteps := 2000000) (disch := first | with_reducible exact Nat.ne_of_beq_eq_false rfl | exact oneCell_int | exact oneCell_bool | omega | rfl | (simp; done) | fail) only [upd_ne, g19, g21, thenK_ret, blockK_ret, retK_ret, resL_tmp, upd_eq, resL_nil1, opH_sv, cf57, ix57 (Int.natCast_nonneg j) (show (j : Int) < (6 : Nat) by omega), Int.toNat_natCast, Nat.mul_one, add_mk, Nat.zero_add, ld3, z0, Option.some.injEq, exists_eq_left']
    refine (within_spec (n := y) (a := 1) (b := 1000)).mono ?_
    rintro _ h3 ⟨rfl, rfl⟩
    cases hb : withinB y 1 1000 with
    | false =>
      try simp -implicitDefEqProofs (maxSteps := 2000000) (disch := first | with_reducible exact Nat.ne_of_beq_eq_false rfl | exact oneCell_int | exact oneCell_bool | omega | rfl | (simp; done) | fail) only [un_not, Bool.not_false, HL.cond_true]
      exact no (fun q => by have := q.six y (List.mem_of_getElem? hy); rw [hb] at this; cases this) L2 d2
    | true =>
      try simp -implicitDefEqProofs (maxSteps := 2000000) (disch := first | with_reducible exact Nat.ne_of_beq_eq_false rfl | exact oneCell_int | exact oneCell_bool | omega | rfl | (simp; done) | fail) only [un_not, Bool.not_true, HL.cond_false]
      unfold S49_l4_k6
      simp -implicitDefEqProofs (maxSteps := 2000000) (disch := first | with_reducible exact Nat.ne_of_beq_eq_false rfl | exact oneCell_int | exact oneCell_bool | omega | rfl | (simp; done) | fail) only [upd_ne, g21, thenK_normal, opH_sv, bin_add, wrap_in]
      refine HX (6 - (j + 1)) _ _ (by omega) ⟨j + 1, rfl, hlt', by simp -implicitDefEqProofs (maxSteps := 2000000) (disch := first | with_reducible exact Nat.ne_of_beq_eq_false rfl | exact oneCell_int | exact oneCell_bool | omega | rfl | (simp; done) | fail) only [upd_ne, g1], by simp -implicitDefEqProofs (maxSteps := 2000000) (disch := first | with_reducible exact Nat.ne_of_beq_eq_false rfl | exact oneCell_int | exact oneCell_bool | omega | rfl | (simp; done) | fail) only [upd_ne, g19], by simp -implicitDefEqProofs (maxSteps := 2000000) (disch := first | with_reducible exact Nat.ne_of_beq_eq_false rfl | exact oneCell_int | exact oneCell_bool | omega | rfl | (simp; done) | fail) only [upd_ne, g20], by simp -implicitDefEqProofs (maxSteps := 2000000) (disch := first | with_reducible exact Nat.ne_of_beq_eq_false rfl | exact oneCell_int | exact oneCell_bool | omega | rfl | (simp; done) | fail) only [upd_eq] <;> rfl, rfl, ?_⟩
      rw [take_get hy]
      intro c hc
      rcases List.mem_append.1 hc with q | q
      · exact hw c q
      · simp at q; rw [q]; exact hb
  obtain rfl : j = 6 := by omega
  rw [List.take_of_length_le (by simp)] at hw
  try simp -implicitDefEqProofs (maxSteps := 2000000) (disch := first | with_reducible exact Nat.ne_of_beq_eq_false rfl | exact oneCell_int | exact oneCell_bool | omega | rfl | (simp; done) | fail) only [opH_sv, opH_su, pureW_sv, opH_nil, pureW_nil, pick_t, pick_f, pick_tp, pick_fp, gd_tt, gd_ft, gd_tf, gd_ff, box_new, regs0, regs1, regs2, regs3, regs4, regs5, regs6, cells_agg, cells_int, cells_bool, cells_ptr, cells_slice, cells_string, cells_func, cells_nilFunc, cells_map, retK_ret, retK_normal, resL_tmp, resL_cell, resL_nil0, resL_nil1, resL_nil2, resL_nil3, resC_ptr, ex0, ex1, ex2, ex0p, ex1p, ex2p, HL.cond_true, HL.cond_false, thenK_normal, thenK_ret, thenK_exit, blockK_normal, blockK_ret, blockK_exit, scopeK_normal, scopeK_ret, scopeK_exit, wpH_pure, bin_add, bin_sub, bin_mul, bin_lss, bin_leq, bin_gtr, bin_geq, bin_quo, bin_rem, bin_quop, bin_remp, wrap_in, bin_addp, bin_subp, bin_mulp, bin_lssp, bin_leqp, bin_gtrp, bin_geqp, un_not, un_notp, un_neg, eq_int, ne_int, eq_intp, ne_intp, callV_fn, add_mk, upd_eq, upd_ne, cell_set_self, Nat.zero_add, Nat.add_zero, Option.some.injEq, exists_eq_left', List.getElem?_cons_succ, List.getElem?_cons_zero, true_and, and_true, bne_self_eq_false, beq_self_eq_true, Bool.not_true, Bool.not_false, Bool.and_true, Bool.and_self, Bool.and_false, Bool.true_and, List.length_cons, List.length_nil, ne_eq, not_false_eq_true, Nat.reduceAdd, Nat.reduceMul, if_true, if_false, oneCell_int, oneCell_bool, oneCell_ptr, oneCell_slice, oneCell_string, oneCell_func, oneCell_map, Int.toNat_natCast, List.set_cons_zero, List.set_cons_succ, Nat.lt_irrefl, Nat.zero_lt_succ, Nat.succ_lt_succ_iff, fa26_0, fa26_0p, fa26_1, fa26_1p, fa26_10, fa26_10p, fa26_11, fa26_11p, fa26_12, fa26_12p, fa26_13, fa26_13p, fa26_14, fa26_14p, fa26_2, fa26_2p, fa26_3, fa26_3p, fa26_4, fa26_4p, fa26_5, fa26_5p, fa26_6, fa26_6p, fa26_7, fa26_7p, fa26_8, fa26_8p, fa26_9, fa26_9p, fa28_0, fa28_0p, fa28_1, fa28_1p, fa30_0, fa30_0p, fa30_1, fa30_1p, fa46_0, fa46_0p, fa46_1, fa46_1p, fa46_2, fa46_2p, fa46_3, fa46_3p, fa46_4, fa46_4p, fa46_5, fa46_5p, fa46_6, fa46_6p, fa86_0, fa86_0p, fa86_1, fa86_1p, fa86_2, fa86_2p, fa95_0, fa95_0p, fa95_1, fa95_1p, ld3, ld3p, ld4, ld4p, ld22, ld22p, ld23, ld23p, ld24, ld24p, ld26, ld26p, ld28, ld28p, ld30, ld30p, ld31, ld31p, ld46, ld46p, ld47, ld47p, ld52, ld52p, ld55, ld55p, ld57, ld57p, ld95, ld95p, st3s, st4s, st22s, st23s, st24s, st26w, st28w, st30w, st46w, st47s, st55s, st95w, ix22, ix22p, ix23, ix23p, ix24, ix24p, ix47, ix47p, ix56, ix56p, ix57, ix57p, ix101, ix101p, ln22, ln22p, ln23, ln23p, ln24, ln24p, ln47, ln47p, ln56, ln56p, ln57, ln57p, al22, al26, al28, al30, al46, al47, al95, cf14, cf15, cf16, cf17, cf18, cf19, cf20, cf21, cf22, cf23, cf24, cf25, cf26, cf27, cf28, cf29, cf30, cf31, cf32, cf33, cf34, cf35, cf36, cf37, cf38, cf39, cf40, cf41, cf42, cf43, cf44, cf45, cf46, cf47, cf48, cf49, cf50, cf51, cf52, cf53, cf54, cf55, cf56, cf57, cf58, cf59, cf60, cf61, cf62, cf63, cf64, cf65, cf66, cf67, cf68, cf69, cf70, cf71, cf72, cf73, cf74, cf75, cf76, cf77, cf78, cf79, cf80, bd26_0_1_2_7_8_9_10_11_12_13_14, bd26_0_1_2_7_8_9_10_11_12_13_14p, bd28_0, bd28_0p, bd28_0_1, bd28_0_1p, bd30_, bd30_p, bd30_0_1, bd30_0_1p, bd30_0, bd30_0p, bd46_0_1_2_3_4, bd46_0_1_2_3_4p, bd46_0_3_4, bd46_0_3_4p, bd86_0_1_2, bd86_0_1_2p, bd87_0_1_2_3, bd87_0_1_2_3p, bd95_0_1, bd95_0_1p, bs22_2_0_1, bs47_1_0, bs22_1_0, bs57_6_0_1_2_3_4_5, bs24_1_0, bs22_4_0_1_2_3, bs56_11_0_1_2_3_4_5_6_7_8_9_10, bs57_11_0_1_2_3_4_5_6_7_8_9_10, eq4, eq4p, eq28, eq28p, eq30, eq30p, eq31n, eq31np, eq31s, eq31sp, eq46, eq46p, eq50n, eq50np, eq50s, eq50sp, eq67n, eq67np, eq67s, eq67sp, ne4, ne4p, ne28, ne28p, ne30, ne30p, ne31n, ne31np, ne31s, ne31sp, ne46, ne46p]
  unfold S49_k1
  try simp -implicitDefEqProofs (maxSteps := 2000000) (disch := first | with_reducible exact Nat.ne_of_beq_eq_false rfl | exact oneCell_int | exact oneCell_bool | omega | rfl | (simp; done) | fail) only [upd_ne, g1, retK_ret, resL_tmp, upd_eq, resL_nil1, opH_sv, cf57, fa26_2, add_mk, Nat.zero_add, ld3, cx2, List.getElem?_cons_succ, List.getElem?_cons_zero, Option.some.injEq, exists_eq_left']
  refine (within_spec (n := C.ht) (a := 1) (b := 8)).mono ?_
  rintro _ h3 ⟨rfl, rfl⟩
  cases hht : withinB C.ht 1 8 with
  | false => try simp -implicitDefEqProofs (maxSteps := 2000000) (disch := first | with_reducible exact Nat.ne_of_beq_eq_false rfl | exact oneCell_int | exact oneCell_bool | omega | rfl | (simp; done) | fail) only [un_not, Bool.not_false, pick_t, HL.cond_true, gd_tf]; exact no (fun q => absurd (q.ht.symm.trans hht) (by decide)) L2 d2
  | true =>
  try simp -implicitDefEqProofs (maxSteps := 2000000) (disch := first | with_reducible exact Nat.ne_of_beq_eq_false rfl | exact oneCell_int | exact oneCell_bool | omega | rfl | (simp; done) | fail) only [un_not, Bool.not_true, pick_f, gd_ff, opH_sv, cf57, fa26_12, add_mk, Nat.zero_add, ld3, cx2, List.getElem?_cons_succ, List.getElem?_cons_zero, Option.some.injEq, exists_eq_left']
  refine (within_spec (n := C.qu) (a := 1) (b := 16)).mono ?_
  rintro _ h3 ⟨rfl, rfl⟩
  cases hqu : withinB C.qu 1 16 with
  | false => try simp -implicitDefEqProofs (maxSteps := 2000000) (disch := first | with_reducible exact Nat.ne_of_beq_eq_false rfl | exact oneCell_int | exact oneCell_bool | omega | rfl | (simp; done) | fail) only [un_not, Bool.not_false, pick_t, HL.cond_true, gd_tf]; exact no (fun q => absurd (q.qu.symm.trans hqu) (by decide)) L2 d2
  | true =>
  try simp -implicitDefEqProofs (maxSteps := 2000000) (disch := first | with_reducible exact Nat.ne_of_beq_eq_false rfl | exact oneCell_int | exact oneCell_bool | omega | rfl | (simp; done) | fail) only [un_not, Bool.not_true, pick_f, gd_ff, opH_sv, cf57, fa26_14, add_mk, Nat.zero_add, ld3, cx2, List.getElem?_cons_succ, List.getElem?_cons_zero, Option.some.injEq, exists_eq_left']
  refine (within_spec (n := C.bu) (a := 1) (b := 1048576)).mono ?_
  rintro _ h3 ⟨rfl, rfl⟩
  cases hbu : withinB C.bu 1 1048576 with
  | false => try simp -implicitDefEqProofs (maxSteps := 2000000) (disch := first | with_reducible exact Nat.ne_of_beq_eq_false rfl | exact oneCell_int | exact oneCell_bool | omega | rfl | (simp; done) | fail) only [un_not, Bool.not_false, HL.cond_true]; exact no (fun q => absurd (q.bu.symm.trans hbu) (by decide)) L2 d2
  | true =>
  try simp -implicitDefEqProofs (maxSteps := 2000000) (disch := first | with_reducible exact Nat.ne_of_beq_eq_false rfl | exact oneCell_int | exact oneCell_bool | omega | rfl | (simp; done) | fail) only [un_not, Bool.not_true, HL.cond_false]
  unfold S49_k2
  try simp -implicitDefEqProofs (maxSteps := 2000000) (disch := first | with_reducible exact Nat.ne_of_beq_eq_false rfl | exact oneCell_int | exact oneCell_bool | omega | rfl | (simp; done) | fail) only [upd_ne, g1, retK_ret, resL_tmp, upd_eq, resL_nil1, opH_sv, cf72, ld26, add_mk, Nat.add_zero, cx2, List.getElem?_cons_zero, Option.some.injEq, Nat.zero_add, List.getElem?_cons_succ, exists_eq_left']
  have ca2 := ca.up L2 d2
  refine (laid_spec ca2.cv).mono ?_
  rintro _ h4 ⟨l4, d4, ⟨hl, ga, gp, kb, rfl, go, s4⟩ | ⟨hl, rfl⟩⟩
  rotate_left
  · try simp -implicitDefEqProofs (maxSteps := 2000000) (disch := first | with_reducible exact Nat.ne_of_beq_eq_false rfl | exact oneCell_int | exact oneCell_bool | omega | rfl | (simp; done) | fail) only [ex1, un_not, Bool.not_false, pick_t, HL.cond_true, gd_tf, ex0]
    exact no (fun q => hl q.laid) (L2.trans l4) d4
  have cx4 : ∀ j, cellIn G h4 ⟨x, j, none⟩ = _ := fun j => cell_of (look_own (l4 _ _ (l2 _ _ b1)))
  try simp -implicitDefEqProofs (maxSteps := 2000000) (disch := first | with_reducible exact Nat.ne_of_beq_eq_false rfl | exact oneCell_int | exact oneCell_bool | omega | rfl | (simp; done) | fail) only [ex1, un_not, Bool.not_true, pick_f, gd_ff, opH_sv, cf73, fa26_5, add_mk, Nat.zero_add, ld23, ex0, cx4, List.getElem?_cons_succ, List.getElem?_cons_zero, Option.some.injEq, exists_eq_left']
  refine (s4.on (robots_spec (w := wC C) (k := kC C) (f := f0C C) go (st.under d4 s4.hd) (ca2.ro.gnd s4 d4) hp)).mono ?_
  rintro _ h5 ⟨ga5, ⟨hr, rfl, go5⟩ | ⟨hr, rfl⟩, s5, d5⟩
  rotate_left
  · try simp -implicitDefEqProofs (maxSteps := 2000000) (disch := first | with_reducible exact Nat.ne_of_beq_eq_false rfl | exact oneCell_int | exact oneCell_bool | omega | rfl | (simp; done) | fail) only [un_not, Bool.not_false, pick_t, HL.cond_true, gd_tf]
    exact no (fun q => hr q.rob) (L2.trans (s5.in 1 rfl)) d5
  have cx5 : ∀ j, cellIn G h5 ⟨x, j, none⟩ = _ := fun j => cell_of (look_own (s5.in 1 rfl _ _ (l2 _ _ b1)))
  try simp -implicitDefEqProofs (maxSteps := 2000000) (disch := first | with_reducible exact Nat.ne_of_beq_eq_false rfl | exact oneCell_int | exact oneCell_bool | omega | rfl | (simp; done) | fail) only [un_not, Bool.not_true, pick_f, gd_ff, opH_sv, cf74, fa26_2, add_mk, Nat.zero_add, ld3, fa26_6, ld24, cx5, List.getElem?_cons_succ, List.getElem?_cons_zero, Option.some.injEq, exists_eq_left']
  have hht8 : C.ht ≤ 8 := by unfold withinB at hht; simp only [Bool.and_eq_true, decide_eq_true_eq] at hht; exact hht.2
  refine (s5.on (stacks_spec (st := C.st) go5 (ca2.gstk s5 d5) hht8 hsl)).mono ?_
  rintro _ h6 ⟨ga6, ⟨hs, rfl, go6⟩ | ⟨hs, rfl⟩, s6, d6⟩
  rotate_left
  · try simp -implicitDefEqProofs (maxSteps := 2000000) (disch := first | with_reducible exact Nat.ne_of_beq_eq_false rfl | exact oneCell_int | exact oneCell_bool | omega | rfl | (simp; done) | fail) only [un_not, Bool.not_false, HL.cond_true]
    exact no (fun q => hs q.sta) (L2.trans (s6.in 1 rfl)) d6
  try simp -implicitDefEqProofs (maxSteps := 2000000) (disch := first | with_reducible exact Nat.ne_of_beq_eq_false rfl | exact oneCell_int | exact oneCell_bool | omega | rfl | (simp; done) | fail) only [un_not, Bool.not_true, HL.cond_false]
  unfold S49_k3
  try simp -implicitDefEqProofs (maxSteps := 2000000) (disch := first | with_reducible exact Nat.ne_of_beq_eq_false rfl | exact oneCell_int | exact oneCell_bool | omega | rfl | (simp; done) | fail) only [upd_ne, upd_eq, retK_ret, resL_tmp, resL_nil1]
  exact ⟨L2.trans (s6.in 1 rfl), d6, .inl ⟨⟨hw, hht, hqu, hbu, hl, hr, hs⟩, ga6, gp, kb, rfl, go6, (s6.swap.cut L2).swap⟩⟩

end Go.Proofs.YtnpdploihlgcgaaDoor
