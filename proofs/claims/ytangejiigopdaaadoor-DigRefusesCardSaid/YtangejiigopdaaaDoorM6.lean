/- Texts of the proof, one behind the other. -/
import Derived.Test.YtangejiigopdaaaDoorM5
import Derived.Test.YtangejiigopdaaaDoorM4
import Derived.Test.YtangejiigopdaaaDoorH3
section
/- Rows that are the same; stacks copied; the document's example. -/
set_option linter.unusedSimpArgs false
set_option linter.unusedVariables false
set_option maxRecDepth 100000
namespace Go.Proofs.YtangejiigopdaaaDoor
open Go Go.HL

/-- Stacks copied. -/
theorem copystk_spec {G h : Hp} {v : Value} {S : List Stk} (hss : StS G h v S) (hst : Room S.length 40) (hb : ∀ s ∈ S, Room s.2.length 8) : HCalls Tryd.prog G 11 #[v] h (fun u h' => ∃ pz, StkO pz u S ∧ HL.Sep [pz, h] h' ∧ Dis G h') := by
  obtain ⟨a, cap, rfl, raw, sr, srr⟩ := hss
  have ca : CA G h { Cz with st := S } none 0 none 0 none 0 a cap := ⟨⟨none, 0, rfl, Nat.le_refl _, .inl rfl⟩, ⟨none, 0, rfl, Nat.le_refl _, .inl rfl⟩, ⟨none, 0, rfl, Nat.le_refl _, .inl rfl⟩, raw, sr, srr⟩
  exact copystacks_spec ca hst hb
theorem StkO.st {pz : Hp} {v : Value} {S : List Stk} (o : StkO pz v S) {G h2 : Hp} (l : pz.le h2) : StS G h2 v S := by
  obtain ⟨sz, cz, e0⟩ := o.len
  obtain ⟨raws, pr', pb', o, t, e, rel⟩ := o
  subst e0
  refine ⟨sz, cz, rfl, raws, o.sees (by decide) ((t.in 0 rfl).trans l), fun i r x h1 h2 => ?_⟩
  obtain ⟨a, b, c⟩ := rel i r x h1 h2
  exact ⟨a, b, c.sees (by decide) ((t.in 1 rfl).trans l)⟩

def C1 : Conf := ⟨3, 2, 3, [], [(2, 0)], [], [], 1, 1, 1, 1, 1, 1, 1, 1, true⟩
theorem made1 : MadeOk C1 := by
  rw [made_may]
  refine ⟨rfl, by decide, by decide, by decide, fun c hc => by simp [C1] at hc, fun c hc => ?_, fun c hc => by simp [C1] at hc, fun c hc => by simp [C1] at hc, ?_⟩
  · simp [C1] at hc
    subst hc
    decide +kernel
  · exact ⟨by simp [C1], by simp [C1], by simp [C1], by simp [C1], by simp [C1], by simp [C1]⟩
theorem jobs1 : (jobsR C1 [((0, 0), [7, 8, 9])] [] 7 (2, 0)).2 = 0 ∧ (jobsR C1 [((0, 0), [7, 8, 9])] [] 7 (2, 0)).1.map (fun j => (j.kind, j.bin)) = [(1, 9), (1, 8), (2, 7), (3, 8), (3, 9)] := by decide +kernel

theorem conf1_spec {G h : Hp} : HCalls Tryd.prog G 25 #[] h (fun u h' => ∃ pb, u = confV C1 none 0 (some ⟨pb, 0, none⟩) 1 none 0 none 0 ∧ h.le h' ∧ Dis G h' ∧ h' pb = some (.cells #[.int .i64 2, .int .i64 0] 28 (0, 0))) := by
  refine HCalls.assume fun d => enter25 (by simp) ?_
  unfold S25
  simp -implicitDefEqProofs only [retK_ret, resL_cell, upd_ne, upd_eq, resL_nil1, opH_su, opH_sv, bd28_0, bs22_1_0, bd26_0_1_2_7_8_9_10_11_12_13_14_4_15, al26, resC_ptr, ld26, add_mk, Nat.add_zero, Nat.zero_add]
  intro x hx gx
  generalize e1 : Hp.set h x _ = h1
  obtain ⟨l1, d1, b1⟩ := boxed e1 hx d gx
  try simp -implicitDefEqProofs only [opH_sv, opH_su, pureW_sv, opH_nil, pureW_nil, pick_t, pick_f, pick_tp, pick_fp, gd_tt, gd_ft, gd_tf, gd_ff, box_new, regs0, regs1, regs2, regs3, regs4, regs5, regs6, cells_agg, cells_int, cells_bool, cells_ptr, cells_slice, cells_string, cells_func, cells_nilFunc, cells_map, retK_ret, retK_normal, resL_tmp, resL_cell, resL_nil0, resL_nil1, resL_nil2, resL_nil3, resC_ptr, ex0, ex1, ex2, ex0p, ex1p, ex2p, HL.cond_true, HL.cond_false, thenK_normal, thenK_ret, thenK_exit, blockK_normal, blockK_ret, blockK_exit, scopeK_normal, scopeK_ret, scopeK_exit, wpH_pure, bin_add, bin_sub, bin_mul, bin_lss, bin_leq, bin_gtr, bin_geq, bin_quo, bin_rem, bin_quop, bin_remp, wrap_in, bin_addp, bin_subp, bin_mulp, bin_lssp, bin_leqp, bin_gtrp, bin_geqp, un_not, un_notp, un_neg, eq_int, ne_int, eq_intp, ne_intp, callV_fn, add_mk, upd_eq, upd_ne, cell_set_self, Nat.zero_add, Nat.add_zero, Option.some.injEq, exists_eq_left', List.getElem?_cons_succ, List.getElem?_cons_zero, true_and, and_true, bne_self_eq_false, beq_self_eq_true, Bool.not_true, Bool.not_false, Bool.and_true, Bool.and_self, Bool.and_false, Bool.true_and, List.length_cons, List.length_nil, ne_eq, not_false_eq_true, Nat.reduceAdd, Nat.reduceMul, if_true, if_false, oneCell_int, oneCell_bool, oneCell_ptr, oneCell_slice, oneCell_string, oneCell_func, oneCell_map, Int.toNat_natCast, List.set_cons_zero, List.set_cons_succ, Nat.lt_irrefl, Nat.zero_lt_succ, Nat.succ_lt_succ_iff, fa26_0, fa26_0p, fa26_1, fa26_1p, fa26_10, fa26_10p, fa26_11, fa26_11p, fa26_12, fa26_12p, fa26_13, fa26_13p, fa26_14, fa26_14p, fa26_15, fa26_15p, fa26_2, fa26_2p, fa26_3, fa26_3p, fa26_4, fa26_4p, fa26_5, fa26_5p, fa26_6, fa26_6p, fa26_7, fa26_7p, fa26_8, fa26_8p, fa26_9, fa26_9p, fa28_0, fa28_0p, fa28_1, fa28_1p, fa45_0, fa45_0p, fa45_1, fa45_1p, fa45_2, fa45_2p, fa45_3, fa45_3p, fa45_4, fa45_4p, fa45_5, fa45_5p, fa45_6, fa45_6p, fa49_0, fa49_0p, fa49_1, fa49_1p, fa74_0, fa74_0p, fa74_1, fa74_1p, fa74_2, fa74_2p, fa74_3, fa74_3p, fa85_0, fa85_0p, fa85_1, fa85_1p, fa93_0, fa93_0p, fa93_1, fa93_1p, fa93_2, fa93_2p, ld3, ld3p, ld4, ld4p, ld22, ld22p, ld23, ld23p, ld24, ld24p, ld26, ld26p, ld28, ld28p, ld42, ld42p, ld45, ld45p, ld49, ld49p, ld58, ld58p, ld69, ld69p, ld72, ld72p, ld85, ld85p, st3s, st4s, st22s, st23s, st24s, st26w, st28w, st42s, st45w, st49w, st85w, ix22, ix22p, ix23, ix23p, ix24, ix24p, ix31, ix31p, ix42, ix42p, ix104, ix104p, ln22, ln22p, ln23, ln23p, ln24, ln24p, ln31, ln31p, ln42, ln42p, al4, al22, al26, al28, al42, al49, al85, cf10, cf11, cf12, cf13, cf14, cf15, cf16, cf17, cf18, cf19, cf20, cf21, cf22, cf23, cf24, cf25, cf26, cf27, cf28, cf29, cf30, cf31, cf32, cf33, cf34, cf35, cf36, cf37, cf38, cf39, cf40, cf41, cf42, cf43, cf44, cf45, cf46, cf47, cf48, cf49, cf50, cf51, cf52, cf53, cf54, cf55, cf56, cf57, cf58, cf59, cf60, cf61, cf62, cf63, cf64, cf65, cf66, cf67, cf68, cf69, cf70, cf71, cf72, cf73, cf74, cf75, bd26_0_1_2_7_8_9_10_11_12_13_14_4_15, bd26_0_1_2_7_8_9_10_11_12_13_14_4_15p, bd28_, bd28_p, bd28_0, bd28_0p, bd28_0_1, bd28_0_1p, bd45_1_3_4_5_6, bd45_1_3_4_5_6p, bd49_0_1, bd49_0_1p, bd49_1, bd49_1p, bd74_0_1_2_3, bd74_0_1_2_3p, bd85_0, bd85_0p, bd85_0_1, bd85_0_1p, bd93_0_1_2, bd93_0_1_2p, bd94_0_1_2_3, bd94_0_1_2_3p, bs42_1_0, bs22_1_0, bs24_1_0, bs42_3_0_1_2, bs31_1_0, bs22_2_0_1, bs42_6_0_1_2_3_4_5, bs42_0_, eq4, eq4p, eq28, eq28p, eq42n, eq42np, eq42s, eq42sp, eq58n, eq58np, eq58s, eq58sp, eq63n, eq63np, eq63s, eq63sp, ne28, ne28p, ne45, ne45p]
  intro pb hpb gpb
  generalize e2 : Hp.set h1 pb _ = h2
  obtain ⟨l2, d2, b2⟩ := boxed e2 hpb d1 gpb
  try simp -implicitDefEqProofs (disch := first | with_reducible exact Nat.ne_of_beq_eq_false rfl | omega) only [opH_sv, opH_su, pureW_sv, opH_nil, pureW_nil, pick_t, pick_f, pick_tp, pick_fp, gd_tt, gd_ft, gd_tf, gd_ff, box_new, regs0, regs1, regs2, regs3, regs4, regs5, regs6, cells_agg, cells_int, cells_bool, cells_ptr, cells_slice, cells_string, cells_func, cells_nilFunc, cells_map, retK_ret, retK_normal, resL_tmp, resL_cell, resL_nil0, resL_nil1, resL_nil2, resL_nil3, resC_ptr, ex0, ex1, ex2, ex0p, ex1p, ex2p, HL.cond_true, HL.cond_false, thenK_normal, thenK_ret, thenK_exit, blockK_normal, blockK_ret, blockK_exit, scopeK_normal, scopeK_ret, scopeK_exit, wpH_pure, bin_add, bin_sub, bin_mul, bin_lss, bin_leq, bin_gtr, bin_geq, bin_quo, bin_rem, bin_quop, bin_remp, wrap_in, bin_addp, bin_subp, bin_mulp, bin_lssp, bin_leqp, bin_gtrp, bin_geqp, un_not, un_notp, un_neg, eq_int, ne_int, eq_intp, ne_intp, callV_fn, add_mk, upd_eq, upd_ne, cell_set_self, Nat.zero_add, Nat.add_zero, Option.some.injEq, exists_eq_left', List.getElem?_cons_succ, List.getElem?_cons_zero, true_and, and_true, bne_self_eq_false, beq_self_eq_true, Bool.not_true, Bool.not_false, Bool.and_true, Bool.and_self, Bool.and_false, Bool.true_and, List.length_cons, List.length_nil, ne_eq, not_false_eq_true, Nat.reduceAdd, Nat.reduceMul, if_true, if_false, oneCell_int, oneCell_bool, oneCell_ptr, oneCell_slice, oneCell_string, oneCell_func, oneCell_map, Int.toNat_natCast, List.set_cons_zero, List.set_cons_succ, Nat.lt_irrefl, Nat.zero_lt_succ, Nat.succ_lt_succ_iff, fa26_0, fa26_0p, fa26_1, fa26_1p, fa26_10, fa26_10p, fa26_11, fa26_11p, fa26_12, fa26_12p, fa26_13, fa26_13p, fa26_14, fa26_14p, fa26_15, fa26_15p, fa26_2, fa26_2p, fa26_3, fa26_3p, fa26_4, fa26_4p, fa26_5, fa26_5p, fa26_6, fa26_6p, fa26_7, fa26_7p, fa26_8, fa26_8p, fa26_9, fa26_9p, fa28_0, fa28_0p, fa28_1, fa28_1p, fa45_0, fa45_0p, fa45_1, fa45_1p, fa45_2, fa45_2p, fa45_3, fa45_3p, fa45_4, fa45_4p, fa45_5, fa45_5p, fa45_6, fa45_6p, fa49_0, fa49_0p, fa49_1, fa49_1p, fa74_0, fa74_0p, fa74_1, fa74_1p, fa74_2, fa74_2p, fa74_3, fa74_3p, fa85_0, fa85_0p, fa85_1, fa85_1p, fa93_0, fa93_0p, fa93_1, fa93_1p, fa93_2, fa93_2p, ld3, ld3p, ld4, ld4p, ld22, ld22p, ld23, ld23p, ld24, ld24p, ld26, ld26p, ld28, ld28p, ld42, ld42p, ld45, ld45p, ld49, ld49p, ld58, ld58p, ld69, ld69p, ld72, ld72p, ld85, ld85p, st3s, st4s, st22s, st23s, st24s, st26w, st28w, st42s, st45w, st49w, st85w, ix22, ix22p, ix23, ix23p, ix24, ix24p, ix31, ix31p, ix42, ix42p, ix104, ix104p, ln22, ln22p, ln23, ln23p, ln24, ln24p, ln31, ln31p, ln42, ln42p, al4, al22, al26, al28, al42, al49, al85, cf10, cf11, cf12, cf13, cf14, cf15, cf16, cf17, cf18, cf19, cf20, cf21, cf22, cf23, cf24, cf25, cf26, cf27, cf28, cf29, cf30, cf31, cf32, cf33, cf34, cf35, cf36, cf37, cf38, cf39, cf40, cf41, cf42, cf43, cf44, cf45, cf46, cf47, cf48, cf49, cf50, cf51, cf52, cf53, cf54, cf55, cf56, cf57, cf58, cf59, cf60, cf61, cf62, cf63, cf64, cf65, cf66, cf67, cf68, cf69, cf70, cf71, cf72, cf73, cf74, cf75, bd26_0_1_2_7_8_9_10_11_12_13_14_4_15, bd26_0_1_2_7_8_9_10_11_12_13_14_4_15p, bd28_, bd28_p, bd28_0, bd28_0p, bd28_0_1, bd28_0_1p, bd45_1_3_4_5_6, bd45_1_3_4_5_6p, bd49_0_1, bd49_0_1p, bd49_1, bd49_1p, bd74_0_1_2_3, bd74_0_1_2_3p, bd85_0, bd85_0p, bd85_0_1, bd85_0_1p, bd93_0_1_2, bd93_0_1_2p, bd94_0_1_2_3, bd94_0_1_2_3p, bs42_1_0, bs22_1_0, bs24_1_0, bs42_3_0_1_2, bs31_1_0, bs22_2_0_1, bs42_6_0_1_2_3_4_5, bs42_0_, eq4, eq4p, eq28, eq28p, eq42n, eq42np, eq42s, eq42sp, eq58n, eq58np, eq58s, eq58sp, eq63n, eq63np, eq63s, eq63sp, ne28, ne28p, ne45, ne45p]
  have nx : pb ≠ x := fun e => by rw [e, b1] at hpb; cases hpb
  refine Eq.mpr (store26 (C := C1) (D := Cz) (l2 _ _ b1)) ?_
  have cx : ∀ (o : Obj) (l : List Value) (e : TypeId), o = .cells l.toArray e (0, 0) → ∀ j, cellIn G (h2.set x o) ⟨x, j, none⟩ = l[j]? := fun o l e eo j => by rw [eo]; exact cell_of (look_own set_self)
  try simp -implicitDefEqProofs (maxSteps := 2000000) (disch := first | with_reducible exact Nat.ne_of_beq_eq_false rfl | exact oneCell_int | exact oneCell_bool | omega | rfl | (simp; done) | fail) only [cx _ _ _ rfl, List.getElem?_cons_zero, Option.some.injEq, List.getElem?_cons_succ, exists_eq_left']
  refine ⟨pb, rfl, ?_, d2.set gx, by rw [set_other nx]; exact b2⟩
  have hx2 : h x = none := hx
  exact fun b o hb => by
    by_cases hbx : b = x
    · subst hbx; rw [hx] at hb; cases hb
    · rw [set_other hbx]; exact l2 _ _ (l1 _ _ hb)

set_option maxHeartbeats 4000000 in
theorem awake_spec {G h : Hp} (st : Steps G) : HCalls Tryd.prog G 10 #[] h (fun u h' => u = .bool true ∧ h' = h) := by
  refine HCalls.assume fun d => quietly (enter10 (by simp) ?_)
  unfold S10
  simp -implicitDefEqProofs only [retK_ret, resL_tmp, upd_eq, resL_nil1, opH_sv, cf12, bd28_0, bs42_3_0_1_2, bd49_1, bs24_1_0, cf25]
  refine conf1_spec.mono ?_
  rintro _ h1 ⟨pb, rfl, l1, d1, bp⟩
  try simp -implicitDefEqProofs only [opH_sv, opH_su, pureW_sv, opH_nil, pureW_nil, pick_t, pick_f, pick_tp, pick_fp, gd_tt, gd_ft, gd_tf, gd_ff, box_new, regs0, regs1, regs2, regs3, regs4, regs5, regs6, cells_agg, cells_int, cells_bool, cells_ptr, cells_slice, cells_string, cells_func, cells_nilFunc, cells_map, retK_ret, retK_normal, resL_tmp, resL_cell, resL_nil0, resL_nil1, resL_nil2, resL_nil3, resC_ptr, ex0, ex1, ex2, ex0p, ex1p, ex2p, HL.cond_true, HL.cond_false, thenK_normal, thenK_ret, thenK_exit, blockK_normal, blockK_ret, blockK_exit, scopeK_normal, scopeK_ret, scopeK_exit, wpH_pure, bin_add, bin_sub, bin_mul, bin_lss, bin_leq, bin_gtr, bin_geq, bin_quo, bin_rem, bin_quop, bin_remp, wrap_in, bin_addp, bin_subp, bin_mulp, bin_lssp, bin_leqp, bin_gtrp, bin_geqp, un_not, un_notp, un_neg, eq_int, ne_int, eq_intp, ne_intp, callV_fn, add_mk, upd_eq, upd_ne, cell_set_self, Nat.zero_add, Nat.add_zero, Option.some.injEq, exists_eq_left', List.getElem?_cons_succ, List.getElem?_cons_zero, true_and, and_true, bne_self_eq_false, beq_self_eq_true, Bool.not_true, Bool.not_false, Bool.and_true, Bool.and_self, Bool.and_false, Bool.true_and, List.length_cons, List.length_nil, ne_eq, not_false_eq_true, Nat.reduceAdd, Nat.reduceMul, if_true, if_false, oneCell_int, oneCell_bool, oneCell_ptr, oneCell_slice, oneCell_string, oneCell_func, oneCell_map, Int.toNat_natCast, List.set_cons_zero, List.set_cons_succ, Nat.lt_irrefl, Nat.zero_lt_succ, Nat.succ_lt_succ_iff, fa26_0, fa26_0p, fa26_1, fa26_1p, fa26_10, fa26_10p, fa26_11, fa26_11p, fa26_12, fa26_12p, fa26_13, fa26_13p, fa26_14, fa26_14p, fa26_15, fa26_15p, fa26_2, fa26_2p, fa26_3, fa26_3p, fa26_4, fa26_4p, fa26_5, fa26_5p, fa26_6, fa26_6p, fa26_7, fa26_7p, fa26_8, fa26_8p, fa26_9, fa26_9p, fa28_0, fa28_0p, fa28_1, fa28_1p, fa45_0, fa45_0p, fa45_1, fa45_1p, fa45_2, fa45_2p, fa45_3, fa45_3p, fa45_4, fa45_4p, fa45_5, fa45_5p, fa45_6, fa45_6p, fa49_0, fa49_0p, fa49_1, fa49_1p, fa74_0, fa74_0p, fa74_1, fa74_1p, fa74_2, fa74_2p, fa74_3, fa74_3p, fa85_0, fa85_0p, fa85_1, fa85_1p, fa93_0, fa93_0p, fa93_1, fa93_1p, fa93_2, fa93_2p, ld3, ld3p, ld4, ld4p, ld22, ld22p, ld23, ld23p, ld24, ld24p, ld26, ld26p, ld28, ld28p, ld42, ld42p, ld45, ld45p, ld49, ld49p, ld58, ld58p, ld69, ld69p, ld72, ld72p, ld85, ld85p, st3s, st4s, st22s, st23s, st24s, st26w, st28w, st42s, st45w, st49w, st85w, ix22, ix22p, ix23, ix23p, ix24, ix24p, ix31, ix31p, ix42, ix42p, ix104, ix104p, ln22, ln22p, ln23, ln23p, ln24, ln24p, ln31, ln31p, ln42, ln42p, al4, al22, al26, al28, al42, al49, al85, cf10, cf11, cf12, cf13, cf14, cf15, cf16, cf17, cf18, cf19, cf20, cf21, cf22, cf23, cf24, cf25, cf26, cf27, cf28, cf29, cf30, cf31, cf32, cf33, cf34, cf35, cf36, cf37, cf38, cf39, cf40, cf41, cf42, cf43, cf44, cf45, cf46, cf47, cf48, cf49, cf50, cf51, cf52, cf53, cf54, cf55, cf56, cf57, cf58, cf59, cf60, cf61, cf62, cf63, cf64, cf65, cf66, cf67, cf68, cf69, cf70, cf71, cf72, cf73, cf74, cf75, bd26_0_1_2_7_8_9_10_11_12_13_14_4_15, bd26_0_1_2_7_8_9_10_11_12_13_14_4_15p, bd28_, bd28_p, bd28_0, bd28_0p, bd28_0_1, bd28_0_1p, bd45_1_3_4_5_6, bd45_1_3_4_5_6p, bd49_0_1, bd49_0_1p, bd49_1, bd49_1p, bd74_0_1_2_3, bd74_0_1_2_3p, bd85_0, bd85_0p, bd85_0_1, bd85_0_1p, bd93_0_1_2, bd93_0_1_2p, bd94_0_1_2_3, bd94_0_1_2_3p, bs42_1_0, bs22_1_0, bs24_1_0, bs42_3_0_1_2, bs31_1_0, bs22_2_0_1, bs42_6_0_1_2_3_4_5, bs42_0_, eq4, eq4p, eq28, eq28p, eq42n, eq42np, eq42s, eq42sp, eq58n, eq58np, eq58s, eq58sp, eq63n, eq63np, eq63s, eq63sp, ne28, ne28p, ne45, ne45p]
  intro x hx gx
  generalize e2 : Hp.set h1 x _ = h2
  obtain ⟨l2, d2, b2⟩ := boxed e2 hx d1 gx
  try simp -implicitDefEqProofs only [opH_sv, opH_su, pureW_sv, opH_nil, pureW_nil, pick_t, pick_f, pick_tp, pick_fp, gd_tt, gd_ft, gd_tf, gd_ff, box_new, regs0, regs1, regs2, regs3, regs4, regs5, regs6, cells_agg, cells_int, cells_bool, cells_ptr, cells_slice, cells_string, cells_func, cells_nilFunc, cells_map, retK_ret, retK_normal, resL_tmp, resL_cell, resL_nil0, resL_nil1, resL_nil2, resL_nil3, resC_ptr, ex0, ex1, ex2, ex0p, ex1p, ex2p, HL.cond_true, HL.cond_false, thenK_normal, thenK_ret, thenK_exit, blockK_normal, blockK_ret, blockK_exit, scopeK_normal, scopeK_ret, scopeK_exit, wpH_pure, bin_add, bin_sub, bin_mul, bin_lss, bin_leq, bin_gtr, bin_geq, bin_quo, bin_rem, bin_quop, bin_remp, wrap_in, bin_addp, bin_subp, bin_mulp, bin_lssp, bin_leqp, bin_gtrp, bin_geqp, un_not, un_notp, un_neg, eq_int, ne_int, eq_intp, ne_intp, callV_fn, add_mk, upd_eq, upd_ne, cell_set_self, Nat.zero_add, Nat.add_zero, Option.some.injEq, exists_eq_left', List.getElem?_cons_succ, List.getElem?_cons_zero, true_and, and_true, bne_self_eq_false, beq_self_eq_true, Bool.not_true, Bool.not_false, Bool.and_true, Bool.and_self, Bool.and_false, Bool.true_and, List.length_cons, List.length_nil, ne_eq, not_false_eq_true, Nat.reduceAdd, Nat.reduceMul, if_true, if_false, oneCell_int, oneCell_bool, oneCell_ptr, oneCell_slice, oneCell_string, oneCell_func, oneCell_map, Int.toNat_natCast, List.set_cons_zero, List.set_cons_succ, Nat.lt_irrefl, Nat.zero_lt_succ, Nat.succ_lt_succ_iff, fa26_0, fa26_0p, fa26_1, fa26_1p, fa26_10, fa26_10p, fa26_11, fa26_11p, fa26_12, fa26_12p, fa26_13, fa26_13p, fa26_14, fa26_14p, fa26_15, fa26_15p, fa26_2, fa26_2p, fa26_3, fa26_3p, fa26_4, fa26_4p, fa26_5, fa26_5p, fa26_6, fa26_6p, fa26_7, fa26_7p, fa26_8, fa26_8p, fa26_9, fa26_9p, fa28_0, fa28_0p, fa28_1, fa28_1p, fa45_0, fa45_0p, fa45_1, fa45_1p, fa45_2, fa45_2p, fa45_3, fa45_3p, fa45_4, fa45_4p, fa45_5, fa45_5p, fa45_6, fa45_6p, fa49_0, fa49_0p, fa49_1, fa49_1p, fa74_0, fa74_0p, fa74_1, fa74_1p, fa74_2, fa74_2p, fa74_3, fa74_3p, fa85_0, fa85_0p, fa85_1, fa85_1p, fa93_0, fa93_0p, fa93_1, fa93_1p, fa93_2, fa93_2p, ld3, ld3p, ld4, ld4p, ld22, ld22p, ld23, ld23p, ld24, ld24p, ld26, ld26p, ld28, ld28p, ld42, ld42p, ld45, ld45p, ld49, ld49p, ld58, ld58p, ld69, ld69p, ld72, ld72p, ld85, ld85p, st3s, st4s, st22s, st23s, st24s, st26w, st28w, st42s, st45w, st49w, st85w, ix22, ix22p, ix23, ix23p, ix24, ix24p, ix31, ix31p, ix42, ix42p, ix104, ix104p, ln22, ln22p, ln23, ln23p, ln24, ln24p, ln31, ln31p, ln42, ln42p, al4, al22, al26, al28, al42, al49, al85, cf10, cf11, cf12, cf13, cf14, cf15, cf16, cf17, cf18, cf19, cf20, cf21, cf22, cf23, cf24, cf25, cf26, cf27, cf28, cf29, cf30, cf31, cf32, cf33, cf34, cf35, cf36, cf37, cf38, cf39, cf40, cf41, cf42, cf43, cf44, cf45, cf46, cf47, cf48, cf49, cf50, cf51, cf52, cf53, cf54, cf55, cf56, cf57, cf58, cf59, cf60, cf61, cf62, cf63, cf64, cf65, cf66, cf67, cf68, cf69, cf70, cf71, cf72, cf73, cf74, cf75, bd26_0_1_2_7_8_9_10_11_12_13_14_4_15, bd26_0_1_2_7_8_9_10_11_12_13_14_4_15p, bd28_, bd28_p, bd28_0, bd28_0p, bd28_0_1, bd28_0_1p, bd45_1_3_4_5_6, bd45_1_3_4_5_6p, bd49_0_1, bd49_0_1p, bd49_1, bd49_1p, bd74_0_1_2_3, bd74_0_1_2_3p, bd85_0, bd85_0p, bd85_0_1, bd85_0_1p, bd93_0_1_2, bd93_0_1_2p, bd94_0_1_2_3, bd94_0_1_2_3p, bs42_1_0, bs22_1_0, bs24_1_0, bs42_3_0_1_2, bs31_1_0, bs22_2_0_1, bs42_6_0_1_2_3_4_5, bs42_0_, eq4, eq4p, eq28, eq28p, eq42n, eq42np, eq42s, eq42sp, eq58n, eq58np, eq58s, eq58sp, eq63n, eq63np, eq63s, eq63sp, ne28, ne28p, ne45, ne45p]
  intro y hy gy
  generalize e3 : Hp.set h2 y _ = h3
  obtain ⟨l3, d3, b3⟩ := boxed e3 hy d2 gy
  try simp -implicitDefEqProofs only [opH_sv, opH_su, pureW_sv, opH_nil, pureW_nil, pick_t, pick_f, pick_tp, pick_fp, gd_tt, gd_ft, gd_tf, gd_ff, box_new, regs0, regs1, regs2, regs3, regs4, regs5, regs6, cells_agg, cells_int, cells_bool, cells_ptr, cells_slice, cells_string, cells_func, cells_nilFunc, cells_map, retK_ret, retK_normal, resL_tmp, resL_cell, resL_nil0, resL_nil1, resL_nil2, resL_nil3, resC_ptr, ex0, ex1, ex2, ex0p, ex1p, ex2p, HL.cond_true, HL.cond_false, thenK_normal, thenK_ret, thenK_exit, blockK_normal, blockK_ret, blockK_exit, scopeK_normal, scopeK_ret, scopeK_exit, wpH_pure, bin_add, bin_sub, bin_mul, bin_lss, bin_leq, bin_gtr, bin_geq, bin_quo, bin_rem, bin_quop, bin_remp, wrap_in, bin_addp, bin_subp, bin_mulp, bin_lssp, bin_leqp, bin_gtrp, bin_geqp, un_not, un_notp, un_neg, eq_int, ne_int, eq_intp, ne_intp, callV_fn, add_mk, upd_eq, upd_ne, cell_set_self, Nat.zero_add, Nat.add_zero, Option.some.injEq, exists_eq_left', List.getElem?_cons_succ, List.getElem?_cons_zero, true_and, and_true, bne_self_eq_false, beq_self_eq_true, Bool.not_true, Bool.not_false, Bool.and_true, Bool.and_self, Bool.and_false, Bool.true_and, List.length_cons, List.length_nil, ne_eq, not_false_eq_true, Nat.reduceAdd, Nat.reduceMul, if_true, if_false, oneCell_int, oneCell_bool, oneCell_ptr, oneCell_slice, oneCell_string, oneCell_func, oneCell_map, Int.toNat_natCast, List.set_cons_zero, List.set_cons_succ, Nat.lt_irrefl, Nat.zero_lt_succ, Nat.succ_lt_succ_iff, fa26_0, fa26_0p, fa26_1, fa26_1p, fa26_10, fa26_10p, fa26_11, fa26_11p, fa26_12, fa26_12p, fa26_13, fa26_13p, fa26_14, fa26_14p, fa26_15, fa26_15p, fa26_2, fa26_2p, fa26_3, fa26_3p, fa26_4, fa26_4p, fa26_5, fa26_5p, fa26_6, fa26_6p, fa26_7, fa26_7p, fa26_8, fa26_8p, fa26_9, fa26_9p, fa28_0, fa28_0p, fa28_1, fa28_1p, fa45_0, fa45_0p, fa45_1, fa45_1p, fa45_2, fa45_2p, fa45_3, fa45_3p, fa45_4, fa45_4p, fa45_5, fa45_5p, fa45_6, fa45_6p, fa49_0, fa49_0p, fa49_1, fa49_1p, fa74_0, fa74_0p, fa74_1, fa74_1p, fa74_2, fa74_2p, fa74_3, fa74_3p, fa85_0, fa85_0p, fa85_1, fa85_1p, fa93_0, fa93_0p, fa93_1, fa93_1p, fa93_2, fa93_2p, ld3, ld3p, ld4, ld4p, ld22, ld22p, ld23, ld23p, ld24, ld24p, ld26, ld26p, ld28, ld28p, ld42, ld42p, ld45, ld45p, ld49, ld49p, ld58, ld58p, ld69, ld69p, ld72, ld72p, ld85, ld85p, st3s, st4s, st22s, st23s, st24s, st26w, st28w, st42s, st45w, st49w, st85w, ix22, ix22p, ix23, ix23p, ix24, ix24p, ix31, ix31p, ix42, ix42p, ix104, ix104p, ln22, ln22p, ln23, ln23p, ln24, ln24p, ln31, ln31p, ln42, ln42p, al4, al22, al26, al28, al42, al49, al85, cf10, cf11, cf12, cf13, cf14, cf15, cf16, cf17, cf18, cf19, cf20, cf21, cf22, cf23, cf24, cf25, cf26, cf27, cf28, cf29, cf30, cf31, cf32, cf33, cf34, cf35, cf36, cf37, cf38, cf39, cf40, cf41, cf42, cf43, cf44, cf45, cf46, cf47, cf48, cf49, cf50, cf51, cf52, cf53, cf54, cf55, cf56, cf57, cf58, cf59, cf60, cf61, cf62, cf63, cf64, cf65, cf66, cf67, cf68, cf69, cf70, cf71, cf72, cf73, cf74, cf75, bd26_0_1_2_7_8_9_10_11_12_13_14_4_15, bd26_0_1_2_7_8_9_10_11_12_13_14_4_15p, bd28_, bd28_p, bd28_0, bd28_0p, bd28_0_1, bd28_0_1p, bd45_1_3_4_5_6, bd45_1_3_4_5_6p, bd49_0_1, bd49_0_1p, bd49_1, bd49_1p, bd74_0_1_2_3, bd74_0_1_2_3p, bd85_0, bd85_0p, bd85_0_1, bd85_0_1p, bd93_0_1_2, bd93_0_1_2p, bd94_0_1_2_3, bd94_0_1_2_3p, bs42_1_0, bs22_1_0, bs24_1_0, bs42_3_0_1_2, bs31_1_0, bs22_2_0_1, bs42_6_0_1_2_3_4_5, bs42_0_, eq4, eq4p, eq28, eq28p, eq42n, eq42np, eq42s, eq42sp, eq58n, eq58np, eq58s, eq58sp, eq63n, eq63np, eq63s, eq63sp, ne28, ne28p, ne45, ne45p]
  have hss : ∀ G' h', h3.le h' → StS G' h' (.slice (some ⟨y, 0, none⟩) 1 1) [((0, 0), [7, 8, 9])] := fun G' h' l => by
    refine ⟨_, 1, rfl, [⟨0, 0, some ⟨x, 0, none⟩, 3, 3⟩], Sees.row (c := rawC) (L := [⟨0, 0, some ⟨x, 0, none⟩, 3, 3⟩]) (l _ _ b3) rfl (Nat.le_refl _), fun i r s hr hs => ?_⟩
    cases i with
    | succ i => simp at hr
    | zero =>
      simp at hr hs
      subst hr hs
      exact ⟨rfl, rfl, Sees.row (c := icC) (L := [7, 8, 9]) (l _ _ (l3 _ _ b2)) rfl (Nat.le_refl _)⟩
  have ca : CA G h3 C1 none 0 (some ⟨pb, 0, none⟩) 1 none 0 none 0 := ⟨⟨none, 0, rfl, Nat.le_refl _, .inl rfl⟩, Sees.row (c := cellC) (L := [(2, 0)]) (l3 _ _ (l2 _ _ bp)) rfl (Nat.le_refl _), ⟨none, 0, rfl, Nat.le_refl _, .inl rfl⟩, [], ⟨none, 0, rfl, Nat.le_refl _, .inl rfl⟩, fun i r s hr => by simp at hr⟩
  refine (jobs_spec (bin := 7) (port := (2, 0)) (TL := []) ca.cv hss (fun _ _ _ => ⟨none, 0, rfl, Nat.le_refl _, .inl rfl⟩) st (fun p hp => by simp [C1] at hp) (by decide) (by decide) (by decide) (fun s hs => by simp at hs; subst hs; decide)).mono ?_
  rintro _ h4 ⟨l4, d4, ⟨hm, io, vv, rfl, o, s4⟩ | ⟨hm, rfl⟩⟩
  rotate_left
  · exact absurd made1 hm
  obtain ⟨j1, j2⟩ := jobs1
  rw [j1]
  generalize (jobsR C1 [((0, 0), [7, 8, 9])] [] 7 (2, 0)).1 = J at o j2
  have hJ : J.length = 5 := by simpa using congrArg List.length j2
  obtain ⟨a0, a1, a2, a3, a4, rfl⟩ : ∃ a0 a1 a2 a3 a4, J = [a0, a1, a2, a3, a4] := by
    match J, hJ with
    | [a, b, c, d, e], _ => exact ⟨a, b, c, d, e, rfl⟩
  simp only [List.map_cons, List.map_nil, List.cons.injEq, Prod.mk.injEq, and_true] at j2
  obtain ⟨⟨k0, n0⟩, ⟨k1, n1⟩, ⟨k2, n2⟩, ⟨k3, n3⟩, ⟨k4, n4⟩⟩ := j2
  obtain ⟨sa, cap, rfl, hc⟩ := o.len (by decide)
  have sv := o.sees (G := G) (by decide) (s4.in 0 rfl)
  obtain ⟨b, ofs, rfl, _, x1, _, x3, _⟩ := Sees.job (i := 0) sv rfl
  obtain ⟨b', ofs', eb, _, _, _, y3, _⟩ := Sees.job (i := 1) sv rfl
  cases eb
  obtain ⟨b', ofs', eb, _, z1, _, z3, _⟩ := Sees.job (i := 2) sv rfl
  cases eb
  obtain ⟨b', ofs', eb, _, u1, _, u3, _⟩ := Sees.job (i := 3) sv rfl
  cases eb
  obtain ⟨b', ofs', eb, _, _, _, w3, _⟩ := Sees.job (i := 4) sv rfl
  cases eb
  rw [k0] at x1
  rw [n0] at x3
  rw [n1] at y3
  rw [k2] at z1
  rw [n2] at z3
  rw [k3] at u1
  rw [n3] at u3
  rw [n4] at w3
  simp only [Nat.zero_mul, Nat.one_mul, Nat.add_zero, Nat.reduceMul] at x1 x3 y3 z1 z3 u1 u3 w3
  try simp -implicitDefEqProofs only [List.length_cons, List.length_nil, Nat.zero_add, Nat.reduceAdd, ex1, eq_int, beq_self_eq_true, pick_t, gd_tt, opH_sv, ex0, ln31, show (((5 : Nat) : Int) == 5) = true from rfl, ix31 (by decide : (0 : Int) ≤ 0) (by decide : (0 : Int) < (5 : Nat)), show Int.toNat 0 = 0 from rfl, Nat.zero_mul, add_mk, Nat.add_zero, fa45_1, ld3, x1, Option.some.injEq, exists_eq_left', fa45_3, x3, ix31 (by decide : (0 : Int) ≤ 1) (by decide : (1 : Int) < (5 : Nat)), show Int.toNat 1 = 1 from rfl, Nat.one_mul, y3, ix31 (by decide : (0 : Int) ≤ 2) (by decide : (2 : Int) < (5 : Nat)), show Int.toNat 2 = 2 from rfl, Nat.reduceMul, z1, z3, ix31 (by decide : (0 : Int) ≤ 3) (by decide : (3 : Int) < (5 : Nat)), show Int.toNat 3 = 3 from rfl, u1, u3, ix31 (by decide : (0 : Int) ≤ 4) (by decide : (4 : Int) < (5 : Nat)), show Int.toNat 4 = 4 from rfl, w3, true_and]
  first | exact l1.trans (l2.trans (l3.trans l4)) | exact ⟨rfl, l1.trans (l2.trans (l3.trans l4))⟩

end Go.Proofs.YtangejiigopdaaaDoor
end

section
/- DigPlaces: the walk. -/
set_option linter.unusedSimpArgs false
set_option linter.unusedVariables false
set_option maxRecDepth 100000
namespace Go.Proofs.YtangejiigopdaaaDoor
open Go Go.HL

theorem room8 {n : Nat} (h : Room n 8) : n ≤ 17592186044320 := by unfold Room at h; omega

end Go.Proofs.YtangejiigopdaaaDoor
end

section
/- DigJobs: the walk. -/
set_option linter.unusedSimpArgs false
set_option linter.unusedVariables false
set_option maxRecDepth 100000
namespace Go.Proofs.YtangejiigopdaaaDoor
open Go Go.HL

end Go.Proofs.YtangejiigopdaaaDoor
end

section
/- A config that comes in as an argument. -/
set_option linter.unusedSimpArgs false
set_option linter.unusedVariables false
set_option maxRecDepth 100000
namespace Go.Proofs.YtangejiigopdaaaDoor
open Go Go.HL Go.ChangeShapes Go.WideShapes Go.RowKit

theorem light_of {H : Type} {P : Program} {ts : List TypeId} {ds : List (DataW H)} (h : (DataW.weightsEach P ts ds).all (· ≤ reachBytes) = true) {j : Nat} {t : TypeId} {d : DataW H} (ht : ts[j]? = some t) (hd : ds[j]? = some d) : Light P t d := fun n hn => by
  simpa using List.all_eq_true.1 h n (DataW.weights_mem_each ht hd n hn)

theorem okWide_structF {P : Program} {w : World} {r : Reach} {base : Nat} {t : TypeId} {v : Value} {tos : List (TypeId × Nat)} (ht : structFields P t = some tos) (hv : Value.okWide P w r base t v) : ∃ cs : Array Value, v = .agg cs := by
  unfold structFields at ht
  split at ht
  · rename_i fs hfs
    obtain ⟨cs, rfl, _⟩ := okWide_struct hfs hv
    exact ⟨cs, rfl⟩
  · cases ht

theorem sf30 : structFields Tryd.prog 85 = some [(28, 0), (4, 2)] := by kernel_rfl
theorem sf95 : structFields Tryd.prog 49 = some [(28, 0), (42, 2)] := by kernel_rfl
theorem sf26 : structFields Tryd.prog 26 = some [(3, 0), (3, 1), (3, 2), (22, 3), (22, 4), (23, 5), (24, 6), (3, 7), (3, 8), (3, 9), (3, 10), (3, 11), (3, 12), (3, 13), (3, 14), (4, 15)] := by kernel_rfl
theorem un4b : Tryd.prog.underlying 4 = some .bool := by kernel_rfl
theorem c4 : Tryd.prog.cellsOf 4 = 1 := by kernel_rfl
theorem c22 : Tryd.prog.cellsOf 22 = 1 := by kernel_rfl
theorem c23 : Tryd.prog.cellsOf 23 = 1 := by kernel_rfl
theorem c24 : Tryd.prog.cellsOf 24 = 1 := by kernel_rfl
theorem c26 : Tryd.prog.cellsOf 26 = 16 := by kernel_rfl
theorem c30 : Tryd.prog.cellsOf 85 = 3 := by kernel_rfl
theorem c57 : Tryd.prog.cellsOf 42 = 1 := by kernel_rfl
theorem c95 : Tryd.prog.cellsOf 49 = 3 := by kernel_rfl

section
variable {H : Type} {enc : TypeId × Value → H} {w : World} {base : Nat} {spare : Nat → Bool} {held : Bool}

theorem len2 {α : Type} {L : List α} (h : L.length = 2) : ∃ a b, L = [a, b] := by
  match L, h with
  | [a, b], _ => exact ⟨a, b, rfl⟩
theorem len3 {α : Type} {L : List α} (h : L.length = 3) : ∃ a b c, L = [a, b, c] := by
  match L, h with
  | [a, b, c], _ => exact ⟨a, b, c, rfl⟩

theorem cell_dec {m : Nat} {cs : List Value} {y : DataW H × List MemPlace} (h : DataW.trod enc Tryd.prog w base spare held m 28 cs = some y) : ∃ c : Cell, cs = cellC.enc c ∧ Bd c.1 ∧ Bd c.2 := by
  obtain ⟨hl, d⟩ := dec_fields sf28 h
  rw [c28] at hl
  obtain ⟨v0, v1, rfl⟩ := len2 hl
  obtain ⟨m0, z0, e0⟩ := d 0 _ _ rfl
  obtain ⟨m1, z1, e1⟩ := d 1 _ _ rfl
  rw [c3] at e0 e1
  obtain ⟨x0, f0, b0⟩ := dec_int un3i e0
  obtain ⟨x1, f1, b1⟩ := dec_int un3i e1
  simp at f0 f1
  subst f0 f1
  exact ⟨(x0, x1), rfl, b0, b1⟩
theorem pose_dec {m : Nat} {cs : List Value} {y : DataW H × List MemPlace} (h : DataW.trod enc Tryd.prog w base spare held m 85 cs = some y) : ∃ p : Pose, cs = poseC.enc p ∧ PB p := by
  obtain ⟨hl, d⟩ := dec_fields sf30 h
  rw [c30] at hl
  obtain ⟨v0, v1, v2, rfl⟩ := len3 hl
  obtain ⟨m0, z0, e0⟩ := d 0 _ _ rfl
  obtain ⟨m1, z1, e1⟩ := d 1 _ _ rfl
  rw [c28] at e0
  rw [c4] at e1
  obtain ⟨c, f0, b0⟩ := cell_dec e0
  obtain ⟨b, f1⟩ := dec_bool un4b e1
  simp [cellC] at f0 f1
  obtain ⟨rfl, rfl⟩ := f0
  subst f1
  exact ⟨⟨c.1, c.2, b⟩, rfl, b0⟩

/-- A stack among the arguments. -/
def RawOk (G : Hp) (r : Raw) : Prop := ∃ L : List Int, r.n = L.length ∧ Room L.length 8 ∧ ∀ h, Dis G h → Sees icC G h (.slice r.a r.n r.c) L

theorem room_of {n bytes : Nat} (h : n * bytes ≤ reachBytes) (hb : bytes ≤ 40) : Room n bytes := by
  unfold Room
  rw [show reachBytes = 140737488351232 from rfl] at h
  rw [Nat.add_mul, Nat.mul_assoc]
  have : 192 * bytes ≤ 7680 := by omega
  omega

theorem raw_dec {m : Nat} {cs : List Value} {y : DataW H × List MemPlace} (h : DataW.trod enc Tryd.prog w base spare held m 49 cs = some y) (hw : Light Tryd.prog 49 y.1) : ∃ r : Raw, cs = rawC.enc r ∧ RawOk (ground w) r := by
  obtain ⟨hl, d⟩ := dec_fieldsW sf95 h hw
  rw [c95] at hl
  obtain ⟨v0, v1, v2, rfl⟩ := len3 hl
  obtain ⟨m0, z0, e0, _⟩ := d 0 _ _ rfl
  obtain ⟨m1, z1, e1, w1⟩ := d 1 _ _ rfl
  rw [c28] at e0
  rw [c57] at e1
  obtain ⟨c, f0, b0⟩ := cell_dec e0
  obtain ⟨a, n, cap, L, f1, hL, hs, hg, _⟩ := dec_sliceW icC (fun _ => True) un42 c3 (by decide) (fun _ _ _ h _ => let ⟨x, e, _⟩ := dec_int un3i h; ⟨x, e, trivial⟩) e1 w1
  simp [cellC] at f0 f1
  obtain ⟨rfl, rfl⟩ := f0
  subst f1
  rw [show Tryd.prog.bytesOf 3 = 8 by kernel_rfl] at hs
  subst hL
  exact ⟨⟨c.1, c.2, a, L.length, cap⟩, rfl, L, rfl, room_of hs (by decide), hg⟩

theorem len16 {α : Type} {L : List α} (h : L.length = 16) : ∃ a b c d e f g i j k l m n o p q, L = [a, b, c, d, e, f, g, i, j, k, l, m, n, o, p, q] := by
  match L, h with
  | [a, b, c, d, e, f, g, i, j, k, l, m, n, o, p, q], _ => exact ⟨a, b, c, d, e, f, g, i, j, k, l, m, n, o, p, q, rfl⟩

theorem conf_dec {m : Nat} {cs : List Value} {y : DataW H × List MemPlace} (h : DataW.trod enc Tryd.prog w base spare held m 26 cs = some y) (hw : Light Tryd.prog 26 y.1) :
    ∃ C : Conf, (∀ h, Dis (ground w) h → CV (ground w) h (.agg cs.toArray) C) ∧ Fit0 C ∧ ∀ p ∈ C.ro, PB p := by
  obtain ⟨hl, d⟩ := dec_fieldsW sf26 h hw
  rw [c26] at hl
  obtain ⟨v0, v1, v2, v3, v4, v5, v6, v7, v8, v9, v10, v11, v12, v13, v14, v15, rfl⟩ := len16 hl
  obtain ⟨_, _, e0, _⟩ := d 0 _ _ rfl
  obtain ⟨_, _, e1, _⟩ := d 1 _ _ rfl
  obtain ⟨_, _, e2, _⟩ := d 2 _ _ rfl
  obtain ⟨_, _, e3, w3⟩ := d 3 _ _ rfl
  obtain ⟨_, _, e4, w4⟩ := d 4 _ _ rfl
  obtain ⟨_, _, e5, w5⟩ := d 5 _ _ rfl
  obtain ⟨_, _, e6, w6⟩ := d 6 _ _ rfl
  obtain ⟨_, _, e7, _⟩ := d 7 _ _ rfl
  obtain ⟨_, _, e8, _⟩ := d 8 _ _ rfl
  obtain ⟨_, _, e9, _⟩ := d 9 _ _ rfl
  obtain ⟨_, _, e10, _⟩ := d 10 _ _ rfl
  obtain ⟨_, _, e11, _⟩ := d 11 _ _ rfl
  obtain ⟨_, _, e12, _⟩ := d 12 _ _ rfl
  obtain ⟨_, _, e13, _⟩ := d 13 _ _ rfl
  obtain ⟨_, _, e14, _⟩ := d 14 _ _ rfl
  obtain ⟨_, _, e15, _⟩ := d 15 _ _ rfl
  simp only [c3, c4, c22, c23, c24] at e0 e1 e2 e3 e4 e5 e6 e7 e8 e9 e10 e11 e12 e13 e14 e15
  obtain ⟨x0, f0, _⟩ := dec_int un3i e0
  obtain ⟨x1, f1, _⟩ := dec_int un3i e1
  obtain ⟨x2, f2, _⟩ := dec_int un3i e2
  obtain ⟨ab, nb, cb, B, f3, hB, sB, gB, _⟩ := dec_sliceW cellC (fun _ => True) un22 c28 (by decide) (fun _ _ _ h _ => let ⟨x, e, _⟩ := cell_dec h; ⟨x, e, trivial⟩) e3 w3
  obtain ⟨ap, np, cp, PO, f4, hP, sP, gP, _⟩ := dec_sliceW cellC (fun _ => True) un22 c28 (by decide) (fun _ _ _ h _ => let ⟨x, e, _⟩ := cell_dec h; ⟨x, e, trivial⟩) e4 w4
  obtain ⟨ar, nr, cr, R, f5, hR, sR, gR, qR⟩ := dec_sliceW poseC PB un23 c30 (by decide) (fun _ _ _ h _ => pose_dec h) e5 w5
  obtain ⟨az, nz, cz, Z, f6, hZ, sZ, gZ, qZ⟩ := dec_sliceW rawC (RawOk (ground w)) un24 c95 (by decide) (fun _ _ _ h hw => raw_dec h hw) e6 w6
  obtain ⟨x7, f7, _⟩ := dec_int un3i e7
  obtain ⟨x8, f8, _⟩ := dec_int un3i e8
  obtain ⟨x9, f9, _⟩ := dec_int un3i e9
  obtain ⟨x10, f10, _⟩ := dec_int un3i e10
  obtain ⟨x11, f11, _⟩ := dec_int un3i e11
  obtain ⟨x12, f12, _⟩ := dec_int un3i e12
  obtain ⟨x13, f13, _⟩ := dec_int un3i e13
  obtain ⟨x14, f14, _⟩ := dec_int un3i e14
  obtain ⟨x15, f15⟩ := dec_bool un4b e15
  simp at f0 f1 f2 f3 f4 f5 f6 f7 f8 f9 f10 f11 f12 f13 f14 f15
  subst f0 f1 f2 f3 f4 f5 f6 f7 f8 f9 f10 f11 f12 f13 f14 f15
  subst hB hP hR hZ
  rw [show Tryd.prog.bytesOf 28 = 16 by kernel_rfl] at sB sP
  rw [show Tryd.prog.bytesOf 85 = 24 by kernel_rfl] at sR
  rw [show Tryd.prog.bytesOf 49 = 40 by kernel_rfl] at sZ
  obtain ⟨S, hS, qS⟩ := list_of (Q := fun i (s : Cell × List Int) => ∀ r, Z[i]? = some r → (r.x, r.y) = s.1 ∧ r.n = s.2.length ∧ Room s.2.length 8 ∧ ∀ h, Dis (ground w) h → Sees icC (ground w) h (.slice r.a s.2.length r.c) s.2) Z.length (fun i hi => by
    obtain ⟨L, e, rm, se⟩ := qZ _ (List.getElem_mem hi)
    refine ⟨((Z[i].x, Z[i].y), L), fun r hr => ?_⟩
    rw [List.getElem?_eq_getElem hi] at hr
    cases hr
    exact ⟨rfl, e, rm, fun h d => by rw [← e]; exact se h d⟩)
  refine ⟨⟨x0, x1, x2, B, PO, R, S, x7, x8, x9, x10, x11, x12, x13, x14, x15⟩, fun h d => ⟨ab, cb, ap, cp, ar, cr, az, cz, by simp only [confV, hS], gB h d, gP h d, gR h d, Z, by show Sees rawC _ h (.slice az S.length cz) Z; rw [hS]; exact gZ h d, fun i r s hr hs => ?_⟩, ⟨room_of sB (by decide), room_of sP (by decide), room_of sR (by decide), by show Room S.length 40; rw [hS]; exact room_of sZ (by decide), fun s hs => ?_⟩, qR⟩
  · obtain ⟨a, b, c, e⟩ := qS i s hs r hr
    exact ⟨a, b, e h d⟩
  · obtain ⟨i, hi⟩ := List.getElem?_of_mem hs
    have hi2 : i < Z.length := by rw [← hS]; exact (List.getElem?_eq_some_iff.1 hi).1
    exact (qS i s hi _ (List.getElem?_eq_getElem hi2)).2.2.1

theorem int_arg {r : Reach} {b0 : Nat} {v : Value} {d : DataW H} {ps : List MemPlace} (k : Value.okWide Tryd.prog w r b0 3 v) (h : DataW.Trod enc Tryd.prog w base spare held 3 v d ps) : ∃ n : Int, v = .int .i64 n ∧ Bd n := by
  obtain ⟨n, rfl, rfl, rfl, wf⟩ := open_int un3i k h
  exact ⟨n, rfl, by simpa [Lit.wf, IntKind.min, IntKind.max, IntKind.signed, IntKind.bits, Bd] using wf⟩
/-- The config as an argument. -/
theorem conf_arg {r : Reach} {b0 : Nat} {v : Value} {d : DataW H} {ps : List MemPlace} (k : Value.okWide Tryd.prog w r b0 26 v) (h : DataW.Trod enc Tryd.prog w base spare held 26 v d ps) (hl : Light Tryd.prog 26 d) :
    ∃ C : Conf, (∀ h, Dis (ground w) h → CV (ground w) h v C) ∧ Fit0 C ∧ ∀ p ∈ C.ro, PB p := by
  obtain ⟨cs, rfl⟩ := okWide_structF sf26 k
  obtain ⟨m, h⟩ := h
  obtain ⟨C, hC, f, hp⟩ := conf_dec (cs := cs.toList) h hl
  exact ⟨C, fun h d => by simpa using hC h d, f, hp⟩
end
end Go.Proofs.YtangejiigopdaaaDoor
end

section
/- Cells and stacks that come in as arguments. -/
set_option linter.unusedSimpArgs false
set_option linter.unusedVariables false
set_option maxRecDepth 100000
namespace Go.Proofs.YtangejiigopdaaaDoor
open Go Go.HL Go.ChangeShapes Go.WideShapes Go.RowKit

section
variable {H : Type} {enc : TypeId × Value → H} {w : World} {base : Nat} {spare : Nat → Bool} {held : Bool}
end
end Go.Proofs.YtangejiigopdaaaDoor
end

section
/- Small configs; what the place is; the law's own bins. -/
set_option linter.unusedSimpArgs false
set_option linter.unusedVariables false
set_option maxRecDepth 100000
namespace Go.Proofs.YtangejiigopdaaaDoor
open Go Go.HL

structure SmallOk (C : Conf) : Prop where
  w : C.w ≤ 6
  h : C.h ≤ 6
  ro : C.ro.length ≤ 4
  may : MayOk C
set_option maxHeartbeats 4000000 in
theorem small_spec {G h : Hp} {v : Value} {C : Conf} (hv : CV G h v C) : HCalls Tryd.prog G 19 #[v] h (fun u h' => (∃ b, u = .bool b ∧ (b = true → SmallOk C)) ∧ h' = h) := by
  have hv0 := hv
  obtain ⟨ab, cb, ap, cp, ar, cr, az, cs, rfl, ca⟩ := hv
  refine HCalls.assume fun d => quietly (enter19 (by simp) ?_)
  unfold S19
  simp -implicitDefEqProofs only [regs0, retK_ret, resL_tmp, upd_eq, resL_nil1, opH_sv, box_new, cells_agg, fa26_0, add_mk, Nat.add_zero, ld3, cell_set_self, List.getElem?_cons_zero, Option.some.injEq, exists_eq_left', bin_leq]
  intro x hx gx
  generalize e1 : Hp.set h x _ = h1
  obtain ⟨l1, d1, b1⟩ := boxed e1 hx d gx
  have cx : ∀ j, cellIn G h1 ⟨x, j, none⟩ = _ := fun j => cell_of (look_own b1)
  by_cases g1 : C.w ≤ 6
  rotate_left
  · try simp -implicitDefEqProofs only [decide_eq_false g1, pick_f, gd_ft]
    exact ⟨⟨false, rfl, by simp⟩, l1⟩
  by_cases g2 : C.h ≤ 6
  rotate_left
  · try simp -implicitDefEqProofs only [decide_eq_true g1, pick_t, gd_tt, opH_sv, fa26_1, add_mk, Nat.zero_add, ld3, cx, List.getElem?_cons_succ, List.getElem?_cons_zero, Option.some.injEq, exists_eq_left', bin_leq, decide_eq_false g2, pick_f, gd_ft]
    exact ⟨⟨false, rfl, by simp⟩, l1⟩
  by_cases g3 : C.bu ≤ 4000
  rotate_left
  · try simp -implicitDefEqProofs only [decide_eq_true g1, pick_t, gd_tt, opH_sv, fa26_1, add_mk, Nat.zero_add, ld3, cx, List.getElem?_cons_succ, List.getElem?_cons_zero, Option.some.injEq, exists_eq_left', bin_leq, decide_eq_true g2, fa26_14, decide_eq_false g3, pick_f, gd_ft]
    exact ⟨⟨false, rfl, by simp⟩, l1⟩
  by_cases g4 : C.un ≤ 100
  rotate_left
  · try simp -implicitDefEqProofs only [decide_eq_true g1, pick_t, gd_tt, opH_sv, fa26_1, add_mk, Nat.zero_add, ld3, cx, List.getElem?_cons_succ, List.getElem?_cons_zero, Option.some.injEq, exists_eq_left', bin_leq, decide_eq_true g2, fa26_14, decide_eq_true g3, fa26_7, decide_eq_false g4, pick_f, gd_ft]
    exact ⟨⟨false, rfl, by simp⟩, l1⟩
  by_cases g5 : C.tu ≤ 200
  rotate_left
  · try simp -implicitDefEqProofs only [decide_eq_true g1, pick_t, gd_tt, opH_sv, fa26_1, add_mk, Nat.zero_add, ld3, cx, List.getElem?_cons_succ, List.getElem?_cons_zero, Option.some.injEq, exists_eq_left', bin_leq, decide_eq_true g2, fa26_14, decide_eq_true g3, fa26_7, decide_eq_true g4, fa26_10, decide_eq_false g5, pick_f, gd_ft]
    exact ⟨⟨false, rfl, by simp⟩, l1⟩
  by_cases g6 : C.ho ≤ 200
  rotate_left
  · try simp -implicitDefEqProofs only [decide_eq_true g1, pick_t, gd_tt, opH_sv, fa26_1, add_mk, Nat.zero_add, ld3, cx, List.getElem?_cons_succ, List.getElem?_cons_zero, Option.some.injEq, exists_eq_left', bin_leq, decide_eq_true g2, fa26_14, decide_eq_true g3, fa26_7, decide_eq_true g4, fa26_10, decide_eq_true g5, fa26_11, decide_eq_false g6, pick_f, gd_ft]
    exact ⟨⟨false, rfl, by simp⟩, l1⟩
  by_cases g7 : ((C.ro.length : Nat) : Int) ≤ 4
  rotate_left
  · try simp -implicitDefEqProofs only [decide_eq_true g1, pick_t, gd_tt, opH_sv, fa26_1, add_mk, Nat.zero_add, ld3, cx, List.getElem?_cons_succ, List.getElem?_cons_zero, Option.some.injEq, exists_eq_left', bin_leq, decide_eq_true g2, fa26_14, decide_eq_true g3, fa26_7, decide_eq_true g4, fa26_10, decide_eq_true g5, fa26_11, decide_eq_true g6, fa26_5, ld23, ln23, decide_eq_false g7, pick_f, gd_ft]
    exact ⟨⟨false, rfl, by simp⟩, l1⟩
  try simp -implicitDefEqProofs only [decide_eq_true g1, pick_t, gd_tt, opH_sv, fa26_1, add_mk, Nat.zero_add, ld3, cx, List.getElem?_cons_succ, List.getElem?_cons_zero, Option.some.injEq, exists_eq_left', bin_leq, decide_eq_true g2, fa26_14, decide_eq_true g3, fa26_7, decide_eq_true g4, fa26_10, decide_eq_true g5, fa26_11, decide_eq_true g6, fa26_5, ld23, ln23, decide_eq_true g7, cf14, ld26, Nat.add_zero]
  refine (rmay_spec (hv0.up l1 d1)).mono ?_
  rintro _ h1 ⟨⟨b, rfl, hb⟩, rfl⟩
  try simp -implicitDefEqProofs only [opH_sv, opH_su, pureW_sv, opH_nil, pureW_nil, pick_t, pick_f, pick_tp, pick_fp, gd_tt, gd_ft, gd_tf, gd_ff, box_new, regs0, regs1, regs2, regs3, regs4, regs5, regs6, cells_agg, cells_int, cells_bool, cells_ptr, cells_slice, cells_string, cells_func, cells_nilFunc, cells_map, retK_ret, retK_normal, resL_tmp, resL_cell, resL_nil0, resL_nil1, resL_nil2, resL_nil3, resC_ptr, ex0, ex1, ex2, ex0p, ex1p, ex2p, HL.cond_true, HL.cond_false, thenK_normal, thenK_ret, thenK_exit, blockK_normal, blockK_ret, blockK_exit, scopeK_normal, scopeK_ret, scopeK_exit, wpH_pure, bin_add, bin_sub, bin_mul, bin_lss, bin_leq, bin_gtr, bin_geq, bin_quo, bin_rem, bin_quop, bin_remp, wrap_in, bin_addp, bin_subp, bin_mulp, bin_lssp, bin_leqp, bin_gtrp, bin_geqp, un_not, un_notp, un_neg, eq_int, ne_int, eq_intp, ne_intp, callV_fn, add_mk, upd_eq, upd_ne, cell_set_self, Nat.zero_add, Nat.add_zero, Option.some.injEq, exists_eq_left', List.getElem?_cons_succ, List.getElem?_cons_zero, true_and, and_true, bne_self_eq_false, beq_self_eq_true, Bool.not_true, Bool.not_false, Bool.and_true, Bool.and_self, Bool.and_false, Bool.true_and, List.length_cons, List.length_nil, ne_eq, not_false_eq_true, Nat.reduceAdd, Nat.reduceMul, if_true, if_false, oneCell_int, oneCell_bool, oneCell_ptr, oneCell_slice, oneCell_string, oneCell_func, oneCell_map, Int.toNat_natCast, List.set_cons_zero, List.set_cons_succ, Nat.lt_irrefl, Nat.zero_lt_succ, Nat.succ_lt_succ_iff, fa26_0, fa26_0p, fa26_1, fa26_1p, fa26_10, fa26_10p, fa26_11, fa26_11p, fa26_12, fa26_12p, fa26_13, fa26_13p, fa26_14, fa26_14p, fa26_15, fa26_15p, fa26_2, fa26_2p, fa26_3, fa26_3p, fa26_4, fa26_4p, fa26_5, fa26_5p, fa26_6, fa26_6p, fa26_7, fa26_7p, fa26_8, fa26_8p, fa26_9, fa26_9p, fa28_0, fa28_0p, fa28_1, fa28_1p, fa45_0, fa45_0p, fa45_1, fa45_1p, fa45_2, fa45_2p, fa45_3, fa45_3p, fa45_4, fa45_4p, fa45_5, fa45_5p, fa45_6, fa45_6p, fa49_0, fa49_0p, fa49_1, fa49_1p, fa74_0, fa74_0p, fa74_1, fa74_1p, fa74_2, fa74_2p, fa74_3, fa74_3p, fa85_0, fa85_0p, fa85_1, fa85_1p, fa93_0, fa93_0p, fa93_1, fa93_1p, fa93_2, fa93_2p, ld3, ld3p, ld4, ld4p, ld22, ld22p, ld23, ld23p, ld24, ld24p, ld26, ld26p, ld28, ld28p, ld42, ld42p, ld45, ld45p, ld49, ld49p, ld58, ld58p, ld69, ld69p, ld72, ld72p, ld85, ld85p, st3s, st4s, st22s, st23s, st24s, st26w, st28w, st42s, st45w, st49w, st85w, ix22, ix22p, ix23, ix23p, ix24, ix24p, ix31, ix31p, ix42, ix42p, ix104, ix104p, ln22, ln22p, ln23, ln23p, ln24, ln24p, ln31, ln31p, ln42, ln42p, al4, al22, al26, al28, al42, al49, al85, cf10, cf11, cf12, cf13, cf14, cf15, cf16, cf17, cf18, cf19, cf20, cf21, cf22, cf23, cf24, cf25, cf26, cf27, cf28, cf29, cf30, cf31, cf32, cf33, cf34, cf35, cf36, cf37, cf38, cf39, cf40, cf41, cf42, cf43, cf44, cf45, cf46, cf47, cf48, cf49, cf50, cf51, cf52, cf53, cf54, cf55, cf56, cf57, cf58, cf59, cf60, cf61, cf62, cf63, cf64, cf65, cf66, cf67, cf68, cf69, cf70, cf71, cf72, cf73, cf74, cf75, bd26_0_1_2_7_8_9_10_11_12_13_14_4_15, bd26_0_1_2_7_8_9_10_11_12_13_14_4_15p, bd28_, bd28_p, bd28_0, bd28_0p, bd28_0_1, bd28_0_1p, bd45_1_3_4_5_6, bd45_1_3_4_5_6p, bd49_0_1, bd49_0_1p, bd49_1, bd49_1p, bd74_0_1_2_3, bd74_0_1_2_3p, bd85_0, bd85_0p, bd85_0_1, bd85_0_1p, bd93_0_1_2, bd93_0_1_2p, bd94_0_1_2_3, bd94_0_1_2_3p, bs42_1_0, bs22_1_0, bs24_1_0, bs42_3_0_1_2, bs31_1_0, bs22_2_0_1, bs42_6_0_1_2_3_4_5, bs42_0_, eq4, eq4p, eq28, eq28p, eq42n, eq42np, eq42s, eq42sp, eq58n, eq58np, eq58s, eq58sp, eq63n, eq63np, eq63s, eq63sp, ne28, ne28p, ne45, ne45p]
  exact ⟨⟨b, rfl, fun e => ⟨g1, g2, by omega, hb.1 e⟩⟩, l1⟩

end Go.Proofs.YtangejiigopdaaaDoor
end

section
/- DigMore: the walk. -/
set_option linter.unusedSimpArgs false
set_option linter.unusedVariables false
set_option maxRecDepth 100000
namespace Go.Proofs.YtangejiigopdaaaDoor
open Go Go.HL

theorem CA.sts {G h : Hp} {C : Conf} {ab : Option Addr} {cb : Nat} {ap : Option Addr} {cp : Nat} {ar : Option Addr} {cr : Nat} {az : Option Addr} {cs : Nat} (ca : CA G h C ab cb ap cp ar cr az cs) : StS G h (.slice az C.st.length cs) C.st := ⟨az, cs, rfl, ca.st⟩

end Go.Proofs.YtangejiigopdaaaDoor
end

section
/- DigRefuses: plain laws, the walk. -/
set_option linter.unusedSimpArgs false
set_option linter.unusedVariables false
set_option maxRecDepth 100000
namespace Go.Proofs.YtangejiigopdaaaDoor
open Go Go.HL

theorem mem_pickFrom {α : Type} {p : Nat → Bool} {mk : Nat → α} {x : α} : ∀ {k n : Nat}, x ∈ pickFrom p mk n k ↔ ∃ j, n ≤ j ∧ j < n + k ∧ p j = true ∧ x = mk j
  | 0, n => by simp only [pickFrom, List.not_mem_nil, false_iff]; rintro ⟨j, h1, h2, _⟩; omega
  | k + 1, n => by
    have ih := mem_pickFrom (p := p) (mk := mk) (x := x) (k := k) (n := n + 1)
    rw [pickFrom]
    constructor
    · intro h
      split at h
      · rename_i hp
        rcases List.mem_cons.1 h with rfl | h
        · exact ⟨n, Nat.le_refl _, by omega, hp, rfl⟩
        · obtain ⟨j, h1, h2, h3⟩ := ih.1 h
          exact ⟨j, by omega, by omega, h3⟩
      · obtain ⟨j, h1, h2, h3⟩ := ih.1 h
        exact ⟨j, by omega, by omega, h3⟩
    · rintro ⟨j, h1, h2, h3, h4⟩
      by_cases hj : j = n
      · subst hj
        rw [if_pos h3, h4]
        exact .head _
      · have := ih.2 ⟨j, by omega, by omega, h3, h4⟩
        split
        · exact .tail _ this
        · exact this
theorem mem_rstacks {C : Conf} (m : MadeOk C) {c : Cell} : c ∈ rstacksL C ↔ stackedB C c = true := by
  obtain ⟨e1, e2, _⟩ := within_wk m.laid.w m.laid.h
  unfold rstacksL
  rw [mem_dirsL]
  constructor
  · rintro ⟨j, _, _, h⟩
    obtain ⟨i, _, _, hp, rfl⟩ := mem_pickFrom.1 h
    exact hp
  · intro h
    have hi : inB C c = true := by
      unfold stackedB openB at h
      simp only [Bool.and_eq_true] at h
      exact h.1.1
    unfold inB at hi
    simp only [Bool.and_eq_true, decide_eq_true_eq, ge_iff_le] at hi
    obtain ⟨h1, h2, h3, h4⟩ := hi
    refine ⟨c.2.toNat, Nat.zero_le _, by omega, mem_pickFrom.2 ⟨c.1.toNat, Nat.zero_le _, by omega, ?_, ?_⟩⟩
    · have : ((((c.1.toNat : Nat) : Int), ((c.2.toNat : Nat) : Int)) : Cell) = c := Prod.ext (by simp; omega) (by simp; omega)
      rw [this]
      exact h
    · exact Prod.ext (by simp; omega) (by simp; omega)

theorem binsL_mem {S : List Stk} {c : Cell} {x : Int} (h : x ∈ binsL S c) : ∃ s ∈ S, s.1 = c ∧ x ∈ s.2 := by
  induction S with
  | nil => simp [binsL] at h
  | cons s S ih =>
    rw [binsL] at h
    split at h
    · rename_i hs
      exact ⟨s, .head _, eq_of_beq hs, h⟩
    · obtain ⟨s', h1, h2⟩ := ih h
      exact ⟨s', .tail _ h1, h2⟩
theorem findIn_no {S : List Stk} {bin : Int} : ∀ {L : List Cell}, (∀ c ∈ L, bin ∉ binsL S c) → findIn S bin L = none
  | [], _ => rfl
  | c :: L, h => by rw [findIn, if_neg (h c (.head _))]; exact findIn_no fun x hx => h x (.tail _ hx)
theorem findIn_only {S : List Stk} {bin : Int} {c0 : Cell} : ∀ {L : List Cell}, c0 ∈ L → bin ∈ binsL S c0 → (∀ c, bin ∈ binsL S c → c = c0) → findIn S bin L = some (c0, aboveL (binsL S c0) bin)
  | [], h, _, _ => by cases h
  | c :: L, h, hb, hu => by
    rw [findIn]
    split
    · rename_i hc
      rw [hu c hc]
    · rename_i hc
      rcases List.mem_cons.1 h with rfl | h
      · exact absurd hb hc
      · exact findIn_only h hb hu
/-- Each bin lies in one stack. -/
theorem one_stack {S : List Stk} (h : (S.flatMap Prod.snd).Nodup) {s t : Stk} {x : Int} (hs : s ∈ S) (ht : t ∈ S) (xs : x ∈ s.2) (xt : x ∈ t.2) : s = t := by
  induction S with
  | nil => cases hs
  | cons y S ih =>
    rw [List.flatMap_cons, List.nodup_append] at h
    obtain ⟨_, h2, h3⟩ := h
    rcases List.mem_cons.1 hs with e1 | hs' <;> rcases List.mem_cons.1 ht with e2 | ht'
    · rw [e1, e2]
    · subst e1
      exact absurd rfl (h3 x xs x (List.mem_flatMap.2 ⟨t, ht', xt⟩))
    · subst e2
      exact absurd rfl (h3 x xt x (List.mem_flatMap.2 ⟨s, hs', xs⟩))
    · exact ih h2 hs' ht'
theorem port_pos {C : Conf} {c : Cell} (h : c ∈ C.po) : ¬ portI C c < 0 := by
  rw [port_iff]
  exact fun hn => hn h

theorem refuses0 {C : Conf} (sm : MayOk C) {p : Cell} (hp : p ∈ C.po) {bin : Int} (hb : bin < 0) : jobsR C C.st [] bin p = ([], 9) :=
  jobsR_bin (port_pos hp) (findIn_no fun c _ hc => by
    obtain ⟨s, h1, _, h2⟩ := binsL_mem hc
    have := sm.bins.nums bin (List.mem_flatMap.2 ⟨s, h1, h2⟩)
    unfold withinB at this
    simp at this
    omega)
theorem refuses1 {C : Conf} (hm : MadeOk C) (sm : MayOk C) {p : Cell} (hp : p ∈ C.po) {s : Stk} (hs : C.st[0]? = some s) {bin : Int} (hb : s.2[0]? = some bin) : jobsR C C.st [s.1] bin p = ([], 8) := by
  have hsm := List.mem_of_getElem? hs
  have hbm := List.mem_of_getElem? hb
  have e : binsL C.st s.1 = s.2 := by
    cases hst : C.st with
    | nil => rw [hst] at hs; simp at hs
    | cons y S =>
      rw [hst] at hs
      simp at hs
      subst hs
      rw [binsL, if_pos (by simp)]
  have hf := findIn_only (S := C.st) (bin := bin) (c0 := s.1) (L := rstacksL C) ((mem_rstacks hm).2 (sm.bins.each s hsm).1) (by rw [e]; exact hbm) (fun c hc => by
    obtain ⟨t, h1, h2, h3⟩ := binsL_mem hc
    rw [← h2, one_stack sm.bins.once h1 hsm h3 hbm])
  exact jobsR_touched (port_pos hp) hf (by simp)
theorem refuses2 {C : Conf} (sm : MayOk C) {s : Stk} (hs : C.st[0]? = some s) {bin : Int} : jobsR C C.st [] bin s.1 = ([], 10) := by
  refine jobsR_port ?_
  have := (sm.bins.each s (List.mem_of_getElem? hs)).1
  unfold stackedB at this
  simp only [Bool.and_eq_true, decide_eq_true_eq] at this
  exact this.2.1

theorem nilStS {G h : Hp} : Sees cellC G h (.slice none 0 0) ([] : List Cell) := ⟨none, 0, rfl, Nat.le_refl _, .inl rfl⟩

set_option maxHeartbeats 8000000 in
theorem refuses_walk {G : Hp} {v : Value} {C : Conf} {bin which : Int} (st : Steps G) (hv : CV G noHp v C) (fit : Fit0 C) (hp : ∀ p ∈ C.ro, PB p) (bb : Bd bin) (bw : Bd which) :
    HCalls Tryd.prog G 5 #[v, .int .i64 bin, .int .i64 which] noHp (fun u _ => u = .bool true) := by
  obtain ⟨lb, lp, lr, ls⟩ := fit.lens
  have hv0 := hv
  obtain ⟨ab, cb, ap, cp, ar, cr, az, cs, rfl, ca⟩ := hv
  refine HCalls.assume fun d => enter5 (by simp) ?_
  unfold S5
  simp -implicitDefEqProofs only [regs0, retK_ret, resL_tmp, upd_eq, resL_nil1, cf10, opH_sv, cf19, box_new, cells_agg, ld26, add_mk, Nat.add_zero, cell_set_self, List.getElem?_cons_zero, Option.some.injEq, Nat.zero_add, List.getElem?_cons_succ, exists_eq_left']
  intro x hx gx
  generalize e1 : Hp.set noHp x _ = h1
  obtain ⟨l1, d1, b1⟩ := boxed e1 hx d gx
  have awake : ∀ (hh : Hp) {R : Value → Hp → Prop}, (∀ hh', R (.bool true) hh') → HCalls Tryd.prog G 10 #[] hh R := fun hh R H => (awake_spec st).mono (by rintro _ _ ⟨rfl, rfl⟩; exact H _)
  have cx : ∀ j, cellIn G h1 ⟨x, j, none⟩ = _ := fun j => cell_of (look_own b1)
  try simp -implicitDefEqProofs only [opH_sv, opH_su, pureW_sv, opH_nil, pureW_nil, pick_t, pick_f, pick_tp, pick_fp, gd_tt, gd_ft, gd_tf, gd_ff, box_new, regs0, regs1, regs2, regs3, regs4, regs5, regs6, cells_agg, cells_int, cells_bool, cells_ptr, cells_slice, cells_string, cells_func, cells_nilFunc, cells_map, retK_ret, retK_normal, resL_tmp, resL_cell, resL_nil0, resL_nil1, resL_nil2, resL_nil3, resC_ptr, ex0, ex1, ex2, ex0p, ex1p, ex2p, HL.cond_true, HL.cond_false, thenK_normal, thenK_ret, thenK_exit, blockK_normal, blockK_ret, blockK_exit, scopeK_normal, scopeK_ret, scopeK_exit, wpH_pure, bin_add, bin_sub, bin_mul, bin_lss, bin_leq, bin_gtr, bin_geq, bin_quo, bin_rem, bin_quop, bin_remp, wrap_in, bin_addp, bin_subp, bin_mulp, bin_lssp, bin_leqp, bin_gtrp, bin_geqp, un_not, un_notp, un_neg, eq_int, ne_int, eq_intp, ne_intp, callV_fn, add_mk, upd_eq, upd_ne, cell_set_self, Nat.zero_add, Nat.add_zero, Option.some.injEq, exists_eq_left', List.getElem?_cons_succ, List.getElem?_cons_zero, true_and, and_true, bne_self_eq_false, beq_self_eq_true, Bool.not_true, Bool.not_false, Bool.and_true, Bool.and_self, Bool.and_false, Bool.true_and, List.length_cons, List.length_nil, ne_eq, not_false_eq_true, Nat.reduceAdd, Nat.reduceMul, if_true, if_false, oneCell_int, oneCell_bool, oneCell_ptr, oneCell_slice, oneCell_string, oneCell_func, oneCell_map, Int.toNat_natCast, List.set_cons_zero, List.set_cons_succ, Nat.lt_irrefl, Nat.zero_lt_succ, Nat.succ_lt_succ_iff, fa26_0, fa26_0p, fa26_1, fa26_1p, fa26_10, fa26_10p, fa26_11, fa26_11p, fa26_12, fa26_12p, fa26_13, fa26_13p, fa26_14, fa26_14p, fa26_15, fa26_15p, fa26_2, fa26_2p, fa26_3, fa26_3p, fa26_4, fa26_4p, fa26_5, fa26_5p, fa26_6, fa26_6p, fa26_7, fa26_7p, fa26_8, fa26_8p, fa26_9, fa26_9p, fa28_0, fa28_0p, fa28_1, fa28_1p, fa45_0, fa45_0p, fa45_1, fa45_1p, fa45_2, fa45_2p, fa45_3, fa45_3p, fa45_4, fa45_4p, fa45_5, fa45_5p, fa45_6, fa45_6p, fa49_0, fa49_0p, fa49_1, fa49_1p, fa74_0, fa74_0p, fa74_1, fa74_1p, fa74_2, fa74_2p, fa74_3, fa74_3p, fa85_0, fa85_0p, fa85_1, fa85_1p, fa93_0, fa93_0p, fa93_1, fa93_1p, fa93_2, fa93_2p, ld3, ld3p, ld4, ld4p, ld22, ld22p, ld23, ld23p, ld24, ld24p, ld26, ld26p, ld28, ld28p, ld42, ld42p, ld45, ld45p, ld49, ld49p, ld58, ld58p, ld69, ld69p, ld72, ld72p, ld85, ld85p, st3s, st4s, st22s, st23s, st24s, st26w, st28w, st42s, st45w, st49w, st85w, ix22, ix22p, ix23, ix23p, ix24, ix24p, ix31, ix31p, ix42, ix42p, ix104, ix104p, ln22, ln22p, ln23, ln23p, ln24, ln24p, ln31, ln31p, ln42, ln42p, al4, al22, al26, al28, al42, al49, al85, cf10, cf11, cf12, cf13, cf14, cf15, cf16, cf17, cf18, cf19, cf20, cf21, cf22, cf23, cf24, cf25, cf26, cf27, cf28, cf29, cf30, cf31, cf32, cf33, cf34, cf35, cf36, cf37, cf38, cf39, cf40, cf41, cf42, cf43, cf44, cf45, cf46, cf47, cf48, cf49, cf50, cf51, cf52, cf53, cf54, cf55, cf56, cf57, cf58, cf59, cf60, cf61, cf62, cf63, cf64, cf65, cf66, cf67, cf68, cf69, cf70, cf71, cf72, cf73, cf74, cf75, bd26_0_1_2_7_8_9_10_11_12_13_14_4_15, bd26_0_1_2_7_8_9_10_11_12_13_14_4_15p, bd28_, bd28_p, bd28_0, bd28_0p, bd28_0_1, bd28_0_1p, bd45_1_3_4_5_6, bd45_1_3_4_5_6p, bd49_0_1, bd49_0_1p, bd49_1, bd49_1p, bd74_0_1_2_3, bd74_0_1_2_3p, bd85_0, bd85_0p, bd85_0_1, bd85_0_1p, bd93_0_1_2, bd93_0_1_2p, bd94_0_1_2_3, bd94_0_1_2_3p, bs42_1_0, bs22_1_0, bs24_1_0, bs42_3_0_1_2, bs31_1_0, bs22_2_0_1, bs42_6_0_1_2_3_4_5, bs42_0_, eq4, eq4p, eq28, eq28p, eq42n, eq42np, eq42s, eq42sp, eq58n, eq58np, eq58s, eq58sp, eq63n, eq63np, eq63s, eq63sp, ne28, ne28p, ne45, ne45p, cx]
  refine (small_spec (hv0.up l1 d1)).mono ?_
  rintro _ h1 ⟨⟨b, rfl, hb⟩, rfl⟩
  cases b with
  | false =>
    try simp -implicitDefEqProofs only [un_not, Bool.not_false, pick_t, HL.cond_true, gd_tf]
    refine awake _ fun _ => ?_
    try simp -implicitDefEqProofs only []
  | true =>
  have sm := hb rfl
  have hm : MadeOk C := made_may.2 sm.may
  cases hpo : C.po[0]? with
  | none =>
    have e0 : (((C.po.length : Nat) : Int) == 0) = true := by
      rw [List.getElem?_eq_none_iff] at hpo
      simp; exact List.length_eq_zero_iff.1 (by omega)
    try simp -implicitDefEqProofs only [un_not, Bool.not_true, pick_f, gd_ff, opH_sv, fa26_4, add_mk, Nat.zero_add, ld22, cx, List.getElem?_cons_succ, List.getElem?_cons_zero, Option.some.injEq, exists_eq_left', ln22, eq_int, e0, pick_t, HL.cond_true, gd_tf]
    refine awake _ fun _ => ?_
    try simp -implicitDefEqProofs only []
  | some p =>
  have hpl : 0 < C.po.length := (List.getElem?_eq_some_iff.1 hpo).1
  have hpm := List.mem_of_getElem? hpo
  have e0 : (((C.po.length : Nat) : Int) == 0) = false := by simp; intro h; rw [h] at hpl; simp at hpl
  cases hst : C.st[0]? with
  | none =>
    have e2 : (((C.st.length : Nat) : Int) == 0) = true := by
      rw [List.getElem?_eq_none_iff] at hst
      simp; exact List.length_eq_zero_iff.1 (by omega)
    try simp -implicitDefEqProofs only [un_not, Bool.not_true, pick_f, gd_ff, opH_sv, fa26_4, add_mk, Nat.zero_add, ld22, cx, List.getElem?_cons_succ, List.getElem?_cons_zero, Option.some.injEq, exists_eq_left', ln22, eq_int, e0, fa26_6, ld24, ln24, e2, pick_t, HL.cond_true, gd_tf]
    refine awake _ fun _ => ?_
    try simp -implicitDefEqProofs only []
  | some s =>
  have hsl : 0 < C.st.length := (List.getElem?_eq_some_iff.1 hst).1
  have e2 : (((C.st.length : Nat) : Int) == 0) = false := by simp; intro h; rw [h] at hsl; simp at hsl
  obtain ⟨raw, sr, srr⟩ := ca.st
  have hrl : raw.length = C.st.length := by
    obtain ⟨s', cap', e⟩ := sr.len
    simp at e
    omega
  obtain ⟨r, hr⟩ : ∃ r, raw[0]? = some r := ⟨_, List.getElem?_eq_getElem (by omega)⟩
  obtain ⟨er, en, eb⟩ := srr 0 r s hr hst
  have erx : s.1.1 = r.x ∧ s.1.2 = r.y := by rw [← er]; exact ⟨rfl, rfl⟩
  obtain ⟨zb, zo, cc, e3, e4⟩ := sr.get hr
  simp only [Value.slice.injEq] at e3
  obtain ⟨rfl, -, -⟩ := e3
  obtain ⟨pb0, po0, rfl, p0, p1⟩ := Sees.cell ca.po hpo
  simp only [Nat.zero_mul, Nat.add_zero] at p0 p1
  have rz : ∀ (hh : Hp), noHp.le hh → Dis G hh → cellIn G hh ⟨zb, zo, none⟩ = some (.int .i64 r.x) ∧ cellIn G hh ⟨zb, zo + 1, none⟩ = some (.int .i64 r.y) ∧ cellIn G hh ⟨zb, zo + 2, none⟩ = some (.slice r.a r.n r.c) := fun hh l dd => by
    have z0 := e4 0 (by decide)
    have z1 := e4 1 (by decide)
    have z2 := e4 2 (by decide)
    simp only [rawC, Nat.zero_mul, Nat.add_zero, List.getElem?_cons_zero, List.getElem?_cons_succ] at z0 z1 z2
    exact ⟨cell_up l dd z0, cell_up l dd z1, cell_up l dd z2⟩
  have hsl' : (0 : Int) < (C.st.length : Nat) := by omega
  have hpl' : (0 : Int) < (C.po.length : Nat) := by omega
  obtain ⟨z0, z1, z2⟩ := rz h1 l1 d1
  cases hbi : s.2[0]? with
  | none =>
    have e5 : (((r.n : Nat) : Int) == 0) = true := by
      rw [List.getElem?_eq_none_iff] at hbi
      simp; omega
    try simp -implicitDefEqProofs only [un_not, Bool.not_true, pick_f, gd_ff, opH_sv, fa26_4, add_mk, Nat.zero_add, ld22, cx, List.getElem?_cons_succ, List.getElem?_cons_zero, Option.some.injEq, exists_eq_left', ln22, eq_int, e0, fa26_6, ld24, ln24, e2, ix24 (by decide : (0 : Int) ≤ 0) hsl', show Int.toNat 0 = 0 from rfl, Nat.zero_mul, Nat.add_zero, fa49_1, ld42, z2, ln42, e5, HL.cond_true]
    refine awake _ fun _ => ?_
    try simp -implicitDefEqProofs only []
  | some bin0 =>
  have hbl : 0 < s.2.length := (List.getElem?_eq_some_iff.1 hbi).1
  have e5 : (((r.n : Nat) : Int) == 0) = false := by simp; omega
  try simp -implicitDefEqProofs (disch := first | with_reducible exact Nat.ne_of_beq_eq_false rfl | omega) only [un_not, Bool.not_true, pick_f, gd_ff, opH_sv, fa26_4, add_mk, Nat.zero_add, ld22, cx, List.getElem?_cons_succ, List.getElem?_cons_zero, Option.some.injEq, exists_eq_left', ln22, eq_int, e0, fa26_6, ld24, ln24, e2, ix24 (by decide : (0 : Int) ≤ 0) hsl', show Int.toNat 0 = 0 from rfl, Nat.zero_mul, Nat.add_zero, fa49_1, ld42, z2, ln42, e5, HL.cond_false]
  unfold S5_k1
  try simp -implicitDefEqProofs (maxSteps := 2000000) (disch := first | with_reducible exact Nat.ne_of_beq_eq_false rfl | exact oneCell_int | exact oneCell_bool | omega | rfl | (simp; done) | fail) only [upd_ne, upd_eq, regs2, regs1, retK_ret, resL_tmp, resL_nil1, pureW_sv, cf12, cf20, cf11, fa26_6p, add_mk, Nat.zero_add, ld24p, opH_sv, opH_su, al28, ld28p, Nat.add_zero, fa26_4, ld22, fa26_6, ld24, al26, ld26p, cf13, ld26, cx, List.getElem?_cons_zero, Option.some.injEq, List.getElem?_cons_succ, exists_eq_left']
  refine (copyconf_spec (hv0.up l1 d1) fit).mono ?_
  rintro u3 h3 ⟨⟨qb, qp, qr, qz, vb, vp, vr, vz, co⟩, d3⟩
  have l3 := co.sep.in 4 rfl
  have l03 := l1.trans l3
  obtain ⟨eu, ob, op, or, oz, s3⟩ := id co
  obtain ⟨xb1, xb2, rfl, _⟩ := ob.len (by decide)
  obtain ⟨xp1, xp2, rfl, _⟩ := op.len (by decide)
  obtain ⟨xr1, xr2, rfl, _⟩ := or.len (by decide)
  obtain ⟨xz1, xz2, rfl⟩ := oz.len
  subst eu
  try simp -implicitDefEqProofs only [st26w]
  intro y hy gy
  generalize e6 : Hp.set h3 y _ = h4
  obtain ⟨l4, d4, b4⟩ := boxed e6 hy d3 gy
  have l34 := l3.trans l4
  have l04 := l1.trans l34
  have cx4 : ∀ j, cellIn G h4 ⟨x, j, none⟩ = _ := fun j => cell_of (look_own (l34 _ _ b1))
  have cy4 : ∀ j, cellIn G h4 ⟨y, j, none⟩ = _ := fun j => cell_of (look_own b4)
  obtain ⟨w0, w1, w2⟩ := rz h4 l04 d4
  have hrn : (0 : Int) < (r.n : Nat) := by omega
  obtain ⟨bb0, bo0, ea, y0⟩ := Sees.num (eb.up l04 d4) hbi
  rw [Nat.add_zero] at y0
  rw [ea] at w2
  have q0 := cell_up l04 d4 p0
  have q1 := cell_up l04 d4 p1
  try simp -implicitDefEqProofs only [cx4, List.getElem?_cons_succ, List.getElem?_cons_zero, Option.some.injEq, exists_eq_left', ix24 (by decide : (0 : Int) ≤ 0) hsl', show Int.toNat 0 = 0 from rfl, Nat.zero_mul, add_mk, Nat.add_zero, fa49_1, ld42, w2, ix42 (by decide : (0 : Int) ≤ 0) hrn, ld3, y0, ix22 (by decide : (0 : Int) ≤ 0) hpl', ld28, q0, q1, st28w]
  intro z hz gz
  generalize e7 : Hp.set h4 z _ = h5
  obtain ⟨l5, d5, b5⟩ := boxed e7 hz d4 gz
  have l05 := l04.trans l5
  have l15 := l34.trans l5
  have cx5 : ∀ j, cellIn G h5 ⟨x, j, none⟩ = _ := fun j => cell_of (look_own (l15 _ _ b1))
  have cy5 : ∀ j, cellIn G h5 ⟨y, j, none⟩ = _ := fun j => cell_of (look_own (l5 _ _ b4))
  have cz5 : ∀ j, cellIn G h5 ⟨z, j, none⟩ = _ := fun j => cell_of (look_own b5)
  obtain ⟨k0, k1, k2⟩ := rz h5 l05 d5
  try simp -implicitDefEqProofs only [opH_sv, opH_su, pureW_sv, opH_nil, pureW_nil, pick_t, pick_f, pick_tp, pick_fp, gd_tt, gd_ft, gd_tf, gd_ff, box_new, regs0, regs1, regs2, regs3, regs4, regs5, regs6, cells_agg, cells_int, cells_bool, cells_ptr, cells_slice, cells_string, cells_func, cells_nilFunc, cells_map, retK_ret, retK_normal, resL_tmp, resL_cell, resL_nil0, resL_nil1, resL_nil2, resL_nil3, resC_ptr, ex0, ex1, ex2, ex0p, ex1p, ex2p, HL.cond_true, HL.cond_false, thenK_normal, thenK_ret, thenK_exit, blockK_normal, blockK_ret, blockK_exit, scopeK_normal, scopeK_ret, scopeK_exit, wpH_pure, bin_add, bin_sub, bin_mul, bin_lss, bin_leq, bin_gtr, bin_geq, bin_quo, bin_rem, bin_quop, bin_remp, wrap_in, bin_addp, bin_subp, bin_mulp, bin_lssp, bin_leqp, bin_gtrp, bin_geqp, un_not, un_notp, un_neg, eq_int, ne_int, eq_intp, ne_intp, callV_fn, add_mk, upd_eq, upd_ne, cell_set_self, Nat.zero_add, Nat.add_zero, Option.some.injEq, exists_eq_left', List.getElem?_cons_succ, List.getElem?_cons_zero, true_and, and_true, bne_self_eq_false, beq_self_eq_true, Bool.not_true, Bool.not_false, Bool.and_true, Bool.and_self, Bool.and_false, Bool.true_and, List.length_cons, List.length_nil, ne_eq, not_false_eq_true, Nat.reduceAdd, Nat.reduceMul, if_true, if_false, oneCell_int, oneCell_bool, oneCell_ptr, oneCell_slice, oneCell_string, oneCell_func, oneCell_map, Int.toNat_natCast, List.set_cons_zero, List.set_cons_succ, Nat.lt_irrefl, Nat.zero_lt_succ, Nat.succ_lt_succ_iff, fa26_0, fa26_0p, fa26_1, fa26_1p, fa26_10, fa26_10p, fa26_11, fa26_11p, fa26_12, fa26_12p, fa26_13, fa26_13p, fa26_14, fa26_14p, fa26_15, fa26_15p, fa26_2, fa26_2p, fa26_3, fa26_3p, fa26_4, fa26_4p, fa26_5, fa26_5p, fa26_6, fa26_6p, fa26_7, fa26_7p, fa26_8, fa26_8p, fa26_9, fa26_9p, fa28_0, fa28_0p, fa28_1, fa28_1p, fa45_0, fa45_0p, fa45_1, fa45_1p, fa45_2, fa45_2p, fa45_3, fa45_3p, fa45_4, fa45_4p, fa45_5, fa45_5p, fa45_6, fa45_6p, fa49_0, fa49_0p, fa49_1, fa49_1p, fa74_0, fa74_0p, fa74_1, fa74_1p, fa74_2, fa74_2p, fa74_3, fa74_3p, fa85_0, fa85_0p, fa85_1, fa85_1p, fa93_0, fa93_0p, fa93_1, fa93_1p, fa93_2, fa93_2p, ld3, ld3p, ld4, ld4p, ld22, ld22p, ld23, ld23p, ld24, ld24p, ld26, ld26p, ld28, ld28p, ld42, ld42p, ld45, ld45p, ld49, ld49p, ld58, ld58p, ld69, ld69p, ld72, ld72p, ld85, ld85p, st3s, st4s, st22s, st23s, st24s, st26w, st28w, st42s, st45w, st49w, st85w, ix22, ix22p, ix23, ix23p, ix24, ix24p, ix31, ix31p, ix42, ix42p, ix104, ix104p, ln22, ln22p, ln23, ln23p, ln24, ln24p, ln31, ln31p, ln42, ln42p, al4, al22, al26, al28, al42, al49, al85, cf10, cf11, cf12, cf13, cf14, cf15, cf16, cf17, cf18, cf19, cf20, cf21, cf22, cf23, cf24, cf25, cf26, cf27, cf28, cf29, cf30, cf31, cf32, cf33, cf34, cf35, cf36, cf37, cf38, cf39, cf40, cf41, cf42, cf43, cf44, cf45, cf46, cf47, cf48, cf49, cf50, cf51, cf52, cf53, cf54, cf55, cf56, cf57, cf58, cf59, cf60, cf61, cf62, cf63, cf64, cf65, cf66, cf67, cf68, cf69, cf70, cf71, cf72, cf73, cf74, cf75, bd26_0_1_2_7_8_9_10_11_12_13_14_4_15, bd26_0_1_2_7_8_9_10_11_12_13_14_4_15p, bd28_, bd28_p, bd28_0, bd28_0p, bd28_0_1, bd28_0_1p, bd45_1_3_4_5_6, bd45_1_3_4_5_6p, bd49_0_1, bd49_0_1p, bd49_1, bd49_1p, bd74_0_1_2_3, bd74_0_1_2_3p, bd85_0, bd85_0p, bd85_0_1, bd85_0_1p, bd93_0_1_2, bd93_0_1_2p, bd94_0_1_2_3, bd94_0_1_2_3p, bs42_1_0, bs22_1_0, bs24_1_0, bs42_3_0_1_2, bs31_1_0, bs22_2_0_1, bs42_6_0_1_2_3_4_5, bs42_0_, eq4, eq4p, eq28, eq28p, eq42n, eq42np, eq42s, eq42sp, eq58n, eq58np, eq58s, eq58sp, eq63n, eq63np, eq63s, eq63sp, ne28, ne28p, ne45, ne45p]
  refine (place_spec (a := which) (n := 3) bw (by decide) (by decide)).mono ?_
  rintro _ h5 ⟨rfl, rfl⟩
  have hcv : CV G h5 (confA C (.slice xb1 C.bl.length xb2) (.slice xp1 C.po.length xp2) (.slice xr1 C.ro.length xr2) (.slice xz1 C.st.length xz2)) C := co.cv (l4.trans l5)
  have hB := fun s hs => room8 (fit.bins s hs)
  have ts := fit.st
  have fin : ∀ {u : Value} {hh : Hp} {TL : List Cell} {bn : Int} {p : Cell} {n : Int} {R : Value → Hp → Prop} , True := trivial
  clear fin
  by_cases hw0 : (which % 3 == 0) = true
  · try simp -implicitDefEqProofs (disch := first | with_reducible exact Nat.ne_of_beq_eq_false rfl | omega) only [eq_int, hw0, cy5, List.getElem?_cons_zero, Option.some.injEq, List.getElem?_cons_succ, cx5, exists_eq_left', ix24p, add_mk, fa49_0p, Nat.add_zero, ld28p, bs22_1_0, HL.cond_true]
    refine (copystk_spec (ca.up l05 d5).sts fit.st fit.bins).mono ?_
    rintro u6 h6 ⟨qz2, oz2, s6, d6⟩
    have l6 : h5.le h6 := s6.in 1 rfl
    refine ⟨l6, ?_⟩
    try simp -implicitDefEqProofs (disch := first | with_reducible exact Nat.ne_of_beq_eq_false rfl | omega) only [opH_sv, opH_su, pureW_sv, opH_nil, pureW_nil, pick_t, pick_f, pick_tp, pick_fp, gd_tt, gd_ft, gd_tf, gd_ff, box_new, regs0, regs1, regs2, regs3, regs4, regs5, regs6, cells_agg, cells_int, cells_bool, cells_ptr, cells_slice, cells_string, cells_func, cells_nilFunc, cells_map, retK_ret, retK_normal, resL_tmp, resL_cell, resL_nil0, resL_nil1, resL_nil2, resL_nil3, resC_ptr, ex0, ex1, ex2, ex0p, ex1p, ex2p, HL.cond_true, HL.cond_false, thenK_normal, thenK_ret, thenK_exit, blockK_normal, blockK_ret, blockK_exit, scopeK_normal, scopeK_ret, scopeK_exit, wpH_pure, bin_add, bin_sub, bin_mul, bin_lss, bin_leq, bin_gtr, bin_geq, bin_quo, bin_rem, bin_quop, bin_remp, wrap_in, bin_addp, bin_subp, bin_mulp, bin_lssp, bin_leqp, bin_gtrp, bin_geqp, un_not, un_notp, un_neg, eq_int, ne_int, eq_intp, ne_intp, callV_fn, add_mk, upd_eq, upd_ne, cell_set_self, Nat.zero_add, Nat.add_zero, Option.some.injEq, exists_eq_left', List.getElem?_cons_succ, List.getElem?_cons_zero, true_and, and_true, bne_self_eq_false, beq_self_eq_true, Bool.not_true, Bool.not_false, Bool.and_true, Bool.and_self, Bool.and_false, Bool.true_and, List.length_cons, List.length_nil, ne_eq, not_false_eq_true, Nat.reduceAdd, Nat.reduceMul, if_true, if_false, oneCell_int, oneCell_bool, oneCell_ptr, oneCell_slice, oneCell_string, oneCell_func, oneCell_map, Int.toNat_natCast, List.set_cons_zero, List.set_cons_succ, Nat.lt_irrefl, Nat.zero_lt_succ, Nat.succ_lt_succ_iff, fa26_0, fa26_0p, fa26_1, fa26_1p, fa26_10, fa26_10p, fa26_11, fa26_11p, fa26_12, fa26_12p, fa26_13, fa26_13p, fa26_14, fa26_14p, fa26_15, fa26_15p, fa26_2, fa26_2p, fa26_3, fa26_3p, fa26_4, fa26_4p, fa26_5, fa26_5p, fa26_6, fa26_6p, fa26_7, fa26_7p, fa26_8, fa26_8p, fa26_9, fa26_9p, fa28_0, fa28_0p, fa28_1, fa28_1p, fa45_0, fa45_0p, fa45_1, fa45_1p, fa45_2, fa45_2p, fa45_3, fa45_3p, fa45_4, fa45_4p, fa45_5, fa45_5p, fa45_6, fa45_6p, fa49_0, fa49_0p, fa49_1, fa49_1p, fa74_0, fa74_0p, fa74_1, fa74_1p, fa74_2, fa74_2p, fa74_3, fa74_3p, fa85_0, fa85_0p, fa85_1, fa85_1p, fa93_0, fa93_0p, fa93_1, fa93_1p, fa93_2, fa93_2p, ld3, ld3p, ld4, ld4p, ld22, ld22p, ld23, ld23p, ld24, ld24p, ld26, ld26p, ld28, ld28p, ld42, ld42p, ld45, ld45p, ld49, ld49p, ld58, ld58p, ld69, ld69p, ld72, ld72p, ld85, ld85p, st3s, st4s, st22s, st23s, st24s, st26w, st28w, st42s, st45w, st49w, st85w, ix22, ix22p, ix23, ix23p, ix24, ix24p, ix31, ix31p, ix42, ix42p, ix104, ix104p, ln22, ln22p, ln23, ln23p, ln24, ln24p, ln31, ln31p, ln42, ln42p, al4, al22, al26, al28, al42, al49, al85, cf10, cf11, cf12, cf13, cf14, cf15, cf16, cf17, cf18, cf19, cf20, cf21, cf22, cf23, cf24, cf25, cf26, cf27, cf28, cf29, cf30, cf31, cf32, cf33, cf34, cf35, cf36, cf37, cf38, cf39, cf40, cf41, cf42, cf43, cf44, cf45, cf46, cf47, cf48, cf49, cf50, cf51, cf52, cf53, cf54, cf55, cf56, cf57, cf58, cf59, cf60, cf61, cf62, cf63, cf64, cf65, cf66, cf67, cf68, cf69, cf70, cf71, cf72, cf73, cf74, cf75, bd26_0_1_2_7_8_9_10_11_12_13_14_4_15, bd26_0_1_2_7_8_9_10_11_12_13_14_4_15p, bd28_, bd28_p, bd28_0, bd28_0p, bd28_0_1, bd28_0_1p, bd45_1_3_4_5_6, bd45_1_3_4_5_6p, bd49_0_1, bd49_0_1p, bd49_1, bd49_1p, bd74_0_1_2_3, bd74_0_1_2_3p, bd85_0, bd85_0p, bd85_0_1, bd85_0_1p, bd93_0_1_2, bd93_0_1_2p, bd94_0_1_2_3, bd94_0_1_2_3p, bs42_1_0, bs22_1_0, bs24_1_0, bs42_3_0_1_2, bs31_1_0, bs22_2_0_1, bs42_6_0_1_2_3_4_5, bs42_0_, eq4, eq4p, eq28, eq28p, eq42n, eq42np, eq42s, eq42sp, eq58n, eq58np, eq58s, eq58sp, eq63n, eq63np, eq63s, eq63sp, ne28, ne28p, ne45, ne45p]
    refine (place_spec (a := bin) (n := 1000) bb (by decide) (by decide)).mono ?_
    rintro _ h6 ⟨rfl, rfl⟩
    refine ⟨l6, ?_⟩
    have hbn : 0 ≤ bin % 1000 ∧ bin % 1000 < 1000 := ⟨Int.emod_nonneg _ (by decide), Int.emod_lt_of_pos _ (by decide)⟩
    try simp -implicitDefEqProofs (disch := first | with_reducible exact Nat.ne_of_beq_eq_false rfl | omega) only [cz5, List.getElem?_cons_zero, Option.some.injEq, List.getElem?_cons_succ, exists_eq_left', bin_subp, wrap_in]
    refine (jobs_spec (bin := -1 - bin % 1000) (port := p) (TL := []) (hcv.up l6 d6) (fun G' h' l => oz2.st ((s6.in 0 rfl).trans l)) (fun _ _ _ => nilStS) st hp ls ls (by decide) hB).mono ?_
    rintro _ h7 ⟨l7, d7, ⟨_, io, vv, rfl, _, _⟩ | ⟨hm', _⟩⟩
    rotate_left
    · exact absurd hm hm'
    rw [refuses0 sm.may hpm (by omega)]
    try simp -implicitDefEqProofs (maxSteps := 2000000) (disch := first | with_reducible exact Nat.ne_of_beq_eq_false rfl | exact oneCell_int | exact oneCell_bool | omega | rfl | (simp; done) | fail) only [ex1p, eq_int, beq_self_eq_true, pick_t, gd_tt, cf10, ex0p]
    refine awake _ fun _ => ?_
    try simp -implicitDefEqProofs (maxSteps := 2000000) (disch := first | with_reducible exact Nat.ne_of_beq_eq_false rfl | exact oneCell_int | exact oneCell_bool | omega | rfl | (simp; done) | fail) only []
  have hw0' : (which % 3 == 0) = false := by simpa using hw0
  by_cases hw1 : (which % 3 == 1) = true
  · try simp -implicitDefEqProofs (disch := first | with_reducible exact Nat.ne_of_beq_eq_false rfl | omega) only [eq_int, hw1, HL.cond_true, hw0', cy5, List.getElem?_cons_zero, Option.some.injEq, List.getElem?_cons_succ, cx5, exists_eq_left', ix24p, add_mk, fa49_0p, Nat.add_zero, ld28p, bs22_1_0, HL.cond_false]
    refine (copystk_spec (ca.up l05 d5).sts fit.st fit.bins).mono ?_
    rintro u6 h6 ⟨qz2, oz2, s6, d6⟩
    have l6 : h5.le h6 := s6.in 1 rfl
    refine ⟨l6, ?_⟩
    try simp -implicitDefEqProofs (disch := first | with_reducible exact Nat.ne_of_beq_eq_false rfl | omega) only [show Int.toNat 0 = 0 from rfl, Nat.zero_mul, Nat.add_zero, k0, Option.some.injEq, k1, exists_eq_left']
    intro t ht gt
    generalize e8 : Hp.set h6 t _ = h7
    obtain ⟨l7, d7, b7⟩ := boxed e8 ht d6 gt
    try simp -implicitDefEqProofs only [cz5, List.getElem?_cons_zero, Option.some.injEq, List.getElem?_cons_succ, exists_eq_left']
    have htl : ∀ G' h', h7.le h' → Sees cellC G' h' (.slice (some ⟨t, 0, none⟩) 1 1) [s.1] := fun G' h' l => by
      rw [← er]
      exact Sees.row (c := cellC) (L := [(r.x, r.y)]) (l _ _ b7) rfl (Nat.le_refl _)
    refine (jobs_spec (bin := bin0) (port := p) (TL := [s.1]) (hcv.up (l6.trans l7) d7) (fun G' h' l => oz2.st (((s6.in 0 rfl).trans l7).trans l)) htl st hp ls ls (by simp) hB).mono ?_
    rintro _ h8 ⟨l8, d8, ⟨_, io, vv, rfl, _, _⟩ | ⟨hm', _⟩⟩
    rotate_left
    · exact absurd hm hm'
    rw [refuses1 hm sm.may hpm hst hbi]
    try simp -implicitDefEqProofs (disch := first | with_reducible exact Nat.ne_of_beq_eq_false rfl | omega) only [ex1p, eq_int, beq_self_eq_true, pick_t, gd_tt, cf10, ex0p]
    refine awake _ fun _ => ?_
    try simp -implicitDefEqProofs (disch := first | with_reducible exact Nat.ne_of_beq_eq_false rfl | omega) only []
  have hw1' : (which % 3 == 1) = false := by simpa using hw1
  try simp -implicitDefEqProofs (disch := first | with_reducible exact Nat.ne_of_beq_eq_false rfl | omega) only [eq_int, hw1', HL.cond_false, hw0']
  unfold S5_k2
  try simp -implicitDefEqProofs (disch := first | with_reducible exact Nat.ne_of_beq_eq_false rfl | omega) only [upd_ne, upd_eq, retK_ret, resL_tmp, resL_nil1, pureW_sv, cf12, fa26_6p, add_mk, Nat.zero_add, ld24p, cx5, List.getElem?_cons_succ, List.getElem?_cons_zero, Option.some.injEq, exists_eq_left', ix24p, fa49_0p, Nat.add_zero, ld28p, cf11, ld26p, cy5]
  refine (copystk_spec (ca.up l05 d5).sts fit.st fit.bins).mono ?_
  rintro u6 h6 ⟨qz2, oz2, s6, d6⟩
  have l6 : h5.le h6 := s6.in 1 rfl
  refine ⟨l6, ?_⟩
  try simp -implicitDefEqProofs only [show Int.toNat 0 = 0 from rfl, Nat.zero_mul, Nat.add_zero, k0, Option.some.injEq, k1, exists_eq_left']
  rw [← erx.1, ← erx.2]
  refine (jobs_spec (bin := bin0) (port := s.1) (TL := []) (hcv.up l6 d6) (fun G' h' l => oz2.st ((s6.in 0 rfl).trans l)) (fun _ _ _ => nilStS) st hp ls ls (by decide) hB).mono ?_
  rintro _ h7 ⟨l7, d7, ⟨_, io, vv, rfl, _, _⟩ | ⟨hm', _⟩⟩
  rotate_left
  · exact absurd hm hm'
  rw [refuses2 sm.may hst]
  try simp -implicitDefEqProofs only [ex1p, eq_int, beq_self_eq_true, pick_t, gd_tt, cf10, ex0p]
  refine awake _ fun _ => ?_
  try simp -implicitDefEqProofs only []

end Go.Proofs.YtangejiigopdaaaDoor
end
