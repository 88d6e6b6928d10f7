/- Texts of the proof, one behind the other. -/
import Derived.Test.YtangejiigopdaaaDoorM5
import Derived.Test.YtangejiigopdaaaDoorM4
import Derived.Test.YtangejiigopdaaaDoorH3
section
/- The jobs: the walk. -/
set_option linter.unusedSimpArgs false
set_option linter.unusedVariables false
set_option maxRecDepth 100000
namespace Go.Proofs.YtangejiigopdaaaDoor
open Go Go.HL

theorem zip_step {F : Int → Cell → Job} {A : List Int} {GL : List Cell} {i : Nat} {b : Int} {z : Cell} (hA : A[i]? = some b) (hl : GL.length = i) : List.zipWith F (A.take (i + 1)) (GL ++ [z]) = List.zipWith F (A.take i) GL ++ [F b z] := by
  have hi := (List.getElem?_eq_some_iff.1 hA).1
  rw [List.take_add_one, hA]
  exact List.zipWith_append (by simp; omega)
theorem zip_len {F : Int → Cell → Job} {A : List Int} {GL : List Cell} : (List.zipWith F A GL).length ≤ GL.length := by
  rw [List.length_zipWith]
  exact Nat.min_le_right _ _
theorem above_len {B : List Int} {bin : Int} {n : Nat} (h : B.length ≤ n) : (aboveL B bin).length ≤ n := by
  unfold aboveL
  rw [List.length_reverse, List.length_drop]
  omega

def JobsPost (G h : Hp) (C : Conf) (S : List Stk) (TL : List Cell) (bin : Int) (port : Cell) (u : Value) (h' : Hp) : Prop := h.le h' ∧ Dis G h' ∧ ((MadeOk C ∧ ∃ io vv, u = .tuple #[vv, .int .i64 (jobsR C S TL bin port).2] ∧ Slc jobC 45 io vv (jobsR C S TL bin port).1 ∧ HL.Sep [io, h] h') ∨ (¬ MadeOk C ∧ u = .tuple #[.slice none 0 0, .int .i64 5]))

set_option maxHeartbeats 8000000 in
theorem jobs_spec {G h : Hp} {v sv tv : Value} {C : Conf} {S : List Stk} {TL : List Cell} {bin : Int} {port : Cell} (hv : CV G h v C) (hss : ∀ G' h', h.le h' → StS G' h' sv S) (htv : ∀ G' h', h.le h' → Sees cellC G' h' tv TL) (st : Steps G) (hp : ∀ p ∈ C.ro, PB p) (hsl : C.st.length ≤ 100000000000000) (hS : S.length ≤ 100000000000000) (hTL : TL.length ≤ 100000000000000) (hB : ∀ s ∈ S, s.2.length ≤ 17592186044320) :
    HCalls Tryd.prog G 12 #[v, sv, tv, .int .i64 bin, cellV port] h (JobsPost G h C S TL bin port) := by
  obtain ⟨ab, cb, ap, cp, ar, cr, az, cs, rfl, ca⟩ := hv
  obtain ⟨sa, sc, rfl, _⟩ := hss noHp h (Hp.le.refl h)
  obtain ⟨ta, tc, rfl⟩ := (htv noHp h (Hp.le.refl h)).len
  refine HCalls.assume fun d => enter12 (by simp) ?_
  unfold S12
  simp -implicitDefEqProofs only [regs0, regs4, regs1, regs2, retK_ret, resL_tmp, upd_ne, upd_eq, resL_nil2, opH_sv, cf33, box_new, cells_agg, ld26, add_mk, Nat.add_zero, Nat.zero_add]
  intro v0 hv0 gv0 v1 hv1 gv1
  generalize e1 : Hp.set h v0 _ = h1 at hv1 ⊢
  obtain ⟨l1, d1, b0⟩ := boxed e1 hv0 d gv0
  generalize e2 : Hp.set h1 v1 _ = h2
  obtain ⟨l2, d2, b1⟩ := boxed e2 hv1 d1 gv1
  have l02 := l1.trans l2
  have b0' := l2 _ _ b0
  have c0 : ∀ j, cellIn G h2 ⟨v0, j, none⟩ = _ := fun j => cell_of (look_own b0')
  try simp -implicitDefEqProofs only [c0, List.getElem?_cons_zero, Option.some.injEq, List.getElem?_cons_succ, exists_eq_left']
  refine (dlaid_spec (ca.up l02 d2).cv (hss G h2 l02) (htv G h2 l02) st hp hsl hS).mono ?_
  rintro _ h4 ⟨l4, d4, ⟨hm, ya, ga, yp, gp, kb, mb, is, rfl, s4, go, yo, his⟩ | ⟨hm, rfl⟩⟩
  rotate_left
  · try simp -implicitDefEqProofs only [ex1, ne_int, show ((5 : Int) != 0) = true from rfl, HL.cond_true, ex0]
    exact ⟨l02.trans l4, d4, .inr ⟨hm, rfl⟩⟩
  try simp -implicitDefEqProofs only [ex1, ne_int, bne_self_eq_false, HL.cond_false, ex0]
  unfold S12_k1
  have c1 : ∀ j, cellIn G h4 ⟨v1, j, none⟩ = _ := fun j => cell_of (look_own (l4 _ _ b1))
  have cyp : ∃ x17, ∀ (ya : Hp) (G h4 : Hp), True := ⟨0, fun _ _ _ => trivial⟩
  clear cyp
  obtain ⟨om, C', ab', cb', ap', cp', ar', cr', az', cs', ty, mi⟩ := id yo
  have cy : ∀ j, cellIn G h4 ⟨yp, j, none⟩ = _ := fun j => cell_of (look_own (s4.in 0 rfl _ _ (ty.at 0 rfl set_self)))
  try simp -implicitDefEqProofs (disch := first | with_reducible exact Nat.ne_of_beq_eq_false rfl | omega) only [upd_ne, upd_eq, retK_ret, resL_tmp, resL_nil2, pureW_sv, cf34, ld28p, add_mk, Nat.add_zero, c1, List.getElem?_cons_zero, Option.some.injEq, Nat.zero_add, List.getElem?_cons_succ, exists_eq_left', pureW_nil, fa74_1p, ld58p, cy]
  refine (port_spec (c := port) ((go.gs (G := G)).up (s4.in 1 rfl) d4) (fun x y => f3_bd hm x y)).mono ?_
  rintro _ h4 ⟨rfl, rfl⟩
  rw [port3_eq hm port]
  have ht8 : 1 ≤ C.ht ∧ C.ht ≤ 8 := by
    have := hm.ht
    unfold withinB at this
    simp at this
    exact this
  have w16 : wC C ≤ 16 := by have := hm.laid.w; unfold withinB at this; simp at this; unfold wC; omega
  have k16 : kC C ≤ 16 := by have := hm.laid.h; unfold withinB at this; simp at this; unfold kC; omega
  have hcl := rstacks_len w16 k16
  have fail : ∀ (n : Int) (hh : Hp), HL.Sep [h2] hh → Dis G hh → jobsR C S TL bin port = ([], n) → JobsPost G h C S TL bin port (.tuple #[.slice none 0 0, .int .i64 n]) hh := by
    intro n hh s dd e
    unfold JobsPost
    rw [e]
    exact ⟨l02.trans (s.in 0 rfl), dd, .inl ⟨hm, noHp, _, rfl, Slc.nil, (s.cut l02).none⟩⟩
  try simp -implicitDefEqProofs only [bin_lssp]
  refine cond_dec (fun hlt => ?_) (fun hge => ?_)
  · try simp -implicitDefEqProofs only [opH_sv, opH_su, pureW_sv, opH_nil, pureW_nil, pick_t, pick_f, pick_tp, pick_fp, gd_tt, gd_ft, gd_tf, gd_ff, box_new, regs0, regs1, regs2, regs3, regs4, regs5, regs6, cells_agg, cells_int, cells_bool, cells_ptr, cells_slice, cells_string, cells_func, cells_nilFunc, cells_map, retK_ret, retK_normal, resL_tmp, resL_cell, resL_nil0, resL_nil1, resL_nil2, resL_nil3, resC_ptr, ex0, ex1, ex2, ex0p, ex1p, ex2p, HL.cond_true, HL.cond_false, thenK_normal, thenK_ret, thenK_exit, blockK_normal, blockK_ret, blockK_exit, scopeK_normal, scopeK_ret, scopeK_exit, wpH_pure, bin_add, bin_sub, bin_mul, bin_lss, bin_leq, bin_gtr, bin_geq, bin_quo, bin_rem, bin_quop, bin_remp, wrap_in, bin_addp, bin_subp, bin_mulp, bin_lssp, bin_leqp, bin_gtrp, bin_geqp, un_not, un_notp, un_neg, eq_int, ne_int, eq_intp, ne_intp, callV_fn, add_mk, upd_eq, upd_ne, cell_set_self, Nat.zero_add, Nat.add_zero, Option.some.injEq, exists_eq_left', List.getElem?_cons_succ, List.getElem?_cons_zero, true_and, and_true, bne_self_eq_false, beq_self_eq_true, Bool.not_true, Bool.not_false, Bool.and_true, Bool.and_self, Bool.and_false, Bool.true_and, List.length_cons, List.length_nil, ne_eq, not_false_eq_true, Nat.reduceAdd, Nat.reduceMul, if_true, if_false, oneCell_int, oneCell_bool, oneCell_ptr, oneCell_slice, oneCell_string, oneCell_func, oneCell_map, Int.toNat_natCast, List.set_cons_zero, List.set_cons_succ, Nat.lt_irrefl, Nat.zero_lt_succ, Nat.succ_lt_succ_iff, fa26_0, fa26_0p, fa26_1, fa26_1p, fa26_10, fa26_10p, fa26_11, fa26_11p, fa26_12, fa26_12p, fa26_13, fa26_13p, fa26_14, fa26_14p, fa26_15, fa26_15p, fa26_2, fa26_2p, fa26_3, fa26_3p, fa26_4, fa26_4p, fa26_5, fa26_5p, fa26_6, fa26_6p, fa26_7, fa26_7p, fa26_8, fa26_8p, fa26_9, fa26_9p, fa28_0, fa28_0p, fa28_1, fa28_1p, fa45_0, fa45_0p, fa45_1, fa45_1p, fa45_2, fa45_2p, fa45_3, fa45_3p, fa45_4, fa45_4p, fa45_5, fa45_5p, fa45_6, fa45_6p, fa49_0, fa49_0p, fa49_1, fa49_1p, fa74_0, fa74_0p, fa74_1, fa74_1p, fa74_2, fa74_2p, fa74_3, fa74_3p, fa85_0, fa85_0p, fa85_1, fa85_1p, fa93_0, fa93_0p, fa93_1, fa93_1p, fa93_2, fa93_2p, ld3, ld3p, ld4, ld4p, ld22, ld22p, ld23, ld23p, ld24, ld24p, ld26, ld26p, ld28, ld28p, ld42, ld42p, ld45, ld45p, ld49, ld49p, ld58, ld58p, ld69, ld69p, ld72, ld72p, ld85, ld85p, st3s, st4s, st22s, st23s, st24s, st26w, st28w, st42s, st45w, st49w, st85w, ix22, ix22p, ix23, ix23p, ix24, ix24p, ix31, ix31p, ix42, ix42p, ix104, ix104p, ln22, ln22p, ln23, ln23p, ln24, ln24p, ln31, ln31p, ln42, ln42p, al4, al22, al26, al28, al42, al49, al85, cf10, cf11, cf12, cf13, cf14, cf15, cf16, cf17, cf18, cf19, cf20, cf21, cf22, cf23, cf24, cf25, cf26, cf27, cf28, cf29, cf30, cf31, cf32, cf33, cf34, cf35, cf36, cf37, cf38, cf39, cf40, cf41, cf42, cf43, cf44, cf45, cf46, cf47, cf48, cf49, cf50, cf51, cf52, cf53, cf54, cf55, cf56, cf57, cf58, cf59, cf60, cf61, cf62, cf63, cf64, cf65, cf66, cf67, cf68, cf69, cf70, cf71, cf72, cf73, cf74, cf75, bd26_0_1_2_7_8_9_10_11_12_13_14_4_15, bd26_0_1_2_7_8_9_10_11_12_13_14_4_15p, bd28_, bd28_p, bd28_0, bd28_0p, bd28_0_1, bd28_0_1p, bd45_1_3_4_5_6, bd45_1_3_4_5_6p, bd49_0_1, bd49_0_1p, bd49_1, bd49_1p, bd74_0_1_2_3, bd74_0_1_2_3p, bd85_0, bd85_0p, bd85_0_1, bd85_0_1p, bd93_0_1_2, bd93_0_1_2p, bd94_0_1_2_3, bd94_0_1_2_3p, bs42_1_0, bs22_1_0, bs24_1_0, bs42_3_0_1_2, bs31_1_0, bs22_2_0_1, bs42_6_0_1_2_3_4_5, bs42_0_, eq4, eq4p, eq28, eq28p, eq42n, eq42np, eq42s, eq42sp, eq58n, eq58np, eq58s, eq58sp, eq63n, eq63np, eq63s, eq63sp, ne28, ne28p, ne45, ne45p]
    exact fail 10 _ (s4.sel [2] (by decide) rfl) d4 (jobsR_port hlt)
  unfold S12_k2
  try simp -implicitDefEqProofs only [upd_ne, upd_eq, regs1, regs3, retK_ret, resL_tmp, resL_nil2, regs2, cf36, opH_sv, opH_su, al28, ld28, add_mk, Nat.add_zero, Nat.zero_add, cf35]
  refine (find_in (bin := bin) s4 yo go (fun G' => hss G' h2 l02) hS hB).mono ?_
  rw [stacks_eq hm]
  rintro _ h5 ⟨d5, ⟨e5, rfl, s5⟩ | ⟨f, io, vv, e5, hmem, rfl, ov, s5⟩⟩
  · try simp -implicitDefEqProofs only [ex2, un_not, Bool.not_false, HL.cond_true, ex1, ex0, st28w]
    intro x hx gx
    try simp -implicitDefEqProofs only [opH_sv, opH_su, pureW_sv, opH_nil, pureW_nil, pick_t, pick_f, pick_tp, pick_fp, gd_tt, gd_ft, gd_tf, gd_ff, box_new, regs0, regs1, regs2, regs3, regs4, regs5, regs6, cells_agg, cells_int, cells_bool, cells_ptr, cells_slice, cells_string, cells_func, cells_nilFunc, cells_map, retK_ret, retK_normal, resL_tmp, resL_cell, resL_nil0, resL_nil1, resL_nil2, resL_nil3, resC_ptr, ex0, ex1, ex2, ex0p, ex1p, ex2p, HL.cond_true, HL.cond_false, thenK_normal, thenK_ret, thenK_exit, blockK_normal, blockK_ret, blockK_exit, scopeK_normal, scopeK_ret, scopeK_exit, wpH_pure, bin_add, bin_sub, bin_mul, bin_lss, bin_leq, bin_gtr, bin_geq, bin_quo, bin_rem, bin_quop, bin_remp, wrap_in, bin_addp, bin_subp, bin_mulp, bin_lssp, bin_leqp, bin_gtrp, bin_geqp, un_not, un_notp, un_neg, eq_int, ne_int, eq_intp, ne_intp, callV_fn, add_mk, upd_eq, upd_ne, cell_set_self, Nat.zero_add, Nat.add_zero, Option.some.injEq, exists_eq_left', List.getElem?_cons_succ, List.getElem?_cons_zero, true_and, and_true, bne_self_eq_false, beq_self_eq_true, Bool.not_true, Bool.not_false, Bool.and_true, Bool.and_self, Bool.and_false, Bool.true_and, List.length_cons, List.length_nil, ne_eq, not_false_eq_true, Nat.reduceAdd, Nat.reduceMul, if_true, if_false, oneCell_int, oneCell_bool, oneCell_ptr, oneCell_slice, oneCell_string, oneCell_func, oneCell_map, Int.toNat_natCast, List.set_cons_zero, List.set_cons_succ, Nat.lt_irrefl, Nat.zero_lt_succ, Nat.succ_lt_succ_iff, fa26_0, fa26_0p, fa26_1, fa26_1p, fa26_10, fa26_10p, fa26_11, fa26_11p, fa26_12, fa26_12p, fa26_13, fa26_13p, fa26_14, fa26_14p, fa26_15, fa26_15p, fa26_2, fa26_2p, fa26_3, fa26_3p, fa26_4, fa26_4p, fa26_5, fa26_5p, fa26_6, fa26_6p, fa26_7, fa26_7p, fa26_8, fa26_8p, fa26_9, fa26_9p, fa28_0, fa28_0p, fa28_1, fa28_1p, fa45_0, fa45_0p, fa45_1, fa45_1p, fa45_2, fa45_2p, fa45_3, fa45_3p, fa45_4, fa45_4p, fa45_5, fa45_5p, fa45_6, fa45_6p, fa49_0, fa49_0p, fa49_1, fa49_1p, fa74_0, fa74_0p, fa74_1, fa74_1p, fa74_2, fa74_2p, fa74_3, fa74_3p, fa85_0, fa85_0p, fa85_1, fa85_1p, fa93_0, fa93_0p, fa93_1, fa93_1p, fa93_2, fa93_2p, ld3, ld3p, ld4, ld4p, ld22, ld22p, ld23, ld23p, ld24, ld24p, ld26, ld26p, ld28, ld28p, ld42, ld42p, ld45, ld45p, ld49, ld49p, ld58, ld58p, ld69, ld69p, ld72, ld72p, ld85, ld85p, st3s, st4s, st22s, st23s, st24s, st26w, st28w, st42s, st45w, st49w, st85w, ix22, ix22p, ix23, ix23p, ix24, ix24p, ix31, ix31p, ix42, ix42p, ix104, ix104p, ln22, ln22p, ln23, ln23p, ln24, ln24p, ln31, ln31p, ln42, ln42p, al4, al22, al26, al28, al42, al49, al85, cf10, cf11, cf12, cf13, cf14, cf15, cf16, cf17, cf18, cf19, cf20, cf21, cf22, cf23, cf24, cf25, cf26, cf27, cf28, cf29, cf30, cf31, cf32, cf33, cf34, cf35, cf36, cf37, cf38, cf39, cf40, cf41, cf42, cf43, cf44, cf45, cf46, cf47, cf48, cf49, cf50, cf51, cf52, cf53, cf54, cf55, cf56, cf57, cf58, cf59, cf60, cf61, cf62, cf63, cf64, cf65, cf66, cf67, cf68, cf69, cf70, cf71, cf72, cf73, cf74, cf75, bd26_0_1_2_7_8_9_10_11_12_13_14_4_15, bd26_0_1_2_7_8_9_10_11_12_13_14_4_15p, bd28_, bd28_p, bd28_0, bd28_0p, bd28_0_1, bd28_0_1p, bd45_1_3_4_5_6, bd45_1_3_4_5_6p, bd49_0_1, bd49_0_1p, bd49_1, bd49_1p, bd74_0_1_2_3, bd74_0_1_2_3p, bd85_0, bd85_0p, bd85_0_1, bd85_0_1p, bd93_0_1_2, bd93_0_1_2p, bd94_0_1_2_3, bd94_0_1_2_3p, bs42_1_0, bs22_1_0, bs24_1_0, bs42_3_0_1_2, bs31_1_0, bs22_2_0_1, bs42_6_0_1_2_3_4_5, bs42_0_, eq4, eq4p, eq28, eq28p, eq42n, eq42np, eq42s, eq42sp, eq58n, eq58np, eq58s, eq58sp, eq63n, eq63np, eq63s, eq63sp, ne28, ne28p, ne45, ne45p]
    exact fail 9 _ ((s5.sel [2] (by decide) rfl).past hx) (d5.set gx) (jobsR_bin hge e5)
  try simp -implicitDefEqProofs only [ex2, un_not, Bool.not_true, HL.cond_false, ex1, ex0, st28w, cell_set_self, List.getElem?_cons_zero, Option.some.injEq, List.getElem?_cons_succ, exists_eq_left']
  intro xf hxf gxf
  have s6 := s5.new (o := cellO f) hxf
  have d6 := d5.set (o := cellO f) gxf
  try simp -implicitDefEqProofs only [opH_sv, opH_su, pureW_sv, opH_nil, pureW_nil, pick_t, pick_f, pick_tp, pick_fp, gd_tt, gd_ft, gd_tf, gd_ff, box_new, regs0, regs1, regs2, regs3, regs4, regs5, regs6, cells_agg, cells_int, cells_bool, cells_ptr, cells_slice, cells_string, cells_func, cells_nilFunc, cells_map, retK_ret, retK_normal, resL_tmp, resL_cell, resL_nil0, resL_nil1, resL_nil2, resL_nil3, resC_ptr, ex0, ex1, ex2, ex0p, ex1p, ex2p, HL.cond_true, HL.cond_false, thenK_normal, thenK_ret, thenK_exit, blockK_normal, blockK_ret, blockK_exit, scopeK_normal, scopeK_ret, scopeK_exit, wpH_pure, bin_add, bin_sub, bin_mul, bin_lss, bin_leq, bin_gtr, bin_geq, bin_quo, bin_rem, bin_quop, bin_remp, wrap_in, bin_addp, bin_subp, bin_mulp, bin_lssp, bin_leqp, bin_gtrp, bin_geqp, un_not, un_notp, un_neg, eq_int, ne_int, eq_intp, ne_intp, callV_fn, add_mk, upd_eq, upd_ne, cell_set_self, Nat.zero_add, Nat.add_zero, Option.some.injEq, exists_eq_left', List.getElem?_cons_succ, List.getElem?_cons_zero, true_and, and_true, bne_self_eq_false, beq_self_eq_true, Bool.not_true, Bool.not_false, Bool.and_true, Bool.and_self, Bool.and_false, Bool.true_and, List.length_cons, List.length_nil, ne_eq, not_false_eq_true, Nat.reduceAdd, Nat.reduceMul, if_true, if_false, oneCell_int, oneCell_bool, oneCell_ptr, oneCell_slice, oneCell_string, oneCell_func, oneCell_map, Int.toNat_natCast, List.set_cons_zero, List.set_cons_succ, Nat.lt_irrefl, Nat.zero_lt_succ, Nat.succ_lt_succ_iff, fa26_0, fa26_0p, fa26_1, fa26_1p, fa26_10, fa26_10p, fa26_11, fa26_11p, fa26_12, fa26_12p, fa26_13, fa26_13p, fa26_14, fa26_14p, fa26_15, fa26_15p, fa26_2, fa26_2p, fa26_3, fa26_3p, fa26_4, fa26_4p, fa26_5, fa26_5p, fa26_6, fa26_6p, fa26_7, fa26_7p, fa26_8, fa26_8p, fa26_9, fa26_9p, fa28_0, fa28_0p, fa28_1, fa28_1p, fa45_0, fa45_0p, fa45_1, fa45_1p, fa45_2, fa45_2p, fa45_3, fa45_3p, fa45_4, fa45_4p, fa45_5, fa45_5p, fa45_6, fa45_6p, fa49_0, fa49_0p, fa49_1, fa49_1p, fa74_0, fa74_0p, fa74_1, fa74_1p, fa74_2, fa74_2p, fa74_3, fa74_3p, fa85_0, fa85_0p, fa85_1, fa85_1p, fa93_0, fa93_0p, fa93_1, fa93_1p, fa93_2, fa93_2p, ld3, ld3p, ld4, ld4p, ld22, ld22p, ld23, ld23p, ld24, ld24p, ld26, ld26p, ld28, ld28p, ld42, ld42p, ld45, ld45p, ld49, ld49p, ld58, ld58p, ld69, ld69p, ld72, ld72p, ld85, ld85p, st3s, st4s, st22s, st23s, st24s, st26w, st28w, st42s, st45w, st49w, st85w, ix22, ix22p, ix23, ix23p, ix24, ix24p, ix31, ix31p, ix42, ix42p, ix104, ix104p, ln22, ln22p, ln23, ln23p, ln24, ln24p, ln31, ln31p, ln42, ln42p, al4, al22, al26, al28, al42, al49, al85, cf10, cf11, cf12, cf13, cf14, cf15, cf16, cf17, cf18, cf19, cf20, cf21, cf22, cf23, cf24, cf25, cf26, cf27, cf28, cf29, cf30, cf31, cf32, cf33, cf34, cf35, cf36, cf37, cf38, cf39, cf40, cf41, cf42, cf43, cf44, cf45, cf46, cf47, cf48, cf49, cf50, cf51, cf52, cf53, cf54, cf55, cf56, cf57, cf58, cf59, cf60, cf61, cf62, cf63, cf64, cf65, cf66, cf67, cf68, cf69, cf70, cf71, cf72, cf73, cf74, cf75, bd26_0_1_2_7_8_9_10_11_12_13_14_4_15, bd26_0_1_2_7_8_9_10_11_12_13_14_4_15p, bd28_, bd28_p, bd28_0, bd28_0p, bd28_0_1, bd28_0_1p, bd45_1_3_4_5_6, bd45_1_3_4_5_6p, bd49_0_1, bd49_0_1p, bd49_1, bd49_1p, bd74_0_1_2_3, bd74_0_1_2_3p, bd85_0, bd85_0p, bd85_0_1, bd85_0_1p, bd93_0_1_2, bd93_0_1_2p, bd94_0_1_2_3, bd94_0_1_2_3p, bs42_1_0, bs22_1_0, bs24_1_0, bs42_3_0_1_2, bs31_1_0, bs22_2_0_1, bs42_6_0_1_2_3_4_5, bs42_0_, eq4, eq4p, eq28, eq28p, eq42n, eq42np, eq42s, eq42sp, eq58n, eq58np, eq58s, eq58sp, eq63n, eq63np, eq63s, eq63sp, ne28, ne28p, ne45, ne45p]
  generalize Hp.set h5 xf _ = h6 at s6 d6 ⊢
  have s6 : HL.Sep [noHp.set xf (cellO f), io, ya, ga, h2] h6 := s6
  have cf : ∀ j, cellIn G h6 ⟨xf, j, none⟩ = _ := fun j => cell_of (look_own (s6.at 0 rfl set_self))
  try simp -implicitDefEqProofs only [opH_sv, opH_su, pureW_sv, opH_nil, pureW_nil, pick_t, pick_f, pick_tp, pick_fp, gd_tt, gd_ft, gd_tf, gd_ff, box_new, regs0, regs1, regs2, regs3, regs4, regs5, regs6, cells_agg, cells_int, cells_bool, cells_ptr, cells_slice, cells_string, cells_func, cells_nilFunc, cells_map, retK_ret, retK_normal, resL_tmp, resL_cell, resL_nil0, resL_nil1, resL_nil2, resL_nil3, resC_ptr, ex0, ex1, ex2, ex0p, ex1p, ex2p, HL.cond_true, HL.cond_false, thenK_normal, thenK_ret, thenK_exit, blockK_normal, blockK_ret, blockK_exit, scopeK_normal, scopeK_ret, scopeK_exit, wpH_pure, bin_add, bin_sub, bin_mul, bin_lss, bin_leq, bin_gtr, bin_geq, bin_quo, bin_rem, bin_quop, bin_remp, wrap_in, bin_addp, bin_subp, bin_mulp, bin_lssp, bin_leqp, bin_gtrp, bin_geqp, un_not, un_notp, un_neg, eq_int, ne_int, eq_intp, ne_intp, callV_fn, add_mk, upd_eq, upd_ne, cell_set_self, Nat.zero_add, Nat.add_zero, Option.some.injEq, exists_eq_left', List.getElem?_cons_succ, List.getElem?_cons_zero, true_and, and_true, bne_self_eq_false, beq_self_eq_true, Bool.not_true, Bool.not_false, Bool.and_true, Bool.and_self, Bool.and_false, Bool.true_and, List.length_cons, List.length_nil, ne_eq, not_false_eq_true, Nat.reduceAdd, Nat.reduceMul, if_true, if_false, oneCell_int, oneCell_bool, oneCell_ptr, oneCell_slice, oneCell_string, oneCell_func, oneCell_map, Int.toNat_natCast, List.set_cons_zero, List.set_cons_succ, Nat.lt_irrefl, Nat.zero_lt_succ, Nat.succ_lt_succ_iff, fa26_0, fa26_0p, fa26_1, fa26_1p, fa26_10, fa26_10p, fa26_11, fa26_11p, fa26_12, fa26_12p, fa26_13, fa26_13p, fa26_14, fa26_14p, fa26_15, fa26_15p, fa26_2, fa26_2p, fa26_3, fa26_3p, fa26_4, fa26_4p, fa26_5, fa26_5p, fa26_6, fa26_6p, fa26_7, fa26_7p, fa26_8, fa26_8p, fa26_9, fa26_9p, fa28_0, fa28_0p, fa28_1, fa28_1p, fa45_0, fa45_0p, fa45_1, fa45_1p, fa45_2, fa45_2p, fa45_3, fa45_3p, fa45_4, fa45_4p, fa45_5, fa45_5p, fa45_6, fa45_6p, fa49_0, fa49_0p, fa49_1, fa49_1p, fa74_0, fa74_0p, fa74_1, fa74_1p, fa74_2, fa74_2p, fa74_3, fa74_3p, fa85_0, fa85_0p, fa85_1, fa85_1p, fa93_0, fa93_0p, fa93_1, fa93_1p, fa93_2, fa93_2p, ld3, ld3p, ld4, ld4p, ld22, ld22p, ld23, ld23p, ld24, ld24p, ld26, ld26p, ld28, ld28p, ld42, ld42p, ld45, ld45p, ld49, ld49p, ld58, ld58p, ld69, ld69p, ld72, ld72p, ld85, ld85p, st3s, st4s, st22s, st23s, st24s, st26w, st28w, st42s, st45w, st49w, st85w, ix22, ix22p, ix23, ix23p, ix24, ix24p, ix31, ix31p, ix42, ix42p, ix104, ix104p, ln22, ln22p, ln23, ln23p, ln24, ln24p, ln31, ln31p, ln42, ln42p, al4, al22, al26, al28, al42, al49, al85, cf10, cf11, cf12, cf13, cf14, cf15, cf16, cf17, cf18, cf19, cf20, cf21, cf22, cf23, cf24, cf25, cf26, cf27, cf28, cf29, cf30, cf31, cf32, cf33, cf34, cf35, cf36, cf37, cf38, cf39, cf40, cf41, cf42, cf43, cf44, cf45, cf46, cf47, cf48, cf49, cf50, cf51, cf52, cf53, cf54, cf55, cf56, cf57, cf58, cf59, cf60, cf61, cf62, cf63, cf64, cf65, cf66, cf67, cf68, cf69, cf70, cf71, cf72, cf73, cf74, cf75, bd26_0_1_2_7_8_9_10_11_12_13_14_4_15, bd26_0_1_2_7_8_9_10_11_12_13_14_4_15p, bd28_, bd28_p, bd28_0, bd28_0p, bd28_0_1, bd28_0_1p, bd45_1_3_4_5_6, bd45_1_3_4_5_6p, bd49_0_1, bd49_0_1p, bd49_1, bd49_1p, bd74_0_1_2_3, bd74_0_1_2_3p, bd85_0, bd85_0p, bd85_0_1, bd85_0_1p, bd93_0_1_2, bd93_0_1_2p, bd94_0_1_2_3, bd94_0_1_2_3p, bs42_1_0, bs22_1_0, bs24_1_0, bs42_3_0_1_2, bs31_1_0, bs22_2_0_1, bs42_6_0_1_2_3_4_5, bs42_0_, eq4, eq4p, eq28, eq28p, eq42n, eq42np, eq42s, eq42sp, eq58n, eq58np, eq58s, eq58sp, eq63n, eq63np, eq63s, eq63sp, ne28, ne28p, ne45, ne45p, cf]
  refine (contains_spec (c := f) ((htv G h2 l02).up (s6.in 4 rfl) d6) hTL).mono ?_
  rintro _ h6 ⟨rfl, rfl⟩
  try simp -implicitDefEqProofs only [opH_sv, opH_su, pureW_sv, opH_nil, pureW_nil, pick_t, pick_f, pick_tp, pick_fp, gd_tt, gd_ft, gd_tf, gd_ff, box_new, regs0, regs1, regs2, regs3, regs4, regs5, regs6, cells_agg, cells_int, cells_bool, cells_ptr, cells_slice, cells_string, cells_func, cells_nilFunc, cells_map, retK_ret, retK_normal, resL_tmp, resL_cell, resL_nil0, resL_nil1, resL_nil2, resL_nil3, resC_ptr, ex0, ex1, ex2, ex0p, ex1p, ex2p, HL.cond_true, HL.cond_false, thenK_normal, thenK_ret, thenK_exit, blockK_normal, blockK_ret, blockK_exit, scopeK_normal, scopeK_ret, scopeK_exit, wpH_pure, bin_add, bin_sub, bin_mul, bin_lss, bin_leq, bin_gtr, bin_geq, bin_quo, bin_rem, bin_quop, bin_remp, wrap_in, bin_addp, bin_subp, bin_mulp, bin_lssp, bin_leqp, bin_gtrp, bin_geqp, un_not, un_notp, un_neg, eq_int, ne_int, eq_intp, ne_intp, callV_fn, add_mk, upd_eq, upd_ne, cell_set_self, Nat.zero_add, Nat.add_zero, Option.some.injEq, exists_eq_left', List.getElem?_cons_succ, List.getElem?_cons_zero, true_and, and_true, bne_self_eq_false, beq_self_eq_true, Bool.not_true, Bool.not_false, Bool.and_true, Bool.and_self, Bool.and_false, Bool.true_and, List.length_cons, List.length_nil, ne_eq, not_false_eq_true, Nat.reduceAdd, Nat.reduceMul, if_true, if_false, oneCell_int, oneCell_bool, oneCell_ptr, oneCell_slice, oneCell_string, oneCell_func, oneCell_map, Int.toNat_natCast, List.set_cons_zero, List.set_cons_succ, Nat.lt_irrefl, Nat.zero_lt_succ, Nat.succ_lt_succ_iff, fa26_0, fa26_0p, fa26_1, fa26_1p, fa26_10, fa26_10p, fa26_11, fa26_11p, fa26_12, fa26_12p, fa26_13, fa26_13p, fa26_14, fa26_14p, fa26_15, fa26_15p, fa26_2, fa26_2p, fa26_3, fa26_3p, fa26_4, fa26_4p, fa26_5, fa26_5p, fa26_6, fa26_6p, fa26_7, fa26_7p, fa26_8, fa26_8p, fa26_9, fa26_9p, fa28_0, fa28_0p, fa28_1, fa28_1p, fa45_0, fa45_0p, fa45_1, fa45_1p, fa45_2, fa45_2p, fa45_3, fa45_3p, fa45_4, fa45_4p, fa45_5, fa45_5p, fa45_6, fa45_6p, fa49_0, fa49_0p, fa49_1, fa49_1p, fa74_0, fa74_0p, fa74_1, fa74_1p, fa74_2, fa74_2p, fa74_3, fa74_3p, fa85_0, fa85_0p, fa85_1, fa85_1p, fa93_0, fa93_0p, fa93_1, fa93_1p, fa93_2, fa93_2p, ld3, ld3p, ld4, ld4p, ld22, ld22p, ld23, ld23p, ld24, ld24p, ld26, ld26p, ld28, ld28p, ld42, ld42p, ld45, ld45p, ld49, ld49p, ld58, ld58p, ld69, ld69p, ld72, ld72p, ld85, ld85p, st3s, st4s, st22s, st23s, st24s, st26w, st28w, st42s, st45w, st49w, st85w, ix22, ix22p, ix23, ix23p, ix24, ix24p, ix31, ix31p, ix42, ix42p, ix104, ix104p, ln22, ln22p, ln23, ln23p, ln24, ln24p, ln31, ln31p, ln42, ln42p, al4, al22, al26, al28, al42, al49, al85, cf10, cf11, cf12, cf13, cf14, cf15, cf16, cf17, cf18, cf19, cf20, cf21, cf22, cf23, cf24, cf25, cf26, cf27, cf28, cf29, cf30, cf31, cf32, cf33, cf34, cf35, cf36, cf37, cf38, cf39, cf40, cf41, cf42, cf43, cf44, cf45, cf46, cf47, cf48, cf49, cf50, cf51, cf52, cf53, cf54, cf55, cf56, cf57, cf58, cf59, cf60, cf61, cf62, cf63, cf64, cf65, cf66, cf67, cf68, cf69, cf70, cf71, cf72, cf73, cf74, cf75, bd26_0_1_2_7_8_9_10_11_12_13_14_4_15, bd26_0_1_2_7_8_9_10_11_12_13_14_4_15p, bd28_, bd28_p, bd28_0, bd28_0p, bd28_0_1, bd28_0_1p, bd45_1_3_4_5_6, bd45_1_3_4_5_6p, bd49_0_1, bd49_0_1p, bd49_1, bd49_1p, bd74_0_1_2_3, bd74_0_1_2_3p, bd85_0, bd85_0p, bd85_0_1, bd85_0_1p, bd93_0_1_2, bd93_0_1_2p, bd94_0_1_2_3, bd94_0_1_2_3p, bs42_1_0, bs22_1_0, bs24_1_0, bs42_3_0_1_2, bs31_1_0, bs22_2_0_1, bs42_6_0_1_2_3_4_5, bs42_0_, eq4, eq4p, eq28, eq28p, eq42n, eq42np, eq42s, eq42sp, eq58n, eq58np, eq58s, eq58sp, eq63n, eq63np, eq63s, eq63sp, ne28, ne28p, ne45, ne45p]
  refine cond_dec (fun hft => ?_) (fun hft => ?_)
  · try simp -implicitDefEqProofs only [opH_sv, opH_su, pureW_sv, opH_nil, pureW_nil, pick_t, pick_f, pick_tp, pick_fp, gd_tt, gd_ft, gd_tf, gd_ff, box_new, regs0, regs1, regs2, regs3, regs4, regs5, regs6, cells_agg, cells_int, cells_bool, cells_ptr, cells_slice, cells_string, cells_func, cells_nilFunc, cells_map, retK_ret, retK_normal, resL_tmp, resL_cell, resL_nil0, resL_nil1, resL_nil2, resL_nil3, resC_ptr, ex0, ex1, ex2, ex0p, ex1p, ex2p, HL.cond_true, HL.cond_false, thenK_normal, thenK_ret, thenK_exit, blockK_normal, blockK_ret, blockK_exit, scopeK_normal, scopeK_ret, scopeK_exit, wpH_pure, bin_add, bin_sub, bin_mul, bin_lss, bin_leq, bin_gtr, bin_geq, bin_quo, bin_rem, bin_quop, bin_remp, wrap_in, bin_addp, bin_subp, bin_mulp, bin_lssp, bin_leqp, bin_gtrp, bin_geqp, un_not, un_notp, un_neg, eq_int, ne_int, eq_intp, ne_intp, callV_fn, add_mk, upd_eq, upd_ne, cell_set_self, Nat.zero_add, Nat.add_zero, Option.some.injEq, exists_eq_left', List.getElem?_cons_succ, List.getElem?_cons_zero, true_and, and_true, bne_self_eq_false, beq_self_eq_true, Bool.not_true, Bool.not_false, Bool.and_true, Bool.and_self, Bool.and_false, Bool.true_and, List.length_cons, List.length_nil, ne_eq, not_false_eq_true, Nat.reduceAdd, Nat.reduceMul, if_true, if_false, oneCell_int, oneCell_bool, oneCell_ptr, oneCell_slice, oneCell_string, oneCell_func, oneCell_map, Int.toNat_natCast, List.set_cons_zero, List.set_cons_succ, Nat.lt_irrefl, Nat.zero_lt_succ, Nat.succ_lt_succ_iff, fa26_0, fa26_0p, fa26_1, fa26_1p, fa26_10, fa26_10p, fa26_11, fa26_11p, fa26_12, fa26_12p, fa26_13, fa26_13p, fa26_14, fa26_14p, fa26_15, fa26_15p, fa26_2, fa26_2p, fa26_3, fa26_3p, fa26_4, fa26_4p, fa26_5, fa26_5p, fa26_6, fa26_6p, fa26_7, fa26_7p, fa26_8, fa26_8p, fa26_9, fa26_9p, fa28_0, fa28_0p, fa28_1, fa28_1p, fa45_0, fa45_0p, fa45_1, fa45_1p, fa45_2, fa45_2p, fa45_3, fa45_3p, fa45_4, fa45_4p, fa45_5, fa45_5p, fa45_6, fa45_6p, fa49_0, fa49_0p, fa49_1, fa49_1p, fa74_0, fa74_0p, fa74_1, fa74_1p, fa74_2, fa74_2p, fa74_3, fa74_3p, fa85_0, fa85_0p, fa85_1, fa85_1p, fa93_0, fa93_0p, fa93_1, fa93_1p, fa93_2, fa93_2p, ld3, ld3p, ld4, ld4p, ld22, ld22p, ld23, ld23p, ld24, ld24p, ld26, ld26p, ld28, ld28p, ld42, ld42p, ld45, ld45p, ld49, ld49p, ld58, ld58p, ld69, ld69p, ld72, ld72p, ld85, ld85p, st3s, st4s, st22s, st23s, st24s, st26w, st28w, st42s, st45w, st49w, st85w, ix22, ix22p, ix23, ix23p, ix24, ix24p, ix31, ix31p, ix42, ix42p, ix104, ix104p, ln22, ln22p, ln23, ln23p, ln24, ln24p, ln31, ln31p, ln42, ln42p, al4, al22, al26, al28, al42, al49, al85, cf10, cf11, cf12, cf13, cf14, cf15, cf16, cf17, cf18, cf19, cf20, cf21, cf22, cf23, cf24, cf25, cf26, cf27, cf28, cf29, cf30, cf31, cf32, cf33, cf34, cf35, cf36, cf37, cf38, cf39, cf40, cf41, cf42, cf43, cf44, cf45, cf46, cf47, cf48, cf49, cf50, cf51, cf52, cf53, cf54, cf55, cf56, cf57, cf58, cf59, cf60, cf61, cf62, cf63, cf64, cf65, cf66, cf67, cf68, cf69, cf70, cf71, cf72, cf73, cf74, cf75, bd26_0_1_2_7_8_9_10_11_12_13_14_4_15, bd26_0_1_2_7_8_9_10_11_12_13_14_4_15p, bd28_, bd28_p, bd28_0, bd28_0p, bd28_0_1, bd28_0_1p, bd45_1_3_4_5_6, bd45_1_3_4_5_6p, bd49_0_1, bd49_0_1p, bd49_1, bd49_1p, bd74_0_1_2_3, bd74_0_1_2_3p, bd85_0, bd85_0p, bd85_0_1, bd85_0_1p, bd93_0_1_2, bd93_0_1_2p, bd94_0_1_2_3, bd94_0_1_2_3p, bs42_1_0, bs22_1_0, bs24_1_0, bs42_3_0_1_2, bs31_1_0, bs22_2_0_1, bs42_6_0_1_2_3_4_5, bs42_0_, eq4, eq4p, eq28, eq28p, eq42n, eq42np, eq42s, eq42sp, eq58n, eq58np, eq58s, eq58sp, eq63n, eq63np, eq63s, eq63sp, ne28, ne28p, ne45, ne45p]
    exact fail 8 _ (s6.sel [4] (by decide) rfl) d6 (jobsR_touched hge e5 hft)
  unfold S12_k3
  have hAl : (aboveL (binsL S f) bin).length ≤ 17592186044320 := above_len (bins_le hB)
  generalize aboveL (binsL S f) bin = A at ov e5 hAl
  obtain ⟨va0, vc0, rfl, _⟩ := ov.len (by decide)
  try simp -implicitDefEqProofs (disch := first | with_reducible exact Nat.ne_of_beq_eq_false rfl | omega) only [upd_ne, upd_eq, opH_sv, ln42]
  generalize hKK : retK Tryd.prog G _ _ = KK
  refine loop_I (fun m q h7 => ∃ (i : Nat) (GL : List Cell) (aw ag ya : Hp) (va vg : Value) (hv : Cell → Int) (is : Cell → Bool), m = A.length - i ∧ i ≤ A.length ∧ GL.length = i ∧ Given S C.ht (rstacksL C) GL ∧ placesL S TL C.ht f (rstacksL C) (A.length - i) GL = placesL S TL C.ht f (rstacksL C) A.length [] ∧
      q 3 = .int .i64 bin ∧ q 5 = .pointer (some ⟨v0, 0, none⟩) ∧ q 9 = .pointer (some ⟨v1, 0, none⟩) ∧ q 12 = .pointer (some ⟨yp, 0, none⟩) ∧ q 14 = .pointer (some ⟨xf, 0, none⟩) ∧ q 17 = va ∧ q 18 = vg ∧ q 56 = .slice va0 A.length vc0 ∧ q 57 = .int .i64 A.length ∧ q 58 = .int .i64 i ∧
      YardO ya yp gp mb C.ht (.slice ta TL.length tc) hv is ∧ (∀ c, (if is c = true then hv c else 0) = hgt S c + (GL.count c : Int)) ∧ Slc jobC 45 aw va (List.zipWith (awayJ f) (A.take i) GL) ∧ Slc jobC 45 ag vg (List.zipWith (againJ f) (A.take i) GL) ∧ HL.Sep [aw, ag, noHp.set xf (cellO f), io, ya, ga, h2] h7 ∧ Dis G h7) ?_
    (m := A.length) ⟨0, [], noHp, noHp, ya, .slice none 0 0, .slice none 0 0, hgt S, is, rfl, Nat.zero_le _, rfl, Given.nil (by omega), rfl, by simp -implicitDefEqProofs (disch := first | with_reducible exact Nat.ne_of_beq_eq_false rfl | omega) only [upd_ne, regs3], by simp -implicitDefEqProofs (disch := first | with_reducible exact Nat.ne_of_beq_eq_false rfl | omega) only [upd_ne, upd_eq], by simp -implicitDefEqProofs (disch := first | with_reducible exact Nat.ne_of_beq_eq_false rfl | omega) only [upd_ne, upd_eq], by simp -implicitDefEqProofs (disch := first | with_reducible exact Nat.ne_of_beq_eq_false rfl | omega) only [upd_ne, upd_eq], by simp -implicitDefEqProofs (disch := first | with_reducible exact Nat.ne_of_beq_eq_false rfl | omega) only [upd_ne, upd_eq], by simp -implicitDefEqProofs (disch := first | with_reducible exact Nat.ne_of_beq_eq_false rfl | omega) only [upd_ne, upd_eq], by simp -implicitDefEqProofs (disch := first | with_reducible exact Nat.ne_of_beq_eq_false rfl | omega) only [upd_ne, upd_eq], by simp -implicitDefEqProofs (disch := first | with_reducible exact Nat.ne_of_beq_eq_false rfl | omega) only [upd_ne, upd_eq], by simp -implicitDefEqProofs (disch := first | with_reducible exact Nat.ne_of_beq_eq_false rfl | omega) only [upd_ne, upd_eq], by simp -implicitDefEqProofs only [upd_eq] <;> rfl, yo, (fun c => by
      cases hc : is c with
      | true => simp
      | false => rw [his c hc]; simp), Slc.nil, Slc.nil, s6.none.none, d6⟩
  clear s6 cf d6 yo ty mi om C' ab' cb' ap' cp' ar' cr' az' cs' cy his is
  rintro m q h7 ⟨i, GL, aw, ag, ya, va, vg, hv, is, rfl, hi, hgl, gv, hpl, q3, q5, q9, q12, q14, q17, q18, q56, q57, q58, yo, hgt', oa, og, s7, d7⟩ X HX
  have hgl8 := gv.len ht8.2 hcl
  unfold S12_l6
  simp -implicitDefEqProofs only [q58, q57, thenK_exit, blockK_exit, thenK_normal, if_true, opH_sv, bin_lss]
  refine cond_dec (fun hlt => ?_) (fun hge2 => ?_)
  rotate_left
  · obtain rfl : i = A.length := by omega
    rw [List.take_of_length_le (Nat.le_refl _)] at oa og
    rw [Nat.sub_self, placesL] at hpl
    have ej0 := jobsR_ok (GL := GL) hge e5 hft hpl.symm
    try simp -implicitDefEqProofs (disch := first | with_reducible exact Nat.ne_of_beq_eq_false rfl | omega) only [opH_sv, opH_su, pureW_sv, opH_nil, pureW_nil, pick_t, pick_f, pick_tp, pick_fp, gd_tt, gd_ft, gd_tf, gd_ff, box_new, regs0, regs1, regs2, regs3, regs4, regs5, regs6, cells_agg, cells_int, cells_bool, cells_ptr, cells_slice, cells_string, cells_func, cells_nilFunc, cells_map, retK_ret, retK_normal, resL_tmp, resL_cell, resL_nil0, resL_nil1, resL_nil2, resL_nil3, resC_ptr, ex0, ex1, ex2, ex0p, ex1p, ex2p, HL.cond_true, HL.cond_false, thenK_normal, thenK_ret, thenK_exit, blockK_normal, blockK_ret, blockK_exit, scopeK_normal, scopeK_ret, scopeK_exit, wpH_pure, bin_add, bin_sub, bin_mul, bin_lss, bin_leq, bin_gtr, bin_geq, bin_quo, bin_rem, bin_quop, bin_remp, wrap_in, bin_addp, bin_subp, bin_mulp, bin_lssp, bin_leqp, bin_gtrp, bin_geqp, un_not, un_notp, un_neg, eq_int, ne_int, eq_intp, ne_intp, callV_fn, add_mk, upd_eq, upd_ne, cell_set_self, Nat.zero_add, Nat.add_zero, Option.some.injEq, exists_eq_left', List.getElem?_cons_succ, List.getElem?_cons_zero, true_and, and_true, bne_self_eq_false, beq_self_eq_true, Bool.not_true, Bool.not_false, Bool.and_true, Bool.and_self, Bool.and_false, Bool.true_and, List.length_cons, List.length_nil, ne_eq, not_false_eq_true, Nat.reduceAdd, Nat.reduceMul, if_true, if_false, oneCell_int, oneCell_bool, oneCell_ptr, oneCell_slice, oneCell_string, oneCell_func, oneCell_map, Int.toNat_natCast, List.set_cons_zero, List.set_cons_succ, Nat.lt_irrefl, Nat.zero_lt_succ, Nat.succ_lt_succ_iff, fa26_0, fa26_0p, fa26_1, fa26_1p, fa26_10, fa26_10p, fa26_11, fa26_11p, fa26_12, fa26_12p, fa26_13, fa26_13p, fa26_14, fa26_14p, fa26_15, fa26_15p, fa26_2, fa26_2p, fa26_3, fa26_3p, fa26_4, fa26_4p, fa26_5, fa26_5p, fa26_6, fa26_6p, fa26_7, fa26_7p, fa26_8, fa26_8p, fa26_9, fa26_9p, fa28_0, fa28_0p, fa28_1, fa28_1p, fa45_0, fa45_0p, fa45_1, fa45_1p, fa45_2, fa45_2p, fa45_3, fa45_3p, fa45_4, fa45_4p, fa45_5, fa45_5p, fa45_6, fa45_6p, fa49_0, fa49_0p, fa49_1, fa49_1p, fa74_0, fa74_0p, fa74_1, fa74_1p, fa74_2, fa74_2p, fa74_3, fa74_3p, fa85_0, fa85_0p, fa85_1, fa85_1p, fa93_0, fa93_0p, fa93_1, fa93_1p, fa93_2, fa93_2p, ld3, ld3p, ld4, ld4p, ld22, ld22p, ld23, ld23p, ld24, ld24p, ld26, ld26p, ld28, ld28p, ld42, ld42p, ld45, ld45p, ld49, ld49p, ld58, ld58p, ld69, ld69p, ld72, ld72p, ld85, ld85p, st3s, st4s, st22s, st23s, st24s, st26w, st28w, st42s, st45w, st49w, st85w, ix22, ix22p, ix23, ix23p, ix24, ix24p, ix31, ix31p, ix42, ix42p, ix104, ix104p, ln22, ln22p, ln23, ln23p, ln24, ln24p, ln31, ln31p, ln42, ln42p, al4, al22, al26, al28, al42, al49, al85, cf10, cf11, cf12, cf13, cf14, cf15, cf16, cf17, cf18, cf19, cf20, cf21, cf22, cf23, cf24, cf25, cf26, cf27, cf28, cf29, cf30, cf31, cf32, cf33, cf34, cf35, cf36, cf37, cf38, cf39, cf40, cf41, cf42, cf43, cf44, cf45, cf46, cf47, cf48, cf49, cf50, cf51, cf52, cf53, cf54, cf55, cf56, cf57, cf58, cf59, cf60, cf61, cf62, cf63, cf64, cf65, cf66, cf67, cf68, cf69, cf70, cf71, cf72, cf73, cf74, cf75, bd26_0_1_2_7_8_9_10_11_12_13_14_4_15, bd26_0_1_2_7_8_9_10_11_12_13_14_4_15p, bd28_, bd28_p, bd28_0, bd28_0p, bd28_0_1, bd28_0_1p, bd45_1_3_4_5_6, bd45_1_3_4_5_6p, bd49_0_1, bd49_0_1p, bd49_1, bd49_1p, bd74_0_1_2_3, bd74_0_1_2_3p, bd85_0, bd85_0p, bd85_0_1, bd85_0_1p, bd93_0_1_2, bd93_0_1_2p, bd94_0_1_2_3, bd94_0_1_2_3p, bs42_1_0, bs22_1_0, bs24_1_0, bs42_3_0_1_2, bs31_1_0, bs22_2_0_1, bs42_6_0_1_2_3_4_5, bs42_0_, eq4, eq4p, eq28, eq28p, eq42n, eq42np, eq42s, eq42sp, eq58n, eq58np, eq58s, eq58sp, eq63n, eq63np, eq63s, eq63sp, ne28, ne28p, ne45, ne45p]
    unfold S12_k4
    have cf : ∀ j, cellIn G h7 ⟨xf, j, none⟩ = _ := fun j => cell_of (look_own (s7.at 2 rfl set_self))
    have c1 : ∀ j, cellIn G h7 ⟨v1, j, none⟩ = _ := fun j => cell_of (look_own (s7.in 6 rfl _ _ b1))
    try simp -implicitDefEqProofs (disch := first | with_reducible exact Nat.ne_of_beq_eq_false rfl | omega) only [upd_ne, q14, q9, q3, q17, q5, opH_sv, cf38, fa26_15, add_mk, Nat.zero_add, ld4, ld28, Nat.add_zero, cf, List.getElem?_cons_zero, Option.some.injEq, List.getElem?_cons_succ, c1, bd45_1_3_4_5_6, bs31_1_0, exists_eq_left']
    intro b hb gb
    generalize eb : Hp.set h7 b _ = h8
    obtain ⟨l8, d8, b8⟩ := boxed eb hb d7 gb
    have s8 := s7.past (o := .cells #[.int .i64 0, .int .i64 2, .int .i64 0, .int .i64 bin, .int .i64 f.1, .int .i64 f.2, .int .i64 port.1, .int .i64 port.2, .int .i64 (-1)] 45 (0, 0)) hb
    rw [eb] at s8
    have z1 := zip_len (F := awayJ f) (A := A) (GL := GL)
    have z2 := zip_len (F := againJ f) (A := A) (GL := GL)
    refine append_piece jobC (by decide) un31 eojob (by decide) (by decide) (M := [fetchJ f bin port]) s8 d8 oa (Sees.row (c := jobC) (L := [fetchJ f bin port]) b8 rfl (Nat.le_refl _)) (by simp only [List.length_cons, List.length_nil]; omega) fun v9 a9 h9 o9 s9 d9 => ?_
    have cv0 : ∀ j, cellIn G h9 ⟨v0, j, none⟩ = _ := fun j => cell_of (look_own (s9.in 6 rfl _ _ b0'))
    try simp -implicitDefEqProofs only [cv0, List.getElem?_cons_succ, List.getElem?_cons_zero, Option.some.injEq, exists_eq_left']
    refine cond_bool (fun hb => ?_) (fun hb => ?_)
    · try simp -implicitDefEqProofs only [q18]
      refine (revj_spec (s9.sel [1, 0, 6] (by decide) rfl) og (by omega)).mono ?_
      rintro _ h10 ⟨ag', og', s10, d10⟩
      try simp -implicitDefEqProofs (disch := first | with_reducible exact Nat.ne_of_beq_eq_false rfl | omega) only [opH_sv, opH_su, pureW_sv, opH_nil, pureW_nil, pick_t, pick_f, pick_tp, pick_fp, gd_tt, gd_ft, gd_tf, gd_ff, box_new, regs0, regs1, regs2, regs3, regs4, regs5, regs6, cells_agg, cells_int, cells_bool, cells_ptr, cells_slice, cells_string, cells_func, cells_nilFunc, cells_map, retK_ret, retK_normal, resL_tmp, resL_cell, resL_nil0, resL_nil1, resL_nil2, resL_nil3, resC_ptr, ex0, ex1, ex2, ex0p, ex1p, ex2p, HL.cond_true, HL.cond_false, thenK_normal, thenK_ret, thenK_exit, blockK_normal, blockK_ret, blockK_exit, scopeK_normal, scopeK_ret, scopeK_exit, wpH_pure, bin_add, bin_sub, bin_mul, bin_lss, bin_leq, bin_gtr, bin_geq, bin_quo, bin_rem, bin_quop, bin_remp, wrap_in, bin_addp, bin_subp, bin_mulp, bin_lssp, bin_leqp, bin_gtrp, bin_geqp, un_not, un_notp, un_neg, eq_int, ne_int, eq_intp, ne_intp, callV_fn, add_mk, upd_eq, upd_ne, cell_set_self, Nat.zero_add, Nat.add_zero, Option.some.injEq, exists_eq_left', List.getElem?_cons_succ, List.getElem?_cons_zero, true_and, and_true, bne_self_eq_false, beq_self_eq_true, Bool.not_true, Bool.not_false, Bool.and_true, Bool.and_self, Bool.and_false, Bool.true_and, List.length_cons, List.length_nil, ne_eq, not_false_eq_true, Nat.reduceAdd, Nat.reduceMul, if_true, if_false, oneCell_int, oneCell_bool, oneCell_ptr, oneCell_slice, oneCell_string, oneCell_func, oneCell_map, Int.toNat_natCast, List.set_cons_zero, List.set_cons_succ, Nat.lt_irrefl, Nat.zero_lt_succ, Nat.succ_lt_succ_iff, fa26_0, fa26_0p, fa26_1, fa26_1p, fa26_10, fa26_10p, fa26_11, fa26_11p, fa26_12, fa26_12p, fa26_13, fa26_13p, fa26_14, fa26_14p, fa26_15, fa26_15p, fa26_2, fa26_2p, fa26_3, fa26_3p, fa26_4, fa26_4p, fa26_5, fa26_5p, fa26_6, fa26_6p, fa26_7, fa26_7p, fa26_8, fa26_8p, fa26_9, fa26_9p, fa28_0, fa28_0p, fa28_1, fa28_1p, fa45_0, fa45_0p, fa45_1, fa45_1p, fa45_2, fa45_2p, fa45_3, fa45_3p, fa45_4, fa45_4p, fa45_5, fa45_5p, fa45_6, fa45_6p, fa49_0, fa49_0p, fa49_1, fa49_1p, fa74_0, fa74_0p, fa74_1, fa74_1p, fa74_2, fa74_2p, fa74_3, fa74_3p, fa85_0, fa85_0p, fa85_1, fa85_1p, fa93_0, fa93_0p, fa93_1, fa93_1p, fa93_2, fa93_2p, ld3, ld3p, ld4, ld4p, ld22, ld22p, ld23, ld23p, ld24, ld24p, ld26, ld26p, ld28, ld28p, ld42, ld42p, ld45, ld45p, ld49, ld49p, ld58, ld58p, ld69, ld69p, ld72, ld72p, ld85, ld85p, st3s, st4s, st22s, st23s, st24s, st26w, st28w, st42s, st45w, st49w, st85w, ix22, ix22p, ix23, ix23p, ix24, ix24p, ix31, ix31p, ix42, ix42p, ix104, ix104p, ln22, ln22p, ln23, ln23p, ln24, ln24p, ln31, ln31p, ln42, ln42p, al4, al22, al26, al28, al42, al49, al85, cf10, cf11, cf12, cf13, cf14, cf15, cf16, cf17, cf18, cf19, cf20, cf21, cf22, cf23, cf24, cf25, cf26, cf27, cf28, cf29, cf30, cf31, cf32, cf33, cf34, cf35, cf36, cf37, cf38, cf39, cf40, cf41, cf42, cf43, cf44, cf45, cf46, cf47, cf48, cf49, cf50, cf51, cf52, cf53, cf54, cf55, cf56, cf57, cf58, cf59, cf60, cf61, cf62, cf63, cf64, cf65, cf66, cf67, cf68, cf69, cf70, cf71, cf72, cf73, cf74, cf75, bd26_0_1_2_7_8_9_10_11_12_13_14_4_15, bd26_0_1_2_7_8_9_10_11_12_13_14_4_15p, bd28_, bd28_p, bd28_0, bd28_0p, bd28_0_1, bd28_0_1p, bd45_1_3_4_5_6, bd45_1_3_4_5_6p, bd49_0_1, bd49_0_1p, bd49_1, bd49_1p, bd74_0_1_2_3, bd74_0_1_2_3p, bd85_0, bd85_0p, bd85_0_1, bd85_0_1p, bd93_0_1_2, bd93_0_1_2p, bd94_0_1_2_3, bd94_0_1_2_3p, bs42_1_0, bs22_1_0, bs24_1_0, bs42_3_0_1_2, bs31_1_0, bs22_2_0_1, bs42_6_0_1_2_3_4_5, bs42_0_, eq4, eq4p, eq28, eq28p, eq42n, eq42np, eq42s, eq42sp, eq58n, eq58np, eq58s, eq58sp, eq63n, eq63np, eq63s, eq63sp, ne28, ne28p, ne45, ne45p, q18]
      refine append_piece jobC (by decide) un31 eojob (by decide) (by decide) (s10.pick 1 rfl rfl) d10 o9 (og'.sees (by decide) (s10.in 0 rfl)) (by simp only [List.length_append, List.length_reverse, List.length_cons, List.length_nil]; omega) fun v11 a11 h11 o11 s11 d11 => ?_
      try simp -implicitDefEqProofs (disch := first | with_reducible exact Nat.ne_of_beq_eq_false rfl | omega) only [opH_sv, opH_su, pureW_sv, opH_nil, pureW_nil, pick_t, pick_f, pick_tp, pick_fp, gd_tt, gd_ft, gd_tf, gd_ff, box_new, regs0, regs1, regs2, regs3, regs4, regs5, regs6, cells_agg, cells_int, cells_bool, cells_ptr, cells_slice, cells_string, cells_func, cells_nilFunc, cells_map, retK_ret, retK_normal, resL_tmp, resL_cell, resL_nil0, resL_nil1, resL_nil2, resL_nil3, resC_ptr, ex0, ex1, ex2, ex0p, ex1p, ex2p, HL.cond_true, HL.cond_false, thenK_normal, thenK_ret, thenK_exit, blockK_normal, blockK_ret, blockK_exit, scopeK_normal, scopeK_ret, scopeK_exit, wpH_pure, bin_add, bin_sub, bin_mul, bin_lss, bin_leq, bin_gtr, bin_geq, bin_quo, bin_rem, bin_quop, bin_remp, wrap_in, bin_addp, bin_subp, bin_mulp, bin_lssp, bin_leqp, bin_gtrp, bin_geqp, un_not, un_notp, un_neg, eq_int, ne_int, eq_intp, ne_intp, callV_fn, add_mk, upd_eq, upd_ne, cell_set_self, Nat.zero_add, Nat.add_zero, Option.some.injEq, exists_eq_left', List.getElem?_cons_succ, List.getElem?_cons_zero, true_and, and_true, bne_self_eq_false, beq_self_eq_true, Bool.not_true, Bool.not_false, Bool.and_true, Bool.and_self, Bool.and_false, Bool.true_and, List.length_cons, List.length_nil, ne_eq, not_false_eq_true, Nat.reduceAdd, Nat.reduceMul, if_true, if_false, oneCell_int, oneCell_bool, oneCell_ptr, oneCell_slice, oneCell_string, oneCell_func, oneCell_map, Int.toNat_natCast, List.set_cons_zero, List.set_cons_succ, Nat.lt_irrefl, Nat.zero_lt_succ, Nat.succ_lt_succ_iff, fa26_0, fa26_0p, fa26_1, fa26_1p, fa26_10, fa26_10p, fa26_11, fa26_11p, fa26_12, fa26_12p, fa26_13, fa26_13p, fa26_14, fa26_14p, fa26_15, fa26_15p, fa26_2, fa26_2p, fa26_3, fa26_3p, fa26_4, fa26_4p, fa26_5, fa26_5p, fa26_6, fa26_6p, fa26_7, fa26_7p, fa26_8, fa26_8p, fa26_9, fa26_9p, fa28_0, fa28_0p, fa28_1, fa28_1p, fa45_0, fa45_0p, fa45_1, fa45_1p, fa45_2, fa45_2p, fa45_3, fa45_3p, fa45_4, fa45_4p, fa45_5, fa45_5p, fa45_6, fa45_6p, fa49_0, fa49_0p, fa49_1, fa49_1p, fa74_0, fa74_0p, fa74_1, fa74_1p, fa74_2, fa74_2p, fa74_3, fa74_3p, fa85_0, fa85_0p, fa85_1, fa85_1p, fa93_0, fa93_0p, fa93_1, fa93_1p, fa93_2, fa93_2p, ld3, ld3p, ld4, ld4p, ld22, ld22p, ld23, ld23p, ld24, ld24p, ld26, ld26p, ld28, ld28p, ld42, ld42p, ld45, ld45p, ld49, ld49p, ld58, ld58p, ld69, ld69p, ld72, ld72p, ld85, ld85p, st3s, st4s, st22s, st23s, st24s, st26w, st28w, st42s, st45w, st49w, st85w, ix22, ix22p, ix23, ix23p, ix24, ix24p, ix31, ix31p, ix42, ix42p, ix104, ix104p, ln22, ln22p, ln23, ln23p, ln24, ln24p, ln31, ln31p, ln42, ln42p, al4, al22, al26, al28, al42, al49, al85, cf10, cf11, cf12, cf13, cf14, cf15, cf16, cf17, cf18, cf19, cf20, cf21, cf22, cf23, cf24, cf25, cf26, cf27, cf28, cf29, cf30, cf31, cf32, cf33, cf34, cf35, cf36, cf37, cf38, cf39, cf40, cf41, cf42, cf43, cf44, cf45, cf46, cf47, cf48, cf49, cf50, cf51, cf52, cf53, cf54, cf55, cf56, cf57, cf58, cf59, cf60, cf61, cf62, cf63, cf64, cf65, cf66, cf67, cf68, cf69, cf70, cf71, cf72, cf73, cf74, cf75, bd26_0_1_2_7_8_9_10_11_12_13_14_4_15, bd26_0_1_2_7_8_9_10_11_12_13_14_4_15p, bd28_, bd28_p, bd28_0, bd28_0p, bd28_0_1, bd28_0_1p, bd45_1_3_4_5_6, bd45_1_3_4_5_6p, bd49_0_1, bd49_0_1p, bd49_1, bd49_1p, bd74_0_1_2_3, bd74_0_1_2_3p, bd85_0, bd85_0p, bd85_0_1, bd85_0_1p, bd93_0_1_2, bd93_0_1_2p, bd94_0_1_2_3, bd94_0_1_2_3p, bs42_1_0, bs22_1_0, bs24_1_0, bs42_3_0_1_2, bs31_1_0, bs22_2_0_1, bs42_6_0_1_2_3_4_5, bs42_0_, eq4, eq4p, eq28, eq28p, eq42n, eq42np, eq42s, eq42sp, eq58n, eq58np, eq58s, eq58sp, eq63n, eq63np, eq63s, eq63sp, ne28, ne28p, ne45, ne45p]
      unfold S12_k5
      rw [← hKK]
      try simp -implicitDefEqProofs (disch := first | with_reducible exact Nat.ne_of_beq_eq_false rfl | omega) only [upd_eq, retK_ret, resL_tmp, upd_ne, resL_nil2]
      refine ⟨l02.trans (s11.in 2 rfl), d11, .inl ⟨hm, a11, v11, by rw [ej0], ?_, ((s11.sel [2, 0] (by decide) rfl).cut l02).sel [1, 0] (by decide) rfl⟩⟩
      rw [ej0]
      unfold jobsOf
      rw [if_pos hb]
      exact o11
    · try simp -implicitDefEqProofs only [opH_sv, opH_su, pureW_sv, opH_nil, pureW_nil, pick_t, pick_f, pick_tp, pick_fp, gd_tt, gd_ft, gd_tf, gd_ff, box_new, regs0, regs1, regs2, regs3, regs4, regs5, regs6, cells_agg, cells_int, cells_bool, cells_ptr, cells_slice, cells_string, cells_func, cells_nilFunc, cells_map, retK_ret, retK_normal, resL_tmp, resL_cell, resL_nil0, resL_nil1, resL_nil2, resL_nil3, resC_ptr, ex0, ex1, ex2, ex0p, ex1p, ex2p, HL.cond_true, HL.cond_false, thenK_normal, thenK_ret, thenK_exit, blockK_normal, blockK_ret, blockK_exit, scopeK_normal, scopeK_ret, scopeK_exit, wpH_pure, bin_add, bin_sub, bin_mul, bin_lss, bin_leq, bin_gtr, bin_geq, bin_quo, bin_rem, bin_quop, bin_remp, wrap_in, bin_addp, bin_subp, bin_mulp, bin_lssp, bin_leqp, bin_gtrp, bin_geqp, un_not, un_notp, un_neg, eq_int, ne_int, eq_intp, ne_intp, callV_fn, add_mk, upd_eq, upd_ne, cell_set_self, Nat.zero_add, Nat.add_zero, Option.some.injEq, exists_eq_left', List.getElem?_cons_succ, List.getElem?_cons_zero, true_and, and_true, bne_self_eq_false, beq_self_eq_true, Bool.not_true, Bool.not_false, Bool.and_true, Bool.and_self, Bool.and_false, Bool.true_and, List.length_cons, List.length_nil, ne_eq, not_false_eq_true, Nat.reduceAdd, Nat.reduceMul, if_true, if_false, oneCell_int, oneCell_bool, oneCell_ptr, oneCell_slice, oneCell_string, oneCell_func, oneCell_map, Int.toNat_natCast, List.set_cons_zero, List.set_cons_succ, Nat.lt_irrefl, Nat.zero_lt_succ, Nat.succ_lt_succ_iff, fa26_0, fa26_0p, fa26_1, fa26_1p, fa26_10, fa26_10p, fa26_11, fa26_11p, fa26_12, fa26_12p, fa26_13, fa26_13p, fa26_14, fa26_14p, fa26_15, fa26_15p, fa26_2, fa26_2p, fa26_3, fa26_3p, fa26_4, fa26_4p, fa26_5, fa26_5p, fa26_6, fa26_6p, fa26_7, fa26_7p, fa26_8, fa26_8p, fa26_9, fa26_9p, fa28_0, fa28_0p, fa28_1, fa28_1p, fa45_0, fa45_0p, fa45_1, fa45_1p, fa45_2, fa45_2p, fa45_3, fa45_3p, fa45_4, fa45_4p, fa45_5, fa45_5p, fa45_6, fa45_6p, fa49_0, fa49_0p, fa49_1, fa49_1p, fa74_0, fa74_0p, fa74_1, fa74_1p, fa74_2, fa74_2p, fa74_3, fa74_3p, fa85_0, fa85_0p, fa85_1, fa85_1p, fa93_0, fa93_0p, fa93_1, fa93_1p, fa93_2, fa93_2p, ld3, ld3p, ld4, ld4p, ld22, ld22p, ld23, ld23p, ld24, ld24p, ld26, ld26p, ld28, ld28p, ld42, ld42p, ld45, ld45p, ld49, ld49p, ld58, ld58p, ld69, ld69p, ld72, ld72p, ld85, ld85p, st3s, st4s, st22s, st23s, st24s, st26w, st28w, st42s, st45w, st49w, st85w, ix22, ix22p, ix23, ix23p, ix24, ix24p, ix31, ix31p, ix42, ix42p, ix104, ix104p, ln22, ln22p, ln23, ln23p, ln24, ln24p, ln31, ln31p, ln42, ln42p, al4, al22, al26, al28, al42, al49, al85, cf10, cf11, cf12, cf13, cf14, cf15, cf16, cf17, cf18, cf19, cf20, cf21, cf22, cf23, cf24, cf25, cf26, cf27, cf28, cf29, cf30, cf31, cf32, cf33, cf34, cf35, cf36, cf37, cf38, cf39, cf40, cf41, cf42, cf43, cf44, cf45, cf46, cf47, cf48, cf49, cf50, cf51, cf52, cf53, cf54, cf55, cf56, cf57, cf58, cf59, cf60, cf61, cf62, cf63, cf64, cf65, cf66, cf67, cf68, cf69, cf70, cf71, cf72, cf73, cf74, cf75, bd26_0_1_2_7_8_9_10_11_12_13_14_4_15, bd26_0_1_2_7_8_9_10_11_12_13_14_4_15p, bd28_, bd28_p, bd28_0, bd28_0p, bd28_0_1, bd28_0_1p, bd45_1_3_4_5_6, bd45_1_3_4_5_6p, bd49_0_1, bd49_0_1p, bd49_1, bd49_1p, bd74_0_1_2_3, bd74_0_1_2_3p, bd85_0, bd85_0p, bd85_0_1, bd85_0_1p, bd93_0_1_2, bd93_0_1_2p, bd94_0_1_2_3, bd94_0_1_2_3p, bs42_1_0, bs22_1_0, bs24_1_0, bs42_3_0_1_2, bs31_1_0, bs22_2_0_1, bs42_6_0_1_2_3_4_5, bs42_0_, eq4, eq4p, eq28, eq28p, eq42n, eq42np, eq42s, eq42sp, eq58n, eq58np, eq58s, eq58sp, eq63n, eq63np, eq63s, eq63sp, ne28, ne28p, ne45, ne45p]
      unfold S12_k5
      rw [← hKK]
      try simp -implicitDefEqProofs (disch := first | with_reducible exact Nat.ne_of_beq_eq_false rfl | omega) only [upd_ne, upd_eq, retK_ret, resL_tmp, resL_nil2]
      refine ⟨l02.trans (s9.in 6 rfl), d9, .inl ⟨hm, a9, v9, by rw [ej0], ?_, ((s9.sel [6, 0] (by decide) rfl).cut l02).sel [1, 0] (by decide) rfl⟩⟩
      rw [ej0]
      unfold jobsOf
      rw [if_neg (by rw [hb]; decide), List.append_nil]
      exact o9
  obtain ⟨b, hAb⟩ : ∃ b, A[i]? = some b := ⟨_, List.getElem?_eq_getElem (by omega)⟩
  obtain ⟨ba, bo, rfl, y0⟩ := Sees.num (ov.sees (G := G) (by decide) (s7.in 3 rfl)) hAb
  unfold S12_l6_k7
  have cf : ∀ j, cellIn G h7 ⟨xf, j, none⟩ = _ := fun j => cell_of (look_own (s7.at 2 rfl set_self))
  try simp -implicitDefEqProofs (disch := first | with_reducible exact Nat.ne_of_beq_eq_false rfl | omega) only [upd_ne, q56, q58, q14, q12, thenK_ret, blockK_ret, opH_sv, opH_su, al28, cf37, ld28, add_mk, Nat.add_zero, Nat.zero_add, ix42 (Int.natCast_nonneg i) hlt, Int.toNat_natCast, Nat.mul_one, ld3, y0, Option.some.injEq, cf, List.getElem?_cons_zero, List.getElem?_cons_succ, exists_eq_left']
  refine (place_walk (from_ := f) (s7.sel [4, 5, 6, 0, 1, 2, 3] (by decide) rfl) yo go (fun G' => htv G' h2 l02) hTL).mono ?_
  rintro _ h8 ⟨rfl, s8, d8⟩
  rw [skip_given hgt', stacks_eq hm]
  have epl := hpl
  rw [show A.length - i = (A.length - (i + 1)) + 1 by omega, placesL] at epl
  generalize hbb : bestL f (skipR f C.ht S TL GL) none (rstacksL C) = bb at epl
  try simp -implicitDefEqProofs only [ex1, un_not, ex0, st28w]
  intro xt hxt gxt
  cases bb with
  | none =>
    try simp -implicitDefEqProofs only [Option.isSome_none, Bool.not_false, HL.cond_true]
    rw [← hKK]
    try simp -implicitDefEqProofs (disch := first | with_reducible exact Nat.ne_of_beq_eq_false rfl | omega) only [retK_ret, resL_tmp, upd_ne, upd_eq, resL_nil2]
    exact fail 14 _ ((s8.sel [2] (by decide) rfl).past hxt) (d8.set gxt) (jobsR_room hge e5 hft epl.symm)
  | some z =>
  obtain ⟨gv2, hroom⟩ := gv.add hbb
  have s9 := s8.new (o := cellO z) hxt
  have d9 := d8.set (o := cellO z) gxt
  try simp -implicitDefEqProofs (disch := first | with_reducible exact Nat.ne_of_beq_eq_false rfl | omega) only [Option.isSome_some, Bool.not_true, HL.cond_false]
  rw [show (bCell (some z)) = z from rfl]
  generalize Hp.set h8 xt _ = h9 at s9 d9 ⊢
  have s9 : HL.Sep [noHp.set xt (cellO z), ya, ga, h2, aw, ag, noHp.set xf (cellO f), io] h9 := s9
  unfold S12_l6_k9
  obtain ⟨om, C', ab', cb', ap', cp', ar', cr', az', cs', ty, _⟩ := id yo
  obtain ⟨om', hom, mi, nym⟩ := yo.map
  have cy : ∀ j, cellIn G h9 ⟨yp, j, none⟩ = _ := fun j => cell_of (look_own (s9.in 1 rfl _ _ (ty.at 0 rfl set_self)))
  have ct : ∀ j, cellIn G h9 ⟨xt, j, none⟩ = _ := fun j => cell_of (look_own (s9.at 0 rfl set_self))
  have hmb : h9 mb = some om' := s9.in 1 rfl _ _ hom
  have nxm : xt ≠ mb := fun e => by
    rcases s9.apart (b := ya) (by simp) xt with k | k
    · rw [set_self] at k; cases k
    · rw [e, hom] at k; cases k
  obtain ⟨n0, hn0⟩ : ∃ n0, n0 = hgt S z + (GL.count z : Int) := ⟨_, rfl⟩
  have ez : (if is (z.1, z.2) = true then hv (z.1, z.2) else 0) = n0 := by rw [hn0]; exact hgt' z
  have hn1 : 0 ≤ n0 ∧ n0 < 8 := by
    have h0 : 0 ≤ hgt S z := by unfold hgt; exact Int.natCast_nonneg _
    omega
  have kp := fun (o' : Obj) (hv' : Cell → Int) (is' : Cell → Bool) (m' : MapIs o' hv' is') (e : (if is z = true then hv z else 0) = (if is' z = true then hv' z else 0)) => soft_entry (G := G) (xb := xt) (z := z) hmb mi m' nym nxm e (a := ⟨yp, 17, none⟩) rfl rfl
  obtain ⟨Rd, hRd⟩ : ∃ Rd : Sem Next → Prop, Rd = (fun s => s = sv (Instr.loadAt 72 (.pointer (some ⟨yp, 17, none⟩))) ∨ s = sv (Instr.loadAt 28 (.pointer (some ⟨xt, 0, none⟩))) ∨ s = sv (Instr.lookup 72 (.map (some mb)) (.agg #[.int .i64 z.1, .int .i64 z.2]) false)) := ⟨_, rfl⟩
  rw [← hRd] at kp
  have r1 : Rd (sv (Instr.loadAt 72 (.pointer (some ⟨yp, 17, none⟩)))) := by rw [hRd]; exact .inl rfl
  have r2 : Rd (sv (Instr.loadAt 28 (.pointer (some ⟨xt, 0, none⟩)))) := by rw [hRd]; exact .inr (.inl rfl)
  have r3 : Rd (sv (Instr.lookup 72 (.map (some mb)) (.agg #[.int .i64 z.1, .int .i64 z.2]) false)) := by rw [hRd]; exact .inr (.inr rfl)
  refine ⟨h9, Rd, Hp.le.refl _, ?_⟩
  try simp -implicitDefEqProofs (disch := first | with_reducible exact Nat.ne_of_beq_eq_false rfl | omega) only [upd_ne, q12, upd_eq, r2, opH_sv, ld28, add_mk, Nat.add_zero, Nat.zero_add, opH_su, pureW_sv, ld28p, ct, List.getElem?_cons_zero, Option.some.injEq, List.getElem?_cons_succ, exists_eq_left', true_and, pureW_nil, fa74_2p, r1, ld72p, cy, r3, lk1 (look_own hmb) mi, ez, bin_addp, wrap_in]
  refine ment hmb mi fun o' stp me => ?_
  refine ⟨kp _ _ _ me.is ?_, ?_⟩
  · have e0 : ((z.1, z.2) == z) = true := by simp
    simp only [e0, Bool.true_or, if_true]
  rw [ez]
  try simp -implicitDefEqProofs only [ex1p]
  refine mest set_self me fun o2 m2 => ?_
  rw [set_set]
  have s10 := (s9.pick 1 rfl rfl).put (o := o2) hom
  have d10 := d9.set (o := o2) (d9 _ _ hmb)
  have yo2 := yo.put m2
  generalize Hp.set h9 mb o2 = h10 at s10 d10 ⊢
  generalize Hp.set ya mb o2 = ya2 at s10 yo2
  have s10 : HL.Sep [ya2, noHp.set xt (cellO z), ga, h2, aw, ag, noHp.set xf (cellO f), io] h10 := s10
  have cf10 : ∀ j, cellIn G h10 ⟨xf, j, none⟩ = _ := fun j => cell_of (look_own (s10.at 6 rfl set_self))
  have ct10 : ∀ j, cellIn G h10 ⟨xt, j, none⟩ = _ := fun j => cell_of (look_own (s10.at 1 rfl set_self))
  try simp -implicitDefEqProofs (disch := first | with_reducible exact Nat.ne_of_beq_eq_false rfl | omega) only [q14, q17, ld28, add_mk, Nat.add_zero, Nat.zero_add, bd45_1_3_4_5_6, bs31_1_0, cf10, List.getElem?_cons_zero, Option.some.injEq, List.getElem?_cons_succ, ct10, exists_eq_left']
  intro w1 hw1 gw1
  generalize eb : Hp.set h10 w1 _ = h11
  obtain ⟨l11, d11, b11⟩ := boxed eb hw1 d10 gw1
  have s11 := (s10.sel [4, 0, 1, 2, 3, 5, 6, 7] (by decide) rfl).past (o := .cells #[.int .i64 0, .int .i64 1, .int .i64 0, .int .i64 b, .int .i64 f.1, .int .i64 f.2, .int .i64 z.1, .int .i64 z.2, .int .i64 (-1)] 45 (0, 0)) hw1
  rw [eb] at s11
  have z1 := zip_len (F := awayJ f) (A := A.take i) (GL := GL)
  have z2 := zip_len (F := againJ f) (A := A.take i) (GL := GL)
  refine append_piece jobC (by decide) un31 eojob (by decide) (by decide) (M := [awayJ f b z]) s11 d11 oa (Sees.row (c := jobC) (L := [awayJ f b z]) b11 rfl (Nat.le_refl _)) (by simp only [List.length_cons, List.length_nil]; omega) fun v12 a12 h12 o12 s12 d12 => ?_
  -- [a12, ya2, xt, ga, h2, ag, xf, io]
  have cf12 : ∀ j, cellIn G h12 ⟨xf, j, none⟩ = _ := fun j => cell_of (look_own (s12.at 6 rfl set_self))
  have ct12 : ∀ j, cellIn G h12 ⟨xt, j, none⟩ = _ := fun j => cell_of (look_own (s12.at 2 rfl set_self))
  try simp -implicitDefEqProofs (disch := first | with_reducible exact Nat.ne_of_beq_eq_false rfl | omega) only [ct12, List.getElem?_cons_zero, Option.some.injEq, List.getElem?_cons_succ, cf12, q18, exists_eq_left']
  intro w2 hw2 gw2
  generalize eb2 : Hp.set h12 w2 _ = h13
  obtain ⟨l13, d13, b13⟩ := boxed eb2 hw2 d12 gw2
  have s13 := (s12.sel [5, 0, 6, 7, 1, 3, 4] (by decide) rfl).past (o := .cells #[.int .i64 0, .int .i64 3, .int .i64 0, .int .i64 b, .int .i64 z.1, .int .i64 z.2, .int .i64 f.1, .int .i64 f.2, .int .i64 (-1)] 45 (0, 0)) hw2
  rw [eb2] at s13
  refine append_piece jobC (by decide) un31 eojob (by decide) (by decide) (M := [againJ f b z]) s13 d13 og (Sees.row (c := jobC) (L := [againJ f b z]) b13 rfl (Nat.le_refl _)) (by simp only [List.length_cons, List.length_nil]; omega) fun v14 a14 h14 o14 s14 d14 => ?_
  -- [a14, a12, xf, io, ya2, ga, h2]
  unfold S12_l6_k8
  try simp -implicitDefEqProofs (disch := first | with_reducible exact Nat.ne_of_beq_eq_false rfl | omega) only [upd_ne, q58, thenK_normal, opH_sv, bin_add, wrap_in]
  refine HX (A.length - (i + 1)) _ _ (by omega) ⟨i + 1, GL ++ [z], a12, a14, ya2, v12, v14, _, _, rfl, by omega, by simp [hgl], gv2, epl, by simp -implicitDefEqProofs (disch := first | with_reducible exact Nat.ne_of_beq_eq_false rfl | omega) only [upd_ne, q3], by simp -implicitDefEqProofs (disch := first | with_reducible exact Nat.ne_of_beq_eq_false rfl | omega) only [upd_ne, q5], by simp -implicitDefEqProofs (disch := first | with_reducible exact Nat.ne_of_beq_eq_false rfl | omega) only [upd_ne, q9], by simp -implicitDefEqProofs (disch := first | with_reducible exact Nat.ne_of_beq_eq_false rfl | omega) only [upd_ne, q12], by simp -implicitDefEqProofs (disch := first | with_reducible exact Nat.ne_of_beq_eq_false rfl | omega) only [upd_ne, q14], by simp -implicitDefEqProofs (disch := first | with_reducible exact Nat.ne_of_beq_eq_false rfl | omega) only [upd_ne, upd_eq], by simp -implicitDefEqProofs (disch := first | with_reducible exact Nat.ne_of_beq_eq_false rfl | omega) only [upd_ne, upd_eq], by simp -implicitDefEqProofs (disch := first | with_reducible exact Nat.ne_of_beq_eq_false rfl | omega) only [upd_ne, q56], by simp -implicitDefEqProofs (disch := first | with_reducible exact Nat.ne_of_beq_eq_false rfl | omega) only [upd_ne, q57], by simp -implicitDefEqProofs (disch := first | with_reducible exact Nat.ne_of_beq_eq_false rfl | omega) only [upd_eq] <;> rfl, yo2, (fun c => ?_), ?_, ?_, s14.sel [1, 0, 2, 3, 4, 5, 6] (by decide) rfl, d14⟩
  · rw [List.count_append, List.count_singleton]
    have hc := hgt' c
    by_cases hzc : (z == c) = true
    · obtain rfl := eq_of_beq hzc
      simp [← hn0]
      omega
    · have hzc' : (z == c) = false := by simpa using hzc
      have : ((z.1, z.2) == c) = false := hzc'
      simp only [this, Bool.false_or, Bool.false_eq_true, if_false, hzc']
      rw [Nat.add_zero, ← hc]
      cases is c <;> simp
  · rw [zip_step hAb hgl]; exact o12
  · rw [zip_step hAb hgl]; exact o14

end Go.Proofs.YtangejiigopdaaaDoor
end

section
/- DigDone: the plain law. -/
set_option linter.unusedSimpArgs false
set_option linter.unusedVariables false
set_option maxRecDepth 100000
namespace Go.Proofs.YtangejiigopdaaaDoor
open Go Go.HL

/-- A cell's bins are these. -/
def setB : List Stk → Cell → List Int → List Stk
  | [], c, b => [(c, b)]
  | s :: S, c, b => if (s.1 == c) = true then (s.1, b) :: S else s :: setB S c b
def tot (S : List Stk) : Nat := (S.map fun s => s.2.length).sum
theorem binsL_set {c x : Cell} {b : List Int} : ∀ {S : List Stk}, binsL (setB S c b) x = if x = c then b else binsL S x
  | [] => by
    rw [setB, binsL, binsL]
    by_cases h : x = c
    · subst h; simp
    · have h2 : ¬ c = x := fun e => h e.symm
      simp [h, h2, binsL]
  | s :: S => by
    rw [setB]
    by_cases h : s.1 = c
    · subst h
      rw [if_pos (by simp), binsL, binsL]
      by_cases h : x = s.1
      · subst h; simp
      · have h2 : ¬ s.1 = x := fun e => h e.symm
        simp [h, h2]
    · rw [if_neg (by simpa using h), binsL, binsL, binsL_set (S := S)]
      by_cases h3 : s.1 = x
      · subst h3; simp [h]
      · simp [h3]
theorem tot_set {c : Cell} {b : List Int} : ∀ {S : List Stk}, tot (setB S c b) + (binsL S c).length = tot S + b.length
  | [] => by simp [setB, tot, binsL]
  | s :: S => by
    have ih := tot_set (c := c) (b := b) (S := S)
    unfold tot at ih ⊢
    rw [setB, binsL]
    by_cases h : (s.1 == c) = true
    · rw [if_pos h, if_pos h]
      simp only [List.map_cons, List.sum_cons]
      omega
    · rw [if_neg h, if_neg h]
      simp only [List.map_cons, List.sum_cons]
      omega
theorem setB_len {c : Cell} {b : List Int} : ∀ {S : List Stk}, (setB S c b).length ≤ S.length + 1
  | [] => by simp [setB]
  | s :: S => by
    rw [setB]
    split
    · simp
    · have := setB_len (c := c) (b := b) (S := S)
      simp only [List.length_cons]
      omega

def frm (j : Job) : Cell := (j.fx, j.fy)
def tot_ (j : Job) : Cell := (j.tx, j.ty)
/-- The stacks behind a job: the bin is taken; the bin is given. -/
def takeN (N : List Stk) (j : Job) : List Stk := setB N (frm j) (binsL N (frm j)).dropLast
def stepN (N : List Stk) (j : Job) : List Stk := if j.kind = 2 then takeN N j else setB (takeN N j) (tot_ j) (binsL (takeN N j) (tot_ j) ++ [j.bin])
structure OkStep (C : Conf) (bin : Int) (p : Cell) (N : List Stk) (j : Job) : Prop where
  top : (binsL N (frm j)).getLast? = some j.bin
  rob : j.robot = -1 ∧ j.id = 0 ∧ j.order = 0
  fetch : j.kind = 2 → j.bin = bin ∧ tot_ j = p
  give : j.kind ≠ 2 → stackedB C (tot_ j) = true ∧ ((binsL (takeN N j) (tot_ j)).length : Int) < C.ht
def Runs (C : Conf) (bin : Int) (p : Cell) : List Stk → List Job → Prop
  | _, [] => True
  | N, j :: L => OkStep C bin p N j ∧ Runs C bin p (stepN N j) L
section
variable {C : Conf} {bin : Int} {p f : Cell}
theorem runs_app : ∀ {L M : List Job} {N : List Stk}, Runs C bin p N L → Runs C bin p (L.foldl stepN N) M → Runs C bin p N (L ++ M)
  | [], M, N, _, h => h
  | j :: L, M, N, h1, h2 => ⟨h1.1, runs_app (L := L) h1.2 h2⟩
theorem runs_get : ∀ {L : List Job} {N : List Stk} {i : Nat} {j : Job}, Runs C bin p N L → L[i]? = some j → OkStep C bin p ((L.take i).foldl stepN N) j
  | [], N, i, j, _, h => by simp at h
  | a :: L, N, 0, j, h1, h => by simp at h; subst h; exact h1.1
  | a :: L, N, i + 1, j, h1, h => runs_get (L := L) h1.2 (by simpa using h)

def placedL : List Int → List Cell → Cell → List Int
  | a :: A, z :: GL, c => if z = c then a :: placedL A GL c else placedL A GL c
  | _, _, _ => []

theorem placed_cons {a : Int} {A : List Int} {z c : Cell} {GL : List Cell} : placedL (a :: A) (z :: GL) c = if z = c then a :: placedL A GL c else placedL A GL c := rfl
theorem take_view {N : List Stk} {j : Job} {x : Cell} : binsL (takeN N j) x = if x = frm j then (binsL N (frm j)).dropLast else binsL N x := binsL_set
theorem step_view {N : List Stk} {j : Job} (hk : j.kind ≠ 2) {x : Cell} : binsL (stepN N j) x = if x = tot_ j then binsL (takeN N j) (tot_ j) ++ [j.bin] else binsL (takeN N j) x := by
  unfold stepN
  rw [if_neg hk, binsL_set]
theorem take_tot {N : List Stk} {j : Job} (h : (binsL N (frm j)).getLast? = some j.bin) : tot (takeN N j) + 1 = tot N := by
  have := tot_set (c := frm j) (b := (binsL N (frm j)).dropLast) (S := N)
  have h2 : binsL N (frm j) ≠ [] := fun e => by rw [e] at h; cases h
  have h3 := List.length_pos_iff.2 h2
  rw [List.length_dropLast] at this
  unfold takeN
  omega
theorem step_tot {N : List Stk} {j : Job} (hk : j.kind ≠ 2) (h : (binsL N (frm j)).getLast? = some j.bin) : tot (stepN N j) = tot N := by
  have h1 := take_tot h
  have h2 := tot_set (c := tot_ j) (b := binsL (takeN N j) (tot_ j) ++ [j.bin]) (S := takeN N j)
  unfold stepN
  rw [if_neg hk]
  rw [List.length_append, List.length_singleton] at h2
  omega

theorem away_run : ∀ {A : List Int} {GL : List Cell} {N : List Stk} {P : List Int}, A.length = GL.length → binsL N f = P ++ A.reverse → (∀ z ∈ GL, z ≠ f ∧ stackedB C z = true) → (∀ j z, GL[j]? = some z → ((binsL N z).length : Int) + ((GL.take j).count z : Int) < C.ht) →
    Runs C bin p N (List.zipWith (awayJ f) A GL) ∧ binsL ((List.zipWith (awayJ f) A GL).foldl stepN N) f = P ∧ (∀ c, c ≠ f → binsL ((List.zipWith (awayJ f) A GL).foldl stepN N) c = binsL N c ++ placedL A GL c) ∧ tot ((List.zipWith (awayJ f) A GL).foldl stepN N) = tot N
  | [], [], N, P, _, hb, _, _ => ⟨trivial, by simpa using hb, fun c _ => by simp [placedL], rfl⟩
  | a :: A, z :: GL, N, P, hl, hb, hz, hr => by
    have hz0 := hz z (.head _)
    have hk : (awayJ f a z).kind ≠ 2 := (show (1 : Int) ≠ 2 by decide)
    have hf : frm (awayJ f a z) = f := rfl
    have ht : tot_ (awayJ f a z) = z := rfl
    have hb2 : binsL N f = (P ++ A.reverse) ++ [a] := by rw [hb, List.reverse_cons, List.append_assoc]
    have htop : (binsL N (frm (awayJ f a z))).getLast? = some (awayJ f a z).bin := by rw [hf, hb2, List.getLast?_concat]; rfl
    have v1 : ∀ x, binsL (takeN N (awayJ f a z)) x = if x = f then P ++ A.reverse else binsL N x := fun x => by
      rw [take_view, hf, hb2, List.dropLast_concat]
    have v2 : ∀ x, binsL (stepN N (awayJ f a z)) x = if x = z then binsL N z ++ [a] else if x = f then P ++ A.reverse else binsL N x := fun x => by
      rw [step_view hk, ht, v1, v1, if_neg hz0.1]; rfl
    have r0 := hr 0 z rfl
    rw [List.take_zero, List.count_nil] at r0
    obtain ⟨i1, i2, i3, i4⟩ := away_run (A := A) (GL := GL) (N := stepN N (awayJ f a z)) (P := P) (by simpa using hl) (by rw [v2, if_neg (Ne.symm hz0.1), if_pos rfl]) (fun z hz' => hz z (.tail _ hz')) (fun j y hy => by
      have r1 := hr (j + 1) y (by simpa using hy)
      rw [List.take_succ_cons, List.count_cons] at r1
      have hy0 := hz y (.tail _ (List.mem_of_getElem? hy))
      rw [v2]
      by_cases e : y = z
      · subst e
        rw [if_pos rfl, List.length_append, List.length_singleton]
        rw [if_pos (by simp)] at r1
        omega
      · rw [if_neg e, if_neg hy0.1]
        rw [if_neg (by simpa using fun e2 => e (e2.symm))] at r1
        omega)
    refine ⟨⟨⟨htop, ⟨rfl, rfl, rfl⟩, fun h => absurd h hk, fun _ => ⟨hz0.2, ?_⟩⟩, i1⟩, i2, fun c hc => ?_, i4.trans (step_tot hk htop)⟩
    · rw [ht, v1, if_neg hz0.1]; omega
    · show binsL ((List.zipWith (awayJ f) A GL).foldl stepN (stepN N (awayJ f a z))) c = _
      rw [i3 c hc, v2]
      rw [placed_cons]
      by_cases e : c = z
      · subst e
        rw [if_pos rfl, if_pos rfl, List.append_assoc]; rfl
      · rw [if_neg e, if_neg hc, if_neg (fun e2 => e e2.symm)]
        
theorem again_run (sf : stackedB C f = true) : ∀ {A : List Int} {GL : List Cell} {N : List Stk} {Q : List Int} {base : Cell → List Int}, A.length = GL.length → binsL N f = Q → (∀ c, c ≠ f → binsL N c = base c ++ placedL A GL c) → (∀ z ∈ GL, z ≠ f) → (Q.length : Int) + A.length ≤ C.ht →
    Runs C bin p N (List.zipWith (againJ f) A GL).reverse ∧ binsL ((List.zipWith (againJ f) A GL).reverse.foldl stepN N) f = Q ++ A.reverse ∧ (∀ c, c ≠ f → binsL ((List.zipWith (againJ f) A GL).reverse.foldl stepN N) c = base c) ∧ tot ((List.zipWith (againJ f) A GL).reverse.foldl stepN N) = tot N
  | [], [], N, Q, base, _, hb, hv, _, _ => ⟨trivial, by simpa using hb, fun c hc => by simpa [placedL] using hv c hc, rfl⟩
  | a :: A, z :: GL, N, Q, base, hl, hb, hv, hz, hr => by
    have hz0 := hz z (.head _)
    have hk : (againJ f a z).kind ≠ 2 := (show (3 : Int) ≠ 2 by decide)
    have hf : frm (againJ f a z) = z := rfl
    have ht : tot_ (againJ f a z) = f := rfl
    obtain ⟨i1, i2, i3, i4⟩ := again_run sf (A := A) (GL := GL) (N := N) (Q := Q) (base := fun c => base c ++ (if z = c then [a] else [])) (by simpa using hl) hb (fun c hc => by
      rw [hv c hc, List.append_assoc]
      congr 1
      rw [placed_cons]
      by_cases e : z = c
      · rw [if_pos e, if_pos e]; rfl
      · rw [if_neg e, if_neg e]; rfl) (fun z hz' => hz z (.tail _ hz')) (by rw [List.length_cons] at hr; omega)
    have e : (List.zipWith (againJ f) (a :: A) (z :: GL)).reverse = (List.zipWith (againJ f) A GL).reverse ++ [againJ f a z] := by rw [List.zipWith_cons_cons, List.reverse_cons]
    rw [e, List.foldl_append]
    generalize hN1 : (List.zipWith (againJ f) A GL).reverse.foldl stepN N = N1 at i2 i3 i4
    have b1 : binsL N1 z = base z ++ [a] := by rw [i3 z hz0, if_pos rfl]
    have htop : (binsL N1 (frm (againJ f a z))).getLast? = some (againJ f a z).bin := by rw [hf, b1, List.getLast?_concat]; rfl
    have v1 : ∀ x, binsL (takeN N1 (againJ f a z)) x = if x = z then base z else binsL N1 x := fun x => by
      rw [take_view, hf, b1, List.dropLast_concat]
    have v2 : ∀ x, binsL (stepN N1 (againJ f a z)) x = if x = f then (Q ++ A.reverse) ++ [a] else if x = z then base z else binsL N1 x := fun x => by
      rw [step_view hk, ht, v1, v1, if_neg (Ne.symm hz0), i2]; rfl
    have room : ((binsL (takeN N1 (againJ f a z)) (tot_ (againJ f a z))).length : Int) < C.ht := by
      rw [ht, v1, if_neg (Ne.symm hz0), i2, List.length_append, List.length_reverse]
      rw [List.length_cons] at hr
      omega
    refine ⟨runs_app i1 (by rw [hN1]; exact ⟨⟨htop, ⟨rfl, rfl, rfl⟩, fun h => absurd h hk, fun _ => ⟨sf, room⟩⟩, trivial⟩), ?_, fun c hc => ?_, (step_tot hk htop).trans i4⟩
    · show binsL (stepN N1 (againJ f a z)) f = _
      rw [v2, if_pos rfl, List.reverse_cons, List.append_assoc]
    · show binsL (stepN N1 (againJ f a z)) c = _
      rw [v2, if_neg hc]
      by_cases e2 : c = z
      · rw [if_pos e2, e2]
      · rw [if_neg e2, i3 c hc, if_neg (fun e3 => e2 e3.symm), List.append_nil]

/-- All of it. -/
theorem jobs_run {S : List Stk} {A P : List Int} {GL : List Cell} (hl : A.length = GL.length) (hb : binsL S f = P ++ bin :: A.reverse) (sf : stackedB C f = true) (hz : ∀ z ∈ GL, z ≠ f ∧ stackedB C z = true)
    (hr : ∀ j z, GL[j]? = some z → ((binsL S z).length : Int) + ((GL.take j).count z : Int) < C.ht) (hB : ((binsL S f).length : Int) ≤ C.ht) :
    Runs C bin p S (jobsOf f A GL bin p C.back) ∧ tot ((jobsOf f A GL bin p C.back).foldl stepN S) + 1 = tot S ∧
      (C.back = true → ∀ c, binsL ((jobsOf f A GL bin p C.back).foldl stepN S) c = if c = f then P ++ A.reverse else binsL S c) := by
  obtain ⟨i1, i2, i3, i4⟩ := away_run (C := C) (bin := bin) (p := p) (f := f) (A := A) (GL := GL) (N := S) (P := P ++ [bin]) hl (by rw [hb, List.append_assoc]; rfl) hz hr
  unfold jobsOf
  rw [List.foldl_append, List.foldl_append]
  generalize hN1 : (List.zipWith (awayJ f) A GL).foldl stepN S = N1 at i2 i3 i4
  have htop : (binsL N1 (frm (fetchJ f bin p))).getLast? = some (fetchJ f bin p).bin := by
    show (binsL N1 f).getLast? = some bin
    rw [i2, List.getLast?_concat]
  have hfet : Runs C bin p N1 [fetchJ f bin p] := ⟨⟨htop, ⟨rfl, rfl, rfl⟩, fun _ => ⟨rfl, rfl⟩, fun h => absurd rfl h⟩, trivial⟩
  have hN2 : [fetchJ f bin p].foldl stepN N1 = takeN N1 (fetchJ f bin p) := rfl
  have t2 := take_tot htop
  have v2 : ∀ x, binsL (takeN N1 (fetchJ f bin p)) x = if x = f then P else binsL N1 x := fun x => by
    rw [take_view]
    show (if x = f then (binsL N1 f).dropLast else _) = _
    rw [i2, List.dropLast_concat]
  have r12 : Runs C bin p S (List.zipWith (awayJ f) A GL ++ [fetchJ f bin p]) := runs_app i1 (by rw [hN1]; exact hfet)
  cases hbk : C.back with
  | false =>
    rw [if_neg (by decide), List.append_nil, hN2]
    exact ⟨r12, by rw [List.foldl_nil]; omega, fun h => by cases h⟩
  | true =>
    rw [if_pos rfl, hN2]
    have hQ : (P.length : Int) + A.length ≤ C.ht := by
      rw [hb, List.length_append, List.length_cons, List.length_reverse] at hB
      omega
    obtain ⟨j1, j2, j3, j4⟩ := again_run (C := C) (bin := bin) (p := p) sf (A := A) (GL := GL) (N := takeN N1 (fetchJ f bin p)) (Q := P) (base := binsL S) hl (by rw [v2, if_pos rfl]) (fun c hc => by rw [v2, if_neg hc, i3 c hc]) (fun z h => (hz z h).1) hQ
    refine ⟨runs_app r12 (by rw [List.foldl_append, hN1, hN2]; exact j1), by rw [j4]; omega, fun _ c => ?_⟩
    by_cases hc : c = f
    · rw [if_pos hc, hc, j2]
    · rw [if_neg hc, j3 c hc]
end

end Go.Proofs.YtangejiigopdaaaDoor
end

section
/- The reference's jobs. -/
set_option linter.unusedSimpArgs false
set_option linter.unusedVariables false
set_option maxRecDepth 100000
namespace Go.Proofs.YtangejiigopdaaaDoor
open Go Go.HL

end Go.Proofs.YtangejiigopdaaaDoor
end

section
/- Rows that are the same; stacks copied; the document's example. -/
set_option linter.unusedSimpArgs false
set_option linter.unusedVariables false
set_option maxRecDepth 100000
namespace Go.Proofs.YtangejiigopdaaaDoor
open Go Go.HL

theorem sameints_spec {G h : Hp} {u v : Value} {L : List Int} (hL : Sees icC G h u L) (hM : Sees icC G h v L) (hlen : L.length ≤ 100000000000000) :
    HCalls Tryd.prog G 24 #[u, v] h (fun w h' => w = .bool true ∧ h' = h) := by
  refine quietly (enter24 (by simp) ?_)
  obtain ⟨sa, cap, rfl⟩ := hL.len
  obtain ⟨sb, cap', rfl⟩ := hM.len
  unfold S24
  simp -implicitDefEqProofs only [regs0, regs1, retK_ret, resL_tmp, upd_eq, resL_nil1, opH_sv, ln42, ne_int, bne_self_eq_false, HL.cond_false]
  unfold S24_k1
  refine loop_I (fun m r h3 => ∃ (i : Nat), m = L.length - i ∧ i ≤ L.length ∧ r 0 = .slice sa L.length cap ∧ r 1 = .slice sb L.length cap' ∧ r 5 = .int .i64 i ∧ h3 = h) ?_
    (m := L.length) ⟨0, rfl, Nat.zero_le _, by simp -implicitDefEqProofs (disch := first | with_reducible exact Nat.ne_of_beq_eq_false rfl | omega) only [upd_ne, regs0], by simp -implicitDefEqProofs (disch := first | with_reducible exact Nat.ne_of_beq_eq_false rfl | omega) only [upd_ne, regs1], by simp -implicitDefEqProofs only [upd_eq] <;> rfl, rfl⟩
  rintro m r h ⟨i, rfl, hi, g0, g1, g5, rfl⟩ X HX
  unfold S24_l3
  simp -implicitDefEqProofs (disch := first | with_reducible exact Nat.ne_of_beq_eq_false rfl | omega) only [g0, g5, thenK_exit, blockK_exit, thenK_normal, if_true, opH_sv, ln42, bin_lss]
  refine cond_dec (fun hlt => ?_) (fun hge => ?_)
  · obtain ⟨x, hx⟩ : ∃ x, L[i]? = some x := ⟨_, List.getElem?_eq_getElem (by omega)⟩
    obtain ⟨b, o, rfl, x0⟩ := Sees.num hL hx
    obtain ⟨b', o', rfl, y0⟩ := Sees.num hM hx
    unfold S24_l3_k4
    try simp -implicitDefEqProofs (disch := first | with_reducible exact Nat.ne_of_beq_eq_false rfl | omega) only [upd_ne, g0, g5, g1, thenK_ret, blockK_ret, retK_ret, resL_tmp, upd_eq, resL_nil1, pureW_sv, ix42p (Int.natCast_nonneg i) hlt, Int.toNat_natCast, Nat.mul_one, add_mk, ld3p, y0, Option.some.injEq, exists_eq_left', x0, ne_intp, bne_self_eq_false, HL.cond_false]
    unfold S24_l3_k5
    simp -implicitDefEqProofs (maxSteps := 2000000) (disch := first | with_reducible exact Nat.ne_of_beq_eq_false rfl | exact oneCell_int | exact oneCell_bool | omega | rfl | (simp; done) | fail) only [upd_ne, g5, thenK_normal, opH_sv, bin_add, wrap_in]
    exact HX (L.length - (i + 1)) _ _ (by omega) ⟨i + 1, rfl, by omega, by simp -implicitDefEqProofs (maxSteps := 2000000) (disch := first | with_reducible exact Nat.ne_of_beq_eq_false rfl | exact oneCell_int | exact oneCell_bool | omega | rfl | (simp; done) | fail) only [upd_ne, g0], by simp -implicitDefEqProofs (maxSteps := 2000000) (disch := first | with_reducible exact Nat.ne_of_beq_eq_false rfl | exact oneCell_int | exact oneCell_bool | omega | rfl | (simp; done) | fail) only [upd_ne, g1], by simp -implicitDefEqProofs (maxSteps := 2000000) (disch := first | with_reducible exact Nat.ne_of_beq_eq_false rfl | exact oneCell_int | exact oneCell_bool | omega | rfl | (simp; done) | fail) only [upd_eq] <;> rfl, rfl⟩
  · try simp -implicitDefEqProofs only [opH_sv, opH_su, pureW_sv, opH_nil, pureW_nil, pick_t, pick_f, pick_tp, pick_fp, gd_tt, gd_ft, gd_tf, gd_ff, box_new, regs0, regs1, regs2, regs3, regs4, regs5, regs6, cells_agg, cells_int, cells_bool, cells_ptr, cells_slice, cells_string, cells_func, cells_nilFunc, cells_map, retK_ret, retK_normal, resL_tmp, resL_cell, resL_nil0, resL_nil1, resL_nil2, resL_nil3, resC_ptr, ex0, ex1, ex2, ex0p, ex1p, ex2p, HL.cond_true, HL.cond_false, thenK_normal, thenK_ret, thenK_exit, blockK_normal, blockK_ret, blockK_exit, scopeK_normal, scopeK_ret, scopeK_exit, wpH_pure, bin_add, bin_sub, bin_mul, bin_lss, bin_leq, bin_gtr, bin_geq, bin_quo, bin_rem, bin_quop, bin_remp, wrap_in, bin_addp, bin_subp, bin_mulp, bin_lssp, bin_leqp, bin_gtrp, bin_geqp, un_not, un_notp, un_neg, eq_int, ne_int, eq_intp, ne_intp, callV_fn, add_mk, upd_eq, upd_ne, cell_set_self, Nat.zero_add, Nat.add_zero, Option.some.injEq, exists_eq_left', List.getElem?_cons_succ, List.getElem?_cons_zero, true_and, and_true, bne_self_eq_false, beq_self_eq_true, Bool.not_true, Bool.not_false, Bool.and_true, Bool.and_self, Bool.and_false, Bool.true_and, List.length_cons, List.length_nil, ne_eq, not_false_eq_true, Nat.reduceAdd, Nat.reduceMul, if_true, if_false, oneCell_int, oneCell_bool, oneCell_ptr, oneCell_slice, oneCell_string, oneCell_func, oneCell_map, Int.toNat_natCast, List.set_cons_zero, List.set_cons_succ, Nat.lt_irrefl, Nat.zero_lt_succ, Nat.succ_lt_succ_iff, fa26_0, fa26_0p, fa26_1, fa26_1p, fa26_10, fa26_10p, fa26_11, fa26_11p, fa26_12, fa26_12p, fa26_13, fa26_13p, fa26_14, fa26_14p, fa26_15, fa26_15p, fa26_2, fa26_2p, fa26_3, fa26_3p, fa26_4, fa26_4p, fa26_5, fa26_5p, fa26_6, fa26_6p, fa26_7, fa26_7p, fa26_8, fa26_8p, fa26_9, fa26_9p, fa28_0, fa28_0p, fa28_1, fa28_1p, fa45_0, fa45_0p, fa45_1, fa45_1p, fa45_2, fa45_2p, fa45_3, fa45_3p, fa45_4, fa45_4p, fa45_5, fa45_5p, fa45_6, fa45_6p, fa49_0, fa49_0p, fa49_1, fa49_1p, fa74_0, fa74_0p, fa74_1, fa74_1p, fa74_2, fa74_2p, fa74_3, fa74_3p, fa85_0, fa85_0p, fa85_1, fa85_1p, fa93_0, fa93_0p, fa93_1, fa93_1p, fa93_2, fa93_2p, ld3, ld3p, ld4, ld4p, ld22, ld22p, ld23, ld23p, ld24, ld24p, ld26, ld26p, ld28, ld28p, ld42, ld42p, ld45, ld45p, ld49, ld49p, ld58, ld58p, ld69, ld69p, ld72, ld72p, ld85, ld85p, st3s, st4s, st22s, st23s, st24s, st26w, st28w, st42s, st45w, st49w, st85w, ix22, ix22p, ix23, ix23p, ix24, ix24p, ix31, ix31p, ix42, ix42p, ix104, ix104p, ln22, ln22p, ln23, ln23p, ln24, ln24p, ln31, ln31p, ln42, ln42p, al4, al22, al26, al28, al42, al49, al85, cf10, cf11, cf12, cf13, cf14, cf15, cf16, cf17, cf18, cf19, cf20, cf21, cf22, cf23, cf24, cf25, cf26, cf27, cf28, cf29, cf30, cf31, cf32, cf33, cf34, cf35, cf36, cf37, cf38, cf39, cf40, cf41, cf42, cf43, cf44, cf45, cf46, cf47, cf48, cf49, cf50, cf51, cf52, cf53, cf54, cf55, cf56, cf57, cf58, cf59, cf60, cf61, cf62, cf63, cf64, cf65, cf66, cf67, cf68, cf69, cf70, cf71, cf72, cf73, cf74, cf75, bd26_0_1_2_7_8_9_10_11_12_13_14_4_15, bd26_0_1_2_7_8_9_10_11_12_13_14_4_15p, bd28_, bd28_p, bd28_0, bd28_0p, bd28_0_1, bd28_0_1p, bd45_1_3_4_5_6, bd45_1_3_4_5_6p, bd49_0_1, bd49_0_1p, bd49_1, bd49_1p, bd74_0_1_2_3, bd74_0_1_2_3p, bd85_0, bd85_0p, bd85_0_1, bd85_0_1p, bd93_0_1_2, bd93_0_1_2p, bd94_0_1_2_3, bd94_0_1_2_3p, bs42_1_0, bs22_1_0, bs24_1_0, bs42_3_0_1_2, bs31_1_0, bs22_2_0_1, bs42_6_0_1_2_3_4_5, bs42_0_, eq4, eq4p, eq28, eq28p, eq42n, eq42np, eq42s, eq42sp, eq58n, eq58np, eq58s, eq58sp, eq63n, eq63np, eq63s, eq63sp, ne28, ne28p, ne45, ne45p]
    unfold S24_k2
    try simp -implicitDefEqProofs only [retK_ret, resL_tmp, upd_eq, resL_nil1, true_and]
    first | exact Hp.le.refl _ | exact ⟨rfl, Hp.le.refl _⟩

/-- Stacks copied. -/
theorem copystk_spec {G h : Hp} {v : Value} {S : List Stk} (hss : StS G h v S) (hst : Room S.length 40) (hb : ∀ s ∈ S, Room s.2.length 8) : HCalls Tryd.prog G 11 #[v] h (fun u h' => ∃ pz, StkO pz u S ∧ HL.Sep [pz, h] h' ∧ Dis G h') := by
  obtain ⟨a, cap, rfl, raw, sr, srr⟩ := hss
  have ca : CA G h { Cz with st := S } none 0 none 0 none 0 a cap := ⟨⟨none, 0, rfl, Nat.le_refl _, .inl rfl⟩, ⟨none, 0, rfl, Nat.le_refl _, .inl rfl⟩, ⟨none, 0, rfl, Nat.le_refl _, .inl rfl⟩, raw, sr, srr⟩
  exact copystacks_spec ca hst hb
theorem StkO.st {pz : Hp} {v : Value} {S : List Stk} (o : StkO pz v S) {G h2 : Hp} (l : pz.le h2) : StS G h2 v S := by
  obtain ⟨sz, cz, e0⟩ := o.len
  obtain ⟨raws, pr', pb', o, t, e, rel⟩ := o
  subst e0
  refine ⟨sz, cz, rfl, raws, o.sees (by decide) ((t.in 0 rfl).trans l), fun i r x h1 h2 => ?_⟩
  obtain ⟨a, b, c⟩ := rel i r x h1 h2
  exact ⟨a, b, c.sees (by decide) ((t.in 1 rfl).trans l)⟩

def C1 : Conf := ⟨3, 2, 3, [], [(2, 0)], [], [], 1, 1, 1, 1, 1, 1, 1, 1, true⟩
theorem made1 : MadeOk C1 := by
  rw [made_may]
  refine ⟨rfl, by decide, by decide, by decide, fun c hc => by simp [C1] at hc, fun c hc => ?_, fun c hc => by simp [C1] at hc, fun c hc => by simp [C1] at hc, ?_⟩
  · simp [C1] at hc
    subst hc
    decide +kernel
  · exact ⟨by simp [C1], by simp [C1], by simp [C1], by simp [C1], by simp [C1], by simp [C1]⟩
theorem jobs1 : (jobsR C1 [((0, 0), [7, 8, 9])] [] 7 (2, 0)).2 = 0 ∧ (jobsR C1 [((0, 0), [7, 8, 9])] [] 7 (2, 0)).1.map (fun j => (j.kind, j.bin)) = [(1, 9), (1, 8), (2, 7), (3, 8), (3, 9)] := by decide +kernel

theorem conf1_spec {G h : Hp} : HCalls Tryd.prog G 25 #[] h (fun u h' => ∃ pb, u = confV C1 none 0 (some ⟨pb, 0, none⟩) 1 none 0 none 0 ∧ h.le h' ∧ Dis G h' ∧ h' pb = some (.cells #[.int .i64 2, .int .i64 0] 28 (0, 0))) := by
  refine HCalls.assume fun d => enter25 (by simp) ?_
  unfold S25
  simp -implicitDefEqProofs only [retK_ret, resL_cell, upd_ne, upd_eq, resL_nil1, opH_su, opH_sv, bd28_0, bs22_1_0, bd26_0_1_2_7_8_9_10_11_12_13_14_4_15, al26, resC_ptr, ld26, add_mk, Nat.add_zero, Nat.zero_add]
  intro x hx gx
  generalize e1 : Hp.set h x _ = h1
  obtain ⟨l1, d1, b1⟩ := boxed e1 hx d gx
  try simp -implicitDefEqProofs only [opH_sv, opH_su, pureW_sv, opH_nil, pureW_nil, pick_t, pick_f, pick_tp, pick_fp, gd_tt, gd_ft, gd_tf, gd_ff, box_new, regs0, regs1, regs2, regs3, regs4, regs5, regs6, cells_agg, cells_int, cells_bool, cells_ptr, cells_slice, cells_string, cells_func, cells_nilFunc, cells_map, retK_ret, retK_normal, resL_tmp, resL_cell, resL_nil0, resL_nil1, resL_nil2, resL_nil3, resC_ptr, ex0, ex1, ex2, ex0p, ex1p, ex2p, HL.cond_true, HL.cond_false, thenK_normal, thenK_ret, thenK_exit, blockK_normal, blockK_ret, blockK_exit, scopeK_normal, scopeK_ret, scopeK_exit, wpH_pure, bin_add, bin_sub, bin_mul, bin_lss, bin_leq, bin_gtr, bin_geq, bin_quo, bin_rem, bin_quop, bin_remp, wrap_in, bin_addp, bin_subp, bin_mulp, bin_lssp, bin_leqp, bin_gtrp, bin_geqp, un_not, un_notp, un_neg, eq_int, ne_int, eq_intp, ne_intp, callV_fn, add_mk, upd_eq, upd_ne, cell_set_self, Nat.zero_add, Nat.add_zero, Option.some.injEq, exists_eq_left', List.getElem?_cons_succ, List.getElem?_cons_zero, true_and, and_true, bne_self_eq_false, beq_self_eq_true, Bool.not_true, Bool.not_false, Bool.and_true, Bool.and_self, Bool.and_false, Bool.true_and, List.length_cons, List.length_nil, ne_eq, not_false_eq_true, Nat.reduceAdd, Nat.reduceMul, if_true, if_false, oneCell_int, oneCell_bool, oneCell_ptr, oneCell_slice, oneCell_string, oneCell_func, oneCell_map, Int.toNat_natCast, List.set_cons_zero, List.set_cons_succ, Nat.lt_irrefl, Nat.zero_lt_succ, Nat.succ_lt_succ_iff, fa26_0, fa26_0p, fa26_1, fa26_1p, fa26_10, fa26_10p, fa26_11, fa26_11p, fa26_12, fa26_12p, fa26_13, fa26_13p, fa26_14, fa26_14p, fa26_15, fa26_15p, fa26_2, fa26_2p, fa26_3, fa26_3p, fa26_4, fa26_4p, fa26_5, fa26_5p, fa26_6, fa26_6p, fa26_7, fa26_7p, fa26_8, fa26_8p, fa26_9, fa26_9p, fa28_0, fa28_0p, fa28_1, fa28_1p, fa45_0, fa45_0p, fa45_1, fa45_1p, fa45_2, fa45_2p, fa45_3, fa45_3p, fa45_4, fa45_4p, fa45_5, fa45_5p, fa45_6, fa45_6p, fa49_0, fa49_0p, fa49_1, fa49_1p, fa74_0, fa74_0p, fa74_1, fa74_1p, fa74_2, fa74_2p, fa74_3, fa74_3p, fa85_0, fa85_0p, fa85_1, fa85_1p, fa93_0, fa93_0p, fa93_1, fa93_1p, fa93_2, fa93_2p, ld3, ld3p, ld4, ld4p, ld22, ld22p, ld23, ld23p, ld24, ld24p, ld26, ld26p, ld28, ld28p, ld42, ld42p, ld45, ld45p, ld49, ld49p, ld58, ld58p, ld69, ld69p, ld72, ld72p, ld85, ld85p, st3s, st4s, st22s, st23s, st24s, st26w, st28w, st42s, st45w, st49w, st85w, ix22, ix22p, ix23, ix23p, ix24, ix24p, ix31, ix31p, ix42, ix42p, ix104, ix104p, ln22, ln22p, ln23, ln23p, ln24, ln24p, ln31, ln31p, ln42, ln42p, al4, al22, al26, al28, al42, al49, al85, cf10, cf11, cf12, cf13, cf14, cf15, cf16, cf17, cf18, cf19, cf20, cf21, cf22, cf23, cf24, cf25, cf26, cf27, cf28, cf29, cf30, cf31, cf32, cf33, cf34, cf35, cf36, cf37, cf38, cf39, cf40, cf41, cf42, cf43, cf44, cf45, cf46, cf47, cf48, cf49, cf50, cf51, cf52, cf53, cf54, cf55, cf56, cf57, cf58, cf59, cf60, cf61, cf62, cf63, cf64, cf65, cf66, cf67, cf68, cf69, cf70, cf71, cf72, cf73, cf74, cf75, bd26_0_1_2_7_8_9_10_11_12_13_14_4_15, bd26_0_1_2_7_8_9_10_11_12_13_14_4_15p, bd28_, bd28_p, bd28_0, bd28_0p, bd28_0_1, bd28_0_1p, bd45_1_3_4_5_6, bd45_1_3_4_5_6p, bd49_0_1, bd49_0_1p, bd49_1, bd49_1p, bd74_0_1_2_3, bd74_0_1_2_3p, bd85_0, bd85_0p, bd85_0_1, bd85_0_1p, bd93_0_1_2, bd93_0_1_2p, bd94_0_1_2_3, bd94_0_1_2_3p, bs42_1_0, bs22_1_0, bs24_1_0, bs42_3_0_1_2, bs31_1_0, bs22_2_0_1, bs42_6_0_1_2_3_4_5, bs42_0_, eq4, eq4p, eq28, eq28p, eq42n, eq42np, eq42s, eq42sp, eq58n, eq58np, eq58s, eq58sp, eq63n, eq63np, eq63s, eq63sp, ne28, ne28p, ne45, ne45p]
  intro pb hpb gpb
  generalize e2 : Hp.set h1 pb _ = h2
  obtain ⟨l2, d2, b2⟩ := boxed e2 hpb d1 gpb
  try simp -implicitDefEqProofs (disch := first | with_reducible exact Nat.ne_of_beq_eq_false rfl | omega) only [opH_sv, opH_su, pureW_sv, opH_nil, pureW_nil, pick_t, pick_f, pick_tp, pick_fp, gd_tt, gd_ft, gd_tf, gd_ff, box_new, regs0, regs1, regs2, regs3, regs4, regs5, regs6, cells_agg, cells_int, cells_bool, cells_ptr, cells_slice, cells_string, cells_func, cells_nilFunc, cells_map, retK_ret, retK_normal, resL_tmp, resL_cell, resL_nil0, resL_nil1, resL_nil2, resL_nil3, resC_ptr, ex0, ex1, ex2, ex0p, ex1p, ex2p, HL.cond_true, HL.cond_false, thenK_normal, thenK_ret, thenK_exit, blockK_normal, blockK_ret, blockK_exit, scopeK_normal, scopeK_ret, scopeK_exit, wpH_pure, bin_add, bin_sub, bin_mul, bin_lss, bin_leq, bin_gtr, bin_geq, bin_quo, bin_rem, bin_quop, bin_remp, wrap_in, bin_addp, bin_subp, bin_mulp, bin_lssp, bin_leqp, bin_gtrp, bin_geqp, un_not, un_notp, un_neg, eq_int, ne_int, eq_intp, ne_intp, callV_fn, add_mk, upd_eq, upd_ne, cell_set_self, Nat.zero_add, Nat.add_zero, Option.some.injEq, exists_eq_left', List.getElem?_cons_succ, List.getElem?_cons_zero, true_and, and_true, bne_self_eq_false, beq_self_eq_true, Bool.not_true, Bool.not_false, Bool.and_true, Bool.and_self, Bool.and_false, Bool.true_and, List.length_cons, List.length_nil, ne_eq, not_false_eq_true, Nat.reduceAdd, Nat.reduceMul, if_true, if_false, oneCell_int, oneCell_bool, oneCell_ptr, oneCell_slice, oneCell_string, oneCell_func, oneCell_map, Int.toNat_natCast, List.set_cons_zero, List.set_cons_succ, Nat.lt_irrefl, Nat.zero_lt_succ, Nat.succ_lt_succ_iff, fa26_0, fa26_0p, fa26_1, fa26_1p, fa26_10, fa26_10p, fa26_11, fa26_11p, fa26_12, fa26_12p, fa26_13, fa26_13p, fa26_14, fa26_14p, fa26_15, fa26_15p, fa26_2, fa26_2p, fa26_3, fa26_3p, fa26_4, fa26_4p, fa26_5, fa26_5p, fa26_6, fa26_6p, fa26_7, fa26_7p, fa26_8, fa26_8p, fa26_9, fa26_9p, fa28_0, fa28_0p, fa28_1, fa28_1p, fa45_0, fa45_0p, fa45_1, fa45_1p, fa45_2, fa45_2p, fa45_3, fa45_3p, fa45_4, fa45_4p, fa45_5, fa45_5p, fa45_6, fa45_6p, fa49_0, fa49_0p, fa49_1, fa49_1p, fa74_0, fa74_0p, fa74_1, fa74_1p, fa74_2, fa74_2p, fa74_3, fa74_3p, fa85_0, fa85_0p, fa85_1, fa85_1p, fa93_0, fa93_0p, fa93_1, fa93_1p, fa93_2, fa93_2p, ld3, ld3p, ld4, ld4p, ld22, ld22p, ld23, ld23p, ld24, ld24p, ld26, ld26p, ld28, ld28p, ld42, ld42p, ld45, ld45p, ld49, ld49p, ld58, ld58p, ld69, ld69p, ld72, ld72p, ld85, ld85p, st3s, st4s, st22s, st23s, st24s, st26w, st28w, st42s, st45w, st49w, st85w, ix22, ix22p, ix23, ix23p, ix24, ix24p, ix31, ix31p, ix42, ix42p, ix104, ix104p, ln22, ln22p, ln23, ln23p, ln24, ln24p, ln31, ln31p, ln42, ln42p, al4, al22, al26, al28, al42, al49, al85, cf10, cf11, cf12, cf13, cf14, cf15, cf16, cf17, cf18, cf19, cf20, cf21, cf22, cf23, cf24, cf25, cf26, cf27, cf28, cf29, cf30, cf31, cf32, cf33, cf34, cf35, cf36, cf37, cf38, cf39, cf40, cf41, cf42, cf43, cf44, cf45, cf46, cf47, cf48, cf49, cf50, cf51, cf52, cf53, cf54, cf55, cf56, cf57, cf58, cf59, cf60, cf61, cf62, cf63, cf64, cf65, cf66, cf67, cf68, cf69, cf70, cf71, cf72, cf73, cf74, cf75, bd26_0_1_2_7_8_9_10_11_12_13_14_4_15, bd26_0_1_2_7_8_9_10_11_12_13_14_4_15p, bd28_, bd28_p, bd28_0, bd28_0p, bd28_0_1, bd28_0_1p, bd45_1_3_4_5_6, bd45_1_3_4_5_6p, bd49_0_1, bd49_0_1p, bd49_1, bd49_1p, bd74_0_1_2_3, bd74_0_1_2_3p, bd85_0, bd85_0p, bd85_0_1, bd85_0_1p, bd93_0_1_2, bd93_0_1_2p, bd94_0_1_2_3, bd94_0_1_2_3p, bs42_1_0, bs22_1_0, bs24_1_0, bs42_3_0_1_2, bs31_1_0, bs22_2_0_1, bs42_6_0_1_2_3_4_5, bs42_0_, eq4, eq4p, eq28, eq28p, eq42n, eq42np, eq42s, eq42sp, eq58n, eq58np, eq58s, eq58sp, eq63n, eq63np, eq63s, eq63sp, ne28, ne28p, ne45, ne45p]
  have nx : pb ≠ x := fun e => by rw [e, b1] at hpb; cases hpb
  refine Eq.mpr (store26 (C := C1) (D := Cz) (l2 _ _ b1)) ?_
  have cx : ∀ (o : Obj) (l : List Value) (e : TypeId), o = .cells l.toArray e (0, 0) → ∀ j, cellIn G (h2.set x o) ⟨x, j, none⟩ = l[j]? := fun o l e eo j => by rw [eo]; exact cell_of (look_own set_self)
  try simp -implicitDefEqProofs (maxSteps := 2000000) (disch := first | with_reducible exact Nat.ne_of_beq_eq_false rfl | exact oneCell_int | exact oneCell_bool | omega | rfl | (simp; done) | fail) only [cx _ _ _ rfl, List.getElem?_cons_zero, Option.some.injEq, List.getElem?_cons_succ, exists_eq_left']
  refine ⟨pb, rfl, ?_, d2.set gx, by rw [set_other nx]; exact b2⟩
  have hx2 : h x = none := hx
  exact fun b o hb => by
    by_cases hbx : b = x
    · subst hbx; rw [hx] at hb; cases hb
    · rw [set_other hbx]; exact l2 _ _ (l1 _ _ hb)

set_option maxHeartbeats 4000000 in
theorem awake_spec {G h : Hp} (st : Steps G) : HCalls Tryd.prog G 10 #[] h (fun u h' => u = .bool true ∧ h' = h) := by
  refine HCalls.assume fun d => quietly (enter10 (by simp) ?_)
  unfold S10
  simp -implicitDefEqProofs only [retK_ret, resL_tmp, upd_eq, resL_nil1, opH_sv, cf12, bd28_0, bs42_3_0_1_2, bd49_1, bs24_1_0, cf25]
  refine conf1_spec.mono ?_
  rintro _ h1 ⟨pb, rfl, l1, d1, bp⟩
  try simp -implicitDefEqProofs only [opH_sv, opH_su, pureW_sv, opH_nil, pureW_nil, pick_t, pick_f, pick_tp, pick_fp, gd_tt, gd_ft, gd_tf, gd_ff, box_new, regs0, regs1, regs2, regs3, regs4, regs5, regs6, cells_agg, cells_int, cells_bool, cells_ptr, cells_slice, cells_string, cells_func, cells_nilFunc, cells_map, retK_ret, retK_normal, resL_tmp, resL_cell, resL_nil0, resL_nil1, resL_nil2, resL_nil3, resC_ptr, ex0, ex1, ex2, ex0p, ex1p, ex2p, HL.cond_true, HL.cond_false, thenK_normal, thenK_ret, thenK_exit, blockK_normal, blockK_ret, blockK_exit, scopeK_normal, scopeK_ret, scopeK_exit, wpH_pure, bin_add, bin_sub, bin_mul, bin_lss, bin_leq, bin_gtr, bin_geq, bin_quo, bin_rem, bin_quop, bin_remp, wrap_in, bin_addp, bin_subp, bin_mulp, bin_lssp, bin_leqp, bin_gtrp, bin_geqp, un_not, un_notp, un_neg, eq_int, ne_int, eq_intp, ne_intp, callV_fn, add_mk, upd_eq, upd_ne, cell_set_self, Nat.zero_add, Nat.add_zero, Option.some.injEq, exists_eq_left', List.getElem?_cons_succ, List.getElem?_cons_zero, true_and, and_true, bne_self_eq_false, beq_self_eq_true, Bool.not_true, Bool.not_false, Bool.and_true, Bool.and_self, Bool.and_false, Bool.true_and, List.length_cons, List.length_nil, ne_eq, not_false_eq_true, Nat.reduceAdd, Nat.reduceMul, if_true, if_false, oneCell_int, oneCell_bool, oneCell_ptr, oneCell_slice, oneCell_string, oneCell_func, oneCell_map, Int.toNat_natCast, List.set_cons_zero, List.set_cons_succ, Nat.lt_irrefl, Nat.zero_lt_succ, Nat.succ_lt_succ_iff, fa26_0, fa26_0p, fa26_1, fa26_1p, fa26_10, fa26_10p, fa26_11, fa26_11p, fa26_12, fa26_12p, fa26_13, fa26_13p, fa26_14, fa26_14p, fa26_15, fa26_15p, fa26_2, fa26_2p, fa26_3, fa26_3p, fa26_4, fa26_4p, fa26_5, fa26_5p, fa26_6, fa26_6p, fa26_7, fa26_7p, fa26_8, fa26_8p, fa26_9, fa26_9p, fa28_0, fa28_0p, fa28_1, fa28_1p, fa45_0, fa45_0p, fa45_1, fa45_1p, fa45_2, fa45_2p, fa45_3, fa45_3p, fa45_4, fa45_4p, fa45_5, fa45_5p, fa45_6, fa45_6p, fa49_0, fa49_0p, fa49_1, fa49_1p, fa74_0, fa74_0p, fa74_1, fa74_1p, fa74_2, fa74_2p, fa74_3, fa74_3p, fa85_0, fa85_0p, fa85_1, fa85_1p, fa93_0, fa93_0p, fa93_1, fa93_1p, fa93_2, fa93_2p, ld3, ld3p, ld4, ld4p, ld22, ld22p, ld23, ld23p, ld24, ld24p, ld26, ld26p, ld28, ld28p, ld42, ld42p, ld45, ld45p, ld49, ld49p, ld58, ld58p, ld69, ld69p, ld72, ld72p, ld85, ld85p, st3s, st4s, st22s, st23s, st24s, st26w, st28w, st42s, st45w, st49w, st85w, ix22, ix22p, ix23, ix23p, ix24, ix24p, ix31, ix31p, ix42, ix42p, ix104, ix104p, ln22, ln22p, ln23, ln23p, ln24, ln24p, ln31, ln31p, ln42, ln42p, al4, al22, al26, al28, al42, al49, al85, cf10, cf11, cf12, cf13, cf14, cf15, cf16, cf17, cf18, cf19, cf20, cf21, cf22, cf23, cf24, cf25, cf26, cf27, cf28, cf29, cf30, cf31, cf32, cf33, cf34, cf35, cf36, cf37, cf38, cf39, cf40, cf41, cf42, cf43, cf44, cf45, cf46, cf47, cf48, cf49, cf50, cf51, cf52, cf53, cf54, cf55, cf56, cf57, cf58, cf59, cf60, cf61, cf62, cf63, cf64, cf65, cf66, cf67, cf68, cf69, cf70, cf71, cf72, cf73, cf74, cf75, bd26_0_1_2_7_8_9_10_11_12_13_14_4_15, bd26_0_1_2_7_8_9_10_11_12_13_14_4_15p, bd28_, bd28_p, bd28_0, bd28_0p, bd28_0_1, bd28_0_1p, bd45_1_3_4_5_6, bd45_1_3_4_5_6p, bd49_0_1, bd49_0_1p, bd49_1, bd49_1p, bd74_0_1_2_3, bd74_0_1_2_3p, bd85_0, bd85_0p, bd85_0_1, bd85_0_1p, bd93_0_1_2, bd93_0_1_2p, bd94_0_1_2_3, bd94_0_1_2_3p, bs42_1_0, bs22_1_0, bs24_1_0, bs42_3_0_1_2, bs31_1_0, bs22_2_0_1, bs42_6_0_1_2_3_4_5, bs42_0_, eq4, eq4p, eq28, eq28p, eq42n, eq42np, eq42s, eq42sp, eq58n, eq58np, eq58s, eq58sp, eq63n, eq63np, eq63s, eq63sp, ne28, ne28p, ne45, ne45p]
  intro x hx gx
  generalize e2 : Hp.set h1 x _ = h2
  obtain ⟨l2, d2, b2⟩ := boxed e2 hx d1 gx
  try simp -implicitDefEqProofs only [opH_sv, opH_su, pureW_sv, opH_nil, pureW_nil, pick_t, pick_f, pick_tp, pick_fp, gd_tt, gd_ft, gd_tf, gd_ff, box_new, regs0, regs1, regs2, regs3, regs4, regs5, regs6, cells_agg, cells_int, cells_bool, cells_ptr, cells_slice, cells_string, cells_func, cells_nilFunc, cells_map, retK_ret, retK_normal, resL_tmp, resL_cell, resL_nil0, resL_nil1, resL_nil2, resL_nil3, resC_ptr, ex0, ex1, ex2, ex0p, ex1p, ex2p, HL.cond_true, HL.cond_false, thenK_normal, thenK_ret, thenK_exit, blockK_normal, blockK_ret, blockK_exit, scopeK_normal, scopeK_ret, scopeK_exit, wpH_pure, bin_add, bin_sub, bin_mul, bin_lss, bin_leq, bin_gtr, bin_geq, bin_quo, bin_rem, bin_quop, bin_remp, wrap_in, bin_addp, bin_subp, bin_mulp, bin_lssp, bin_leqp, bin_gtrp, bin_geqp, un_not, un_notp, un_neg, eq_int, ne_int, eq_intp, ne_intp, callV_fn, add_mk, upd_eq, upd_ne, cell_set_self, Nat.zero_add, Nat.add_zero, Option.some.injEq, exists_eq_left', List.getElem?_cons_succ, List.getElem?_cons_zero, true_and, and_true, bne_self_eq_false, beq_self_eq_true, Bool.not_true, Bool.not_false, Bool.and_true, Bool.and_self, Bool.and_false, Bool.true_and, List.length_cons, List.length_nil, ne_eq, not_false_eq_true, Nat.reduceAdd, Nat.reduceMul, if_true, if_false, oneCell_int, oneCell_bool, oneCell_ptr, oneCell_slice, oneCell_string, oneCell_func, oneCell_map, Int.toNat_natCast, List.set_cons_zero, List.set_cons_succ, Nat.lt_irrefl, Nat.zero_lt_succ, Nat.succ_lt_succ_iff, fa26_0, fa26_0p, fa26_1, fa26_1p, fa26_10, fa26_10p, fa26_11, fa26_11p, fa26_12, fa26_12p, fa26_13, fa26_13p, fa26_14, fa26_14p, fa26_15, fa26_15p, fa26_2, fa26_2p, fa26_3, fa26_3p, fa26_4, fa26_4p, fa26_5, fa26_5p, fa26_6, fa26_6p, fa26_7, fa26_7p, fa26_8, fa26_8p, fa26_9, fa26_9p, fa28_0, fa28_0p, fa28_1, fa28_1p, fa45_0, fa45_0p, fa45_1, fa45_1p, fa45_2, fa45_2p, fa45_3, fa45_3p, fa45_4, fa45_4p, fa45_5, fa45_5p, fa45_6, fa45_6p, fa49_0, fa49_0p, fa49_1, fa49_1p, fa74_0, fa74_0p, fa74_1, fa74_1p, fa74_2, fa74_2p, fa74_3, fa74_3p, fa85_0, fa85_0p, fa85_1, fa85_1p, fa93_0, fa93_0p, fa93_1, fa93_1p, fa93_2, fa93_2p, ld3, ld3p, ld4, ld4p, ld22, ld22p, ld23, ld23p, ld24, ld24p, ld26, ld26p, ld28, ld28p, ld42, ld42p, ld45, ld45p, ld49, ld49p, ld58, ld58p, ld69, ld69p, ld72, ld72p, ld85, ld85p, st3s, st4s, st22s, st23s, st24s, st26w, st28w, st42s, st45w, st49w, st85w, ix22, ix22p, ix23, ix23p, ix24, ix24p, ix31, ix31p, ix42, ix42p, ix104, ix104p, ln22, ln22p, ln23, ln23p, ln24, ln24p, ln31, ln31p, ln42, ln42p, al4, al22, al26, al28, al42, al49, al85, cf10, cf11, cf12, cf13, cf14, cf15, cf16, cf17, cf18, cf19, cf20, cf21, cf22, cf23, cf24, cf25, cf26, cf27, cf28, cf29, cf30, cf31, cf32, cf33, cf34, cf35, cf36, cf37, cf38, cf39, cf40, cf41, cf42, cf43, cf44, cf45, cf46, cf47, cf48, cf49, cf50, cf51, cf52, cf53, cf54, cf55, cf56, cf57, cf58, cf59, cf60, cf61, cf62, cf63, cf64, cf65, cf66, cf67, cf68, cf69, cf70, cf71, cf72, cf73, cf74, cf75, bd26_0_1_2_7_8_9_10_11_12_13_14_4_15, bd26_0_1_2_7_8_9_10_11_12_13_14_4_15p, bd28_, bd28_p, bd28_0, bd28_0p, bd28_0_1, bd28_0_1p, bd45_1_3_4_5_6, bd45_1_3_4_5_6p, bd49_0_1, bd49_0_1p, bd49_1, bd49_1p, bd74_0_1_2_3, bd74_0_1_2_3p, bd85_0, bd85_0p, bd85_0_1, bd85_0_1p, bd93_0_1_2, bd93_0_1_2p, bd94_0_1_2_3, bd94_0_1_2_3p, bs42_1_0, bs22_1_0, bs24_1_0, bs42_3_0_1_2, bs31_1_0, bs22_2_0_1, bs42_6_0_1_2_3_4_5, bs42_0_, eq4, eq4p, eq28, eq28p, eq42n, eq42np, eq42s, eq42sp, eq58n, eq58np, eq58s, eq58sp, eq63n, eq63np, eq63s, eq63sp, ne28, ne28p, ne45, ne45p]
  intro y hy gy
  generalize e3 : Hp.set h2 y _ = h3
  obtain ⟨l3, d3, b3⟩ := boxed e3 hy d2 gy
  try simp -implicitDefEqProofs only [opH_sv, opH_su, pureW_sv, opH_nil, pureW_nil, pick_t, pick_f, pick_tp, pick_fp, gd_tt, gd_ft, gd_tf, gd_ff, box_new, regs0, regs1, regs2, regs3, regs4, regs5, regs6, cells_agg, cells_int, cells_bool, cells_ptr, cells_slice, cells_string, cells_func, cells_nilFunc, cells_map, retK_ret, retK_normal, resL_tmp, resL_cell, resL_nil0, resL_nil1, resL_nil2, resL_nil3, resC_ptr, ex0, ex1, ex2, ex0p, ex1p, ex2p, HL.cond_true, HL.cond_false, thenK_normal, thenK_ret, thenK_exit, blockK_normal, blockK_ret, blockK_exit, scopeK_normal, scopeK_ret, scopeK_exit, wpH_pure, bin_add, bin_sub, bin_mul, bin_lss, bin_leq, bin_gtr, bin_geq, bin_quo, bin_rem, bin_quop, bin_remp, wrap_in, bin_addp, bin_subp, bin_mulp, bin_lssp, bin_leqp, bin_gtrp, bin_geqp, un_not, un_notp, un_neg, eq_int, ne_int, eq_intp, ne_intp, callV_fn, add_mk, upd_eq, upd_ne, cell_set_self, Nat.zero_add, Nat.add_zero, Option.some.injEq, exists_eq_left', List.getElem?_cons_succ, List.getElem?_cons_zero, true_and, and_true, bne_self_eq_false, beq_self_eq_true, Bool.not_true, Bool.not_false, Bool.and_true, Bool.and_self, Bool.and_false, Bool.true_and, List.length_cons, List.length_nil, ne_eq, not_false_eq_true, Nat.reduceAdd, Nat.reduceMul, if_true, if_false, oneCell_int, oneCell_bool, oneCell_ptr, oneCell_slice, oneCell_string, oneCell_func, oneCell_map, Int.toNat_natCast, List.set_cons_zero, List.set_cons_succ, Nat.lt_irrefl, Nat.zero_lt_succ, Nat.succ_lt_succ_iff, fa26_0, fa26_0p, fa26_1, fa26_1p, fa26_10, fa26_10p, fa26_11, fa26_11p, fa26_12, fa26_12p, fa26_13, fa26_13p, fa26_14, fa26_14p, fa26_15, fa26_15p, fa26_2, fa26_2p, fa26_3, fa26_3p, fa26_4, fa26_4p, fa26_5, fa26_5p, fa26_6, fa26_6p, fa26_7, fa26_7p, fa26_8, fa26_8p, fa26_9, fa26_9p, fa28_0, fa28_0p, fa28_1, fa28_1p, fa45_0, fa45_0p, fa45_1, fa45_1p, fa45_2, fa45_2p, fa45_3, fa45_3p, fa45_4, fa45_4p, fa45_5, fa45_5p, fa45_6, fa45_6p, fa49_0, fa49_0p, fa49_1, fa49_1p, fa74_0, fa74_0p, fa74_1, fa74_1p, fa74_2, fa74_2p, fa74_3, fa74_3p, fa85_0, fa85_0p, fa85_1, fa85_1p, fa93_0, fa93_0p, fa93_1, fa93_1p, fa93_2, fa93_2p, ld3, ld3p, ld4, ld4p, ld22, ld22p, ld23, ld23p, ld24, ld24p, ld26, ld26p, ld28, ld28p, ld42, ld42p, ld45, ld45p, ld49, ld49p, ld58, ld58p, ld69, ld69p, ld72, ld72p, ld85, ld85p, st3s, st4s, st22s, st23s, st24s, st26w, st28w, st42s, st45w, st49w, st85w, ix22, ix22p, ix23, ix23p, ix24, ix24p, ix31, ix31p, ix42, ix42p, ix104, ix104p, ln22, ln22p, ln23, ln23p, ln24, ln24p, ln31, ln31p, ln42, ln42p, al4, al22, al26, al28, al42, al49, al85, cf10, cf11, cf12, cf13, cf14, cf15, cf16, cf17, cf18, cf19, cf20, cf21, cf22, cf23, cf24, cf25, cf26, cf27, cf28, cf29, cf30, cf31, cf32, cf33, cf34, cf35, cf36, cf37, cf38, cf39, cf40, cf41, cf42, cf43, cf44, cf45, cf46, cf47, cf48, cf49, cf50, cf51, cf52, cf53, cf54, cf55, cf56, cf57, cf58, cf59, cf60, cf61, cf62, cf63, cf64, cf65, cf66, cf67, cf68, cf69, cf70, cf71, cf72, cf73, cf74, cf75, bd26_0_1_2_7_8_9_10_11_12_13_14_4_15, bd26_0_1_2_7_8_9_10_11_12_13_14_4_15p, bd28_, bd28_p, bd28_0, bd28_0p, bd28_0_1, bd28_0_1p, bd45_1_3_4_5_6, bd45_1_3_4_5_6p, bd49_0_1, bd49_0_1p, bd49_1, bd49_1p, bd74_0_1_2_3, bd74_0_1_2_3p, bd85_0, bd85_0p, bd85_0_1, bd85_0_1p, bd93_0_1_2, bd93_0_1_2p, bd94_0_1_2_3, bd94_0_1_2_3p, bs42_1_0, bs22_1_0, bs24_1_0, bs42_3_0_1_2, bs31_1_0, bs22_2_0_1, bs42_6_0_1_2_3_4_5, bs42_0_, eq4, eq4p, eq28, eq28p, eq42n, eq42np, eq42s, eq42sp, eq58n, eq58np, eq58s, eq58sp, eq63n, eq63np, eq63s, eq63sp, ne28, ne28p, ne45, ne45p]
  have hss : ∀ G' h', h3.le h' → StS G' h' (.slice (some ⟨y, 0, none⟩) 1 1) [((0, 0), [7, 8, 9])] := fun G' h' l => by
    refine ⟨_, 1, rfl, [⟨0, 0, some ⟨x, 0, none⟩, 3, 3⟩], Sees.row (c := rawC) (L := [⟨0, 0, some ⟨x, 0, none⟩, 3, 3⟩]) (l _ _ b3) rfl (Nat.le_refl _), fun i r s hr hs => ?_⟩
    cases i with
    | succ i => simp at hr
    | zero =>
      simp at hr hs
      subst hr hs
      exact ⟨rfl, rfl, Sees.row (c := icC) (L := [7, 8, 9]) (l _ _ (l3 _ _ b2)) rfl (Nat.le_refl _)⟩
  have ca : CA G h3 C1 none 0 (some ⟨pb, 0, none⟩) 1 none 0 none 0 := ⟨⟨none, 0, rfl, Nat.le_refl _, .inl rfl⟩, Sees.row (c := cellC) (L := [(2, 0)]) (l3 _ _ (l2 _ _ bp)) rfl (Nat.le_refl _), ⟨none, 0, rfl, Nat.le_refl _, .inl rfl⟩, [], ⟨none, 0, rfl, Nat.le_refl _, .inl rfl⟩, fun i r s hr => by simp at hr⟩
  refine (jobs_spec (bin := 7) (port := (2, 0)) (TL := []) ca.cv hss (fun _ _ _ => ⟨none, 0, rfl, Nat.le_refl _, .inl rfl⟩) st (fun p hp => by simp [C1] at hp) (by decide) (by decide) (by decide) (fun s hs => by simp at hs; subst hs; decide)).mono ?_
  rintro _ h4 ⟨l4, d4, ⟨hm, io, vv, rfl, o, s4⟩ | ⟨hm, rfl⟩⟩
  rotate_left
  · exact absurd made1 hm
  obtain ⟨j1, j2⟩ := jobs1
  rw [j1]
  generalize (jobsR C1 [((0, 0), [7, 8, 9])] [] 7 (2, 0)).1 = J at o j2
  have hJ : J.length = 5 := by simpa using congrArg List.length j2
  obtain ⟨a0, a1, a2, a3, a4, rfl⟩ : ∃ a0 a1 a2 a3 a4, J = [a0, a1, a2, a3, a4] := by
    match J, hJ with
    | [a, b, c, d, e], _ => exact ⟨a, b, c, d, e, rfl⟩
  simp only [List.map_cons, List.map_nil, List.cons.injEq, Prod.mk.injEq, and_true] at j2
  obtain ⟨⟨k0, n0⟩, ⟨k1, n1⟩, ⟨k2, n2⟩, ⟨k3, n3⟩, ⟨k4, n4⟩⟩ := j2
  obtain ⟨sa, cap, rfl, hc⟩ := o.len (by decide)
  have sv := o.sees (G := G) (by decide) (s4.in 0 rfl)
  obtain ⟨b, ofs, rfl, _, x1, _, x3, _⟩ := Sees.job (i := 0) sv rfl
  obtain ⟨b', ofs', eb, _, _, _, y3, _⟩ := Sees.job (i := 1) sv rfl
  cases eb
  obtain ⟨b', ofs', eb, _, z1, _, z3, _⟩ := Sees.job (i := 2) sv rfl
  cases eb
  obtain ⟨b', ofs', eb, _, u1, _, u3, _⟩ := Sees.job (i := 3) sv rfl
  cases eb
  obtain ⟨b', ofs', eb, _, _, _, w3, _⟩ := Sees.job (i := 4) sv rfl
  cases eb
  rw [k0] at x1
  rw [n0] at x3
  rw [n1] at y3
  rw [k2] at z1
  rw [n2] at z3
  rw [k3] at u1
  rw [n3] at u3
  rw [n4] at w3
  simp only [Nat.zero_mul, Nat.one_mul, Nat.add_zero, Nat.reduceMul] at x1 x3 y3 z1 z3 u1 u3 w3
  try simp -implicitDefEqProofs only [List.length_cons, List.length_nil, Nat.zero_add, Nat.reduceAdd, ex1, eq_int, beq_self_eq_true, pick_t, gd_tt, opH_sv, ex0, ln31, show (((5 : Nat) : Int) == 5) = true from rfl, ix31 (by decide : (0 : Int) ≤ 0) (by decide : (0 : Int) < (5 : Nat)), show Int.toNat 0 = 0 from rfl, Nat.zero_mul, add_mk, Nat.add_zero, fa45_1, ld3, x1, Option.some.injEq, exists_eq_left', fa45_3, x3, ix31 (by decide : (0 : Int) ≤ 1) (by decide : (1 : Int) < (5 : Nat)), show Int.toNat 1 = 1 from rfl, Nat.one_mul, y3, ix31 (by decide : (0 : Int) ≤ 2) (by decide : (2 : Int) < (5 : Nat)), show Int.toNat 2 = 2 from rfl, Nat.reduceMul, z1, z3, ix31 (by decide : (0 : Int) ≤ 3) (by decide : (3 : Int) < (5 : Nat)), show Int.toNat 3 = 3 from rfl, u1, u3, ix31 (by decide : (0 : Int) ≤ 4) (by decide : (4 : Int) < (5 : Nat)), show Int.toNat 4 = 4 from rfl, w3, true_and]
  first | exact l1.trans (l2.trans (l3.trans l4)) | exact ⟨rfl, l1.trans (l2.trans (l3.trans l4))⟩

end Go.Proofs.YtangejiigopdaaaDoor
end

section
/- DigPlaces: the walk. -/
set_option linter.unusedSimpArgs false
set_option linter.unusedVariables false
set_option maxRecDepth 100000
namespace Go.Proofs.YtangejiigopdaaaDoor
open Go Go.HL

theorem room8 {n : Nat} (h : Room n 8) : n ≤ 17592186044320 := by unfold Room at h; omega

end Go.Proofs.YtangejiigopdaaaDoor
end

section
/- DigJobs: the walk. -/
set_option linter.unusedSimpArgs false
set_option linter.unusedVariables false
set_option maxRecDepth 100000
namespace Go.Proofs.YtangejiigopdaaaDoor
open Go Go.HL

theorem jobs_len {C : Conf} {S : List Stk} {TL : List Cell} {bin : Int} {port : Cell} (ht8 : 1 ≤ C.ht ∧ C.ht ≤ 8) (hcl : (rstacksL C).length ≤ 1000) : (jobsR C S TL bin port).1.length ≤ 17000 := by
  have key : ∀ (f : Cell) (n : Nat) (GL GL2 : List Cell), Given S C.ht (rstacksL C) GL → placesL S TL C.ht f (rstacksL C) n GL = some GL2 → GL2.length ≤ 8000 := by
    intro f n
    induction n with
    | zero => intro GL GL2 g h; cases h; exact g.len ht8.2 hcl
    | succ n ih =>
      intro GL GL2 g h
      rw [placesL] at h
      generalize hb : bestL f (skipR f C.ht S TL GL) none (rstacksL C) = bb at h
      cases bb with
      | none => cases h
      | some z => exact ih _ _ (g.add hb).1 h
  unfold jobsR
  split
  · simp
  split
  · simp
  rename_i f A _
  split
  · simp
  split
  · simp
  rename_i GL hGL
  have := key f _ _ _ (Given.nil (by omega)) hGL
  have z1 := zip_len (F := awayJ f) (A := A) (GL := GL)
  have z2 := zip_len (F := againJ f) (A := A) (GL := GL)
  unfold jobsOf
  split
  · simp only [List.length_append, List.length_cons, List.length_nil, List.length_reverse]; omega
  · simp only [List.length_append, List.length_cons, List.length_nil]; omega

end Go.Proofs.YtangejiigopdaaaDoor
end

section
/- A config that comes in as an argument. -/
set_option linter.unusedSimpArgs false
set_option linter.unusedVariables false
set_option maxRecDepth 100000
namespace Go.Proofs.YtangejiigopdaaaDoor
open Go Go.HL Go.ChangeShapes Go.WideShapes Go.RowKit

theorem light_of {H : Type} {P : Program} {ts : List TypeId} {ds : List (DataW H)} (h : (DataW.weightsEach P ts ds).all (· ≤ reachBytes) = true) {j : Nat} {t : TypeId} {d : DataW H} (ht : ts[j]? = some t) (hd : ds[j]? = some d) : Light P t d := fun n hn => by
  simpa using List.all_eq_true.1 h n (DataW.weights_mem_each ht hd n hn)

theorem okWide_structF {P : Program} {w : World} {r : Reach} {base : Nat} {t : TypeId} {v : Value} {tos : List (TypeId × Nat)} (ht : structFields P t = some tos) (hv : Value.okWide P w r base t v) : ∃ cs : Array Value, v = .agg cs := by
  unfold structFields at ht
  split at ht
  · rename_i fs hfs
    obtain ⟨cs, rfl, _⟩ := okWide_struct hfs hv
    exact ⟨cs, rfl⟩
  · cases ht

theorem sf30 : structFields Tryd.prog 85 = some [(28, 0), (4, 2)] := by kernel_rfl
theorem sf95 : structFields Tryd.prog 49 = some [(28, 0), (42, 2)] := by kernel_rfl
theorem sf26 : structFields Tryd.prog 26 = some [(3, 0), (3, 1), (3, 2), (22, 3), (22, 4), (23, 5), (24, 6), (3, 7), (3, 8), (3, 9), (3, 10), (3, 11), (3, 12), (3, 13), (3, 14), (4, 15)] := by kernel_rfl
theorem un4b : Tryd.prog.underlying 4 = some .bool := by kernel_rfl
theorem c4 : Tryd.prog.cellsOf 4 = 1 := by kernel_rfl
theorem c22 : Tryd.prog.cellsOf 22 = 1 := by kernel_rfl
theorem c23 : Tryd.prog.cellsOf 23 = 1 := by kernel_rfl
theorem c24 : Tryd.prog.cellsOf 24 = 1 := by kernel_rfl
theorem c26 : Tryd.prog.cellsOf 26 = 16 := by kernel_rfl
theorem c30 : Tryd.prog.cellsOf 85 = 3 := by kernel_rfl
theorem c57 : Tryd.prog.cellsOf 42 = 1 := by kernel_rfl
theorem c95 : Tryd.prog.cellsOf 49 = 3 := by kernel_rfl

section
variable {H : Type} {enc : TypeId × Value → H} {w : World} {base : Nat} {spare : Nat → Bool} {held : Bool}

theorem len2 {α : Type} {L : List α} (h : L.length = 2) : ∃ a b, L = [a, b] := by
  match L, h with
  | [a, b], _ => exact ⟨a, b, rfl⟩
theorem len3 {α : Type} {L : List α} (h : L.length = 3) : ∃ a b c, L = [a, b, c] := by
  match L, h with
  | [a, b, c], _ => exact ⟨a, b, c, rfl⟩

theorem cell_dec {m : Nat} {cs : List Value} {y : DataW H × List MemPlace} (h : DataW.trod enc Tryd.prog w base spare held m 28 cs = some y) : ∃ c : Cell, cs = cellC.enc c ∧ Bd c.1 ∧ Bd c.2 := by
  obtain ⟨hl, d⟩ := dec_fields sf28 h
  rw [c28] at hl
  obtain ⟨v0, v1, rfl⟩ := len2 hl
  obtain ⟨m0, z0, e0⟩ := d 0 _ _ rfl
  obtain ⟨m1, z1, e1⟩ := d 1 _ _ rfl
  rw [c3] at e0 e1
  obtain ⟨x0, f0, b0⟩ := dec_int un3i e0
  obtain ⟨x1, f1, b1⟩ := dec_int un3i e1
  simp at f0 f1
  subst f0 f1
  exact ⟨(x0, x1), rfl, b0, b1⟩
theorem pose_dec {m : Nat} {cs : List Value} {y : DataW H × List MemPlace} (h : DataW.trod enc Tryd.prog w base spare held m 85 cs = some y) : ∃ p : Pose, cs = poseC.enc p ∧ PB p := by
  obtain ⟨hl, d⟩ := dec_fields sf30 h
  rw [c30] at hl
  obtain ⟨v0, v1, v2, rfl⟩ := len3 hl
  obtain ⟨m0, z0, e0⟩ := d 0 _ _ rfl
  obtain ⟨m1, z1, e1⟩ := d 1 _ _ rfl
  rw [c28] at e0
  rw [c4] at e1
  obtain ⟨c, f0, b0⟩ := cell_dec e0
  obtain ⟨b, f1⟩ := dec_bool un4b e1
  simp [cellC] at f0 f1
  obtain ⟨rfl, rfl⟩ := f0
  subst f1
  exact ⟨⟨c.1, c.2, b⟩, rfl, b0⟩

/-- A stack among the arguments. -/
def RawOk (G : Hp) (r : Raw) : Prop := ∃ L : List Int, r.n = L.length ∧ Room L.length 8 ∧ ∀ h, Dis G h → Sees icC G h (.slice r.a r.n r.c) L

theorem room_of {n bytes : Nat} (h : n * bytes ≤ reachBytes) (hb : bytes ≤ 40) : Room n bytes := by
  unfold Room
  rw [show reachBytes = 140737488351232 from rfl] at h
  rw [Nat.add_mul, Nat.mul_assoc]
  have : 192 * bytes ≤ 7680 := by omega
  omega

theorem raw_dec {m : Nat} {cs : List Value} {y : DataW H × List MemPlace} (h : DataW.trod enc Tryd.prog w base spare held m 49 cs = some y) (hw : Light Tryd.prog 49 y.1) : ∃ r : Raw, cs = rawC.enc r ∧ RawOk (ground w) r := by
  obtain ⟨hl, d⟩ := dec_fieldsW sf95 h hw
  rw [c95] at hl
  obtain ⟨v0, v1, v2, rfl⟩ := len3 hl
  obtain ⟨m0, z0, e0, _⟩ := d 0 _ _ rfl
  obtain ⟨m1, z1, e1, w1⟩ := d 1 _ _ rfl
  rw [c28] at e0
  rw [c57] at e1
  obtain ⟨c, f0, b0⟩ := cell_dec e0
  obtain ⟨a, n, cap, L, f1, hL, hs, hg, _⟩ := dec_sliceW icC (fun _ => True) un42 c3 (by decide) (fun _ _ _ h _ => let ⟨x, e, _⟩ := dec_int un3i h; ⟨x, e, trivial⟩) e1 w1
  simp [cellC] at f0 f1
  obtain ⟨rfl, rfl⟩ := f0
  subst f1
  rw [show Tryd.prog.bytesOf 3 = 8 by kernel_rfl] at hs
  subst hL
  exact ⟨⟨c.1, c.2, a, L.length, cap⟩, rfl, L, rfl, room_of hs (by decide), hg⟩

theorem len16 {α : Type} {L : List α} (h : L.length = 16) : ∃ a b c d e f g i j k l m n o p q, L = [a, b, c, d, e, f, g, i, j, k, l, m, n, o, p, q] := by
  match L, h with
  | [a, b, c, d, e, f, g, i, j, k, l, m, n, o, p, q], _ => exact ⟨a, b, c, d, e, f, g, i, j, k, l, m, n, o, p, q, rfl⟩

theorem conf_dec {m : Nat} {cs : List Value} {y : DataW H × List MemPlace} (h : DataW.trod enc Tryd.prog w base spare held m 26 cs = some y) (hw : Light Tryd.prog 26 y.1) :
    ∃ C : Conf, (∀ h, Dis (ground w) h → CV (ground w) h (.agg cs.toArray) C) ∧ Fit0 C ∧ ∀ p ∈ C.ro, PB p := by
  obtain ⟨hl, d⟩ := dec_fieldsW sf26 h hw
  rw [c26] at hl
  obtain ⟨v0, v1, v2, v3, v4, v5, v6, v7, v8, v9, v10, v11, v12, v13, v14, v15, rfl⟩ := len16 hl
  obtain ⟨_, _, e0, _⟩ := d 0 _ _ rfl
  obtain ⟨_, _, e1, _⟩ := d 1 _ _ rfl
  obtain ⟨_, _, e2, _⟩ := d 2 _ _ rfl
  obtain ⟨_, _, e3, w3⟩ := d 3 _ _ rfl
  obtain ⟨_, _, e4, w4⟩ := d 4 _ _ rfl
  obtain ⟨_, _, e5, w5⟩ := d 5 _ _ rfl
  obtain ⟨_, _, e6, w6⟩ := d 6 _ _ rfl
  obtain ⟨_, _, e7, _⟩ := d 7 _ _ rfl
  obtain ⟨_, _, e8, _⟩ := d 8 _ _ rfl
  obtain ⟨_, _, e9, _⟩ := d 9 _ _ rfl
  obtain ⟨_, _, e10, _⟩ := d 10 _ _ rfl
  obtain ⟨_, _, e11, _⟩ := d 11 _ _ rfl
  obtain ⟨_, _, e12, _⟩ := d 12 _ _ rfl
  obtain ⟨_, _, e13, _⟩ := d 13 _ _ rfl
  obtain ⟨_, _, e14, _⟩ := d 14 _ _ rfl
  obtain ⟨_, _, e15, _⟩ := d 15 _ _ rfl
  simp only [c3, c4, c22, c23, c24] at e0 e1 e2 e3 e4 e5 e6 e7 e8 e9 e10 e11 e12 e13 e14 e15
  obtain ⟨x0, f0, _⟩ := dec_int un3i e0
  obtain ⟨x1, f1, _⟩ := dec_int un3i e1
  obtain ⟨x2, f2, _⟩ := dec_int un3i e2
  obtain ⟨ab, nb, cb, B, f3, hB, sB, gB, _⟩ := dec_sliceW cellC (fun _ => True) un22 c28 (by decide) (fun _ _ _ h _ => let ⟨x, e, _⟩ := cell_dec h; ⟨x, e, trivial⟩) e3 w3
  obtain ⟨ap, np, cp, PO, f4, hP, sP, gP, _⟩ := dec_sliceW cellC (fun _ => True) un22 c28 (by decide) (fun _ _ _ h _ => let ⟨x, e, _⟩ := cell_dec h; ⟨x, e, trivial⟩) e4 w4
  obtain ⟨ar, nr, cr, R, f5, hR, sR, gR, qR⟩ := dec_sliceW poseC PB un23 c30 (by decide) (fun _ _ _ h _ => pose_dec h) e5 w5
  obtain ⟨az, nz, cz, Z, f6, hZ, sZ, gZ, qZ⟩ := dec_sliceW rawC (RawOk (ground w)) un24 c95 (by decide) (fun _ _ _ h hw => raw_dec h hw) e6 w6
  obtain ⟨x7, f7, _⟩ := dec_int un3i e7
  obtain ⟨x8, f8, _⟩ := dec_int un3i e8
  obtain ⟨x9, f9, _⟩ := dec_int un3i e9
  obtain ⟨x10, f10, _⟩ := dec_int un3i e10
  obtain ⟨x11, f11, _⟩ := dec_int un3i e11
  obtain ⟨x12, f12, _⟩ := dec_int un3i e12
  obtain ⟨x13, f13, _⟩ := dec_int un3i e13
  obtain ⟨x14, f14, _⟩ := dec_int un3i e14
  obtain ⟨x15, f15⟩ := dec_bool un4b e15
  simp at f0 f1 f2 f3 f4 f5 f6 f7 f8 f9 f10 f11 f12 f13 f14 f15
  subst f0 f1 f2 f3 f4 f5 f6 f7 f8 f9 f10 f11 f12 f13 f14 f15
  subst hB hP hR hZ
  rw [show Tryd.prog.bytesOf 28 = 16 by kernel_rfl] at sB sP
  rw [show Tryd.prog.bytesOf 85 = 24 by kernel_rfl] at sR
  rw [show Tryd.prog.bytesOf 49 = 40 by kernel_rfl] at sZ
  obtain ⟨S, hS, qS⟩ := list_of (Q := fun i (s : Cell × List Int) => ∀ r, Z[i]? = some r → (r.x, r.y) = s.1 ∧ r.n = s.2.length ∧ Room s.2.length 8 ∧ ∀ h, Dis (ground w) h → Sees icC (ground w) h (.slice r.a s.2.length r.c) s.2) Z.length (fun i hi => by
    obtain ⟨L, e, rm, se⟩ := qZ _ (List.getElem_mem hi)
    refine ⟨((Z[i].x, Z[i].y), L), fun r hr => ?_⟩
    rw [List.getElem?_eq_getElem hi] at hr
    cases hr
    exact ⟨rfl, e, rm, fun h d => by rw [← e]; exact se h d⟩)
  refine ⟨⟨x0, x1, x2, B, PO, R, S, x7, x8, x9, x10, x11, x12, x13, x14, x15⟩, fun h d => ⟨ab, cb, ap, cp, ar, cr, az, cz, by simp only [confV, hS], gB h d, gP h d, gR h d, Z, by show Sees rawC _ h (.slice az S.length cz) Z; rw [hS]; exact gZ h d, fun i r s hr hs => ?_⟩, ⟨room_of sB (by decide), room_of sP (by decide), room_of sR (by decide), by show Room S.length 40; rw [hS]; exact room_of sZ (by decide), fun s hs => ?_⟩, qR⟩
  · obtain ⟨a, b, c, e⟩ := qS i s hs r hr
    exact ⟨a, b, e h d⟩
  · obtain ⟨i, hi⟩ := List.getElem?_of_mem hs
    have hi2 : i < Z.length := by rw [← hS]; exact (List.getElem?_eq_some_iff.1 hi).1
    exact (qS i s hi _ (List.getElem?_eq_getElem hi2)).2.2.1

theorem int_arg {r : Reach} {b0 : Nat} {v : Value} {d : DataW H} {ps : List MemPlace} (k : Value.okWide Tryd.prog w r b0 3 v) (h : DataW.Trod enc Tryd.prog w base spare held 3 v d ps) : ∃ n : Int, v = .int .i64 n ∧ Bd n := by
  obtain ⟨n, rfl, rfl, rfl, wf⟩ := open_int un3i k h
  exact ⟨n, rfl, by simpa [Lit.wf, IntKind.min, IntKind.max, IntKind.signed, IntKind.bits, Bd] using wf⟩
/-- The config as an argument. -/
theorem conf_arg {r : Reach} {b0 : Nat} {v : Value} {d : DataW H} {ps : List MemPlace} (k : Value.okWide Tryd.prog w r b0 26 v) (h : DataW.Trod enc Tryd.prog w base spare held 26 v d ps) (hl : Light Tryd.prog 26 d) :
    ∃ C : Conf, (∀ h, Dis (ground w) h → CV (ground w) h v C) ∧ Fit0 C ∧ ∀ p ∈ C.ro, PB p := by
  obtain ⟨cs, rfl⟩ := okWide_structF sf26 k
  obtain ⟨m, h⟩ := h
  obtain ⟨C, hC, f, hp⟩ := conf_dec (cs := cs.toList) h hl
  exact ⟨C, fun h d => by simpa using hC h d, f, hp⟩
end
end Go.Proofs.YtangejiigopdaaaDoor
end

section
/- Cells and stacks that come in as arguments. -/
set_option linter.unusedSimpArgs false
set_option linter.unusedVariables false
set_option maxRecDepth 100000
namespace Go.Proofs.YtangejiigopdaaaDoor
open Go Go.HL Go.ChangeShapes Go.WideShapes Go.RowKit

section
variable {H : Type} {enc : TypeId × Value → H} {w : World} {base : Nat} {spare : Nat → Bool} {held : Bool}
theorem cells_arg {r : Reach} {b0 : Nat} {v : Value} {d : DataW H} {ps : List MemPlace} (k : Value.okWide Tryd.prog w r b0 22 v) (h : DataW.Trod enc Tryd.prog w base spare held 22 v d ps) (hl : Light Tryd.prog 22 d) :
    ∃ L : List Cell, (∀ h, Dis (ground w) h → Sees cellC (ground w) h v L) ∧ ∀ c ∈ L, Bd c.1 ∧ Bd c.2 := by
  obtain ⟨a, len, cap, rfl⟩ := okWide_slice un22 k
  obtain ⟨m, h⟩ := h
  obtain ⟨a', n', cap', L, f, hL, _, g, q⟩ := dec_sliceW cellC (fun c => Bd c.1 ∧ Bd c.2) un22 c28 (by decide) (fun _ _ _ h _ => cell_dec h) h hl
  simp [Value.cells] at f
  obtain ⟨rfl, rfl, rfl⟩ := f
  exact ⟨L, fun h d => g h d, q⟩
end
end Go.Proofs.YtangejiigopdaaaDoor
end

section
/- Small configs; what the place is; the law's own bins. -/
set_option linter.unusedSimpArgs false
set_option linter.unusedVariables false
set_option maxRecDepth 100000
namespace Go.Proofs.YtangejiigopdaaaDoor
open Go Go.HL

structure SmallOk (C : Conf) : Prop where
  w : C.w ≤ 6
  h : C.h ≤ 6
  ro : C.ro.length ≤ 4
  may : MayOk C
set_option maxHeartbeats 4000000 in
theorem small_spec {G h : Hp} {v : Value} {C : Conf} (hv : CV G h v C) : HCalls Tryd.prog G 19 #[v] h (fun u h' => (∃ b, u = .bool b ∧ (b = true → SmallOk C)) ∧ h' = h) := by
  have hv0 := hv
  obtain ⟨ab, cb, ap, cp, ar, cr, az, cs, rfl, ca⟩ := hv
  refine HCalls.assume fun d => quietly (enter19 (by simp) ?_)
  unfold S19
  simp -implicitDefEqProofs only [regs0, retK_ret, resL_tmp, upd_eq, resL_nil1, opH_sv, box_new, cells_agg, fa26_0, add_mk, Nat.add_zero, ld3, cell_set_self, List.getElem?_cons_zero, Option.some.injEq, exists_eq_left', bin_leq]
  intro x hx gx
  generalize e1 : Hp.set h x _ = h1
  obtain ⟨l1, d1, b1⟩ := boxed e1 hx d gx
  have cx : ∀ j, cellIn G h1 ⟨x, j, none⟩ = _ := fun j => cell_of (look_own b1)
  by_cases g1 : C.w ≤ 6
  rotate_left
  · try simp -implicitDefEqProofs only [decide_eq_false g1, pick_f, gd_ft]
    exact ⟨⟨false, rfl, by simp⟩, l1⟩
  by_cases g2 : C.h ≤ 6
  rotate_left
  · try simp -implicitDefEqProofs only [decide_eq_true g1, pick_t, gd_tt, opH_sv, fa26_1, add_mk, Nat.zero_add, ld3, cx, List.getElem?_cons_succ, List.getElem?_cons_zero, Option.some.injEq, exists_eq_left', bin_leq, decide_eq_false g2, pick_f, gd_ft]
    exact ⟨⟨false, rfl, by simp⟩, l1⟩
  by_cases g3 : C.bu ≤ 4000
  rotate_left
  · try simp -implicitDefEqProofs only [decide_eq_true g1, pick_t, gd_tt, opH_sv, fa26_1, add_mk, Nat.zero_add, ld3, cx, List.getElem?_cons_succ, List.getElem?_cons_zero, Option.some.injEq, exists_eq_left', bin_leq, decide_eq_true g2, fa26_14, decide_eq_false g3, pick_f, gd_ft]
    exact ⟨⟨false, rfl, by simp⟩, l1⟩
  by_cases g4 : C.un ≤ 100
  rotate_left
  · try simp -implicitDefEqProofs only [decide_eq_true g1, pick_t, gd_tt, opH_sv, fa26_1, add_mk, Nat.zero_add, ld3, cx, List.getElem?_cons_succ, List.getElem?_cons_zero, Option.some.injEq, exists_eq_left', bin_leq, decide_eq_true g2, fa26_14, decide_eq_true g3, fa26_7, decide_eq_false g4, pick_f, gd_ft]
    exact ⟨⟨false, rfl, by simp⟩, l1⟩
  by_cases g5 : C.tu ≤ 200
  rotate_left
  · try simp -implicitDefEqProofs only [decide_eq_true g1, pick_t, gd_tt, opH_sv, fa26_1, add_mk, Nat.zero_add, ld3, cx, List.getElem?_cons_succ, List.getElem?_cons_zero, Option.some.injEq, exists_eq_left', bin_leq, decide_eq_true g2, fa26_14, decide_eq_true g3, fa26_7, decide_eq_true g4, fa26_10, decide_eq_false g5, pick_f, gd_ft]
    exact ⟨⟨false, rfl, by simp⟩, l1⟩
  by_cases g6 : C.ho ≤ 200
  rotate_left
  · try simp -implicitDefEqProofs only [decide_eq_true g1, pick_t, gd_tt, opH_sv, fa26_1, add_mk, Nat.zero_add, ld3, cx, List.getElem?_cons_succ, List.getElem?_cons_zero, Option.some.injEq, exists_eq_left', bin_leq, decide_eq_true g2, fa26_14, decide_eq_true g3, fa26_7, decide_eq_true g4, fa26_10, decide_eq_true g5, fa26_11, decide_eq_false g6, pick_f, gd_ft]
    exact ⟨⟨false, rfl, by simp⟩, l1⟩
  by_cases g7 : ((C.ro.length : Nat) : Int) ≤ 4
  rotate_left
  · try simp -implicitDefEqProofs only [decide_eq_true g1, pick_t, gd_tt, opH_sv, fa26_1, add_mk, Nat.zero_add, ld3, cx, List.getElem?_cons_succ, List.getElem?_cons_zero, Option.some.injEq, exists_eq_left', bin_leq, decide_eq_true g2, fa26_14, decide_eq_true g3, fa26_7, decide_eq_true g4, fa26_10, decide_eq_true g5, fa26_11, decide_eq_true g6, fa26_5, ld23, ln23, decide_eq_false g7, pick_f, gd_ft]
    exact ⟨⟨false, rfl, by simp⟩, l1⟩
  try simp -implicitDefEqProofs only [decide_eq_true g1, pick_t, gd_tt, opH_sv, fa26_1, add_mk, Nat.zero_add, ld3, cx, List.getElem?_cons_succ, List.getElem?_cons_zero, Option.some.injEq, exists_eq_left', bin_leq, decide_eq_true g2, fa26_14, decide_eq_true g3, fa26_7, decide_eq_true g4, fa26_10, decide_eq_true g5, fa26_11, decide_eq_true g6, fa26_5, ld23, ln23, decide_eq_true g7, cf14, ld26, Nat.add_zero]
  refine (rmay_spec (hv0.up l1 d1)).mono ?_
  rintro _ h1 ⟨⟨b, rfl, hb⟩, rfl⟩
  try simp -implicitDefEqProofs only [opH_sv, opH_su, pureW_sv, opH_nil, pureW_nil, pick_t, pick_f, pick_tp, pick_fp, gd_tt, gd_ft, gd_tf, gd_ff, box_new, regs0, regs1, regs2, regs3, regs4, regs5, regs6, cells_agg, cells_int, cells_bool, cells_ptr, cells_slice, cells_string, cells_func, cells_nilFunc, cells_map, retK_ret, retK_normal, resL_tmp, resL_cell, resL_nil0, resL_nil1, resL_nil2, resL_nil3, resC_ptr, ex0, ex1, ex2, ex0p, ex1p, ex2p, HL.cond_true, HL.cond_false, thenK_normal, thenK_ret, thenK_exit, blockK_normal, blockK_ret, blockK_exit, scopeK_normal, scopeK_ret, scopeK_exit, wpH_pure, bin_add, bin_sub, bin_mul, bin_lss, bin_leq, bin_gtr, bin_geq, bin_quo, bin_rem, bin_quop, bin_remp, wrap_in, bin_addp, bin_subp, bin_mulp, bin_lssp, bin_leqp, bin_gtrp, bin_geqp, un_not, un_notp, un_neg, eq_int, ne_int, eq_intp, ne_intp, callV_fn, add_mk, upd_eq, upd_ne, cell_set_self, Nat.zero_add, Nat.add_zero, Option.some.injEq, exists_eq_left', List.getElem?_cons_succ, List.getElem?_cons_zero, true_and, and_true, bne_self_eq_false, beq_self_eq_true, Bool.not_true, Bool.not_false, Bool.and_true, Bool.and_self, Bool.and_false, Bool.true_and, List.length_cons, List.length_nil, ne_eq, not_false_eq_true, Nat.reduceAdd, Nat.reduceMul, if_true, if_false, oneCell_int, oneCell_bool, oneCell_ptr, oneCell_slice, oneCell_string, oneCell_func, oneCell_map, Int.toNat_natCast, List.set_cons_zero, List.set_cons_succ, Nat.lt_irrefl, Nat.zero_lt_succ, Nat.succ_lt_succ_iff, fa26_0, fa26_0p, fa26_1, fa26_1p, fa26_10, fa26_10p, fa26_11, fa26_11p, fa26_12, fa26_12p, fa26_13, fa26_13p, fa26_14, fa26_14p, fa26_15, fa26_15p, fa26_2, fa26_2p, fa26_3, fa26_3p, fa26_4, fa26_4p, fa26_5, fa26_5p, fa26_6, fa26_6p, fa26_7, fa26_7p, fa26_8, fa26_8p, fa26_9, fa26_9p, fa28_0, fa28_0p, fa28_1, fa28_1p, fa45_0, fa45_0p, fa45_1, fa45_1p, fa45_2, fa45_2p, fa45_3, fa45_3p, fa45_4, fa45_4p, fa45_5, fa45_5p, fa45_6, fa45_6p, fa49_0, fa49_0p, fa49_1, fa49_1p, fa74_0, fa74_0p, fa74_1, fa74_1p, fa74_2, fa74_2p, fa74_3, fa74_3p, fa85_0, fa85_0p, fa85_1, fa85_1p, fa93_0, fa93_0p, fa93_1, fa93_1p, fa93_2, fa93_2p, ld3, ld3p, ld4, ld4p, ld22, ld22p, ld23, ld23p, ld24, ld24p, ld26, ld26p, ld28, ld28p, ld42, ld42p, ld45, ld45p, ld49, ld49p, ld58, ld58p, ld69, ld69p, ld72, ld72p, ld85, ld85p, st3s, st4s, st22s, st23s, st24s, st26w, st28w, st42s, st45w, st49w, st85w, ix22, ix22p, ix23, ix23p, ix24, ix24p, ix31, ix31p, ix42, ix42p, ix104, ix104p, ln22, ln22p, ln23, ln23p, ln24, ln24p, ln31, ln31p, ln42, ln42p, al4, al22, al26, al28, al42, al49, al85, cf10, cf11, cf12, cf13, cf14, cf15, cf16, cf17, cf18, cf19, cf20, cf21, cf22, cf23, cf24, cf25, cf26, cf27, cf28, cf29, cf30, cf31, cf32, cf33, cf34, cf35, cf36, cf37, cf38, cf39, cf40, cf41, cf42, cf43, cf44, cf45, cf46, cf47, cf48, cf49, cf50, cf51, cf52, cf53, cf54, cf55, cf56, cf57, cf58, cf59, cf60, cf61, cf62, cf63, cf64, cf65, cf66, cf67, cf68, cf69, cf70, cf71, cf72, cf73, cf74, cf75, bd26_0_1_2_7_8_9_10_11_12_13_14_4_15, bd26_0_1_2_7_8_9_10_11_12_13_14_4_15p, bd28_, bd28_p, bd28_0, bd28_0p, bd28_0_1, bd28_0_1p, bd45_1_3_4_5_6, bd45_1_3_4_5_6p, bd49_0_1, bd49_0_1p, bd49_1, bd49_1p, bd74_0_1_2_3, bd74_0_1_2_3p, bd85_0, bd85_0p, bd85_0_1, bd85_0_1p, bd93_0_1_2, bd93_0_1_2p, bd94_0_1_2_3, bd94_0_1_2_3p, bs42_1_0, bs22_1_0, bs24_1_0, bs42_3_0_1_2, bs31_1_0, bs22_2_0_1, bs42_6_0_1_2_3_4_5, bs42_0_, eq4, eq4p, eq28, eq28p, eq42n, eq42np, eq42s, eq42sp, eq58n, eq58np, eq58s, eq58sp, eq63n, eq63np, eq63s, eq63sp, ne28, ne28p, ne45, ne45p]
  exact ⟨⟨b, rfl, fun e => ⟨g1, g2, by omega, hb.1 e⟩⟩, l1⟩

end Go.Proofs.YtangejiigopdaaaDoor
end

section
/- DigMore: the walk. -/
set_option linter.unusedSimpArgs false
set_option linter.unusedVariables false
set_option maxRecDepth 100000
namespace Go.Proofs.YtangejiigopdaaaDoor
open Go Go.HL

theorem CA.sts {G h : Hp} {C : Conf} {ab : Option Addr} {cb : Nat} {ap : Option Addr} {cp : Nat} {ar : Option Addr} {cr : Nat} {az : Option Addr} {cs : Nat} (ca : CA G h C ab cb ap cp ar cr az cs) : StS G h (.slice az C.st.length cs) C.st := ⟨az, cs, rfl, ca.st⟩

end Go.Proofs.YtangejiigopdaaaDoor
end

section
/- DigRefuses: plain laws, the walk. -/
set_option linter.unusedSimpArgs false
set_option linter.unusedVariables false
set_option maxRecDepth 100000
namespace Go.Proofs.YtangejiigopdaaaDoor
open Go Go.HL

theorem mem_pickFrom {α : Type} {p : Nat → Bool} {mk : Nat → α} {x : α} : ∀ {k n : Nat}, x ∈ pickFrom p mk n k ↔ ∃ j, n ≤ j ∧ j < n + k ∧ p j = true ∧ x = mk j
  | 0, n => by simp only [pickFrom, List.not_mem_nil, false_iff]; rintro ⟨j, h1, h2, _⟩; omega
  | k + 1, n => by
    have ih := mem_pickFrom (p := p) (mk := mk) (x := x) (k := k) (n := n + 1)
    rw [pickFrom]
    constructor
    · intro h
      split at h
      · rename_i hp
        rcases List.mem_cons.1 h with rfl | h
        · exact ⟨n, Nat.le_refl _, by omega, hp, rfl⟩
        · obtain ⟨j, h1, h2, h3⟩ := ih.1 h
          exact ⟨j, by omega, by omega, h3⟩
      · obtain ⟨j, h1, h2, h3⟩ := ih.1 h
        exact ⟨j, by omega, by omega, h3⟩
    · rintro ⟨j, h1, h2, h3, h4⟩
      by_cases hj : j = n
      · subst hj
        rw [if_pos h3, h4]
        exact .head _
      · have := ih.2 ⟨j, by omega, by omega, h3, h4⟩
        split
        · exact .tail _ this
        · exact this
theorem mem_rstacks {C : Conf} (m : MadeOk C) {c : Cell} : c ∈ rstacksL C ↔ stackedB C c = true := by
  obtain ⟨e1, e2, _⟩ := within_wk m.laid.w m.laid.h
  unfold rstacksL
  rw [mem_dirsL]
  constructor
  · rintro ⟨j, _, _, h⟩
    obtain ⟨i, _, _, hp, rfl⟩ := mem_pickFrom.1 h
    exact hp
  · intro h
    have hi : inB C c = true := by
      unfold stackedB openB at h
      simp only [Bool.and_eq_true] at h
      exact h.1.1
    unfold inB at hi
    simp only [Bool.and_eq_true, decide_eq_true_eq, ge_iff_le] at hi
    obtain ⟨h1, h2, h3, h4⟩ := hi
    refine ⟨c.2.toNat, Nat.zero_le _, by omega, mem_pickFrom.2 ⟨c.1.toNat, Nat.zero_le _, by omega, ?_, ?_⟩⟩
    · have : ((((c.1.toNat : Nat) : Int), ((c.2.toNat : Nat) : Int)) : Cell) = c := Prod.ext (by simp; omega) (by simp; omega)
      rw [this]
      exact h
    · exact Prod.ext (by simp; omega) (by simp; omega)

end Go.Proofs.YtangejiigopdaaaDoor
end

section
/- DigDone: the jobs' plain law. -/
set_option linter.unusedSimpArgs false
set_option linter.unusedVariables false
set_option maxRecDepth 100000
namespace Go.Proofs.YtangejiigopdaaaDoor
open Go Go.HL

theorem find_some {S : List Stk} {bin : Int} {f : Cell} {A : List Int} : ∀ {L : List Cell}, findIn S bin L = some (f, A) → f ∈ L ∧ bin ∈ binsL S f ∧ A = aboveL (binsL S f) bin
  | [], h => by cases h
  | c :: L, h => by
    rw [findIn] at h
    split at h
    · rename_i hm
      cases h
      exact ⟨.head _, hm, rfl⟩
    · obtain ⟨h1, h2, h3⟩ := find_some (L := L) h
      exact ⟨.tail _ h1, h2, h3⟩
theorem above_split {B : List Int} {bin : Int} (h : bin ∈ B) : ∃ P, B = P ++ bin :: (aboveL B bin).reverse := by
  have hlt : B.findIdx (fun x => bin == x) < B.length := List.findIdx_lt_length_of_exists ⟨bin, h, by simp⟩
  have he : bin = B[B.findIdx (fun x => bin == x)] := eq_of_beq (List.findIdx_getElem (w := hlt))
  refine ⟨B.take (B.findIdx (fun x => bin == x)), ?_⟩
  unfold aboveL
  rw [List.reverse_reverse]
  have := List.drop_eq_getElem_cons hlt
  rw [← he] at this
  rw [← this, List.take_append_drop]

theorem places_some {S : List Stk} {TL : List Cell} {ht : Int} {f : Cell} {cells : List Cell} : ∀ {n : Nat} {G0 GL : List Cell}, placesL S TL ht f cells n G0 = some GL → ∃ M, GL = G0 ++ M ∧ M.length = n ∧ (∀ z ∈ M, z ∈ cells ∧ z ≠ f) ∧ ∀ (j : Nat) z, M[j]? = some z → hgt S z + ((G0 ++ M.take j).count z : Int) < ht
  | 0, G0, GL, h => by
    cases h
    exact ⟨[], by simp, rfl, (fun z hz => (by cases hz)), (fun j z hz => (by simp at hz))⟩
  | n + 1, G0, GL, h => by
    rw [placesL] at h
    split at h
    · cases h
    · rename_i z hz
      obtain ⟨M, e1, e2, e3, e4⟩ := places_some (n := n) h
      rcases bestL_some hz with hz | ⟨hz1, hz2⟩
      · cases hz
      unfold skipR at hz2
      simp only [Bool.or_eq_false_iff, decide_eq_false_iff_not] at hz2
      have hzf : z ≠ f := fun e => by subst e; simp at hz2
      have hr : hgt S z + (G0.count z : Int) < ht := by omega
      refine ⟨z :: M, by rw [e1, List.append_assoc]; rfl, by rw [List.length_cons, e2], fun x hx => ?_, fun j x hx => ?_⟩
      · rcases List.mem_cons.1 hx with rfl | hx
        · exact ⟨hz1, hzf⟩
        · exact e3 x hx
      · cases j with
        | zero =>
          simp at hx
          subst hx
          rw [List.take_zero, List.append_nil]
          exact hr
        | succ j =>
          have := e4 j x (by simpa using hx)
          rw [List.append_assoc] at this
          exact this

theorem bins_own : ∀ {S : List Stk}, (S.map Prod.fst).Nodup → ∀ s ∈ S, binsL S s.1 = s.2
  | [], _, s, h => by cases h
  | a :: S, hn, s, h => by
    rw [List.map_cons, List.nodup_cons] at hn
    rw [binsL]
    rcases List.mem_cons.1 h with rfl | h
    · simp
    · rw [if_neg (fun e => hn.1 (by rw [eq_of_beq e]; exact List.mem_map_of_mem h)), bins_own hn.2 s h]
theorem bins_mem {c : Cell} : ∀ {S : List Stk} {b : Int}, b ∈ binsL S c → ∃ s ∈ S, s.1 = c ∧ binsL S c = s.2
  | [], b, h => by cases h
  | a :: S, b, h => by
    rw [binsL] at h ⊢
    split at h
    · rename_i e
      rw [if_pos e]
      exact ⟨a, .head _, eq_of_beq e, rfl⟩
    · rename_i e
      rw [if_neg e]
      obtain ⟨s, h1, h2, h3⟩ := bins_mem (S := S) h
      exact ⟨s, .tail _ h1, h2, h3⟩
theorem filter_out {P R : List Int} {bin : Int} (h : (P ++ bin :: R).Nodup) : (P ++ bin :: R).filter (fun x => !(x == bin)) = P ++ R := by
  rw [List.nodup_append] at h
  obtain ⟨h1, h2, h3⟩ := h
  have h2' := List.nodup_cons.1 h2
  rw [List.filter_append, List.filter_cons, if_neg (by simp)]
  congr 1
  · exact List.filter_eq_self.2 fun x hx => by
      have := h3 x hx bin (.head _)
      simpa using this
  · exact List.filter_eq_self.2 fun x hx => by
      have : x ≠ bin := fun e => h2'.1 (e ▸ hx)
      simpa using this

theorem apart_of : ∀ {S : List Stk} {t s : Stk}, S.Pairwise (fun a b => ∀ x ∈ a.2, ∀ y ∈ b.2, x ≠ y) → t ∈ S → s ∈ S → t ≠ s → ∀ x, x ∈ t.2 → x ∈ s.2 → False
  | [], t, s, _, h, _, _, _, _, _ => by cases h
  | a :: S, t, s, hp, ht, hs, hne, x, h1, h2 => by
    have hp := List.pairwise_cons.1 hp
    rcases List.mem_cons.1 ht with e | ht' <;> rcases List.mem_cons.1 hs with e2 | hs'
    · exact hne (e.trans e2.symm)
    · subst e; exact hp.1 s hs' x h1 x h2 rfl
    · subst e2; exact hp.1 t ht' x h2 x h1 rfl
    · exact apart_of hp.2 ht' hs' hne x h1 h2

/-- What DigDone asks of the jobs. -/
theorem done_plain {C : Conf} (mk : MadeOk C) {TL : List Cell} {bin : Int} {p : Cell} :
    ((jobsR C C.st TL bin p).2 ≠ 0 ∧ (jobsR C C.st TL bin p).1 = []) ∨
    ((jobsR C C.st TL bin p).2 = 0 ∧ ∃ JL, (jobsR C C.st TL bin p).1 = JL ∧ Runs C bin p C.st JL ∧ tot (JL.foldl stepN C.st) + 1 = tot C.st ∧ JL.countP (fun j => j.kind == 2) = 1 ∧
      (C.back = true → ∀ s ∈ C.st, binsL (JL.foldl stepN C.st) s.1 = s.2.filter (fun x => !(x == bin)))) := by
  by_cases h1 : portI C p < 0
  · rw [jobsR_port h1]; exact .inl ⟨by decide, rfl⟩
  cases h2 : findIn C.st bin (rstacksL C) with
  | none => rw [jobsR_bin h1 h2]; exact .inl ⟨by decide, rfl⟩
  | some fa =>
    obtain ⟨f, A⟩ := fa
    by_cases h3 : f ∈ TL
    · rw [jobsR_touched h1 h2 h3]; exact .inl ⟨by decide, rfl⟩
    cases h4 : placesL C.st TL C.ht f (rstacksL C) A.length [] with
    | none => rw [jobsR_room h1 h2 h3 h4]; exact .inl ⟨by decide, rfl⟩
    | some GL =>
      rw [jobsR_ok h1 h2 h3 h4]
      refine .inr ⟨rfl, _, rfl, ?_⟩
      obtain ⟨hf, hbin, hA⟩ := find_some h2
      obtain ⟨P, hP⟩ := above_split hbin
      rw [← hA] at hP
      obtain ⟨M, e1, e2, e3, e4⟩ := places_some h4
      rw [List.nil_append] at e1
      subst e1
      obtain ⟨s, hs, hs1, hs2⟩ := bins_mem hbin
      have hB : ((binsL C.st f).length : Int) ≤ C.ht := by rw [hs2]; exact (mk.sta.each s hs).2.2
      obtain ⟨r1, r2, r3⟩ := jobs_run (C := C) (bin := bin) (p := p) (f := f) (S := C.st) (A := A) (P := P) (GL := GL) e2.symm hP ((mem_rstacks mk).1 hf) (fun z hz => ⟨(e3 z hz).2, (mem_rstacks mk).1 (e3 z hz).1⟩) (fun j z hz => by have := e4 j z hz; rw [List.nil_append] at this; exact this) hB
      refine ⟨r1, r2, ?_, fun hb t ht => ?_⟩
      · unfold jobsOf
        have ha : ∀ (A : List Int) (GL : List Cell), (List.zipWith (awayJ f) A GL).countP (fun j => j.kind == 2) = 0 := fun A GL => List.countP_eq_zero.2 fun j hj => by
          obtain ⟨i, hi, rfl⟩ := List.mem_iff_getElem.1 hj
          rw [List.getElem_zipWith]
          exact (show ¬ ((1 : Int) == 2) = true by decide)
        have hg : ∀ (A : List Int) (GL : List Cell), (List.zipWith (againJ f) A GL).countP (fun j => j.kind == 2) = 0 := fun A GL => List.countP_eq_zero.2 fun j hj => by
          obtain ⟨i, hi, rfl⟩ := List.mem_iff_getElem.1 hj
          rw [List.getElem_zipWith]
          exact (show ¬ ((3 : Int) == 2) = true by decide)
        rw [List.countP_append, List.countP_append, ha]
        split
        · rw [List.countP_reverse, hg]; rfl
        · rfl
      · rw [r3 hb]
        have ho := List.pairwise_flatMap.1 mk.sta.once
        by_cases e : t.1 = f
        · rw [if_pos e]
          have et := bins_own mk.sta.apart t ht
          rw [e, hP] at et
          rw [← et]
          exact (filter_out (by rw [et]; exact ho.1 t ht)).symm
        · rw [if_neg e, bins_own mk.sta.apart t ht]
          have hnb : bin ∉ t.2 := fun hbt => by
            have hbs : bin ∈ s.2 := by rw [← hs2]; exact hbin
            have hne : t ≠ s := fun e2 => e (by rw [e2]; exact hs1)
            exact apart_of ho.2 ht hs hne bin hbt hbs
          exact (List.filter_eq_self.2 fun x hx => by
            have : x ≠ bin := fun e2 => hnb (e2 ▸ hx)
            simpa using this).symm

end Go.Proofs.YtangejiigopdaaaDoor
end

section
/- DigDone: the stacks as they are now; bins and put. -/
set_option linter.unusedSimpArgs false
set_option linter.unusedVariables false
set_option maxRecDepth 100000
namespace Go.Proofs.YtangejiigopdaaaDoor
open Go Go.HL

theorem slice3 {P : Program} {G : Hp} {T e : TypeId} {n : Nat} (hu : P.underlying T = some (.slice e)) (hs : (P.info? e).map (·.size) = some n) {a : Option Addr} {len cap : Nat} {j : Int} {h0 : Hp} {K : Value → Prop} (h1 : 0 ≤ j) (h2 : j ≤ cap) :
    pw P G h0 (Instr.sliceAt T (.slice a len cap) none (some (.int .i64 j)) (some (.int .i64 j))) K = K (.slice a j.toNat j.toNat) := by
  cases hi : P.info? e with
  | none => rw [hi] at hs; cases hs
  | some x =>
    have h3 : j ≤ max j 0 := by omega
    have hp : ∀ {α : Type} {a : α} {K : α → Prop}, pw P G h0 (Sem.pure a) K = K a := fun {α a K} => rfl
    simp [Instr.sliceAt, Instr.slice, Instr.sliceBounds, Instr.sliceBound, asIntOf, underlying, program, bind, Sem.bind, pure, pw, pw_bind, hu, sizeOf, typeInfo, hi, h1, h2]
    cases a <;> simp [Addr.add, h3, hp]

/-- Whole numbers seen, by a base that a slice may have. -/
def IcS (G h : Hp) (u : Value) (L : List Int) : Prop := Sees icC G h u L ∧ Src G h 1 u L.length (icC.rows L)
theorem srcup {G h h' : Hp} {n m : Nat} {x : Value} {vs : List Value} (s : Src G h n x m vs) (l : h.le h') (d : Dis G h') : Src G h' n x m vs := by
  obtain ⟨e, s⟩ := s
  refine ⟨e, s.imp id ?_⟩
  rintro ⟨q, off, c, e1, e2⟩
  refine ⟨q, off, c, e1, fun j hj => ?_⟩
  obtain ⟨v, hv⟩ : ∃ v, vs[j]? = some v := ⟨_, List.getElem?_eq_getElem hj⟩
  rw [hv]
  exact cell_up l d (by rw [e2 j hj, hv])
theorem IcS.up {G h h' : Hp} {u : Value} {L : List Int} (s : IcS G h u L) (l : h.le h') (d : Dis G h') : IcS G h' u L := ⟨s.1.up l d, srcup s.2 l d⟩
theorem IcS.nil {G h : Hp} : IcS G h (.slice none 0 0) [] := ⟨⟨none, 0, rfl, Nat.le_refl _, .inl rfl⟩, rfl, .inl ⟨0, rfl, rfl⟩⟩
theorem IcS.own {G h ip : Hp} {u : Value} {L : List Int} (o : Slc icC 3 ip u L) (l : ip.le h) : IcS G h u L := by
  refine ⟨o.sees (by decide) l, ?_⟩
  obtain ⟨ob, ow⟩ := o
  exact (ow.le l).src
/-- The first ones, with no room behind. -/
theorem IcS.cut {G h : Hp} {a : Option Addr} {L : List Int} {cap k : Nat} (s : IcS G h (.slice a L.length cap) L) (hk : k ≤ L.length) : IcS G h (.slice a k k) (L.take k) := by
  obtain ⟨s1, e, s2⟩ := s
  have hl : (L.take k).length = k := by rw [List.length_take]; omega
  have hr : icC.rows (L.take k) = (icC.rows L).take k := by
    have := icC.rows_take (L := L) (t := []) hk
    rw [List.append_nil, show icC.n = 1 from rfl, Nat.mul_one] at this
    exact this.symm
  refine ⟨?_, ?_⟩
  · obtain ⟨s0, c0, e0, hc, hh⟩ := s1
    simp only [Value.slice.injEq] at e0
    obtain ⟨rfl, -, rfl⟩ := e0
    refine ⟨a, k, by rw [hl], by rw [hl]; exact Nat.le_refl _, ?_⟩
    rcases hh with rfl | ⟨b, o, rfl, hh⟩
    · exact .inl (by simp)
    · refine .inr ⟨b, o, rfl, fun i x hx j hj => ?_⟩
      rw [List.getElem?_take] at hx
      split at hx
      · exact hh i x hx j hj
      · cases hx
  · refine ⟨by rw [icC.rows_length]; rfl, ?_⟩
    rcases s2 with ⟨c, e1, e2⟩ | ⟨q, off, c, e1, e2⟩
    · simp only [Value.slice.injEq] at e1
      obtain ⟨rfl, -, -⟩ := e1
      exact .inl ⟨k, by rw [hl], by rw [hr, e2, List.take_nil]⟩
    · simp only [Value.slice.injEq] at e1
      obtain ⟨rfl, -, -⟩ := e1
      refine .inr ⟨q, off, k, by rw [hl], fun j hj => ?_⟩
      rw [hr, List.length_take] at hj
      rw [hr, List.getElem?_take, if_pos (by omega)]
      exact e2 j (by omega)

/-- The stacks now: the heads are one's own, the bins are seen. -/
def NowO (G pr hb : Hp) (v : Value) (S : List Stk) : Prop := ∃ raws : List Raw, Slc rawC 49 pr v raws ∧ raws.length = S.length ∧ ∀ (i : Nat) (r : Raw) (s : Stk), raws[i]? = some r → S[i]? = some s → (r.x, r.y) = s.1 ∧ r.n = s.2.length ∧ IcS G hb (.slice r.a s.2.length r.c) s.2
theorem NowO.up {G pr hb hb' : Hp} {v : Value} {S : List Stk} (o : NowO G pr hb v S) (l : hb.le hb') (d : Dis G hb') : NowO G pr hb' v S := by
  obtain ⟨raws, o, e, r⟩ := o
  exact ⟨raws, o, e, fun i x s h1 h2 => let ⟨k1, k2, k3⟩ := r i x s h1 h2; ⟨k1, k2, k3.up l d⟩⟩
theorem NowO.of {G pz h : Hp} {v : Value} {S : List Stk} {R : List Hp} (o : StkO pz v S) (s : HL.Sep (pz :: R) h) : ∃ pr pb, NowO G pr pb v S ∧ HL.Sep (pr :: pb :: R) h := by
  obtain ⟨raws, pr, pb, o, t, e, rel⟩ := o
  have s2 : HL.Sep ([pr, pb] ++ R) h := by
    refine ⟨fun a ha => ?_, ?_⟩
    · rcases List.mem_append.1 ha with ha | ha
      · exact (t.1 a ha).trans s.hd
      · exact s.1 a (.tail _ ha)
    · rw [List.pairwise_append]
      refine ⟨t.2, (List.pairwise_cons.1 s.2).2, fun a ha b hb x => ?_⟩
      rcases s.apart hb x with z | z
      · exact .inl ((t.1 a ha).none z)
      · exact .inr z
  exact ⟨pr, pb, ⟨raws, o, e, fun i r s h1 h2 => let ⟨a, b, c⟩ := rel i r s h1 h2; ⟨a, b, IcS.own c (Hp.le.refl _)⟩⟩, s2⟩

theorem setB_at {c : Cell} {b : List Int} : ∀ {S : List Stk} {i : Nat} {s : Stk}, S[i]? = some s → (S.take i).any (fun x => x.1 == c) = false → (s.1 == c) = true → setB S c b = S.set i (s.1, b)
  | [], i, s, h, _, _ => by simp at h
  | a :: S, 0, s, h, _, h2 => by
    simp at h; subst h
    rw [setB, if_pos h2]; rfl
  | a :: S, i + 1, s, h, h1, h2 => by
    rw [List.take_succ_cons, List.any_cons, Bool.or_eq_false_iff] at h1
    rw [setB, if_neg (by rw [h1.1]; decide), setB_at (S := S) (by simpa using h) h1.2 h2]
    rfl
theorem setB_new {c : Cell} {b : List Int} : ∀ {S : List Stk}, S.any (fun x => x.1 == c) = false → setB S c b = S ++ [(c, b)]
  | [], _ => rfl
  | a :: S, h1 => by
    rw [List.any_cons, Bool.or_eq_false_iff] at h1
    rw [setB, if_neg (by rw [h1.1]; decide), setB_new (S := S) h1.2]
    rfl

/-- A stack's bins are put. -/
theorem store_bins {G h : Hp} {b i : Nat} {L : List Raw} {t : List Value} {x : Raw} {a : Option Addr} {n c : Nat} {K : Unit → Hp → Prop} (hb : h b = some (.cells (rawC.rows L ++ t).toArray 49 (0, 0))) (hx : L[i]? = some x) :
    wpH Tryd.prog G (Instr.storeAt 42 (.pointer (some ⟨b, i * 3 + 2, none⟩)) (.slice a n c)) h K = K () (h.set b (.cells (rawC.rows (L.set i { x with a := a, n := n, c := c }) ++ t).toArray 49 (0, 0))) := by
  have hi : i < L.length := (List.getElem?_eq_some_iff.1 hx).1
  have hlen : i * 3 + 3 ≤ (rawC.rows L ++ t).length := by
    rw [List.length_append, rawC.rows_length, show rawC.n = 3 from rfl]; omega
  rw [store1_eq (l := rawC.rows L ++ t) sz42 rfl hb (by omega)]
  have hp := rawC.rows_put (t := t) (x := { x with a := a, n := n, c := c }) hi
  rw [← hp]
  have g0 := rawC.rows_get (t := t) hx (j := 0) (by decide)
  have g1 := rawC.rows_get (t := t) hx (j := 1) (by decide)
  have e : putL (rawC.rows L ++ t) (i * rawC.n) (rawC.enc { x with a := a, n := n, c := c }) = (((rawC.rows L ++ t).set (i * 3) (.int .i64 x.x)).set (i * 3 + 1) (.int .i64 x.y)).set (i * 3 + 2) (.slice a n c) := rfl
  have same : ∀ {l : List Value} {k : Nat} {v : Value}, l[k]? = some v → l.set k v = l := fun {l k v} hk => by
    obtain ⟨h1, h2⟩ := List.getElem?_eq_some_iff.1 hk
    rw [← h2]
    exact List.set_getElem_self h1
  rw [e, same (show (rawC.rows L ++ t)[i * 3]? = some (.int .i64 x.x) from g0), same (show (rawC.rows L ++ t)[i * 3 + 1]? = some (.int .i64 x.y) from g1)]

end Go.Proofs.YtangejiigopdaaaDoor
end

section
/- DigDone: bins and put, walked. -/
set_option linter.unusedSimpArgs false
set_option linter.unusedVariables false
set_option maxRecDepth 100000
namespace Go.Proofs.YtangejiigopdaaaDoor
open Go Go.HL

set_option maxHeartbeats 4000000 in
theorem bins_now {G h pr hb : Hp} {R : List Hp} {v : Value} {S : List Stk} {c : Cell} (on : NowO G pr hb v S) (sp : HL.Sep (pr :: hb :: R) h) (hL : S.length ≤ 100000000000000) : HCalls Tryd.prog G 21 #[v, cellV c] h (fun u h' => (∃ a cap, u = .slice a (binsL S c).length cap ∧ IcS G hb u (binsL S c)) ∧ h' = h) := by
  obtain ⟨raw, ow, hrl, srr⟩ := on
  obtain ⟨sa, sc, rfl, _⟩ := ow.len (by decide)
  have sr : Sees rawC G h _ raw := ow.sees (by decide) sp.hd
  rw [hrl] at sr ⊢
  refine HCalls.assume fun d => quietly (enter21 (by simp) ?_)
  unfold S21
  simp -implicitDefEqProofs (maxSteps := 2000000) (disch := first | with_reducible exact Nat.ne_of_beq_eq_false rfl | exact oneCell_int | exact oneCell_bool | omega | rfl | (simp; done) | fail) only [regs1, opH_sv, box_new, cells_agg]
  intro x hx gx
  generalize ex : Hp.set h x _ = h2
  obtain ⟨l2, d2, b2⟩ := boxed ex hx d gx
  have cx : ∀ k, cellIn G h2 ⟨x, k, none⟩ = _ := fun k => cell_of (look_own b2)
  clear ex
  generalize hKK : retK Tryd.prog G _ _ = KK
  refine loop_I (fun m r h3 => ∃ i : Nat, m = S.length - i ∧ i ≤ S.length ∧ r 0 = .slice sa S.length sc ∧ r 3 = .pointer (some ⟨x, 0, none⟩) ∧ r 5 = .int .i64 i ∧ h3 = h2 ∧ (S.take i).any (fun x => x.1 == c) = false) ?_
    (m := S.length) ⟨0, rfl, Nat.zero_le _, by simp -implicitDefEqProofs (maxSteps := 2000000) (disch := first | with_reducible exact Nat.ne_of_beq_eq_false rfl | exact oneCell_int | exact oneCell_bool | omega | rfl | (simp; done) | fail) only [upd_ne, regs0], by simp -implicitDefEqProofs (maxSteps := 2000000) (disch := first | with_reducible exact Nat.ne_of_beq_eq_false rfl | exact oneCell_int | exact oneCell_bool | omega | rfl | (simp; done) | fail) only [upd_ne, upd_eq], by simp -implicitDefEqProofs (maxSteps := 2000000) (disch := first | with_reducible exact Nat.ne_of_beq_eq_false rfl | exact oneCell_int | exact oneCell_bool | omega | rfl | (simp; done) | fail) only [upd_eq] <;> rfl, rfl, by simp⟩
  rintro m q h3 ⟨i, rfl, hi, g0, g3, g5, rfl, hn⟩ X HX
  unfold S21_l2
  simp -implicitDefEqProofs (maxSteps := 2000000) (disch := first | with_reducible exact Nat.ne_of_beq_eq_false rfl | exact oneCell_int | exact oneCell_bool | omega | rfl | (simp; done) | fail) only [g0, g5, thenK_exit, blockK_exit, thenK_normal, if_true, opH_sv, ln24, bin_lss]
  refine cond_dec (fun hlt => ?_) (fun hge => ?_)
  · obtain ⟨s, hs⟩ : ∃ s, S[i]? = some s := ⟨_, List.getElem?_eq_getElem (by omega)⟩
    obtain ⟨r, hr⟩ : ∃ r, raw[i]? = some r := ⟨_, List.getElem?_eq_getElem (by omega)⟩
    obtain ⟨er, en, eb⟩ := srr i r s hr hs
    obtain ⟨b, of, cc, e3, e4⟩ := (sr.up l2 d2).get hr
    simp only [Value.slice.injEq] at e3
    obtain ⟨rfl, -, -⟩ := e3
    have z0 := e4 0 (by decide)
    have z1 := e4 1 (by decide)
    have z2 := e4 2 (by decide)
    simp only [rawC, Nat.add_zero, List.getElem?_cons_zero, List.getElem?_cons_succ] at z0 z1 z2
    have ec : ((r.x == c.1) && (r.y == c.2)) = (s.1 == c) := by rw [← er]; rfl
    unfold S21_l2_k3
    simp -implicitDefEqProofs (maxSteps := 2000000) (disch := first | with_reducible exact Nat.ne_of_beq_eq_false rfl | exact oneCell_int | exact oneCell_bool | omega | rfl | (simp; done) | fail) only [upd_ne, g0, g5, g3, thenK_ret, blockK_ret, opH_sv, ix24 (Int.natCast_nonneg i) hlt, Int.toNat_natCast, add_mk, fa49_1, ld42, pureW_sv, ld28p, Nat.add_zero, cx, List.getElem?_cons_zero, Option.some.injEq, Nat.zero_add, List.getElem?_cons_succ, exists_eq_left', ix24p, fa49_0p, z0, z1, eq28p, Bool.and_true, ec, z2]
    refine cond_bool (fun hb => ?_) (fun hb => ?_)
    · rw [← hKK]
      try simp -implicitDefEqProofs (maxSteps := 2000000) (disch := first | with_reducible exact Nat.ne_of_beq_eq_false rfl | exact oneCell_int | exact oneCell_bool | omega | rfl | (simp; done) | fail) only [retK_ret, resL_tmp, upd_eq, resL_nil1]
      have e5 : binsL S c = s.2 := by
        have e6 := binsL_take (c := c) hs
        rw [hn, if_neg (by decide), if_pos hb] at e6
        have : ∀ {A B : List Stk}, A.any (fun x => x.1 == c) = true → binsL (A ++ B) c = binsL A c := by
          intro A B hA
          induction A with
          | nil => cases hA
          | cons y A ih =>
            rw [List.cons_append, binsL, binsL]
            rw [List.any_cons] at hA
            cases hy : (y.1 == c) with
            | true => rfl
            | false =>
              rw [hy, Bool.false_or] at hA
              simp only [Bool.false_eq_true, if_false]
              exact ih hA
        rw [← List.take_append_drop (i + 1) S, this (by rw [any_step hs, hb, Bool.or_true]), e6]
      refine ⟨⟨r.a, r.c, ?_, ?_⟩, l2⟩
      · rw [e5, en]
      · rw [e5, en]; exact eb
    · unfold S21_l2_k4
      simp -implicitDefEqProofs (maxSteps := 2000000) (disch := first | with_reducible exact Nat.ne_of_beq_eq_false rfl | exact oneCell_int | exact oneCell_bool | omega | rfl | (simp; done) | fail) only [upd_ne, g5, thenK_normal, opH_sv, bin_add, wrap_in]
      exact HX (S.length - (i + 1)) _ _ (by omega) ⟨i + 1, rfl, by omega, by simp -implicitDefEqProofs (maxSteps := 2000000) (disch := first | with_reducible exact Nat.ne_of_beq_eq_false rfl | exact oneCell_int | exact oneCell_bool | omega | rfl | (simp; done) | fail) only [upd_ne, g0], by simp -implicitDefEqProofs (maxSteps := 2000000) (disch := first | with_reducible exact Nat.ne_of_beq_eq_false rfl | exact oneCell_int | exact oneCell_bool | omega | rfl | (simp; done) | fail) only [upd_ne, g3], by simp -implicitDefEqProofs (maxSteps := 2000000) (disch := first | with_reducible exact Nat.ne_of_beq_eq_false rfl | exact oneCell_int | exact oneCell_bool | omega | rfl | (simp; done) | fail) only [upd_eq] <;> rfl, rfl, by rw [any_step hs, hn, hb]; rfl⟩
  · obtain rfl : i = S.length := by omega
    rw [List.take_of_length_le (Nat.le_refl _)] at hn
    try simp -implicitDefEqProofs (maxSteps := 2000000) (disch := first | with_reducible exact Nat.ne_of_beq_eq_false rfl | exact oneCell_int | exact oneCell_bool | omega | rfl | (simp; done) | fail) only [opH_sv, opH_su, pureW_sv, opH_nil, pureW_nil, pick_t, pick_f, pick_tp, pick_fp, gd_tt, gd_ft, gd_tf, gd_ff, box_new, regs0, regs1, regs2, regs3, regs4, regs5, regs6, cells_agg, cells_int, cells_bool, cells_ptr, cells_slice, cells_string, cells_func, cells_nilFunc, cells_map, retK_ret, retK_normal, resL_tmp, resL_cell, resL_nil0, resL_nil1, resL_nil2, resL_nil3, resC_ptr, ex0, ex1, ex2, ex0p, ex1p, ex2p, HL.cond_true, HL.cond_false, thenK_normal, thenK_ret, thenK_exit, blockK_normal, blockK_ret, blockK_exit, scopeK_normal, scopeK_ret, scopeK_exit, wpH_pure, bin_add, bin_sub, bin_mul, bin_lss, bin_leq, bin_gtr, bin_geq, bin_quo, bin_rem, bin_quop, bin_remp, wrap_in, bin_addp, bin_subp, bin_mulp, bin_lssp, bin_leqp, bin_gtrp, bin_geqp, un_not, un_notp, un_neg, eq_int, ne_int, eq_intp, ne_intp, callV_fn, add_mk, upd_eq, upd_ne, cell_set_self, Nat.zero_add, Nat.add_zero, Option.some.injEq, exists_eq_left', List.getElem?_cons_succ, List.getElem?_cons_zero, true_and, and_true, bne_self_eq_false, beq_self_eq_true, Bool.not_true, Bool.not_false, Bool.and_true, Bool.and_self, Bool.and_false, Bool.true_and, List.length_cons, List.length_nil, ne_eq, not_false_eq_true, Nat.reduceAdd, Nat.reduceMul, if_true, if_false, oneCell_int, oneCell_bool, oneCell_ptr, oneCell_slice, oneCell_string, oneCell_func, oneCell_map, Int.toNat_natCast, List.set_cons_zero, List.set_cons_succ, Nat.lt_irrefl, Nat.zero_lt_succ, Nat.succ_lt_succ_iff, fa26_0, fa26_0p, fa26_1, fa26_1p, fa26_10, fa26_10p, fa26_11, fa26_11p, fa26_12, fa26_12p, fa26_13, fa26_13p, fa26_14, fa26_14p, fa26_15, fa26_15p, fa26_2, fa26_2p, fa26_3, fa26_3p, fa26_4, fa26_4p, fa26_5, fa26_5p, fa26_6, fa26_6p, fa26_7, fa26_7p, fa26_8, fa26_8p, fa26_9, fa26_9p, fa28_0, fa28_0p, fa28_1, fa28_1p, fa45_0, fa45_0p, fa45_1, fa45_1p, fa45_2, fa45_2p, fa45_3, fa45_3p, fa45_4, fa45_4p, fa45_5, fa45_5p, fa45_6, fa45_6p, fa49_0, fa49_0p, fa49_1, fa49_1p, fa74_0, fa74_0p, fa74_1, fa74_1p, fa74_2, fa74_2p, fa74_3, fa74_3p, fa85_0, fa85_0p, fa85_1, fa85_1p, fa93_0, fa93_0p, fa93_1, fa93_1p, fa93_2, fa93_2p, ld3, ld3p, ld4, ld4p, ld22, ld22p, ld23, ld23p, ld24, ld24p, ld26, ld26p, ld28, ld28p, ld42, ld42p, ld45, ld45p, ld49, ld49p, ld58, ld58p, ld69, ld69p, ld72, ld72p, ld85, ld85p, st3s, st4s, st22s, st23s, st24s, st26w, st28w, st42s, st45w, st49w, st85w, ix22, ix22p, ix23, ix23p, ix24, ix24p, ix31, ix31p, ix42, ix42p, ix104, ix104p, ln22, ln22p, ln23, ln23p, ln24, ln24p, ln31, ln31p, ln42, ln42p, al4, al22, al26, al28, al42, al49, al85, cf10, cf11, cf12, cf13, cf14, cf15, cf16, cf17, cf18, cf19, cf20, cf21, cf22, cf23, cf24, cf25, cf26, cf27, cf28, cf29, cf30, cf31, cf32, cf33, cf34, cf35, cf36, cf37, cf38, cf39, cf40, cf41, cf42, cf43, cf44, cf45, cf46, cf47, cf48, cf49, cf50, cf51, cf52, cf53, cf54, cf55, cf56, cf57, cf58, cf59, cf60, cf61, cf62, cf63, cf64, cf65, cf66, cf67, cf68, cf69, cf70, cf71, cf72, cf73, cf74, cf75, bd26_0_1_2_7_8_9_10_11_12_13_14_4_15, bd26_0_1_2_7_8_9_10_11_12_13_14_4_15p, bd28_, bd28_p, bd28_0, bd28_0p, bd28_0_1, bd28_0_1p, bd45_1_3_4_5_6, bd45_1_3_4_5_6p, bd49_0_1, bd49_0_1p, bd49_1, bd49_1p, bd74_0_1_2_3, bd74_0_1_2_3p, bd85_0, bd85_0p, bd85_0_1, bd85_0_1p, bd93_0_1_2, bd93_0_1_2p, bd94_0_1_2_3, bd94_0_1_2_3p, bs42_1_0, bs22_1_0, bs24_1_0, bs42_3_0_1_2, bs31_1_0, bs22_2_0_1, bs42_6_0_1_2_3_4_5, bs42_0_, eq4, eq4p, eq28, eq28p, eq42n, eq42np, eq42s, eq42sp, eq58n, eq58np, eq58s, eq58sp, eq63n, eq63np, eq63s, eq63sp, ne28, ne28p, ne45, ne45p]
    unfold S21_k1
    rw [← hKK]
    simp -implicitDefEqProofs (maxSteps := 2000000) (disch := first | with_reducible exact Nat.ne_of_beq_eq_false rfl | exact oneCell_int | exact oneCell_bool | omega | rfl | (simp; done) | fail) only [retK_ret, resL_tmp, upd_eq, resL_nil1]
    rw [binsL_not hn]
    exact ⟨⟨none, 0, rfl, IcS.nil⟩, l2⟩

set_option maxHeartbeats 4000000 in
theorem put_spec {G h pr hb : Hp} {R : List Hp} {v u : Value} {S : List Stk} {c : Cell} {b : List Int} {ua : Option Addr} {uc : Nat} (on : NowO G pr hb v S) (sp : HL.Sep (pr :: hb :: R) h) (hu : u = .slice ua b.length uc) (hs : IcS G hb u b) (hL : S.length ≤ 100000) :
    HCalls Tryd.prog G 22 #[v, cellV c, u] h (fun w h' => ∃ pr', NowO G pr' hb w (setB S c b) ∧ HL.Sep (pr' :: hb :: R) h' ∧ Dis G h') := by
  subst hu
  obtain ⟨raw, ow, hrl, srr⟩ := on
  obtain ⟨sa, sc, rfl, _⟩ := ow.len (by decide)
  rw [hrl] at ow ⊢
  have sr : Sees rawC G h _ raw := ow.sees (by decide) sp.hd
  refine HCalls.assume fun d => enter22 (by simp) ?_
  unfold S22
  simp -implicitDefEqProofs (maxSteps := 2000000) (disch := first | with_reducible exact Nat.ne_of_beq_eq_false rfl | exact oneCell_int | exact oneCell_bool | omega | rfl | (simp; done) | fail) only [regs1, opH_sv, box_new, cells_agg]
  intro x hx gx
  have sp2 := sp.past (o := cellO c) hx
  generalize ex : Hp.set h x _ = h2
  obtain ⟨l2, d2, b2⟩ := boxed ex hx d gx
  have sp2 : HL.Sep (pr :: hb :: R) h2 := by rw [← ex]; exact sp2
  have cx : ∀ k, cellIn G h2 ⟨x, k, none⟩ = _ := fun k => cell_of (look_own b2)
  clear ex
  generalize hKK : retK Tryd.prog G _ _ = KK
  refine loop_I (fun m r h3 => ∃ i : Nat, m = S.length - i ∧ i ≤ S.length ∧ r 0 = .slice sa S.length sc ∧ r 2 = .slice ua b.length uc ∧ r 4 = .pointer (some ⟨x, 0, none⟩) ∧ r 7 = .int .i64 i ∧ h3 = h2 ∧ (S.take i).any (fun x => x.1 == c) = false) ?_
    (m := S.length) ⟨0, rfl, Nat.zero_le _, by simp -implicitDefEqProofs (maxSteps := 2000000) (disch := first | with_reducible exact Nat.ne_of_beq_eq_false rfl | exact oneCell_int | exact oneCell_bool | omega | rfl | (simp; done) | fail) only [upd_ne, regs0], by simp -implicitDefEqProofs (maxSteps := 2000000) (disch := first | with_reducible exact Nat.ne_of_beq_eq_false rfl | exact oneCell_int | exact oneCell_bool | omega | rfl | (simp; done) | fail) only [upd_ne, regs2], by simp -implicitDefEqProofs (maxSteps := 2000000) (disch := first | with_reducible exact Nat.ne_of_beq_eq_false rfl | exact oneCell_int | exact oneCell_bool | omega | rfl | (simp; done) | fail) only [upd_ne, upd_eq], by simp -implicitDefEqProofs (maxSteps := 2000000) (disch := first | with_reducible exact Nat.ne_of_beq_eq_false rfl | exact oneCell_int | exact oneCell_bool | omega | rfl | (simp; done) | fail) only [upd_eq] <;> rfl, rfl, by simp⟩
  rintro m q h3 ⟨i, rfl, hi, g0, g2, g4, g7, rfl, hn⟩ X HX
  unfold S22_l2
  simp -implicitDefEqProofs (maxSteps := 2000000) (disch := first | with_reducible exact Nat.ne_of_beq_eq_false rfl | exact oneCell_int | exact oneCell_bool | omega | rfl | (simp; done) | fail) only [g0, g7, thenK_exit, blockK_exit, thenK_normal, if_true, opH_sv, ln24, bin_lss]
  refine cond_dec (fun hlt => ?_) (fun hge => ?_)
  · obtain ⟨s, hs'⟩ : ∃ s, S[i]? = some s := ⟨_, List.getElem?_eq_getElem (by omega)⟩
    obtain ⟨r, hr⟩ : ∃ r, raw[i]? = some r := ⟨_, List.getElem?_eq_getElem (by omega)⟩
    obtain ⟨er, en, eb⟩ := srr i r s hr hs'
    obtain ⟨ob, ow'⟩ := id ow
    cases ob with
    | none => rw [ow'.2] at hr; simp at hr
    | some bb =>
    obtain ⟨cap', t, e9, hb9, hbl⟩ := ow'
    simp only [Value.slice.injEq] at e9
    obtain ⟨rfl, _, rfl⟩ := e9
    have hbh := sp2.at 0 rfl hb9
    have z0 : cellIn G h3 ⟨bb, i * 3, none⟩ = some (.int .i64 r.x) := (cell_of (look_own hbh)).trans (rawC.rows_get (t := t) hr (j := 0) (by decide))
    have z1 : cellIn G h3 ⟨bb, i * 3 + 1, none⟩ = some (.int .i64 r.y) := (cell_of (look_own hbh)).trans (rawC.rows_get (t := t) hr (j := 1) (by decide))
    have ec : ((r.x == c.1) && (r.y == c.2)) = (s.1 == c) := by rw [← er]; rfl
    unfold S22_l2_k3
    simp -implicitDefEqProofs (maxSteps := 2000000) (disch := first | with_reducible exact Nat.ne_of_beq_eq_false rfl | exact oneCell_int | exact oneCell_bool | omega | rfl | (simp; done) | fail) only [upd_ne, g0, g7, g4, thenK_ret, blockK_ret, opH_su, opH_sv, ix24 (Int.natCast_nonneg i) hlt, Int.toNat_natCast, add_mk, Nat.zero_add, fa49_1, pureW_sv, ld28p, Nat.add_zero, cx, List.getElem?_cons_zero, Option.some.injEq, List.getElem?_cons_succ, exists_eq_left', ix24p, fa49_0p, z0, z1, eq28p, Bool.and_true, ec]
    refine cond_bool (fun hbq => ?_) (fun hbq => ?_)
    · rw [← hKK]
      try simp -implicitDefEqProofs (maxSteps := 2000000) (disch := first | with_reducible exact Nat.ne_of_beq_eq_false rfl | exact oneCell_int | exact oneCell_bool | omega | rfl | (simp; done) | fail) only [g2, retK_ret, resL_tmp, upd_eq, resL_nil1]
      rw [store_bins hbh hr]
      try simp -implicitDefEqProofs (maxSteps := 2000000) (disch := first | with_reducible exact Nat.ne_of_beq_eq_false rfl | exact oneCell_int | exact oneCell_bool | omega | rfl | (simp; done) | fail) only [opH_sv, opH_su, pureW_sv, opH_nil, pureW_nil, pick_t, pick_f, pick_tp, pick_fp, gd_tt, gd_ft, gd_tf, gd_ff, box_new, regs0, regs1, regs2, regs3, regs4, regs5, regs6, cells_agg, cells_int, cells_bool, cells_ptr, cells_slice, cells_string, cells_func, cells_nilFunc, cells_map, retK_ret, retK_normal, resL_tmp, resL_cell, resL_nil0, resL_nil1, resL_nil2, resL_nil3, resC_ptr, ex0, ex1, ex2, ex0p, ex1p, ex2p, HL.cond_true, HL.cond_false, thenK_normal, thenK_ret, thenK_exit, blockK_normal, blockK_ret, blockK_exit, scopeK_normal, scopeK_ret, scopeK_exit, wpH_pure, bin_add, bin_sub, bin_mul, bin_lss, bin_leq, bin_gtr, bin_geq, bin_quo, bin_rem, bin_quop, bin_remp, wrap_in, bin_addp, bin_subp, bin_mulp, bin_lssp, bin_leqp, bin_gtrp, bin_geqp, un_not, un_notp, un_neg, eq_int, ne_int, eq_intp, ne_intp, callV_fn, add_mk, upd_eq, upd_ne, cell_set_self, Nat.zero_add, Nat.add_zero, Option.some.injEq, exists_eq_left', List.getElem?_cons_succ, List.getElem?_cons_zero, true_and, and_true, bne_self_eq_false, beq_self_eq_true, Bool.not_true, Bool.not_false, Bool.and_true, Bool.and_self, Bool.and_false, Bool.true_and, List.length_cons, List.length_nil, ne_eq, not_false_eq_true, Nat.reduceAdd, Nat.reduceMul, if_true, if_false, oneCell_int, oneCell_bool, oneCell_ptr, oneCell_slice, oneCell_string, oneCell_func, oneCell_map, Int.toNat_natCast, List.set_cons_zero, List.set_cons_succ, Nat.lt_irrefl, Nat.zero_lt_succ, Nat.succ_lt_succ_iff, fa26_0, fa26_0p, fa26_1, fa26_1p, fa26_10, fa26_10p, fa26_11, fa26_11p, fa26_12, fa26_12p, fa26_13, fa26_13p, fa26_14, fa26_14p, fa26_15, fa26_15p, fa26_2, fa26_2p, fa26_3, fa26_3p, fa26_4, fa26_4p, fa26_5, fa26_5p, fa26_6, fa26_6p, fa26_7, fa26_7p, fa26_8, fa26_8p, fa26_9, fa26_9p, fa28_0, fa28_0p, fa28_1, fa28_1p, fa45_0, fa45_0p, fa45_1, fa45_1p, fa45_2, fa45_2p, fa45_3, fa45_3p, fa45_4, fa45_4p, fa45_5, fa45_5p, fa45_6, fa45_6p, fa49_0, fa49_0p, fa49_1, fa49_1p, fa74_0, fa74_0p, fa74_1, fa74_1p, fa74_2, fa74_2p, fa74_3, fa74_3p, fa85_0, fa85_0p, fa85_1, fa85_1p, fa93_0, fa93_0p, fa93_1, fa93_1p, fa93_2, fa93_2p, ld3, ld3p, ld4, ld4p, ld22, ld22p, ld23, ld23p, ld24, ld24p, ld26, ld26p, ld28, ld28p, ld42, ld42p, ld45, ld45p, ld49, ld49p, ld58, ld58p, ld69, ld69p, ld72, ld72p, ld85, ld85p, st3s, st4s, st22s, st23s, st24s, st26w, st28w, st42s, st45w, st49w, st85w, ix22, ix22p, ix23, ix23p, ix24, ix24p, ix31, ix31p, ix42, ix42p, ix104, ix104p, ln22, ln22p, ln23, ln23p, ln24, ln24p, ln31, ln31p, ln42, ln42p, al4, al22, al26, al28, al42, al49, al85, cf10, cf11, cf12, cf13, cf14, cf15, cf16, cf17, cf18, cf19, cf20, cf21, cf22, cf23, cf24, cf25, cf26, cf27, cf28, cf29, cf30, cf31, cf32, cf33, cf34, cf35, cf36, cf37, cf38, cf39, cf40, cf41, cf42, cf43, cf44, cf45, cf46, cf47, cf48, cf49, cf50, cf51, cf52, cf53, cf54, cf55, cf56, cf57, cf58, cf59, cf60, cf61, cf62, cf63, cf64, cf65, cf66, cf67, cf68, cf69, cf70, cf71, cf72, cf73, cf74, cf75, bd26_0_1_2_7_8_9_10_11_12_13_14_4_15, bd26_0_1_2_7_8_9_10_11_12_13_14_4_15p, bd28_, bd28_p, bd28_0, bd28_0p, bd28_0_1, bd28_0_1p, bd45_1_3_4_5_6, bd45_1_3_4_5_6p, bd49_0_1, bd49_0_1p, bd49_1, bd49_1p, bd74_0_1_2_3, bd74_0_1_2_3p, bd85_0, bd85_0p, bd85_0_1, bd85_0_1p, bd93_0_1_2, bd93_0_1_2p, bd94_0_1_2_3, bd94_0_1_2_3p, bs42_1_0, bs22_1_0, bs24_1_0, bs42_3_0_1_2, bs31_1_0, bs22_2_0_1, bs42_6_0_1_2_3_4_5, bs42_0_, eq4, eq4p, eq28, eq28p, eq42n, eq42np, eq42s, eq42sp, eq58n, eq58np, eq58s, eq58sp, eq63n, eq63np, eq63s, eq63sp, ne28, ne28p, ne45, ne45p, g0]
      rw [setB_at hs' hn hbq]
      refine ⟨_, ⟨raw.set i ⟨r.x, r.y, ua, b.length, uc⟩, ⟨some bb, sc, t, by rw [List.length_set, hrl], set_self, by rw [← hbl, List.length_append, List.length_append, rawC.rows_length, rawC.rows_length, List.length_set]⟩, by rw [List.length_set, List.length_set, hrl], fun j r2 s2 h1 h2 => ?_⟩, sp2.put hb9, d2.set (d2 _ _ hbh)⟩
      rw [List.getElem?_set] at h1 h2
      by_cases e : i = j
      · subst e
        rw [if_pos rfl, if_pos (by omega)] at h1 h2
        cases h1
        cases h2
        exact ⟨er, rfl, hs⟩
      · rw [if_neg e] at h1 h2
        exact srr j r2 s2 h1 h2
    · unfold S22_l2_k4
      simp -implicitDefEqProofs (maxSteps := 2000000) (disch := first | with_reducible exact Nat.ne_of_beq_eq_false rfl | exact oneCell_int | exact oneCell_bool | omega | rfl | (simp; done) | fail) only [upd_ne, g7, thenK_normal, opH_sv, bin_add, wrap_in]
      exact HX (S.length - (i + 1)) _ _ (by omega) ⟨i + 1, rfl, by omega, by simp -implicitDefEqProofs (maxSteps := 2000000) (disch := first | with_reducible exact Nat.ne_of_beq_eq_false rfl | exact oneCell_int | exact oneCell_bool | omega | rfl | (simp; done) | fail) only [upd_ne, g0], by simp -implicitDefEqProofs (maxSteps := 2000000) (disch := first | with_reducible exact Nat.ne_of_beq_eq_false rfl | exact oneCell_int | exact oneCell_bool | omega | rfl | (simp; done) | fail) only [upd_ne, g2], by simp -implicitDefEqProofs (maxSteps := 2000000) (disch := first | with_reducible exact Nat.ne_of_beq_eq_false rfl | exact oneCell_int | exact oneCell_bool | omega | rfl | (simp; done) | fail) only [upd_ne, g4], by simp -implicitDefEqProofs (maxSteps := 2000000) (disch := first | with_reducible exact Nat.ne_of_beq_eq_false rfl | exact oneCell_int | exact oneCell_bool | omega | rfl | (simp; done) | fail) only [upd_eq] <;> rfl, rfl, by rw [any_step hs', hn, hbq]; rfl⟩
  · obtain rfl : i = S.length := by omega
    rw [List.take_of_length_le (Nat.le_refl _)] at hn
    try simp -implicitDefEqProofs (maxSteps := 2000000) (disch := first | with_reducible exact Nat.ne_of_beq_eq_false rfl | exact oneCell_int | exact oneCell_bool | omega | rfl | (simp; done) | fail) only [opH_sv, opH_su, pureW_sv, opH_nil, pureW_nil, pick_t, pick_f, pick_tp, pick_fp, gd_tt, gd_ft, gd_tf, gd_ff, box_new, regs0, regs1, regs2, regs3, regs4, regs5, regs6, cells_agg, cells_int, cells_bool, cells_ptr, cells_slice, cells_string, cells_func, cells_nilFunc, cells_map, retK_ret, retK_normal, resL_tmp, resL_cell, resL_nil0, resL_nil1, resL_nil2, resL_nil3, resC_ptr, ex0, ex1, ex2, ex0p, ex1p, ex2p, HL.cond_true, HL.cond_false, thenK_normal, thenK_ret, thenK_exit, blockK_normal, blockK_ret, blockK_exit, scopeK_normal, scopeK_ret, scopeK_exit, wpH_pure, bin_add, bin_sub, bin_mul, bin_lss, bin_leq, bin_gtr, bin_geq, bin_quo, bin_rem, bin_quop, bin_remp, wrap_in, bin_addp, bin_subp, bin_mulp, bin_lssp, bin_leqp, bin_gtrp, bin_geqp, un_not, un_notp, un_neg, eq_int, ne_int, eq_intp, ne_intp, callV_fn, add_mk, upd_eq, upd_ne, cell_set_self, Nat.zero_add, Nat.add_zero, Option.some.injEq, exists_eq_left', List.getElem?_cons_succ, List.getElem?_cons_zero, true_and, and_true, bne_self_eq_false, beq_self_eq_true, Bool.not_true, Bool.not_false, Bool.and_true, Bool.and_self, Bool.and_false, Bool.true_and, List.length_cons, List.length_nil, ne_eq, not_false_eq_true, Nat.reduceAdd, Nat.reduceMul, if_true, if_false, oneCell_int, oneCell_bool, oneCell_ptr, oneCell_slice, oneCell_string, oneCell_func, oneCell_map, Int.toNat_natCast, List.set_cons_zero, List.set_cons_succ, Nat.lt_irrefl, Nat.zero_lt_succ, Nat.succ_lt_succ_iff, fa26_0, fa26_0p, fa26_1, fa26_1p, fa26_10, fa26_10p, fa26_11, fa26_11p, fa26_12, fa26_12p, fa26_13, fa26_13p, fa26_14, fa26_14p, fa26_15, fa26_15p, fa26_2, fa26_2p, fa26_3, fa26_3p, fa26_4, fa26_4p, fa26_5, fa26_5p, fa26_6, fa26_6p, fa26_7, fa26_7p, fa26_8, fa26_8p, fa26_9, fa26_9p, fa28_0, fa28_0p, fa28_1, fa28_1p, fa45_0, fa45_0p, fa45_1, fa45_1p, fa45_2, fa45_2p, fa45_3, fa45_3p, fa45_4, fa45_4p, fa45_5, fa45_5p, fa45_6, fa45_6p, fa49_0, fa49_0p, fa49_1, fa49_1p, fa74_0, fa74_0p, fa74_1, fa74_1p, fa74_2, fa74_2p, fa74_3, fa74_3p, fa85_0, fa85_0p, fa85_1, fa85_1p, fa93_0, fa93_0p, fa93_1, fa93_1p, fa93_2, fa93_2p, ld3, ld3p, ld4, ld4p, ld22, ld22p, ld23, ld23p, ld24, ld24p, ld26, ld26p, ld28, ld28p, ld42, ld42p, ld45, ld45p, ld49, ld49p, ld58, ld58p, ld69, ld69p, ld72, ld72p, ld85, ld85p, st3s, st4s, st22s, st23s, st24s, st26w, st28w, st42s, st45w, st49w, st85w, ix22, ix22p, ix23, ix23p, ix24, ix24p, ix31, ix31p, ix42, ix42p, ix104, ix104p, ln22, ln22p, ln23, ln23p, ln24, ln24p, ln31, ln31p, ln42, ln42p, al4, al22, al26, al28, al42, al49, al85, cf10, cf11, cf12, cf13, cf14, cf15, cf16, cf17, cf18, cf19, cf20, cf21, cf22, cf23, cf24, cf25, cf26, cf27, cf28, cf29, cf30, cf31, cf32, cf33, cf34, cf35, cf36, cf37, cf38, cf39, cf40, cf41, cf42, cf43, cf44, cf45, cf46, cf47, cf48, cf49, cf50, cf51, cf52, cf53, cf54, cf55, cf56, cf57, cf58, cf59, cf60, cf61, cf62, cf63, cf64, cf65, cf66, cf67, cf68, cf69, cf70, cf71, cf72, cf73, cf74, cf75, bd26_0_1_2_7_8_9_10_11_12_13_14_4_15, bd26_0_1_2_7_8_9_10_11_12_13_14_4_15p, bd28_, bd28_p, bd28_0, bd28_0p, bd28_0_1, bd28_0_1p, bd45_1_3_4_5_6, bd45_1_3_4_5_6p, bd49_0_1, bd49_0_1p, bd49_1, bd49_1p, bd74_0_1_2_3, bd74_0_1_2_3p, bd85_0, bd85_0p, bd85_0_1, bd85_0_1p, bd93_0_1_2, bd93_0_1_2p, bd94_0_1_2_3, bd94_0_1_2_3p, bs42_1_0, bs22_1_0, bs24_1_0, bs42_3_0_1_2, bs31_1_0, bs22_2_0_1, bs42_6_0_1_2_3_4_5, bs42_0_, eq4, eq4p, eq28, eq28p, eq42n, eq42np, eq42s, eq42sp, eq58n, eq58np, eq58s, eq58sp, eq63n, eq63np, eq63s, eq63sp, ne28, ne28p, ne45, ne45p]
    unfold S22_k1
    rw [← hKK]
    try simp -implicitDefEqProofs (maxSteps := 2000000) (disch := first | with_reducible exact Nat.ne_of_beq_eq_false rfl | exact oneCell_int | exact oneCell_bool | omega | rfl | (simp; done) | fail) only [upd_ne, g4, g2, g0, retK_ret, resL_tmp, upd_eq, resL_nil1, opH_sv, ld28, add_mk, Nat.add_zero, cx, List.getElem?_cons_zero, Option.some.injEq, Nat.zero_add, List.getElem?_cons_succ, bd49_0_1, bs24_1_0, exists_eq_left']
    intro y hy gy
    have s6 := sp2.past (o := .cells #[.int .i64 c.1, .int .i64 c.2, .slice ua b.length uc] 49 (0, 0)) hy
    have d6 := d2.set (o := .cells #[.int .i64 c.1, .int .i64 c.2, .slice ua b.length uc] 49 (0, 0)) gy
    have b6 : (Hp.set h3 y (.cells #[.int .i64 c.1, .int .i64 c.2, .slice ua b.length uc] 49 (0, 0))) y = some (.cells #[.int .i64 c.1, .int .i64 c.2, .slice ua b.length uc] 49 (0, 0)) := set_self
    generalize Hp.set h3 y _ = h6 at s6 d6 b6 ⊢
    refine append_big rawC (by decide) un24 eoraw (by decide) (M := [⟨c.1, c.2, ua, b.length, uc⟩]) s6 d6 ow (Sees.row (c := rawC) (L := [⟨c.1, c.2, ua, b.length, uc⟩]) b6 rfl (Nat.le_refl _)) (by rw [hrl, List.length_singleton]; omega) fun v7 pr7 h7 o7 s7 d7 => ?_
    rw [setB_new hn]
    refine ⟨pr7, ⟨_, o7, by simp [hrl], fun j r2 s2 h1 h2 => ?_⟩, s7, d7⟩
    by_cases hj : j < S.length
    · rw [List.getElem?_append_left (by omega)] at h1 h2
      exact srr j r2 s2 h1 h2
    · rw [List.getElem?_append_right (by omega)] at h1 h2
      rw [hrl] at h1
      generalize j - S.length = jj at h1 h2
      cases jj with
      | zero =>
        simp at h1 h2
        subst h1
        subst h2
        exact ⟨rfl, rfl, hs⟩
      | succ jj => simp at h1

end Go.Proofs.YtangejiigopdaaaDoor
end

section
/- DigDone: the walk. -/
set_option linter.unusedSimpArgs false
set_option linter.unusedVariables false
set_option maxRecDepth 100000
namespace Go.Proofs.YtangejiigopdaaaDoor
open Go Go.HL

theorem step_len {N : List Stk} {j : Job} : (stepN N j).length ≤ N.length + 2 := by
  unfold stepN
  have h1 : (takeN N j).length ≤ N.length + 1 := setB_len
  split
  · omega
  · have := setB_len (c := tot_ j) (b := binsL (takeN N j) (tot_ j) ++ [j.bin]) (S := takeN N j)
    omega
theorem steps_len : ∀ {L : List Job} {N : List Stk}, (L.foldl stepN N).length ≤ N.length + 2 * L.length
  | [], N => by simp
  | j :: L, N => by
    have h1 := step_len (N := N) (j := j)
    have h2 := steps_len (L := L) (N := stepN N j)
    rw [List.foldl_cons, List.length_cons]
    omega
theorem bins_tot {c : Cell} : ∀ {S : List Stk}, (binsL S c).length ≤ tot S
  | [] => by simp [binsL]
  | s :: S => by
    have ih := bins_tot (c := c) (S := S)
    unfold tot at ih ⊢
    rw [binsL, List.map_cons, List.sum_cons]
    split <;> omega
theorem runs_tot {C : Conf} {bin : Int} {p : Cell} : ∀ {L : List Job} {N : List Stk} {i : Nat}, Runs C bin p N L → tot ((L.take i).foldl stepN N) ≤ tot N
  | [], N, i, _ => by simp
  | j :: L, N, 0, _ => by simp
  | j :: L, N, i + 1, h => by
    rw [List.take_succ_cons, List.foldl_cons]
    refine Nat.le_trans (runs_tot h.2) ?_
    by_cases hk : j.kind = 2
    · have := take_tot h.1.top
      unfold stepN
      rw [if_pos hk]
      omega
    · exact Nat.le_of_eq (step_tot hk h.1.top)
theorem st_few {C : Conf} (hm : MadeOk C) (sm : MayOk C) : C.st.length ≤ 1000 := by
  obtain ⟨e7, e8, _, w2, _, k2⟩ := within_wk hm.laid.w hm.laid.h
  have h1 := len_count (n := 1) (M := rstacksL C) (GL := C.st.map Prod.fst) (fun z hz => by
    obtain ⟨s, hs, rfl⟩ := List.mem_map.1 hz
    exact (mem_rstacks hm).2 (sm.bins.each s hs).1) (fun z => List.nodup_iff_count.1 hm.sta.apart z)
  have h2 := rstacks_len (C := C) (by omega) (by omega)
  rw [List.length_map] at h1
  omega

set_option maxHeartbeats 8000000 in
theorem done_loop {G : Hp} {C : Conf} {JL : List Job} {bin : Int} {p : Cell} {x y : Nat} {h6 : Hp} {vc : Value} {sj : Option Addr} {cj : Nat} (ab : Option Addr) (cb : Nat) (ap : Option Addr) (cp : Nat) (ar : Option Addr) (cr : Nat) (az : Option Addr) (cs : Nat)
    (hv : CV G h6 (confV C ab cb ap cp ar cr az cs) C) (lb : C.bl.length ≤ 100000000000000) (lp : C.po.length ≤ 100000000000000) (lr : C.ro.length ≤ 100000000000000)
    (bx : h6 x = some (.cells #[.int .i64 C.w, .int .i64 C.h, .int .i64 C.ht, .slice ab C.bl.length cb, .slice ap C.po.length cp, .slice ar C.ro.length cr, .slice az C.st.length cs, .int .i64 C.un, .int .i64 C.ac, .int .i64 C.sp, .int .i64 C.tu, .int .i64 C.ho, .int .i64 C.qu, .int .i64 C.re, .int .i64 C.bu, .bool C.back] 26 (0, 0)))
    (by6 : h6 y = some (cellO p)) (hj : Sees jobC G h6 (.slice sj JL.length cj) JL) (hjl : JL.length ≤ 17000) (h8 : C.ht ≤ 8) (runs : Runs C bin p C.st JL) (few : C.st.length ≤ 1000) (most : tot C.st ≤ 512) {K : Exit → Rg → Hp → Prop}
    (HK : ∀ (r : Rg) (h pr hb : Hp) (vN : Value), r 2 = .int .i64 bin → r 4 = .pointer (some ⟨x, 0, none⟩) → r 9 = .pointer (some ⟨y, 0, none⟩) → r 12 = vN → r 13 = .int .i64 (JL.countP fun j => j.kind == 2) → NowO G pr hb vN (JL.foldl stepN C.st) → HL.Sep [pr, hb, h6] h → Dis G h → K (.exit 0) r h)
    {r : Rg} {h pr hb : Hp} {vN : Value} (r2 : r 2 = .int .i64 bin) (r4 : r 4 = .pointer (some ⟨x, 0, none⟩)) (r9 : r 9 = .pointer (some ⟨y, 0, none⟩)) (r10 : r 10 = .slice sj JL.length cj) (r12 : r 12 = vN) (r13 : r 13 = .int .i64 0) (r14 : r 14 = .int .i64 0)
    (on : NowO G pr hb vN C.st) (sp : HL.Sep [pr, hb, h6] h) (d : Dis G h) : loopP (S4_l21 G) r h K := by
  refine loop_I (fun mm r h => ∃ (i : Nat) (pr hb : Hp) (vN : Value), mm = JL.length - i ∧ i ≤ JL.length ∧ r 2 = .int .i64 bin ∧ r 4 = .pointer (some ⟨x, 0, none⟩) ∧ r 9 = .pointer (some ⟨y, 0, none⟩) ∧ r 10 = .slice sj JL.length cj ∧ r 12 = vN ∧ r 13 = .int .i64 ((JL.take i).countP fun j => j.kind == 2) ∧ r 14 = .int .i64 i ∧
      NowO G pr hb vN ((JL.take i).foldl stepN C.st) ∧ HL.Sep [pr, hb, h6] h ∧ Dis G h) ?_
    (m := JL.length) ⟨0, pr, hb, vN, rfl, Nat.zero_le _, r2, r4, r9, r10, r12, r13, r14, on, sp, d⟩
  clear r2 r4 r9 r10 r12 r13 r14 on sp d
  rintro mm r h ⟨i, pr, hb, vN, rfl, hi, q2, q4, q9, q10, q12, q13, q14, on, sp, d⟩ X HX
  unfold S4_l21
  simp -implicitDefEqProofs (maxSteps := 2000000) (disch := first | with_reducible exact Nat.ne_of_beq_eq_false rfl | exact oneCell_int | exact oneCell_bool | omega | rfl | (simp; done) | fail) only [q10, q14, thenK_exit, opH_sv, ln31, bin_lss]
  refine cond_dec (fun hlt => ?_) (fun hge => ?_)
  rotate_left
  · obtain rfl : i = JL.length := by omega
    rw [List.take_of_length_le (Nat.le_refl _)] at q13 on
    try simp -implicitDefEqProofs (maxSteps := 2000000) (disch := first | with_reducible exact Nat.ne_of_beq_eq_false rfl | exact oneCell_int | exact oneCell_bool | omega | rfl | (simp; done) | fail) only [opH_sv, opH_su, pureW_sv, opH_nil, pureW_nil, pick_t, pick_f, pick_tp, pick_fp, gd_tt, gd_ft, gd_tf, gd_ff, box_new, regs0, regs1, regs2, regs3, regs4, regs5, regs6, cells_agg, cells_int, cells_bool, cells_ptr, cells_slice, cells_string, cells_func, cells_nilFunc, cells_map, retK_ret, retK_normal, resL_tmp, resL_cell, resL_nil0, resL_nil1, resL_nil2, resL_nil3, resC_ptr, ex0, ex1, ex2, ex0p, ex1p, ex2p, HL.cond_true, HL.cond_false, thenK_normal, thenK_ret, thenK_exit, blockK_normal, blockK_ret, blockK_exit, scopeK_normal, scopeK_ret, scopeK_exit, wpH_pure, bin_add, bin_sub, bin_mul, bin_lss, bin_leq, bin_gtr, bin_geq, bin_quo, bin_rem, bin_quop, bin_remp, wrap_in, bin_addp, bin_subp, bin_mulp, bin_lssp, bin_leqp, bin_gtrp, bin_geqp, un_not, un_notp, un_neg, eq_int, ne_int, eq_intp, ne_intp, callV_fn, add_mk, upd_eq, upd_ne, cell_set_self, Nat.zero_add, Nat.add_zero, Option.some.injEq, exists_eq_left', List.getElem?_cons_succ, List.getElem?_cons_zero, true_and, and_true, bne_self_eq_false, beq_self_eq_true, Bool.not_true, Bool.not_false, Bool.and_true, Bool.and_self, Bool.and_false, Bool.true_and, List.length_cons, List.length_nil, ne_eq, not_false_eq_true, Nat.reduceAdd, Nat.reduceMul, if_true, if_false, oneCell_int, oneCell_bool, oneCell_ptr, oneCell_slice, oneCell_string, oneCell_func, oneCell_map, Int.toNat_natCast, List.set_cons_zero, List.set_cons_succ, Nat.lt_irrefl, Nat.zero_lt_succ, Nat.succ_lt_succ_iff, fa26_0, fa26_0p, fa26_1, fa26_1p, fa26_10, fa26_10p, fa26_11, fa26_11p, fa26_12, fa26_12p, fa26_13, fa26_13p, fa26_14, fa26_14p, fa26_15, fa26_15p, fa26_2, fa26_2p, fa26_3, fa26_3p, fa26_4, fa26_4p, fa26_5, fa26_5p, fa26_6, fa26_6p, fa26_7, fa26_7p, fa26_8, fa26_8p, fa26_9, fa26_9p, fa28_0, fa28_0p, fa28_1, fa28_1p, fa45_0, fa45_0p, fa45_1, fa45_1p, fa45_2, fa45_2p, fa45_3, fa45_3p, fa45_4, fa45_4p, fa45_5, fa45_5p, fa45_6, fa45_6p, fa49_0, fa49_0p, fa49_1, fa49_1p, fa74_0, fa74_0p, fa74_1, fa74_1p, fa74_2, fa74_2p, fa74_3, fa74_3p, fa85_0, fa85_0p, fa85_1, fa85_1p, fa93_0, fa93_0p, fa93_1, fa93_1p, fa93_2, fa93_2p, ld3, ld3p, ld4, ld4p, ld22, ld22p, ld23, ld23p, ld24, ld24p, ld26, ld26p, ld28, ld28p, ld42, ld42p, ld45, ld45p, ld49, ld49p, ld58, ld58p, ld69, ld69p, ld72, ld72p, ld85, ld85p, st3s, st4s, st22s, st23s, st24s, st26w, st28w, st42s, st45w, st49w, st85w, ix22, ix22p, ix23, ix23p, ix24, ix24p, ix31, ix31p, ix42, ix42p, ix104, ix104p, ln22, ln22p, ln23, ln23p, ln24, ln24p, ln31, ln31p, ln42, ln42p, al4, al22, al26, al28, al42, al49, al85, cf10, cf11, cf12, cf13, cf14, cf15, cf16, cf17, cf18, cf19, cf20, cf21, cf22, cf23, cf24, cf25, cf26, cf27, cf28, cf29, cf30, cf31, cf32, cf33, cf34, cf35, cf36, cf37, cf38, cf39, cf40, cf41, cf42, cf43, cf44, cf45, cf46, cf47, cf48, cf49, cf50, cf51, cf52, cf53, cf54, cf55, cf56, cf57, cf58, cf59, cf60, cf61, cf62, cf63, cf64, cf65, cf66, cf67, cf68, cf69, cf70, cf71, cf72, cf73, cf74, cf75, bd26_0_1_2_7_8_9_10_11_12_13_14_4_15, bd26_0_1_2_7_8_9_10_11_12_13_14_4_15p, bd28_, bd28_p, bd28_0, bd28_0p, bd28_0_1, bd28_0_1p, bd45_1_3_4_5_6, bd45_1_3_4_5_6p, bd49_0_1, bd49_0_1p, bd49_1, bd49_1p, bd74_0_1_2_3, bd74_0_1_2_3p, bd85_0, bd85_0p, bd85_0_1, bd85_0_1p, bd93_0_1_2, bd93_0_1_2p, bd94_0_1_2_3, bd94_0_1_2_3p, bs42_1_0, bs22_1_0, bs24_1_0, bs42_3_0_1_2, bs31_1_0, bs22_2_0_1, bs42_6_0_1_2_3_4_5, bs42_0_, eq4, eq4p, eq28, eq28p, eq42n, eq42np, eq42s, eq42sp, eq58n, eq58np, eq58s, eq58sp, eq63n, eq63np, eq63s, eq63sp, ne28, ne28p, ne45, ne45p]
    exact HK _ h pr hb vN (by simp -implicitDefEqProofs (maxSteps := 2000000) (disch := first | with_reducible exact Nat.ne_of_beq_eq_false rfl | exact oneCell_int | exact oneCell_bool | omega | rfl | (simp; done) | fail) only [upd_ne, q2]) (by simp -implicitDefEqProofs (maxSteps := 2000000) (disch := first | with_reducible exact Nat.ne_of_beq_eq_false rfl | exact oneCell_int | exact oneCell_bool | omega | rfl | (simp; done) | fail) only [upd_ne, q4]) (by simp -implicitDefEqProofs (maxSteps := 2000000) (disch := first | with_reducible exact Nat.ne_of_beq_eq_false rfl | exact oneCell_int | exact oneCell_bool | omega | rfl | (simp; done) | fail) only [upd_ne, q9]) (by simp -implicitDefEqProofs (maxSteps := 2000000) (disch := first | with_reducible exact Nat.ne_of_beq_eq_false rfl | exact oneCell_int | exact oneCell_bool | omega | rfl | (simp; done) | fail) only [upd_ne, q12]) (by simp -implicitDefEqProofs (maxSteps := 2000000) (disch := first | with_reducible exact Nat.ne_of_beq_eq_false rfl | exact oneCell_int | exact oneCell_bool | omega | rfl | (simp; done) | fail) only [upd_ne, q13]) on sp d
  have hlt' : i < JL.length := by omega
  obtain ⟨j, hji⟩ : ∃ j, JL[i]? = some j := ⟨_, List.getElem?_eq_getElem hlt'⟩
  have ok := runs_get runs hji
  have hNl : ((JL.take i).foldl stepN C.st).length ≤ 36000 := by
    have := steps_len (L := JL.take i) (N := C.st)
    rw [List.length_take] at this
    omega
  have hnext : (JL.take (i + 1)).foldl stepN C.st = stepN ((JL.take i).foldl stepN C.st) j := by
    rw [List.take_add_one, hji, List.foldl_append]; rfl
  have hcnext : ((JL.take (i + 1)).countP fun j => j.kind == 2) = ((JL.take i).countP fun j => j.kind == 2) + (if j.kind == 2 then 1 else 0) := by
    rw [List.take_add_one, hji, List.countP_append]
    simp [List.countP_cons]
  have hNt : tot ((JL.take i).foldl stepN C.st) ≤ 512 := Nat.le_trans (runs_tot runs) most
  have hcl : ((JL.take i).countP fun j => j.kind == 2) ≤ 17000 := by
    have := List.countP_le_length (p := fun j : Job => j.kind == 2) (l := JL.take i)
    rw [List.length_take] at this
    omega
  generalize (JL.take i).foldl stepN C.st = N at ok hNl hNt hnext on
  generalize hcc : ((JL.take i).countP fun j => j.kind == 2) = cc at hcnext hcl q13
  obtain ⟨top, ⟨jr, jid, jor⟩, jf, jg⟩ := ok
  obtain ⟨b, o, cc2, e1, e2⟩ := (hj.up (sp.in 2 rfl) d).get hji
  simp only [Value.slice.injEq] at e1
  obtain ⟨rfl, -, -⟩ := e1
  have x0 := e2 0 (by decide)
  have x1 := e2 1 (by decide)
  have x2 := e2 2 (by decide)
  have x3 := e2 3 (by decide)
  have x4 := e2 4 (by decide)
  have x5 := e2 5 (by decide)
  have x6 := e2 6 (by decide)
  have x7 := e2 7 (by decide)
  have x8 := e2 8 (by decide)
  simp only [jobC, jobL, Nat.add_zero, List.getElem?_cons_zero, List.getElem?_cons_succ] at x0 x1 x2 x3 x4 x5 x6 x7 x8
  unfold S4_l21_k22
  try simp -implicitDefEqProofs (maxSteps := 2000000) (disch := first | with_reducible exact Nat.ne_of_beq_eq_false rfl | exact oneCell_int | exact oneCell_bool | omega | rfl | (simp; done) | fail) only [upd_ne, q10, q14, q12, thenK_ret, pureW_sv, cf21, opH_sv, ix31 (Int.natCast_nonneg i) hlt, Int.toNat_natCast, add_mk, fa45_4, ld28, Nat.add_zero, x4, Option.some.injEq, x5, exists_eq_left']
  refine (bins_now (c := frm j) on sp (by omega)).mono ?_
  rintro _ h ⟨⟨a, cap, rfl, icb⟩, rfl⟩
  have hne : binsL N (frm j) ≠ [] := fun e => by rw [e] at top; cases top
  have hpos := List.length_pos_iff.2 hne
  have hB512 : (binsL N (frm j)).length ≤ 512 := Nat.le_trans bins_tot hNt
  have htk : takeN N j = setB N (frm j) (binsL N (frm j)).dropLast := rfl
  generalize hB : binsL N (frm j) = B at top icb hne hpos hB512 htk ⊢
  obtain ⟨n1, hn1⟩ : ∃ n1, B.length = n1 + 1 := ⟨B.length - 1, by omega⟩
  have hlast : B[n1]? = some j.bin := by rw [← top, List.getLast?_eq_getElem?, hn1]; rfl
  have icb' := icb.up (sp.in 1 rfl) d
  obtain ⟨bb, oo, c3, e3, e4⟩ := icb'.1.get hlast
  simp only [Value.slice.injEq] at e3
  obtain ⟨rfl, -, -⟩ := e3
  have y0 := e4 0 (by decide)
  simp only [icC, Nat.add_zero, List.getElem?_cons_zero] at y0
  rw [hn1] at icb icb' ⊢
  have h0 : (((n1 + 1 : Nat) : Int) == 0) = false := by rw [beq_eq_false_iff_ne]; omega
  have ew : ((n1 + 1 : Nat) : Int) - 1 = (n1 : Int) := by omega
  have hlt3 : (n1 : Int) < ((n1 + 1 : Nat) : Int) := by omega
  try simp -implicitDefEqProofs (maxSteps := 2000000) (disch := first | with_reducible exact Nat.ne_of_beq_eq_false rfl | exact oneCell_int | exact oneCell_bool | omega | rfl | (simp; done) | fail) only [ln42p, eq_intp, h0, pick_fp, gd_ff, pureW_sv, ix31p (Int.natCast_nonneg i) hlt, Int.toNat_natCast, add_mk, fa45_3p, ld3p, x3, Option.some.injEq, exists_eq_left', bin_subp, ew, wrap_in, ix42p (Int.natCast_nonneg n1) hlt3, y0, ne_intp, bne_self_eq_false, fa45_6p, x8, jr, fa45_0p, Nat.add_zero, x0, jid, fa45_2p, x2, jor, HL.cond_false]
  unfold S4_l21_k24
  have hcap : n1 + 1 ≤ cap := by
    obtain ⟨s0, c0, e0, hc0, _⟩ := icb.1
    simp only [Value.slice.injEq] at e0
    obtain ⟨-, -, rfl⟩ := e0
    omega
  have hcap1 : (n1 : Int) ≤ (cap : Int) := by omega
  have htl : (B.take n1).length = n1 := by rw [List.length_take]; omega
  have icD : IcS G hb (.slice (some ⟨bb, oo, none⟩) n1 n1) (B.take n1) := by
    exact IcS.cut (cap := cap) (by rw [hn1]; exact icb) (by omega)
  try simp -implicitDefEqProofs (maxSteps := 2000000) (disch := first | with_reducible exact Nat.ne_of_beq_eq_false rfl | exact oneCell_int | exact oneCell_bool | omega | rfl | (simp; done) | fail) only [upd_ne, q10, q14, upd_eq, q12, thenK_ret, pureW_sv, ix31p (Int.natCast_nonneg i) hlt, Int.toNat_natCast, add_mk, fa45_3p, ld3p, opH_sv, ix31 (Int.natCast_nonneg i) hlt, fa45_1, ld3, cf22, ln42p, bin_subp, ew, wrap_in, slice3 un42 sz3 (Int.natCast_nonneg n1) hcap1, fa45_4p, ld28p, Nat.add_zero, x4, Option.some.injEq, x5, exists_eq_left']
  have hput := put_spec (v := vN) (u := .slice (some ⟨bb, oo, none⟩) n1 n1) (c := frm j) (b := B.take n1) (ua := some ⟨bb, oo, none⟩) (uc := n1) on sp (by rw [htl]) icD (Nat.le_trans hNl (by decide))
  refine hput.mono ?_
  rintro v1 h1 ⟨pr1, on1, sp1, d1⟩
  have eN1 : setB N (frm j) (B.take n1) = takeN N j := by rw [htk, List.dropLast_eq_take, hn1]; rfl
  rw [eN1] at on1
  have l61 : h6.le h1 := sp1.in 2 rfl
  obtain ⟨b', o', cc3, e1', e2'⟩ := (hj.up l61 d1).get hji
  simp only [Value.slice.injEq, Option.some.injEq, Addr.mk.injEq, and_true] at e1'
  obtain ⟨⟨rfl, rfl⟩, -⟩ := e1'
  have z1 := e2' 1 (by decide)
  have z3 := e2' 3 (by decide)
  have z6 := e2' 6 (by decide)
  have z7 := e2' 7 (by decide)
  simp only [jobC, jobL, Nat.add_zero, List.getElem?_cons_zero, List.getElem?_cons_succ] at z1 z3 z6 z7
  have cx1 : ∀ j, cellIn G h1 ⟨x, j, none⟩ = _ := fun j => cell_of (look_own (l61 _ _ bx))
  have cy1 : ∀ j, cellIn G h1 ⟨y, j, none⟩ = _ := fun j => cell_of (look_own (l61 _ _ by6))
  by_cases hk2 : j.kind = 2
  · obtain ⟨jb, jt⟩ := jf hk2
    have jt1 : j.tx = p.1 := congrArg Prod.fst jt
    have jt2 : j.ty = p.2 := congrArg Prod.snd jt
    rw [if_pos (by rw [hk2]; rfl)] at hcnext
    have eN : stepN N j = takeN N j := by unfold stepN; rw [if_pos hk2]
    try simp -implicitDefEqProofs (maxSteps := 2000000) (disch := first | with_reducible exact Nat.ne_of_beq_eq_false rfl | exact oneCell_int | exact oneCell_bool | omega | rfl | (simp; done) | fail) only [z1, hk2, Option.some.injEq, q13, q2, q9, jb, bin_add, wrap_in, exists_eq_left', eq_int, beq_self_eq_true, z3, ne_intp, bne_self_eq_false, pick_fp, gd_ff, pureW_sv, ld28p, add_mk, Nat.add_zero, cy1, List.getElem?_cons_zero, Nat.zero_add, List.getElem?_cons_succ, ix31p (Int.natCast_nonneg i) hlt, Int.toNat_natCast, fa45_5p, z6, jt1, z7, jt2, ne28p, Bool.and_self, Bool.not_true, HL.cond_false, HL.cond_true]
    unfold S4_l21_k27 S4_l21_k23
    try simp -implicitDefEqProofs (maxSteps := 2000000) (disch := first | with_reducible exact Nat.ne_of_beq_eq_false rfl | exact oneCell_int | exact oneCell_bool | omega | rfl | (simp; done) | fail) only [upd_ne, q14, thenK_normal, opH_sv, bin_add, wrap_in]
    exact HX (JL.length - (i + 1)) _ _ (by omega) ⟨i + 1, pr1, hb, v1, rfl, hlt', by simp -implicitDefEqProofs (maxSteps := 2000000) (disch := first | with_reducible exact Nat.ne_of_beq_eq_false rfl | exact oneCell_int | exact oneCell_bool | omega | rfl | (simp; done) | fail) only [upd_ne, q2], by simp -implicitDefEqProofs (maxSteps := 2000000) (disch := first | with_reducible exact Nat.ne_of_beq_eq_false rfl | exact oneCell_int | exact oneCell_bool | omega | rfl | (simp; done) | fail) only [upd_ne, q4], by simp -implicitDefEqProofs (maxSteps := 2000000) (disch := first | with_reducible exact Nat.ne_of_beq_eq_false rfl | exact oneCell_int | exact oneCell_bool | omega | rfl | (simp; done) | fail) only [upd_ne, q9], by simp -implicitDefEqProofs (maxSteps := 2000000) (disch := first | with_reducible exact Nat.ne_of_beq_eq_false rfl | exact oneCell_int | exact oneCell_bool | omega | rfl | (simp; done) | fail) only [upd_ne, q10], by simp -implicitDefEqProofs (maxSteps := 2000000) (disch := first | with_reducible exact Nat.ne_of_beq_eq_false rfl | exact oneCell_int | exact oneCell_bool | omega | rfl | (simp; done) | fail) only [upd_ne, upd_eq], by simp -implicitDefEqProofs (maxSteps := 2000000) (disch := first | with_reducible exact Nat.ne_of_beq_eq_false rfl | exact oneCell_int | exact oneCell_bool | omega | rfl | (simp; done) | fail) only [upd_ne, upd_eq] <;> (rw [hcnext]; rfl), by simp -implicitDefEqProofs (maxSteps := 2000000) (disch := first | with_reducible exact Nat.ne_of_beq_eq_false rfl | exact oneCell_int | exact oneCell_bool | omega | rfl | (simp; done) | fail) only [upd_eq] <;> rfl, by rw [hnext, eN]; exact on1, sp1, d1⟩
  · have hk2' : (j.kind == 2) = false := by rw [beq_eq_false_iff_ne]; exact hk2
    obtain ⟨sj2, room⟩ := jg hk2
    rw [if_neg (by rw [hk2']; decide)] at hcnext
    try simp -implicitDefEqProofs (maxSteps := 2000000) (disch := first | with_reducible exact Nat.ne_of_beq_eq_false rfl | exact oneCell_int | exact oneCell_bool | omega | rfl | (simp; done) | fail) only [z1, Option.some.injEq, exists_eq_left', eq_int, hk2', HL.cond_false]
    unfold S4_l21_k25
    try simp -implicitDefEqProofs (maxSteps := 2000000) (disch := first | with_reducible exact Nat.ne_of_beq_eq_false rfl | exact oneCell_int | exact oneCell_bool | omega | rfl | (simp; done) | fail) only [upd_ne, q10, q14, upd_eq, thenK_ret, pureW_sv, cf23, ix31p (Int.natCast_nonneg i) hlt, Int.toNat_natCast, add_mk, fa45_5p, ld28p, Nat.add_zero, cf21, opH_sv, ix31 (Int.natCast_nonneg i) hlt, fa45_5, ld28, z6, Option.some.injEq, z7, exists_eq_left']
    have hN1 : (takeN N j).length ≤ 37000 := by
      have : (takeN N j).length ≤ N.length + 1 := setB_len
      omega
    refine (bins_now (c := tot_ j) on1 sp1 (Nat.le_trans hN1 (by decide))).mono ?_
    rintro _ h1 ⟨⟨a2, cap2, rfl, ic2⟩, rfl⟩
    try simp -implicitDefEqProofs (maxSteps := 2000000) (disch := first | with_reducible exact Nat.ne_of_beq_eq_false rfl | exact oneCell_int | exact oneCell_bool | omega | rfl | (simp; done) | fail) only [q4, z6, Option.some.injEq, z7, exists_eq_left', ld26p, add_mk, Nat.add_zero, cx1, List.getElem?_cons_zero, Nat.zero_add, List.getElem?_cons_succ]
    refine (rstacked_spec (c := tot_ j) (hv.up l61 d1) lb lp lr).mono ?_
    rintro _ h1 ⟨rfl, rfl⟩
    rw [sj2]
    have hT : stepN N j = setB (takeN N j) (tot_ j) (binsL (takeN N j) (tot_ j) ++ [j.bin]) := by unfold stepN; rw [if_neg hk2]
    generalize binsL (takeN N j) (tot_ j) = T at ic2 room hT ⊢
    have hge : ¬ (((T.length : Nat) : Int) ≥ C.ht) := by omega
    try simp -implicitDefEqProofs (maxSteps := 2000000) (disch := first | with_reducible exact Nat.ne_of_beq_eq_false rfl | exact oneCell_int | exact oneCell_bool | omega | rfl | (simp; done) | fail) only [un_notp, Bool.not_true, pick_fp, gd_ff, pureW_sv, fa26_2p, add_mk, Nat.zero_add, ld3p, cx1, List.getElem?_cons_succ, List.getElem?_cons_zero, Option.some.injEq, exists_eq_left', ln42p, bin_geqp, decide_eq_false hge, HL.cond_false]
    unfold S4_l21_k26
    have hc2 : T.length ≤ cap2 := by
      obtain ⟨s0, c0, e0, hc0, _⟩ := ic2.1
      simp only [Value.slice.injEq] at e0
      obtain ⟨-, -, rfl⟩ := e0
      omega
    have hc2' : ((T.length : Nat) : Int) ≤ (cap2 : Int) := by omega
    try simp -implicitDefEqProofs (maxSteps := 2000000) (disch := first | with_reducible exact Nat.ne_of_beq_eq_false rfl | exact oneCell_int | exact oneCell_bool | omega | rfl | (simp; done) | fail) only [upd_ne, q10, q14, upd_eq, cf22, opH_sv, pureW_sv, ix31p (Int.natCast_nonneg i) hlt, Int.toNat_natCast, add_mk, fa45_3p, ld3p, z3, Option.some.injEq, exists_eq_left', bs42_1_0, ln42p, slice3 un42 sz3 (Int.natCast_nonneg T.length) hc2', fa45_5p, ld28p, Nat.add_zero, z6, z7]
    intro w hw gw
    have sp2 := sp1.past (o := .cells #[.int .i64 j.bin] 3 (0, 0)) hw
    obtain ⟨lw, d2, bw⟩ := boxed rfl hw d1 gw (o := .cells #[.int .i64 j.bin] 3 (0, 0))
    generalize Hp.set h1 w _ = h2 at sp2 lw d2 bw ⊢
    have icT : IcS G h2 (.slice a2 T.length T.length) T := by
      have := IcS.cut (k := T.length) ic2 (Nat.le_refl _)
      rw [List.take_of_length_le (Nat.le_refl _)] at this
      exact this.up (sp2.in 1 rfl) d2
    have sx : Src G h2 1 (.slice (some ⟨w, 0, none⟩) 1 1) 1 [.int .i64 j.bin] := ⟨rfl, .inr ⟨w, 0, 1, rfl, fun q hq => by
      obtain rfl : q = 0 := by simp at hq; omega
      exact cell_of (look_own bw)⟩⟩
    have T8 : T.length ≤ 8 := by omega
    refine append_grow2 un42 eoint (by decide) icT.2 sx (by omega) (by omega) fun rr cap' ts hr gr hle hts => ?_
    have sp3 := (sp2.swap.grow (o := .cells (icC.rows T ++ [Value.int .i64 j.bin] ++ ts).toArray 3 (0, 0)) hr).swap
    have d3 := d2.set (o := .cells (icC.rows T ++ [Value.int .i64 j.bin] ++ ts).toArray 3 (0, 0)) gr
    have l23 : h2.le (h2.set rr (.cells (icC.rows T ++ [Value.int .i64 j.bin] ++ ts).toArray 3 (0, 0))) := le_set hr
    have lhb : hb.le (hb.set rr (.cells (icC.rows T ++ [Value.int .i64 j.bin] ++ ts).toArray 3 (0, 0))) := le_set ((sp2.in 1 rfl).none hr)
    have ic3 : IcS G (hb.set rr (.cells (icC.rows T ++ [Value.int .i64 j.bin] ++ ts).toArray 3 (0, 0))) (.slice (some ⟨rr, 0, none⟩) (T.length + 1) cap') (T ++ [j.bin]) := by
      refine IcS.own (ip := hb.set rr (.cells (icC.rows T ++ [Value.int .i64 j.bin] ++ ts).toArray 3 (0, 0))) ⟨some rr, cap', ts, by rw [List.length_append, List.length_singleton], ?_, ?_⟩ (Hp.le.refl _)
      · rw [set_self, icC.rows_append, icC.rows_single]; rfl
      · rw [List.length_append, icC.rows_length, List.length_append, List.length_singleton, hts, show icC.n = 1 from rfl]; omega
    generalize hb.set rr _ = hb' at sp3 lhb ic3
    generalize Hp.set h2 rr _ = h3 at sp3 d3 l23 ⊢
    have dhb : Dis G hb' := fun q oq e => d3 _ _ (sp3.in 1 rfl _ _ e)
    have hput2 := put_spec (v := v1) (u := .slice (some ⟨rr, 0, none⟩) (T.length + 1) cap') (c := tot_ j) (b := T ++ [j.bin]) (ua := some ⟨rr, 0, none⟩) (uc := cap') (on1.up lhb dhb) sp3 (by rw [List.length_append, List.length_singleton]) ic3 (Nat.le_trans hN1 (by decide))
    refine ⟨lw.trans l23, ?_⟩
    refine hput2.mono ?_
    rintro v4 h4 ⟨pr4, on4, sp4, d4⟩
    rw [← hT] at on4
    unfold S4_l21_k23
    try simp -implicitDefEqProofs (maxSteps := 2000000) (disch := first | with_reducible exact Nat.ne_of_beq_eq_false rfl | exact oneCell_int | exact oneCell_bool | omega | rfl | (simp; done) | fail) only [upd_ne, q14, thenK_normal, opH_sv, bin_add, wrap_in]
    exact HX (JL.length - (i + 1)) _ _ (by omega) ⟨i + 1, pr4, hb', v4, rfl, hlt', by simp -implicitDefEqProofs (maxSteps := 2000000) (disch := first | with_reducible exact Nat.ne_of_beq_eq_false rfl | exact oneCell_int | exact oneCell_bool | omega | rfl | (simp; done) | fail) only [upd_ne, q2], by simp -implicitDefEqProofs (maxSteps := 2000000) (disch := first | with_reducible exact Nat.ne_of_beq_eq_false rfl | exact oneCell_int | exact oneCell_bool | omega | rfl | (simp; done) | fail) only [upd_ne, q4], by simp -implicitDefEqProofs (maxSteps := 2000000) (disch := first | with_reducible exact Nat.ne_of_beq_eq_false rfl | exact oneCell_int | exact oneCell_bool | omega | rfl | (simp; done) | fail) only [upd_ne, q9], by simp -implicitDefEqProofs (maxSteps := 2000000) (disch := first | with_reducible exact Nat.ne_of_beq_eq_false rfl | exact oneCell_int | exact oneCell_bool | omega | rfl | (simp; done) | fail) only [upd_ne, q10], by simp -implicitDefEqProofs (maxSteps := 2000000) (disch := first | with_reducible exact Nat.ne_of_beq_eq_false rfl | exact oneCell_int | exact oneCell_bool | omega | rfl | (simp; done) | fail) only [upd_ne, upd_eq], by simp -implicitDefEqProofs (maxSteps := 2000000) (disch := first | with_reducible exact Nat.ne_of_beq_eq_false rfl | exact oneCell_int | exact oneCell_bool | omega | rfl | (simp; done) | fail) only [upd_ne, q13] <;> (rw [hcnext]; rfl), by simp -implicitDefEqProofs (maxSteps := 2000000) (disch := first | with_reducible exact Nat.ne_of_beq_eq_false rfl | exact oneCell_int | exact oneCell_bool | omega | rfl | (simp; done) | fail) only [upd_eq] <;> rfl, by rw [hnext]; exact on4, sp4, d4⟩

end Go.Proofs.YtangejiigopdaaaDoor
end
