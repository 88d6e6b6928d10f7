/- Texts of the proof, one behind the other. -/
import Derived.Test.YtangejiigopdaaaDoorM5
import Derived.Test.YtangejiigopdaaaDoorM4
import Derived.Test.YtangejiigopdaaaDoorH3
section
/- The jobs: the walk. -/
set_option linter.unusedSimpArgs false
set_option linter.unusedVariables false
set_option maxRecDepth 100000
namespace Go.Proofs.YtangejiigopdaaaDoor
open Go Go.HL

theorem zip_step {F : Int → Cell → Job} {A : List Int} {GL : List Cell} {i : Nat} {b : Int} {z : Cell} (hA : A[i]? = some b) (hl : GL.length = i) : List.zipWith F (A.take (i + 1)) (GL ++ [z]) = List.zipWith F (A.take i) GL ++ [F b z] := by
  have hi := (List.getElem?_eq_some_iff.1 hA).1
  rw [List.take_add_one, hA]
  exact List.zipWith_append (by simp; omega)
theorem zip_len {F : Int → Cell → Job} {A : List Int} {GL : List Cell} : (List.zipWith F A GL).length ≤ GL.length := by
  rw [List.length_zipWith]
  exact Nat.min_le_right _ _
theorem above_len {B : List Int} {bin : Int} {n : Nat} (h : B.length ≤ n) : (aboveL B bin).length ≤ n := by
  unfold aboveL
  rw [List.length_reverse, List.length_drop]
  omega

def JobsPost (G h : Hp) (C : Conf) (S : List Stk) (TL : List Cell) (bin : Int) (port : Cell) (u : Value) (h' : Hp) : Prop := h.le h' ∧ Dis G h' ∧ ((MadeOk C ∧ ∃ io vv, u = .tuple #[vv, .int .i64 (jobsR C S TL bin port).2] ∧ Slc jobC 45 io vv (jobsR C S TL bin port).1 ∧ HL.Sep [io, h] h') ∨ (¬ MadeOk C ∧ u = .tuple #[.slice none 0 0, .int .i64 5]))

set_option maxHeartbeats 8000000 in
theorem jobs_spec {G h : Hp} {v sv tv : Value} {C : Conf} {S : List Stk} {TL : List Cell} {bin : Int} {port : Cell} (hv : CV G h v C) (hss : ∀ G' h', h.le h' → StS G' h' sv S) (htv : ∀ G' h', h.le h' → Sees cellC G' h' tv TL) (st : Steps G) (hp : ∀ p ∈ C.ro, PB p) (hsl : C.st.length ≤ 100000000000000) (hS : S.length ≤ 100000000000000) (hTL : TL.length ≤ 100000000000000) (hB : ∀ s ∈ S, s.2.length ≤ 17592186044320) :
    HCalls Tryd.prog G 12 #[v, sv, tv, .int .i64 bin, cellV port] h (JobsPost G h C S TL bin port) := by
  obtain ⟨ab, cb, ap, cp, ar, cr, az, cs, rfl, ca⟩ := hv
  obtain ⟨sa, sc, rfl, _⟩ := hss noHp h (Hp.le.refl h)
  obtain ⟨ta, tc, rfl⟩ := (htv noHp h (Hp.le.refl h)).len
  refine HCalls.assume fun d => enter12 (by simp) ?_
  unfold S12
  simp -implicitDefEqProofs only [regs0, regs4, regs1, regs2, retK_ret, resL_tmp, upd_ne, upd_eq, resL_nil2, opH_sv, cf33, box_new, cells_agg, ld26, add_mk, Nat.add_zero, Nat.zero_add]
  intro v0 hv0 gv0 v1 hv1 gv1
  generalize e1 : Hp.set h v0 _ = h1 at hv1 ⊢
  obtain ⟨l1, d1, b0⟩ := boxed e1 hv0 d gv0
  generalize e2 : Hp.set h1 v1 _ = h2
  obtain ⟨l2, d2, b1⟩ := boxed e2 hv1 d1 gv1
  have l02 := l1.trans l2
  have b0' := l2 _ _ b0
  have c0 : ∀ j, cellIn G h2 ⟨v0, j, none⟩ = _ := fun j => cell_of (look_own b0')
  try simp -implicitDefEqProofs only [c0, List.getElem?_cons_zero, Option.some.injEq, List.getElem?_cons_succ, exists_eq_left']
  refine (dlaid_spec (ca.up l02 d2).cv (hss G h2 l02) (htv G h2 l02) st hp hsl hS).mono ?_
  rintro _ h4 ⟨l4, d4, ⟨hm, ya, ga, yp, gp, kb, mb, is, rfl, s4, go, yo, his⟩ | ⟨hm, rfl⟩⟩
  rotate_left
  · try simp -implicitDefEqProofs only [ex1, ne_int, show ((5 : Int) != 0) = true from rfl, HL.cond_true, ex0]
    exact ⟨l02.trans l4, d4, .inr ⟨hm, rfl⟩⟩
  try simp -implicitDefEqProofs only [ex1, ne_int, bne_self_eq_false, HL.cond_false, ex0]
  unfold S12_k1
  have c1 : ∀ j, cellIn G h4 ⟨v1, j, none⟩ = _ := fun j => cell_of (look_own (l4 _ _ b1))
  have cyp : ∃ x17, ∀ (ya : Hp) (G h4 : Hp), True := ⟨0, fun _ _ _ => trivial⟩
  clear cyp
  obtain ⟨om, C', ab', cb', ap', cp', ar', cr', az', cs', ty, mi⟩ := id yo
  have cy : ∀ j, cellIn G h4 ⟨yp, j, none⟩ = _ := fun j => cell_of (look_own (s4.in 0 rfl _ _ (ty.at 0 rfl set_self)))
  try simp -implicitDefEqProofs (disch := first | with_reducible exact Nat.ne_of_beq_eq_false rfl | omega) only [upd_ne, upd_eq, retK_ret, resL_tmp, resL_nil2, pureW_sv, cf34, ld28p, add_mk, Nat.add_zero, c1, List.getElem?_cons_zero, Option.some.injEq, Nat.zero_add, List.getElem?_cons_succ, exists_eq_left', pureW_nil, fa74_1p, ld58p, cy]
  refine (port_spec (c := port) ((go.gs (G := G)).up (s4.in 1 rfl) d4) (fun x y => f3_bd hm x y)).mono ?_
  rintro _ h4 ⟨rfl, rfl⟩
  rw [port3_eq hm port]
  have ht8 : 1 ≤ C.ht ∧ C.ht ≤ 8 := by
    have := hm.ht
    unfold withinB at this
    simp at this
    exact this
  have w16 : wC C ≤ 16 := by have := hm.laid.w; unfold withinB at this; simp at this; unfold wC; omega
  have k16 : kC C ≤ 16 := by have := hm.laid.h; unfold withinB at this; simp at this; unfold kC; omega
  have hcl := rstacks_len w16 k16
  have fail : ∀ (n : Int) (hh : Hp), HL.Sep [h2] hh → Dis G hh → jobsR C S TL bin port = ([], n) → JobsPost G h C S TL bin port (.tuple #[.slice none 0 0, .int .i64 n]) hh := by
    intro n hh s dd e
    unfold JobsPost
    rw [e]
    exact ⟨l02.trans (s.in 0 rfl), dd, .inl ⟨hm, noHp, _, rfl, Slc.nil, (s.cut l02).none⟩⟩
  try simp -implicitDefEqProofs only [bin_lssp]
  refine cond_dec (fun hlt => ?_) (fun hge => ?_)
  · try simp -implicitDefEqProofs only [opH_sv, opH_su, pureW_sv, opH_nil, pureW_nil, pick_t, pick_f, pick_tp, pick_fp, gd_tt, gd_ft, gd_tf, gd_ff, box_new, regs0, regs1, regs2, regs3, regs4, regs5, regs6, cells_agg, cells_int, cells_bool, cells_ptr, cells_slice, cells_string, cells_func, cells_nilFunc, cells_map, retK_ret, retK_normal, resL_tmp, resL_cell, resL_nil0, resL_nil1, resL_nil2, resL_nil3, resC_ptr, ex0, ex1, ex2, ex0p, ex1p, ex2p, HL.cond_true, HL.cond_false, thenK_normal, thenK_ret, thenK_exit, blockK_normal, blockK_ret, blockK_exit, scopeK_normal, scopeK_ret, scopeK_exit, wpH_pure, bin_add, bin_sub, bin_mul, bin_lss, bin_leq, bin_gtr, bin_geq, bin_quo, bin_rem, bin_quop, bin_remp, wrap_in, bin_addp, bin_subp, bin_mulp, bin_lssp, bin_leqp, bin_gtrp, bin_geqp, un_not, un_notp, un_neg, eq_int, ne_int, eq_intp, ne_intp, callV_fn, add_mk, upd_eq, upd_ne, cell_set_self, Nat.zero_add, Nat.add_zero, Option.some.injEq, exists_eq_left', List.getElem?_cons_succ, List.getElem?_cons_zero, true_and, and_true, bne_self_eq_false, beq_self_eq_true, Bool.not_true, Bool.not_false, Bool.and_true, Bool.and_self, Bool.and_false, Bool.true_and, List.length_cons, List.length_nil, ne_eq, not_false_eq_true, Nat.reduceAdd, Nat.reduceMul, if_true, if_false, oneCell_int, oneCell_bool, oneCell_ptr, oneCell_slice, oneCell_string, oneCell_func, oneCell_map, Int.toNat_natCast, List.set_cons_zero, List.set_cons_succ, Nat.lt_irrefl, Nat.zero_lt_succ, Nat.succ_lt_succ_iff, fa26_0, fa26_0p, fa26_1, fa26_1p, fa26_10, fa26_10p, fa26_11, fa26_11p, fa26_12, fa26_12p, fa26_13, fa26_13p, fa26_14, fa26_14p, fa26_15, fa26_15p, fa26_2, fa26_2p, fa26_3, fa26_3p, fa26_4, fa26_4p, fa26_5, fa26_5p, fa26_6, fa26_6p, fa26_7, fa26_7p, fa26_8, fa26_8p, fa26_9, fa26_9p, fa28_0, fa28_0p, fa28_1, fa28_1p, fa45_0, fa45_0p, fa45_1, fa45_1p, fa45_2, fa45_2p, fa45_3, fa45_3p, fa45_4, fa45_4p, fa45_5, fa45_5p, fa45_6, fa45_6p, fa49_0, fa49_0p, fa49_1, fa49_1p, fa74_0, fa74_0p, fa74_1, fa74_1p, fa74_2, fa74_2p, fa74_3, fa74_3p, fa85_0, fa85_0p, fa85_1, fa85_1p, fa93_0, fa93_0p, fa93_1, fa93_1p, fa93_2, fa93_2p, ld3, ld3p, ld4, ld4p, ld22, ld22p, ld23, ld23p, ld24, ld24p, ld26, ld26p, ld28, ld28p, ld42, ld42p, ld45, ld45p, ld49, ld49p, ld58, ld58p, ld69, ld69p, ld72, ld72p, ld85, ld85p, st3s, st4s, st22s, st23s, st24s, st26w, st28w, st42s, st45w, st49w, st85w, ix22, ix22p, ix23, ix23p, ix24, ix24p, ix31, ix31p, ix42, ix42p, ix104, ix104p, ln22, ln22p, ln23, ln23p, ln24, ln24p, ln31, ln31p, ln42, ln42p, al4, al22, al26, al28, al42, al49, al85, cf10, cf11, cf12, cf13, cf14, cf15, cf16, cf17, cf18, cf19, cf20, cf21, cf22, cf23, cf24, cf25, cf26, cf27, cf28, cf29, cf30, cf31, cf32, cf33, cf34, cf35, cf36, cf37, cf38, cf39, cf40, cf41, cf42, cf43, cf44, cf45, cf46, cf47, cf48, cf49, cf50, cf51, cf52, cf53, cf54, cf55, cf56, cf57, cf58, cf59, cf60, cf61, cf62, cf63, cf64, cf65, cf66, cf67, cf68, cf69, cf70, cf71, cf72, cf73, cf74, cf75, bd26_0_1_2_7_8_9_10_11_12_13_14_4_15, bd26_0_1_2_7_8_9_10_11_12_13_14_4_15p, bd28_, bd28_p, bd28_0, bd28_0p, bd28_0_1, bd28_0_1p, bd45_1_3_4_5_6, bd45_1_3_4_5_6p, bd49_0_1, bd49_0_1p, bd49_1, bd49_1p, bd74_0_1_2_3, bd74_0_1_2_3p, bd85_0, bd85_0p, bd85_0_1, bd85_0_1p, bd93_0_1_2, bd93_0_1_2p, bd94_0_1_2_3, bd94_0_1_2_3p, bs42_1_0, bs22_1_0, bs24_1_0, bs42_3_0_1_2, bs31_1_0, bs22_2_0_1, bs42_6_0_1_2_3_4_5, bs42_0_, eq4, eq4p, eq28, eq28p, eq42n, eq42np, eq42s, eq42sp, eq58n, eq58np, eq58s, eq58sp, eq63n, eq63np, eq63s, eq63sp, ne28, ne28p, ne45, ne45p]
    exact fail 10 _ (s4.sel [2] (by decide) rfl) d4 (jobsR_port hlt)
  unfold S12_k2
  try simp -implicitDefEqProofs only [upd_ne, upd_eq, regs1, regs3, retK_ret, resL_tmp, resL_nil2, regs2, cf36, opH_sv, opH_su, al28, ld28, add_mk, Nat.add_zero, Nat.zero_add, cf35]
  refine (find_in (bin := bin) s4 yo go (fun G' => hss G' h2 l02) hS hB).mono ?_
  rw [stacks_eq hm]
  rintro _ h5 ⟨d5, ⟨e5, rfl, s5⟩ | ⟨f, io, vv, e5, hmem, rfl, ov, s5⟩⟩
  · try simp -implicitDefEqProofs only [ex2, un_not, Bool.not_false, HL.cond_true, ex1, ex0, st28w]
    intro x hx gx
    try simp -implicitDefEqProofs only [opH_sv, opH_su, pureW_sv, opH_nil, pureW_nil, pick_t, pick_f, pick_tp, pick_fp, gd_tt, gd_ft, gd_tf, gd_ff, box_new, regs0, regs1, regs2, regs3, regs4, regs5, regs6, cells_agg, cells_int, cells_bool, cells_ptr, cells_slice, cells_string, cells_func, cells_nilFunc, cells_map, retK_ret, retK_normal, resL_tmp, resL_cell, resL_nil0, resL_nil1, resL_nil2, resL_nil3, resC_ptr, ex0, ex1, ex2, ex0p, ex1p, ex2p, HL.cond_true, HL.cond_false, thenK_normal, thenK_ret, thenK_exit, blockK_normal, blockK_ret, blockK_exit, scopeK_normal, scopeK_ret, scopeK_exit, wpH_pure, bin_add, bin_sub, bin_mul, bin_lss, bin_leq, bin_gtr, bin_geq, bin_quo, bin_rem, bin_quop, bin_remp, wrap_in, bin_addp, bin_subp, bin_mulp, bin_lssp, bin_leqp, bin_gtrp, bin_geqp, un_not, un_notp, un_neg, eq_int, ne_int, eq_intp, ne_intp, callV_fn, add_mk, upd_eq, upd_ne, cell_set_self, Nat.zero_add, Nat.add_zero, Option.some.injEq, exists_eq_left', List.getElem?_cons_succ, List.getElem?_cons_zero, true_and, and_true, bne_self_eq_false, beq_self_eq_true, Bool.not_true, Bool.not_false, Bool.and_true, Bool.and_self, Bool.and_false, Bool.true_and, List.length_cons, List.length_nil, ne_eq, not_false_eq_true, Nat.reduceAdd, Nat.reduceMul, if_true, if_false, oneCell_int, oneCell_bool, oneCell_ptr, oneCell_slice, oneCell_string, oneCell_func, oneCell_map, Int.toNat_natCast, List.set_cons_zero, List.set_cons_succ, Nat.lt_irrefl, Nat.zero_lt_succ, Nat.succ_lt_succ_iff, fa26_0, fa26_0p, fa26_1, fa26_1p, fa26_10, fa26_10p, fa26_11, fa26_11p, fa26_12, fa26_12p, fa26_13, fa26_13p, fa26_14, fa26_14p, fa26_15, fa26_15p, fa26_2, fa26_2p, fa26_3, fa26_3p, fa26_4, fa26_4p, fa26_5, fa26_5p, fa26_6, fa26_6p, fa26_7, fa26_7p, fa26_8, fa26_8p, fa26_9, fa26_9p, fa28_0, fa28_0p, fa28_1, fa28_1p, fa45_0, fa45_0p, fa45_1, fa45_1p, fa45_2, fa45_2p, fa45_3, fa45_3p, fa45_4, fa45_4p, fa45_5, fa45_5p, fa45_6, fa45_6p, fa49_0, fa49_0p, fa49_1, fa49_1p, fa74_0, fa74_0p, fa74_1, fa74_1p, fa74_2, fa74_2p, fa74_3, fa74_3p, fa85_0, fa85_0p, fa85_1, fa85_1p, fa93_0, fa93_0p, fa93_1, fa93_1p, fa93_2, fa93_2p, ld3, ld3p, ld4, ld4p, ld22, ld22p, ld23, ld23p, ld24, ld24p, ld26, ld26p, ld28, ld28p, ld42, ld42p, ld45, ld45p, ld49, ld49p, ld58, ld58p, ld69, ld69p, ld72, ld72p, ld85, ld85p, st3s, st4s, st22s, st23s, st24s, st26w, st28w, st42s, st45w, st49w, st85w, ix22, ix22p, ix23, ix23p, ix24, ix24p, ix31, ix31p, ix42, ix42p, ix104, ix104p, ln22, ln22p, ln23, ln23p, ln24, ln24p, ln31, ln31p, ln42, ln42p, al4, al22, al26, al28, al42, al49, al85, cf10, cf11, cf12, cf13, cf14, cf15, cf16, cf17, cf18, cf19, cf20, cf21, cf22, cf23, cf24, cf25, cf26, cf27, cf28, cf29, cf30, cf31, cf32, cf33, cf34, cf35, cf36, cf37, cf38, cf39, cf40, cf41, cf42, cf43, cf44, cf45, cf46, cf47, cf48, cf49, cf50, cf51, cf52, cf53, cf54, cf55, cf56, cf57, cf58, cf59, cf60, cf61, cf62, cf63, cf64, cf65, cf66, cf67, cf68, cf69, cf70, cf71, cf72, cf73, cf74, cf75, bd26_0_1_2_7_8_9_10_11_12_13_14_4_15, bd26_0_1_2_7_8_9_10_11_12_13_14_4_15p, bd28_, bd28_p, bd28_0, bd28_0p, bd28_0_1, bd28_0_1p, bd45_1_3_4_5_6, bd45_1_3_4_5_6p, bd49_0_1, bd49_0_1p, bd49_1, bd49_1p, bd74_0_1_2_3, bd74_0_1_2_3p, bd85_0, bd85_0p, bd85_0_1, bd85_0_1p, bd93_0_1_2, bd93_0_1_2p, bd94_0_1_2_3, bd94_0_1_2_3p, bs42_1_0, bs22_1_0, bs24_1_0, bs42_3_0_1_2, bs31_1_0, bs22_2_0_1, bs42_6_0_1_2_3_4_5, bs42_0_, eq4, eq4p, eq28, eq28p, eq42n, eq42np, eq42s, eq42sp, eq58n, eq58np, eq58s, eq58sp, eq63n, eq63np, eq63s, eq63sp, ne28, ne28p, ne45, ne45p]
    exact fail 9 _ ((s5.sel [2] (by decide) rfl).past hx) (d5.set gx) (jobsR_bin hge e5)
  try simp -implicitDefEqProofs only [ex2, un_not, Bool.not_true, HL.cond_false, ex1, ex0, st28w, cell_set_self, List.getElem?_cons_zero, Option.some.injEq, List.getElem?_cons_succ, exists_eq_left']
  intro xf hxf gxf
  have s6 := s5.new (o := cellO f) hxf
  have d6 := d5.set (o := cellO f) gxf
  try simp -implicitDefEqProofs only [opH_sv, opH_su, pureW_sv, opH_nil, pureW_nil, pick_t, pick_f, pick_tp, pick_fp, gd_tt, gd_ft, gd_tf, gd_ff, box_new, regs0, regs1, regs2, regs3, regs4, regs5, regs6, cells_agg, cells_int, cells_bool, cells_ptr, cells_slice, cells_string, cells_func, cells_nilFunc, cells_map, retK_ret, retK_normal, resL_tmp, resL_cell, resL_nil0, resL_nil1, resL_nil2, resL_nil3, resC_ptr, ex0, ex1, ex2, ex0p, ex1p, ex2p, HL.cond_true, HL.cond_false, thenK_normal, thenK_ret, thenK_exit, blockK_normal, blockK_ret, blockK_exit, scopeK_normal, scopeK_ret, scopeK_exit, wpH_pure, bin_add, bin_sub, bin_mul, bin_lss, bin_leq, bin_gtr, bin_geq, bin_quo, bin_rem, bin_quop, bin_remp, wrap_in, bin_addp, bin_subp, bin_mulp, bin_lssp, bin_leqp, bin_gtrp, bin_geqp, un_not, un_notp, un_neg, eq_int, ne_int, eq_intp, ne_intp, callV_fn, add_mk, upd_eq, upd_ne, cell_set_self, Nat.zero_add, Nat.add_zero, Option.some.injEq, exists_eq_left', List.getElem?_cons_succ, List.getElem?_cons_zero, true_and, and_true, bne_self_eq_false, beq_self_eq_true, Bool.not_true, Bool.not_false, Bool.and_true, Bool.and_self, Bool.and_false, Bool.true_and, List.length_cons, List.length_nil, ne_eq, not_false_eq_true, Nat.reduceAdd, Nat.reduceMul, if_true, if_false, oneCell_int, oneCell_bool, oneCell_ptr, oneCell_slice, oneCell_string, oneCell_func, oneCell_map, Int.toNat_natCast, List.set_cons_zero, List.set_cons_succ, Nat.lt_irrefl, Nat.zero_lt_succ, Nat.succ_lt_succ_iff, fa26_0, fa26_0p, fa26_1, fa26_1p, fa26_10, fa26_10p, fa26_11, fa26_11p, fa26_12, fa26_12p, fa26_13, fa26_13p, fa26_14, fa26_14p, fa26_15, fa26_15p, fa26_2, fa26_2p, fa26_3, fa26_3p, fa26_4, fa26_4p, fa26_5, fa26_5p, fa26_6, fa26_6p, fa26_7, fa26_7p, fa26_8, fa26_8p, fa26_9, fa26_9p, fa28_0, fa28_0p, fa28_1, fa28_1p, fa45_0, fa45_0p, fa45_1, fa45_1p, fa45_2, fa45_2p, fa45_3, fa45_3p, fa45_4, fa45_4p, fa45_5, fa45_5p, fa45_6, fa45_6p, fa49_0, fa49_0p, fa49_1, fa49_1p, fa74_0, fa74_0p, fa74_1, fa74_1p, fa74_2, fa74_2p, fa74_3, fa74_3p, fa85_0, fa85_0p, fa85_1, fa85_1p, fa93_0, fa93_0p, fa93_1, fa93_1p, fa93_2, fa93_2p, ld3, ld3p, ld4, ld4p, ld22, ld22p, ld23, ld23p, ld24, ld24p, ld26, ld26p, ld28, ld28p, ld42, ld42p, ld45, ld45p, ld49, ld49p, ld58, ld58p, ld69, ld69p, ld72, ld72p, ld85, ld85p, st3s, st4s, st22s, st23s, st24s, st26w, st28w, st42s, st45w, st49w, st85w, ix22, ix22p, ix23, ix23p, ix24, ix24p, ix31, ix31p, ix42, ix42p, ix104, ix104p, ln22, ln22p, ln23, ln23p, ln24, ln24p, ln31, ln31p, ln42, ln42p, al4, al22, al26, al28, al42, al49, al85, cf10, cf11, cf12, cf13, cf14, cf15, cf16, cf17, cf18, cf19, cf20, cf21, cf22, cf23, cf24, cf25, cf26, cf27, cf28, cf29, cf30, cf31, cf32, cf33, cf34, cf35, cf36, cf37, cf38, cf39, cf40, cf41, cf42, cf43, cf44, cf45, cf46, cf47, cf48, cf49, cf50, cf51, cf52, cf53, cf54, cf55, cf56, cf57, cf58, cf59, cf60, cf61, cf62, cf63, cf64, cf65, cf66, cf67, cf68, cf69, cf70, cf71, cf72, cf73, cf74, cf75, bd26_0_1_2_7_8_9_10_11_12_13_14_4_15, bd26_0_1_2_7_8_9_10_11_12_13_14_4_15p, bd28_, bd28_p, bd28_0, bd28_0p, bd28_0_1, bd28_0_1p, bd45_1_3_4_5_6, bd45_1_3_4_5_6p, bd49_0_1, bd49_0_1p, bd49_1, bd49_1p, bd74_0_1_2_3, bd74_0_1_2_3p, bd85_0, bd85_0p, bd85_0_1, bd85_0_1p, bd93_0_1_2, bd93_0_1_2p, bd94_0_1_2_3, bd94_0_1_2_3p, bs42_1_0, bs22_1_0, bs24_1_0, bs42_3_0_1_2, bs31_1_0, bs22_2_0_1, bs42_6_0_1_2_3_4_5, bs42_0_, eq4, eq4p, eq28, eq28p, eq42n, eq42np, eq42s, eq42sp, eq58n, eq58np, eq58s, eq58sp, eq63n, eq63np, eq63s, eq63sp, ne28, ne28p, ne45, ne45p]
  generalize Hp.set h5 xf _ = h6 at s6 d6 ⊢
  have s6 : HL.Sep [noHp.set xf (cellO f), io, ya, ga, h2] h6 := s6
  have cf : ∀ j, cellIn G h6 ⟨xf, j, none⟩ = _ := fun j => cell_of (look_own (s6.at 0 rfl set_self))
  try simp -implicitDefEqProofs only [opH_sv, opH_su, pureW_sv, opH_nil, pureW_nil, pick_t, pick_f, pick_tp, pick_fp, gd_tt, gd_ft, gd_tf, gd_ff, box_new, regs0, regs1, regs2, regs3, regs4, regs5, regs6, cells_agg, cells_int, cells_bool, cells_ptr, cells_slice, cells_string, cells_func, cells_nilFunc, cells_map, retK_ret, retK_normal, resL_tmp, resL_cell, resL_nil0, resL_nil1, resL_nil2, resL_nil3, resC_ptr, ex0, ex1, ex2, ex0p, ex1p, ex2p, HL.cond_true, HL.cond_false, thenK_normal, thenK_ret, thenK_exit, blockK_normal, blockK_ret, blockK_exit, scopeK_normal, scopeK_ret, scopeK_exit, wpH_pure, bin_add, bin_sub, bin_mul, bin_lss, bin_leq, bin_gtr, bin_geq, bin_quo, bin_rem, bin_quop, bin_remp, wrap_in, bin_addp, bin_subp, bin_mulp, bin_lssp, bin_leqp, bin_gtrp, bin_geqp, un_not, un_notp, un_neg, eq_int, ne_int, eq_intp, ne_intp, callV_fn, add_mk, upd_eq, upd_ne, cell_set_self, Nat.zero_add, Nat.add_zero, Option.some.injEq, exists_eq_left', List.getElem?_cons_succ, List.getElem?_cons_zero, true_and, and_true, bne_self_eq_false, beq_self_eq_true, Bool.not_true, Bool.not_false, Bool.and_true, Bool.and_self, Bool.and_false, Bool.true_and, List.length_cons, List.length_nil, ne_eq, not_false_eq_true, Nat.reduceAdd, Nat.reduceMul, if_true, if_false, oneCell_int, oneCell_bool, oneCell_ptr, oneCell_slice, oneCell_string, oneCell_func, oneCell_map, Int.toNat_natCast, List.set_cons_zero, List.set_cons_succ, Nat.lt_irrefl, Nat.zero_lt_succ, Nat.succ_lt_succ_iff, fa26_0, fa26_0p, fa26_1, fa26_1p, fa26_10, fa26_10p, fa26_11, fa26_11p, fa26_12, fa26_12p, fa26_13, fa26_13p, fa26_14, fa26_14p, fa26_15, fa26_15p, fa26_2, fa26_2p, fa26_3, fa26_3p, fa26_4, fa26_4p, fa26_5, fa26_5p, fa26_6, fa26_6p, fa26_7, fa26_7p, fa26_8, fa26_8p, fa26_9, fa26_9p, fa28_0, fa28_0p, fa28_1, fa28_1p, fa45_0, fa45_0p, fa45_1, fa45_1p, fa45_2, fa45_2p, fa45_3, fa45_3p, fa45_4, fa45_4p, fa45_5, fa45_5p, fa45_6, fa45_6p, fa49_0, fa49_0p, fa49_1, fa49_1p, fa74_0, fa74_0p, fa74_1, fa74_1p, fa74_2, fa74_2p, fa74_3, fa74_3p, fa85_0, fa85_0p, fa85_1, fa85_1p, fa93_0, fa93_0p, fa93_1, fa93_1p, fa93_2, fa93_2p, ld3, ld3p, ld4, ld4p, ld22, ld22p, ld23, ld23p, ld24, ld24p, ld26, ld26p, ld28, ld28p, ld42, ld42p, ld45, ld45p, ld49, ld49p, ld58, ld58p, ld69, ld69p, ld72, ld72p, ld85, ld85p, st3s, st4s, st22s, st23s, st24s, st26w, st28w, st42s, st45w, st49w, st85w, ix22, ix22p, ix23, ix23p, ix24, ix24p, ix31, ix31p, ix42, ix42p, ix104, ix104p, ln22, ln22p, ln23, ln23p, ln24, ln24p, ln31, ln31p, ln42, ln42p, al4, al22, al26, al28, al42, al49, al85, cf10, cf11, cf12, cf13, cf14, cf15, cf16, cf17, cf18, cf19, cf20, cf21, cf22, cf23, cf24, cf25, cf26, cf27, cf28, cf29, cf30, cf31, cf32, cf33, cf34, cf35, cf36, cf37, cf38, cf39, cf40, cf41, cf42, cf43, cf44, cf45, cf46, cf47, cf48, cf49, cf50, cf51, cf52, cf53, cf54, cf55, cf56, cf57, cf58, cf59, cf60, cf61, cf62, cf63, cf64, cf65, cf66, cf67, cf68, cf69, cf70, cf71, cf72, cf73, cf74, cf75, bd26_0_1_2_7_8_9_10_11_12_13_14_4_15, bd26_0_1_2_7_8_9_10_11_12_13_14_4_15p, bd28_, bd28_p, bd28_0, bd28_0p, bd28_0_1, bd28_0_1p, bd45_1_3_4_5_6, bd45_1_3_4_5_6p, bd49_0_1, bd49_0_1p, bd49_1, bd49_1p, bd74_0_1_2_3, bd74_0_1_2_3p, bd85_0, bd85_0p, bd85_0_1, bd85_0_1p, bd93_0_1_2, bd93_0_1_2p, bd94_0_1_2_3, bd94_0_1_2_3p, bs42_1_0, bs22_1_0, bs24_1_0, bs42_3_0_1_2, bs31_1_0, bs22_2_0_1, bs42_6_0_1_2_3_4_5, bs42_0_, eq4, eq4p, eq28, eq28p, eq42n, eq42np, eq42s, eq42sp, eq58n, eq58np, eq58s, eq58sp, eq63n, eq63np, eq63s, eq63sp, ne28, ne28p, ne45, ne45p, cf]
  refine (contains_spec (c := f) ((htv G h2 l02).up (s6.in 4 rfl) d6) hTL).mono ?_
  rintro _ h6 ⟨rfl, rfl⟩
  try simp -implicitDefEqProofs only [opH_sv, opH_su, pureW_sv, opH_nil, pureW_nil, pick_t, pick_f, pick_tp, pick_fp, gd_tt, gd_ft, gd_tf, gd_ff, box_new, regs0, regs1, regs2, regs3, regs4, regs5, regs6, cells_agg, cells_int, cells_bool, cells_ptr, cells_slice, cells_string, cells_func, cells_nilFunc, cells_map, retK_ret, retK_normal, resL_tmp, resL_cell, resL_nil0, resL_nil1, resL_nil2, resL_nil3, resC_ptr, ex0, ex1, ex2, ex0p, ex1p, ex2p, HL.cond_true, HL.cond_false, thenK_normal, thenK_ret, thenK_exit, blockK_normal, blockK_ret, blockK_exit, scopeK_normal, scopeK_ret, scopeK_exit, wpH_pure, bin_add, bin_sub, bin_mul, bin_lss, bin_leq, bin_gtr, bin_geq, bin_quo, bin_rem, bin_quop, bin_remp, wrap_in, bin_addp, bin_subp, bin_mulp, bin_lssp, bin_leqp, bin_gtrp, bin_geqp, un_not, un_notp, un_neg, eq_int, ne_int, eq_intp, ne_intp, callV_fn, add_mk, upd_eq, upd_ne, cell_set_self, Nat.zero_add, Nat.add_zero, Option.some.injEq, exists_eq_left', List.getElem?_cons_succ, List.getElem?_cons_zero, true_and, and_true, bne_self_eq_false, beq_self_eq_true, Bool.not_true, Bool.not_false, Bool.and_true, Bool.and_self, Bool.and_false, Bool.true_and, List.length_cons, List.length_nil, ne_eq, not_false_eq_true, Nat.reduceAdd, Nat.reduceMul, if_true, if_false, oneCell_int, oneCell_bool, oneCell_ptr, oneCell_slice, oneCell_string, oneCell_func, oneCell_map, Int.toNat_natCast, List.set_cons_zero, List.set_cons_succ, Nat.lt_irrefl, Nat.zero_lt_succ, Nat.succ_lt_succ_iff, fa26_0, fa26_0p, fa26_1, fa26_1p, fa26_10, fa26_10p, fa26_11, fa26_11p, fa26_12, fa26_12p, fa26_13, fa26_13p, fa26_14, fa26_14p, fa26_15, fa26_15p, fa26_2, fa26_2p, fa26_3, fa26_3p, fa26_4, fa26_4p, fa26_5, fa26_5p, fa26_6, fa26_6p, fa26_7, fa26_7p, fa26_8, fa26_8p, fa26_9, fa26_9p, fa28_0, fa28_0p, fa28_1, fa28_1p, fa45_0, fa45_0p, fa45_1, fa45_1p, fa45_2, fa45_2p, fa45_3, fa45_3p, fa45_4, fa45_4p, fa45_5, fa45_5p, fa45_6, fa45_6p, fa49_0, fa49_0p, fa49_1, fa49_1p, fa74_0, fa74_0p, fa74_1, fa74_1p, fa74_2, fa74_2p, fa74_3, fa74_3p, fa85_0, fa85_0p, fa85_1, fa85_1p, fa93_0, fa93_0p, fa93_1, fa93_1p, fa93_2, fa93_2p, ld3, ld3p, ld4, ld4p, ld22, ld22p, ld23, ld23p, ld24, ld24p, ld26, ld26p, ld28, ld28p, ld42, ld42p, ld45, ld45p, ld49, ld49p, ld58, ld58p, ld69, ld69p, ld72, ld72p, ld85, ld85p, st3s, st4s, st22s, st23s, st24s, st26w, st28w, st42s, st45w, st49w, st85w, ix22, ix22p, ix23, ix23p, ix24, ix24p, ix31, ix31p, ix42, ix42p, ix104, ix104p, ln22, ln22p, ln23, ln23p, ln24, ln24p, ln31, ln31p, ln42, ln42p, al4, al22, al26, al28, al42, al49, al85, cf10, cf11, cf12, cf13, cf14, cf15, cf16, cf17, cf18, cf19, cf20, cf21, cf22, cf23, cf24, cf25, cf26, cf27, cf28, cf29, cf30, cf31, cf32, cf33, cf34, cf35, cf36, cf37, cf38, cf39, cf40, cf41, cf42, cf43, cf44, cf45, cf46, cf47, cf48, cf49, cf50, cf51, cf52, cf53, cf54, cf55, cf56, cf57, cf58, cf59, cf60, cf61, cf62, cf63, cf64, cf65, cf66, cf67, cf68, cf69, cf70, cf71, cf72, cf73, cf74, cf75, bd26_0_1_2_7_8_9_10_11_12_13_14_4_15, bd26_0_1_2_7_8_9_10_11_12_13_14_4_15p, bd28_, bd28_p, bd28_0, bd28_0p, bd28_0_1, bd28_0_1p, bd45_1_3_4_5_6, bd45_1_3_4_5_6p, bd49_0_1, bd49_0_1p, bd49_1, bd49_1p, bd74_0_1_2_3, bd74_0_1_2_3p, bd85_0, bd85_0p, bd85_0_1, bd85_0_1p, bd93_0_1_2, bd93_0_1_2p, bd94_0_1_2_3, bd94_0_1_2_3p, bs42_1_0, bs22_1_0, bs24_1_0, bs42_3_0_1_2, bs31_1_0, bs22_2_0_1, bs42_6_0_1_2_3_4_5, bs42_0_, eq4, eq4p, eq28, eq28p, eq42n, eq42np, eq42s, eq42sp, eq58n, eq58np, eq58s, eq58sp, eq63n, eq63np, eq63s, eq63sp, ne28, ne28p, ne45, ne45p]
  refine cond_dec (fun hft => ?_) (fun hft => ?_)
  · try simp -implicitDefEqProofs only [opH_sv, opH_su, pureW_sv, opH_nil, pureW_nil, pick_t, pick_f, pick_tp, pick_fp, gd_tt, gd_ft, gd_tf, gd_ff, box_new, regs0, regs1, regs2, regs3, regs4, regs5, regs6, cells_agg, cells_int, cells_bool, cells_ptr, cells_slice, cells_string, cells_func, cells_nilFunc, cells_map, retK_ret, retK_normal, resL_tmp, resL_cell, resL_nil0, resL_nil1, resL_nil2, resL_nil3, resC_ptr, ex0, ex1, ex2, ex0p, ex1p, ex2p, HL.cond_true, HL.cond_false, thenK_normal, thenK_ret, thenK_exit, blockK_normal, blockK_ret, blockK_exit, scopeK_normal, scopeK_ret, scopeK_exit, wpH_pure, bin_add, bin_sub, bin_mul, bin_lss, bin_leq, bin_gtr, bin_geq, bin_quo, bin_rem, bin_quop, bin_remp, wrap_in, bin_addp, bin_subp, bin_mulp, bin_lssp, bin_leqp, bin_gtrp, bin_geqp, un_not, un_notp, un_neg, eq_int, ne_int, eq_intp, ne_intp, callV_fn, add_mk, upd_eq, upd_ne, cell_set_self, Nat.zero_add, Nat.add_zero, Option.some.injEq, exists_eq_left', List.getElem?_cons_succ, List.getElem?_cons_zero, true_and, and_true, bne_self_eq_false, beq_self_eq_true, Bool.not_true, Bool.not_false, Bool.and_true, Bool.and_self, Bool.and_false, Bool.true_and, List.length_cons, List.length_nil, ne_eq, not_false_eq_true, Nat.reduceAdd, Nat.reduceMul, if_true, if_false, oneCell_int, oneCell_bool, oneCell_ptr, oneCell_slice, oneCell_string, oneCell_func, oneCell_map, Int.toNat_natCast, List.set_cons_zero, List.set_cons_succ, Nat.lt_irrefl, Nat.zero_lt_succ, Nat.succ_lt_succ_iff, fa26_0, fa26_0p, fa26_1, fa26_1p, fa26_10, fa26_10p, fa26_11, fa26_11p, fa26_12, fa26_12p, fa26_13, fa26_13p, fa26_14, fa26_14p, fa26_15, fa26_15p, fa26_2, fa26_2p, fa26_3, fa26_3p, fa26_4, fa26_4p, fa26_5, fa26_5p, fa26_6, fa26_6p, fa26_7, fa26_7p, fa26_8, fa26_8p, fa26_9, fa26_9p, fa28_0, fa28_0p, fa28_1, fa28_1p, fa45_0, fa45_0p, fa45_1, fa45_1p, fa45_2, fa45_2p, fa45_3, fa45_3p, fa45_4, fa45_4p, fa45_5, fa45_5p, fa45_6, fa45_6p, fa49_0, fa49_0p, fa49_1, fa49_1p, fa74_0, fa74_0p, fa74_1, fa74_1p, fa74_2, fa74_2p, fa74_3, fa74_3p, fa85_0, fa85_0p, fa85_1, fa85_1p, fa93_0, fa93_0p, fa93_1, fa93_1p, fa93_2, fa93_2p, ld3, ld3p, ld4, ld4p, ld22, ld22p, ld23, ld23p, ld24, ld24p, ld26, ld26p, ld28, ld28p, ld42, ld42p, ld45, ld45p, ld49, ld49p, ld58, ld58p, ld69, ld69p, ld72, ld72p, ld85, ld85p, st3s, st4s, st22s, st23s, st24s, st26w, st28w, st42s, st45w, st49w, st85w, ix22, ix22p, ix23, ix23p, ix24, ix24p, ix31, ix31p, ix42, ix42p, ix104, ix104p, ln22, ln22p, ln23, ln23p, ln24, ln24p, ln31, ln31p, ln42, ln42p, al4, al22, al26, al28, al42, al49, al85, cf10, cf11, cf12, cf13, cf14, cf15, cf16, cf17, cf18, cf19, cf20, cf21, cf22, cf23, cf24, cf25, cf26, cf27, cf28, cf29, cf30, cf31, cf32, cf33, cf34, cf35, cf36, cf37, cf38, cf39, cf40, cf41, cf42, cf43, cf44, cf45, cf46, cf47, cf48, cf49, cf50, cf51, cf52, cf53, cf54, cf55, cf56, cf57, cf58, cf59, cf60, cf61, cf62, cf63, cf64, cf65, cf66, cf67, cf68, cf69, cf70, cf71, cf72, cf73, cf74, cf75, bd26_0_1_2_7_8_9_10_11_12_13_14_4_15, bd26_0_1_2_7_8_9_10_11_12_13_14_4_15p, bd28_, bd28_p, bd28_0, bd28_0p, bd28_0_1, bd28_0_1p, bd45_1_3_4_5_6, bd45_1_3_4_5_6p, bd49_0_1, bd49_0_1p, bd49_1, bd49_1p, bd74_0_1_2_3, bd74_0_1_2_3p, bd85_0, bd85_0p, bd85_0_1, bd85_0_1p, bd93_0_1_2, bd93_0_1_2p, bd94_0_1_2_3, bd94_0_1_2_3p, bs42_1_0, bs22_1_0, bs24_1_0, bs42_3_0_1_2, bs31_1_0, bs22_2_0_1, bs42_6_0_1_2_3_4_5, bs42_0_, eq4, eq4p, eq28, eq28p, eq42n, eq42np, eq42s, eq42sp, eq58n, eq58np, eq58s, eq58sp, eq63n, eq63np, eq63s, eq63sp, ne28, ne28p, ne45, ne45p]
    exact fail 8 _ (s6.sel [4] (by decide) rfl) d6 (jobsR_touched hge e5 hft)
  unfold S12_k3
  have hAl : (aboveL (binsL S f) bin).length ≤ 17592186044320 := above_len (bins_le hB)
  generalize aboveL (binsL S f) bin = A at ov e5 hAl
  obtain ⟨va0, vc0, rfl, _⟩ := ov.len (by decide)
  try simp -implicitDefEqProofs (disch := first | with_reducible exact Nat.ne_of_beq_eq_false rfl | omega) only [upd_ne, upd_eq, opH_sv, ln42]
  generalize hKK : retK Tryd.prog G _ _ = KK
  refine loop_I (fun m q h7 => ∃ (i : Nat) (GL : List Cell) (aw ag ya : Hp) (va vg : Value) (hv : Cell → Int) (is : Cell → Bool), m = A.length - i ∧ i ≤ A.length ∧ GL.length = i ∧ Given S C.ht (rstacksL C) GL ∧ placesL S TL C.ht f (rstacksL C) (A.length - i) GL = placesL S TL C.ht f (rstacksL C) A.length [] ∧
      q 3 = .int .i64 bin ∧ q 5 = .pointer (some ⟨v0, 0, none⟩) ∧ q 9 = .pointer (some ⟨v1, 0, none⟩) ∧ q 12 = .pointer (some ⟨yp, 0, none⟩) ∧ q 14 = .pointer (some ⟨xf, 0, none⟩) ∧ q 17 = va ∧ q 18 = vg ∧ q 56 = .slice va0 A.length vc0 ∧ q 57 = .int .i64 A.length ∧ q 58 = .int .i64 i ∧
      YardO ya yp gp mb C.ht (.slice ta TL.length tc) hv is ∧ (∀ c, (if is c = true then hv c else 0) = hgt S c + (GL.count c : Int)) ∧ Slc jobC 45 aw va (List.zipWith (awayJ f) (A.take i) GL) ∧ Slc jobC 45 ag vg (List.zipWith (againJ f) (A.take i) GL) ∧ HL.Sep [aw, ag, noHp.set xf (cellO f), io, ya, ga, h2] h7 ∧ Dis G h7) ?_
    (m := A.length) ⟨0, [], noHp, noHp, ya, .slice none 0 0, .slice none 0 0, hgt S, is, rfl, Nat.zero_le _, rfl, Given.nil (by omega), rfl, by simp -implicitDefEqProofs (disch := first | with_reducible exact Nat.ne_of_beq_eq_false rfl | omega) only [upd_ne, regs3], by simp -implicitDefEqProofs (disch := first | with_reducible exact Nat.ne_of_beq_eq_false rfl | omega) only [upd_ne, upd_eq], by simp -implicitDefEqProofs (disch := first | with_reducible exact Nat.ne_of_beq_eq_false rfl | omega) only [upd_ne, upd_eq], by simp -implicitDefEqProofs (disch := first | with_reducible exact Nat.ne_of_beq_eq_false rfl | omega) only [upd_ne, upd_eq], by simp -implicitDefEqProofs (disch := first | with_reducible exact Nat.ne_of_beq_eq_false rfl | omega) only [upd_ne, upd_eq], by simp -implicitDefEqProofs (disch := first | with_reducible exact Nat.ne_of_beq_eq_false rfl | omega) only [upd_ne, upd_eq], by simp -implicitDefEqProofs (disch := first | with_reducible exact Nat.ne_of_beq_eq_false rfl | omega) only [upd_ne, upd_eq], by simp -implicitDefEqProofs (disch := first | with_reducible exact Nat.ne_of_beq_eq_false rfl | omega) only [upd_ne, upd_eq], by simp -implicitDefEqProofs (disch := first | with_reducible exact Nat.ne_of_beq_eq_false rfl | omega) only [upd_ne, upd_eq], by simp -implicitDefEqProofs only [upd_eq] <;> rfl, yo, (fun c => by
      cases hc : is c with
      | true => simp
      | false => rw [his c hc]; simp), Slc.nil, Slc.nil, s6.none.none, d6⟩
  clear s6 cf d6 yo ty mi om C' ab' cb' ap' cp' ar' cr' az' cs' cy his is
  rintro m q h7 ⟨i, GL, aw, ag, ya, va, vg, hv, is, rfl, hi, hgl, gv, hpl, q3, q5, q9, q12, q14, q17, q18, q56, q57, q58, yo, hgt', oa, og, s7, d7⟩ X HX
  have hgl8 := gv.len ht8.2 hcl
  unfold S12_l6
  simp -implicitDefEqProofs only [q58, q57, thenK_exit, blockK_exit, thenK_normal, if_true, opH_sv, bin_lss]
  refine cond_dec (fun hlt => ?_) (fun hge2 => ?_)
  rotate_left
  · obtain rfl : i = A.length := by omega
    rw [List.take_of_length_le (Nat.le_refl _)] at oa og
    rw [Nat.sub_self, placesL] at hpl
    have ej0 := jobsR_ok (GL := GL) hge e5 hft hpl.symm
    try simp -implicitDefEqProofs (disch := first | with_reducible exact Nat.ne_of_beq_eq_false rfl | omega) only [opH_sv, opH_su, pureW_sv, opH_nil, pureW_nil, pick_t, pick_f, pick_tp, pick_fp, gd_tt, gd_ft, gd_tf, gd_ff, box_new, regs0, regs1, regs2, regs3, regs4, regs5, regs6, cells_agg, cells_int, cells_bool, cells_ptr, cells_slice, cells_string, cells_func, cells_nilFunc, cells_map, retK_ret, retK_normal, resL_tmp, resL_cell, resL_nil0, resL_nil1, resL_nil2, resL_nil3, resC_ptr, ex0, ex1, ex2, ex0p, ex1p, ex2p, HL.cond_true, HL.cond_false, thenK_normal, thenK_ret, thenK_exit, blockK_normal, blockK_ret, blockK_exit, scopeK_normal, scopeK_ret, scopeK_exit, wpH_pure, bin_add, bin_sub, bin_mul, bin_lss, bin_leq, bin_gtr, bin_geq, bin_quo, bin_rem, bin_quop, bin_remp, wrap_in, bin_addp, bin_subp, bin_mulp, bin_lssp, bin_leqp, bin_gtrp, bin_geqp, un_not, un_notp, un_neg, eq_int, ne_int, eq_intp, ne_intp, callV_fn, add_mk, upd_eq, upd_ne, cell_set_self, Nat.zero_add, Nat.add_zero, Option.some.injEq, exists_eq_left', List.getElem?_cons_succ, List.getElem?_cons_zero, true_and, and_true, bne_self_eq_false, beq_self_eq_true, Bool.not_true, Bool.not_false, Bool.and_true, Bool.and_self, Bool.and_false, Bool.true_and, List.length_cons, List.length_nil, ne_eq, not_false_eq_true, Nat.reduceAdd, Nat.reduceMul, if_true, if_false, oneCell_int, oneCell_bool, oneCell_ptr, oneCell_slice, oneCell_string, oneCell_func, oneCell_map, Int.toNat_natCast, List.set_cons_zero, List.set_cons_succ, Nat.lt_irrefl, Nat.zero_lt_succ, Nat.succ_lt_succ_iff, fa26_0, fa26_0p, fa26_1, fa26_1p, fa26_10, fa26_10p, fa26_11, fa26_11p, fa26_12, fa26_12p, fa26_13, fa26_13p, fa26_14, fa26_14p, fa26_15, fa26_15p, fa26_2, fa26_2p, fa26_3, fa26_3p, fa26_4, fa26_4p, fa26_5, fa26_5p, fa26_6, fa26_6p, fa26_7, fa26_7p, fa26_8, fa26_8p, fa26_9, fa26_9p, fa28_0, fa28_0p, fa28_1, fa28_1p, fa45_0, fa45_0p, fa45_1, fa45_1p, fa45_2, fa45_2p, fa45_3, fa45_3p, fa45_4, fa45_4p, fa45_5, fa45_5p, fa45_6, fa45_6p, fa49_0, fa49_0p, fa49_1, fa49_1p, fa74_0, fa74_0p, fa74_1, fa74_1p, fa74_2, fa74_2p, fa74_3, fa74_3p, fa85_0, fa85_0p, fa85_1, fa85_1p, fa93_0, fa93_0p, fa93_1, fa93_1p, fa93_2, fa93_2p, ld3, ld3p, ld4, ld4p, ld22, ld22p, ld23, ld23p, ld24, ld24p, ld26, ld26p, ld28, ld28p, ld42, ld42p, ld45, ld45p, ld49, ld49p, ld58, ld58p, ld69, ld69p, ld72, ld72p, ld85, ld85p, st3s, st4s, st22s, st23s, st24s, st26w, st28w, st42s, st45w, st49w, st85w, ix22, ix22p, ix23, ix23p, ix24, ix24p, ix31, ix31p, ix42, ix42p, ix104, ix104p, ln22, ln22p, ln23, ln23p, ln24, ln24p, ln31, ln31p, ln42, ln42p, al4, al22, al26, al28, al42, al49, al85, cf10, cf11, cf12, cf13, cf14, cf15, cf16, cf17, cf18, cf19, cf20, cf21, cf22, cf23, cf24, cf25, cf26, cf27, cf28, cf29, cf30, cf31, cf32, cf33, cf34, cf35, cf36, cf37, cf38, cf39, cf40, cf41, cf42, cf43, cf44, cf45, cf46, cf47, cf48, cf49, cf50, cf51, cf52, cf53, cf54, cf55, cf56, cf57, cf58, cf59, cf60, cf61, cf62, cf63, cf64, cf65, cf66, cf67, cf68, cf69, cf70, cf71, cf72, cf73, cf74, cf75, bd26_0_1_2_7_8_9_10_11_12_13_14_4_15, bd26_0_1_2_7_8_9_10_11_12_13_14_4_15p, bd28_, bd28_p, bd28_0, bd28_0p, bd28_0_1, bd28_0_1p, bd45_1_3_4_5_6, bd45_1_3_4_5_6p, bd49_0_1, bd49_0_1p, bd49_1, bd49_1p, bd74_0_1_2_3, bd74_0_1_2_3p, bd85_0, bd85_0p, bd85_0_1, bd85_0_1p, bd93_0_1_2, bd93_0_1_2p, bd94_0_1_2_3, bd94_0_1_2_3p, bs42_1_0, bs22_1_0, bs24_1_0, bs42_3_0_1_2, bs31_1_0, bs22_2_0_1, bs42_6_0_1_2_3_4_5, bs42_0_, eq4, eq4p, eq28, eq28p, eq42n, eq42np, eq42s, eq42sp, eq58n, eq58np, eq58s, eq58sp, eq63n, eq63np, eq63s, eq63sp, ne28, ne28p, ne45, ne45p]
    unfold S12_k4
    have cf : ∀ j, cellIn G h7 ⟨xf, j, none⟩ = _ := fun j => cell_of (look_own (s7.at 2 rfl set_self))
    have c1 : ∀ j, cellIn G h7 ⟨v1, j, none⟩ = _ := fun j => cell_of (look_own (s7.in 6 rfl _ _ b1))
    try simp -implicitDefEqProofs (disch := first | with_reducible exact Nat.ne_of_beq_eq_false rfl | omega) only [upd_ne, q14, q9, q3, q17, q5, opH_sv, cf38, fa26_15, add_mk, Nat.zero_add, ld4, ld28, Nat.add_zero, cf, List.getElem?_cons_zero, Option.some.injEq, List.getElem?_cons_succ, c1, bd45_1_3_4_5_6, bs31_1_0, exists_eq_left']
    intro b hb gb
    generalize eb : Hp.set h7 b _ = h8
    obtain ⟨l8, d8, b8⟩ := boxed eb hb d7 gb
    have s8 := s7.past (o := .cells #[.int .i64 0, .int .i64 2, .int .i64 0, .int .i64 bin, .int .i64 f.1, .int .i64 f.2, .int .i64 port.1, .int .i64 port.2, .int .i64 (-1)] 45 (0, 0)) hb
    rw [eb] at s8
    have z1 := zip_len (F := awayJ f) (A := A) (GL := GL)
    have z2 := zip_len (F := againJ f) (A := A) (GL := GL)
    refine append_piece jobC (by decide) un31 eojob (by decide) (by decide) (M := [fetchJ f bin port]) s8 d8 oa (Sees.row (c := jobC) (L := [fetchJ f bin port]) b8 rfl (Nat.le_refl _)) (by simp only [List.length_cons, List.length_nil]; omega) fun v9 a9 h9 o9 s9 d9 => ?_
    have cv0 : ∀ j, cellIn G h9 ⟨v0, j, none⟩ = _ := fun j => cell_of (look_own (s9.in 6 rfl _ _ b0'))
    try simp -implicitDefEqProofs only [cv0, List.getElem?_cons_succ, List.getElem?_cons_zero, Option.some.injEq, exists_eq_left']
    refine cond_bool (fun hb => ?_) (fun hb => ?_)
    · try simp -implicitDefEqProofs only [q18]
      refine (revj_spec (s9.sel [1, 0, 6] (by decide) rfl) og (by omega)).mono ?_
      rintro _ h10 ⟨ag', og', s10, d10⟩
      try simp -implicitDefEqProofs (disch := first | with_reducible exact Nat.ne_of_beq_eq_false rfl | omega) only [opH_sv, opH_su, pureW_sv, opH_nil, pureW_nil, pick_t, pick_f, pick_tp, pick_fp, gd_tt, gd_ft, gd_tf, gd_ff, box_new, regs0, regs1, regs2, regs3, regs4, regs5, regs6, cells_agg, cells_int, cells_bool, cells_ptr, cells_slice, cells_string, cells_func, cells_nilFunc, cells_map, retK_ret, retK_normal, resL_tmp, resL_cell, resL_nil0, resL_nil1, resL_nil2, resL_nil3, resC_ptr, ex0, ex1, ex2, ex0p, ex1p, ex2p, HL.cond_true, HL.cond_false, thenK_normal, thenK_ret, thenK_exit, blockK_normal, blockK_ret, blockK_exit, scopeK_normal, scopeK_ret, scopeK_exit, wpH_pure, bin_add, bin_sub, bin_mul, bin_lss, bin_leq, bin_gtr, bin_geq, bin_quo, bin_rem, bin_quop, bin_remp, wrap_in, bin_addp, bin_subp, bin_mulp, bin_lssp, bin_leqp, bin_gtrp, bin_geqp, un_not, un_notp, un_neg, eq_int, ne_int, eq_intp, ne_intp, callV_fn, add_mk, upd_eq, upd_ne, cell_set_self, Nat.zero_add, Nat.add_zero, Option.some.injEq, exists_eq_left', List.getElem?_cons_succ, List.getElem?_cons_zero, true_and, and_true, bne_self_eq_false, beq_self_eq_true, Bool.not_true, Bool.not_false, Bool.and_true, Bool.and_self, Bool.and_false, Bool.true_and, List.length_cons, List.length_nil, ne_eq, not_false_eq_true, Nat.reduceAdd, Nat.reduceMul, if_true, if_false, oneCell_int, oneCell_bool, oneCell_ptr, oneCell_slice, oneCell_string, oneCell_func, oneCell_map, Int.toNat_natCast, List.set_cons_zero, List.set_cons_succ, Nat.lt_irrefl, Nat.zero_lt_succ, Nat.succ_lt_succ_iff, fa26_0, fa26_0p, fa26_1, fa26_1p, fa26_10, fa26_10p, fa26_11, fa26_11p, fa26_12, fa26_12p, fa26_13, fa26_13p, fa26_14, fa26_14p, fa26_15, fa26_15p, fa26_2, fa26_2p, fa26_3, fa26_3p, fa26_4, fa26_4p, fa26_5, fa26_5p, fa26_6, fa26_6p, fa26_7, fa26_7p, fa26_8, fa26_8p, fa26_9, fa26_9p, fa28_0, fa28_0p, fa28_1, fa28_1p, fa45_0, fa45_0p, fa45_1, fa45_1p, fa45_2, fa45_2p, fa45_3, fa45_3p, fa45_4, fa45_4p, fa45_5, fa45_5p, fa45_6, fa45_6p, fa49_0, fa49_0p, fa49_1, fa49_1p, fa74_0, fa74_0p, fa74_1, fa74_1p, fa74_2, fa74_2p, fa74_3, fa74_3p, fa85_0, fa85_0p, fa85_1, fa85_1p, fa93_0, fa93_0p, fa93_1, fa93_1p, fa93_2, fa93_2p, ld3, ld3p, ld4, ld4p, ld22, ld22p, ld23, ld23p, ld24, ld24p, ld26, ld26p, ld28, ld28p, ld42, ld42p, ld45, ld45p, ld49, ld49p, ld58, ld58p, ld69, ld69p, ld72, ld72p, ld85, ld85p, st3s, st4s, st22s, st23s, st24s, st26w, st28w, st42s, st45w, st49w, st85w, ix22, ix22p, ix23, ix23p, ix24, ix24p, ix31, ix31p, ix42, ix42p, ix104, ix104p, ln22, ln22p, ln23, ln23p, ln24, ln24p, ln31, ln31p, ln42, ln42p, al4, al22, al26, al28, al42, al49, al85, cf10, cf11, cf12, cf13, cf14, cf15, cf16, cf17, cf18, cf19, cf20, cf21, cf22, cf23, cf24, cf25, cf26, cf27, cf28, cf29, cf30, cf31, cf32, cf33, cf34, cf35, cf36, cf37, cf38, cf39, cf40, cf41, cf42, cf43, cf44, cf45, cf46, cf47, cf48, cf49, cf50, cf51, cf52, cf53, cf54, cf55, cf56, cf57, cf58, cf59, cf60, cf61, cf62, cf63, cf64, cf65, cf66, cf67, cf68, cf69, cf70, cf71, cf72, cf73, cf74, cf75, bd26_0_1_2_7_8_9_10_11_12_13_14_4_15, bd26_0_1_2_7_8_9_10_11_12_13_14_4_15p, bd28_, bd28_p, bd28_0, bd28_0p, bd28_0_1, bd28_0_1p, bd45_1_3_4_5_6, bd45_1_3_4_5_6p, bd49_0_1, bd49_0_1p, bd49_1, bd49_1p, bd74_0_1_2_3, bd74_0_1_2_3p, bd85_0, bd85_0p, bd85_0_1, bd85_0_1p, bd93_0_1_2, bd93_0_1_2p, bd94_0_1_2_3, bd94_0_1_2_3p, bs42_1_0, bs22_1_0, bs24_1_0, bs42_3_0_1_2, bs31_1_0, bs22_2_0_1, bs42_6_0_1_2_3_4_5, bs42_0_, eq4, eq4p, eq28, eq28p, eq42n, eq42np, eq42s, eq42sp, eq58n, eq58np, eq58s, eq58sp, eq63n, eq63np, eq63s, eq63sp, ne28, ne28p, ne45, ne45p, q18]
      refine append_piece jobC (by decide) un31 eojob (by decide) (by decide) (s10.pick 1 rfl rfl) d10 o9 (og'.sees (by decide) (s10.in 0 rfl)) (by simp only [List.length_append, List.length_reverse, List.length_cons, List.length_nil]; omega) fun v11 a11 h11 o11 s11 d11 => ?_
      try simp -implicitDefEqProofs (disch := first | with_reducible exact Nat.ne_of_beq_eq_false rfl | omega) only [opH_sv, opH_su, pureW_sv, opH_nil, pureW_nil, pick_t, pick_f, pick_tp, pick_fp, gd_tt, gd_ft, gd_tf, gd_ff, box_new, regs0, regs1, regs2, regs3, regs4, regs5, regs6, cells_agg, cells_int, cells_bool, cells_ptr, cells_slice, cells_string, cells_func, cells_nilFunc, cells_map, retK_ret, retK_normal, resL_tmp, resL_cell, resL_nil0, resL_nil1, resL_nil2, resL_nil3, resC_ptr, ex0, ex1, ex2, ex0p, ex1p, ex2p, HL.cond_true, HL.cond_false, thenK_normal, thenK_ret, thenK_exit, blockK_normal, blockK_ret, blockK_exit, scopeK_normal, scopeK_ret, scopeK_exit, wpH_pure, bin_add, bin_sub, bin_mul, bin_lss, bin_leq, bin_gtr, bin_geq, bin_quo, bin_rem, bin_quop, bin_remp, wrap_in, bin_addp, bin_subp, bin_mulp, bin_lssp, bin_leqp, bin_gtrp, bin_geqp, un_not, un_notp, un_neg, eq_int, ne_int, eq_intp, ne_intp, callV_fn, add_mk, upd_eq, upd_ne, cell_set_self, Nat.zero_add, Nat.add_zero, Option.some.injEq, exists_eq_left', List.getElem?_cons_succ, List.getElem?_cons_zero, true_and, and_true, bne_self_eq_false, beq_self_eq_true, Bool.not_true, Bool.not_false, Bool.and_true, Bool.and_self, Bool.and_false, Bool.true_and, List.length_cons, List.length_nil, ne_eq, not_false_eq_true, Nat.reduceAdd, Nat.reduceMul, if_true, if_false, oneCell_int, oneCell_bool, oneCell_ptr, oneCell_slice, oneCell_string, oneCell_func, oneCell_map, Int.toNat_natCast, List.set_cons_zero, List.set_cons_succ, Nat.lt_irrefl, Nat.zero_lt_succ, Nat.succ_lt_succ_iff, fa26_0, fa26_0p, fa26_1, fa26_1p, fa26_10, fa26_10p, fa26_11, fa26_11p, fa26_12, fa26_12p, fa26_13, fa26_13p, fa26_14, fa26_14p, fa26_15, fa26_15p, fa26_2, fa26_2p, fa26_3, fa26_3p, fa26_4, fa26_4p, fa26_5, fa26_5p, fa26_6, fa26_6p, fa26_7, fa26_7p, fa26_8, fa26_8p, fa26_9, fa26_9p, fa28_0, fa28_0p, fa28_1, fa28_1p, fa45_0, fa45_0p, fa45_1, fa45_1p, fa45_2, fa45_2p, fa45_3, fa45_3p, fa45_4, fa45_4p, fa45_5, fa45_5p, fa45_6, fa45_6p, fa49_0, fa49_0p, fa49_1, fa49_1p, fa74_0, fa74_0p, fa74_1, fa74_1p, fa74_2, fa74_2p, fa74_3, fa74_3p, fa85_0, fa85_0p, fa85_1, fa85_1p, fa93_0, fa93_0p, fa93_1, fa93_1p, fa93_2, fa93_2p, ld3, ld3p, ld4, ld4p, ld22, ld22p, ld23, ld23p, ld24, ld24p, ld26, ld26p, ld28, ld28p, ld42, ld42p, ld45, ld45p, ld49, ld49p, ld58, ld58p, ld69, ld69p, ld72, ld72p, ld85, ld85p, st3s, st4s, st22s, st23s, st24s, st26w, st28w, st42s, st45w, st49w, st85w, ix22, ix22p, ix23, ix23p, ix24, ix24p, ix31, ix31p, ix42, ix42p, ix104, ix104p, ln22, ln22p, ln23, ln23p, ln24, ln24p, ln31, ln31p, ln42, ln42p, al4, al22, al26, al28, al42, al49, al85, cf10, cf11, cf12, cf13, cf14, cf15, cf16, cf17, cf18, cf19, cf20, cf21, cf22, cf23, cf24, cf25, cf26, cf27, cf28, cf29, cf30, cf31, cf32, cf33, cf34, cf35, cf36, cf37, cf38, cf39, cf40, cf41, cf42, cf43, cf44, cf45, cf46, cf47, cf48, cf49, cf50, cf51, cf52, cf53, cf54, cf55, cf56, cf57, cf58, cf59, cf60, cf61, cf62, cf63, cf64, cf65, cf66, cf67, cf68, cf69, cf70, cf71, cf72, cf73, cf74, cf75, bd26_0_1_2_7_8_9_10_11_12_13_14_4_15, bd26_0_1_2_7_8_9_10_11_12_13_14_4_15p, bd28_, bd28_p, bd28_0, bd28_0p, bd28_0_1, bd28_0_1p, bd45_1_3_4_5_6, bd45_1_3_4_5_6p, bd49_0_1, bd49_0_1p, bd49_1, bd49_1p, bd74_0_1_2_3, bd74_0_1_2_3p, bd85_0, bd85_0p, bd85_0_1, bd85_0_1p, bd93_0_1_2, bd93_0_1_2p, bd94_0_1_2_3, bd94_0_1_2_3p, bs42_1_0, bs22_1_0, bs24_1_0, bs42_3_0_1_2, bs31_1_0, bs22_2_0_1, bs42_6_0_1_2_3_4_5, bs42_0_, eq4, eq4p, eq28, eq28p, eq42n, eq42np, eq42s, eq42sp, eq58n, eq58np, eq58s, eq58sp, eq63n, eq63np, eq63s, eq63sp, ne28, ne28p, ne45, ne45p]
      unfold S12_k5
      rw [← hKK]
      try simp -implicitDefEqProofs (disch := first | with_reducible exact Nat.ne_of_beq_eq_false rfl | omega) only [upd_eq, retK_ret, resL_tmp, upd_ne, resL_nil2]
      refine ⟨l02.trans (s11.in 2 rfl), d11, .inl ⟨hm, a11, v11, by rw [ej0], ?_, ((s11.sel [2, 0] (by decide) rfl).cut l02).sel [1, 0] (by decide) rfl⟩⟩
      rw [ej0]
      unfold jobsOf
      rw [if_pos hb]
      exact o11
    · try simp -implicitDefEqProofs only [opH_sv, opH_su, pureW_sv, opH_nil, pureW_nil, pick_t, pick_f, pick_tp, pick_fp, gd_tt, gd_ft, gd_tf, gd_ff, box_new, regs0, regs1, regs2, regs3, regs4, regs5, regs6, cells_agg, cells_int, cells_bool, cells_ptr, cells_slice, cells_string, cells_func, cells_nilFunc, cells_map, retK_ret, retK_normal, resL_tmp, resL_cell, resL_nil0, resL_nil1, resL_nil2, resL_nil3, resC_ptr, ex0, ex1, ex2, ex0p, ex1p, ex2p, HL.cond_true, HL.cond_false, thenK_normal, thenK_ret, thenK_exit, blockK_normal, blockK_ret, blockK_exit, scopeK_normal, scopeK_ret, scopeK_exit, wpH_pure, bin_add, bin_sub, bin_mul, bin_lss, bin_leq, bin_gtr, bin_geq, bin_quo, bin_rem, bin_quop, bin_remp, wrap_in, bin_addp, bin_subp, bin_mulp, bin_lssp, bin_leqp, bin_gtrp, bin_geqp, un_not, un_notp, un_neg, eq_int, ne_int, eq_intp, ne_intp, callV_fn, add_mk, upd_eq, upd_ne, cell_set_self, Nat.zero_add, Nat.add_zero, Option.some.injEq, exists_eq_left', List.getElem?_cons_succ, List.getElem?_cons_zero, true_and, and_true, bne_self_eq_false, beq_self_eq_true, Bool.not_true, Bool.not_false, Bool.and_true, Bool.and_self, Bool.and_false, Bool.true_and, List.length_cons, List.length_nil, ne_eq, not_false_eq_true, Nat.reduceAdd, Nat.reduceMul, if_true, if_false, oneCell_int, oneCell_bool, oneCell_ptr, oneCell_slice, oneCell_string, oneCell_func, oneCell_map, Int.toNat_natCast, List.set_cons_zero, List.set_cons_succ, Nat.lt_irrefl, Nat.zero_lt_succ, Nat.succ_lt_succ_iff, fa26_0, fa26_0p, fa26_1, fa26_1p, fa26_10, fa26_10p, fa26_11, fa26_11p, fa26_12, fa26_12p, fa26_13, fa26_13p, fa26_14, fa26_14p, fa26_15, fa26_15p, fa26_2, fa26_2p, fa26_3, fa26_3p, fa26_4, fa26_4p, fa26_5, fa26_5p, fa26_6, fa26_6p, fa26_7, fa26_7p, fa26_8, fa26_8p, fa26_9, fa26_9p, fa28_0, fa28_0p, fa28_1, fa28_1p, fa45_0, fa45_0p, fa45_1, fa45_1p, fa45_2, fa45_2p, fa45_3, fa45_3p, fa45_4, fa45_4p, fa45_5, fa45_5p, fa45_6, fa45_6p, fa49_0, fa49_0p, fa49_1, fa49_1p, fa74_0, fa74_0p, fa74_1, fa74_1p, fa74_2, fa74_2p, fa74_3, fa74_3p, fa85_0, fa85_0p, fa85_1, fa85_1p, fa93_0, fa93_0p, fa93_1, fa93_1p, fa93_2, fa93_2p, ld3, ld3p, ld4, ld4p, ld22, ld22p, ld23, ld23p, ld24, ld24p, ld26, ld26p, ld28, ld28p, ld42, ld42p, ld45, ld45p, ld49, ld49p, ld58, ld58p, ld69, ld69p, ld72, ld72p, ld85, ld85p, st3s, st4s, st22s, st23s, st24s, st26w, st28w, st42s, st45w, st49w, st85w, ix22, ix22p, ix23, ix23p, ix24, ix24p, ix31, ix31p, ix42, ix42p, ix104, ix104p, ln22, ln22p, ln23, ln23p, ln24, ln24p, ln31, ln31p, ln42, ln42p, al4, al22, al26, al28, al42, al49, al85, cf10, cf11, cf12, cf13, cf14, cf15, cf16, cf17, cf18, cf19, cf20, cf21, cf22, cf23, cf24, cf25, cf26, cf27, cf28, cf29, cf30, cf31, cf32, cf33, cf34, cf35, cf36, cf37, cf38, cf39, cf40, cf41, cf42, cf43, cf44, cf45, cf46, cf47, cf48, cf49, cf50, cf51, cf52, cf53, cf54, cf55, cf56, cf57, cf58, cf59, cf60, cf61, cf62, cf63, cf64, cf65, cf66, cf67, cf68, cf69, cf70, cf71, cf72, cf73, cf74, cf75, bd26_0_1_2_7_8_9_10_11_12_13_14_4_15, bd26_0_1_2_7_8_9_10_11_12_13_14_4_15p, bd28_, bd28_p, bd28_0, bd28_0p, bd28_0_1, bd28_0_1p, bd45_1_3_4_5_6, bd45_1_3_4_5_6p, bd49_0_1, bd49_0_1p, bd49_1, bd49_1p, bd74_0_1_2_3, bd74_0_1_2_3p, bd85_0, bd85_0p, bd85_0_1, bd85_0_1p, bd93_0_1_2, bd93_0_1_2p, bd94_0_1_2_3, bd94_0_1_2_3p, bs42_1_0, bs22_1_0, bs24_1_0, bs42_3_0_1_2, bs31_1_0, bs22_2_0_1, bs42_6_0_1_2_3_4_5, bs42_0_, eq4, eq4p, eq28, eq28p, eq42n, eq42np, eq42s, eq42sp, eq58n, eq58np, eq58s, eq58sp, eq63n, eq63np, eq63s, eq63sp, ne28, ne28p, ne45, ne45p]
      unfold S12_k5
      rw [← hKK]
      try simp -implicitDefEqProofs (disch := first | with_reducible exact Nat.ne_of_beq_eq_false rfl | omega) only [upd_ne, upd_eq, retK_ret, resL_tmp, resL_nil2]
      refine ⟨l02.trans (s9.in 6 rfl), d9, .inl ⟨hm, a9, v9, by rw [ej0], ?_, ((s9.sel [6, 0] (by decide) rfl).cut l02).sel [1, 0] (by decide) rfl⟩⟩
      rw [ej0]
      unfold jobsOf
      rw [if_neg (by rw [hb]; decide), List.append_nil]
      exact o9
  obtain ⟨b, hAb⟩ : ∃ b, A[i]? = some b := ⟨_, List.getElem?_eq_getElem (by omega)⟩
  obtain ⟨ba, bo, rfl, y0⟩ := Sees.num (ov.sees (G := G) (by decide) (s7.in 3 rfl)) hAb
  unfold S12_l6_k7
  have cf : ∀ j, cellIn G h7 ⟨xf, j, none⟩ = _ := fun j => cell_of (look_own (s7.at 2 rfl set_self))
  try simp -implicitDefEqProofs (disch := first | with_reducible exact Nat.ne_of_beq_eq_false rfl | omega) only [upd_ne, q56, q58, q14, q12, thenK_ret, blockK_ret, opH_sv, opH_su, al28, cf37, ld28, add_mk, Nat.add_zero, Nat.zero_add, ix42 (Int.natCast_nonneg i) hlt, Int.toNat_natCast, Nat.mul_one, ld3, y0, Option.some.injEq, cf, List.getElem?_cons_zero, List.getElem?_cons_succ, exists_eq_left']
  refine (place_walk (from_ := f) (s7.sel [4, 5, 6, 0, 1, 2, 3] (by decide) rfl) yo go (fun G' => htv G' h2 l02) hTL).mono ?_
  rintro _ h8 ⟨rfl, s8, d8⟩
  rw [skip_given hgt', stacks_eq hm]
  have epl := hpl
  rw [show A.length - i = (A.length - (i + 1)) + 1 by omega, placesL] at epl
  generalize hbb : bestL f (skipR f C.ht S TL GL) none (rstacksL C) = bb at epl
  try simp -implicitDefEqProofs only [ex1, un_not, ex0, st28w]
  intro xt hxt gxt
  cases bb with
  | none =>
    try simp -implicitDefEqProofs only [Option.isSome_none, Bool.not_false, HL.cond_true]
    rw [← hKK]
    try simp -implicitDefEqProofs (disch := first | with_reducible exact Nat.ne_of_beq_eq_false rfl | omega) only [retK_ret, resL_tmp, upd_ne, upd_eq, resL_nil2]
    exact fail 14 _ ((s8.sel [2] (by decide) rfl).past hxt) (d8.set gxt) (jobsR_room hge e5 hft epl.symm)
  | some z =>
  obtain ⟨gv2, hroom⟩ := gv.add hbb
  have s9 := s8.new (o := cellO z) hxt
  have d9 := d8.set (o := cellO z) gxt
  try simp -implicitDefEqProofs (disch := first | with_reducible exact Nat.ne_of_beq_eq_false rfl | omega) only [Option.isSome_some, Bool.not_true, HL.cond_false]
  rw [show (bCell (some z)) = z from rfl]
  generalize Hp.set h8 xt _ = h9 at s9 d9 ⊢
  have s9 : HL.Sep [noHp.set xt (cellO z), ya, ga, h2, aw, ag, noHp.set xf (cellO f), io] h9 := s9
  unfold S12_l6_k9
  obtain ⟨om, C', ab', cb', ap', cp', ar', cr', az', cs', ty, _⟩ := id yo
  obtain ⟨om', hom, mi, nym⟩ := yo.map
  have cy : ∀ j, cellIn G h9 ⟨yp, j, none⟩ = _ := fun j => cell_of (look_own (s9.in 1 rfl _ _ (ty.at 0 rfl set_self)))
  have ct : ∀ j, cellIn G h9 ⟨xt, j, none⟩ = _ := fun j => cell_of (look_own (s9.at 0 rfl set_self))
  have hmb : h9 mb = some om' := s9.in 1 rfl _ _ hom
  have nxm : xt ≠ mb := fun e => by
    rcases s9.apart (b := ya) (by simp) xt with k | k
    · rw [set_self] at k; cases k
    · rw [e, hom] at k; cases k
  obtain ⟨n0, hn0⟩ : ∃ n0, n0 = hgt S z + (GL.count z : Int) := ⟨_, rfl⟩
  have ez : (if is (z.1, z.2) = true then hv (z.1, z.2) else 0) = n0 := by rw [hn0]; exact hgt' z
  have hn1 : 0 ≤ n0 ∧ n0 < 8 := by
    have h0 : 0 ≤ hgt S z := by unfold hgt; exact Int.natCast_nonneg _
    omega
  have kp := fun (o' : Obj) (hv' : Cell → Int) (is' : Cell → Bool) (m' : MapIs o' hv' is') (e : (if is z = true then hv z else 0) = (if is' z = true then hv' z else 0)) => soft_entry (G := G) (xb := xt) (z := z) hmb mi m' nym nxm e (a := ⟨yp, 17, none⟩) rfl rfl
  obtain ⟨Rd, hRd⟩ : ∃ Rd : Sem Next → Prop, Rd = (fun s => s = sv (Instr.loadAt 72 (.pointer (some ⟨yp, 17, none⟩))) ∨ s = sv (Instr.loadAt 28 (.pointer (some ⟨xt, 0, none⟩))) ∨ s = sv (Instr.lookup 72 (.map (some mb)) (.agg #[.int .i64 z.1, .int .i64 z.2]) false)) := ⟨_, rfl⟩
  rw [← hRd] at kp
  have r1 : Rd (sv (Instr.loadAt 72 (.pointer (some ⟨yp, 17, none⟩)))) := by rw [hRd]; exact .inl rfl
  have r2 : Rd (sv (Instr.loadAt 28 (.pointer (some ⟨xt, 0, none⟩)))) := by rw [hRd]; exact .inr (.inl rfl)
  have r3 : Rd (sv (Instr.lookup 72 (.map (some mb)) (.agg #[.int .i64 z.1, .int .i64 z.2]) false)) := by rw [hRd]; exact .inr (.inr rfl)
  refine ⟨h9, Rd, Hp.le.refl _, ?_⟩
  try simp -implicitDefEqProofs (disch := first | with_reducible exact Nat.ne_of_beq_eq_false rfl | omega) only [upd_ne, q12, upd_eq, r2, opH_sv, ld28, add_mk, Nat.add_zero, Nat.zero_add, opH_su, pureW_sv, ld28p, ct, List.getElem?_cons_zero, Option.some.injEq, List.getElem?_cons_succ, exists_eq_left', true_and, pureW_nil, fa74_2p, r1, ld72p, cy, r3, lk1 (look_own hmb) mi, ez, bin_addp, wrap_in]
  refine ment hmb mi fun o' stp me => ?_
  refine ⟨kp _ _ _ me.is ?_, ?_⟩
  · have e0 : ((z.1, z.2) == z) = true := by simp
    simp only [e0, Bool.true_or, if_true]
  rw [ez]
  try simp -implicitDefEqProofs only [ex1p]
  refine mest set_self me fun o2 m2 => ?_
  rw [set_set]
  have s10 := (s9.pick 1 rfl rfl).put (o := o2) hom
  have d10 := d9.set (o := o2) (d9 _ _ hmb)
  have yo2 := yo.put m2
  generalize Hp.set h9 mb o2 = h10 at s10 d10 ⊢
  generalize Hp.set ya mb o2 = ya2 at s10 yo2
  have s10 : HL.Sep [ya2, noHp.set xt (cellO z), ga, h2, aw, ag, noHp.set xf (cellO f), io] h10 := s10
  have cf10 : ∀ j, cellIn G h10 ⟨xf, j, none⟩ = _ := fun j => cell_of (look_own (s10.at 6 rfl set_self))
  have ct10 : ∀ j, cellIn G h10 ⟨xt, j, none⟩ = _ := fun j => cell_of (look_own (s10.at 1 rfl set_self))
  try simp -implicitDefEqProofs (disch := first | with_reducible exact Nat.ne_of_beq_eq_false rfl | omega) only [q14, q17, ld28, add_mk, Nat.add_zero, Nat.zero_add, bd45_1_3_4_5_6, bs31_1_0, cf10, List.getElem?_cons_zero, Option.some.injEq, List.getElem?_cons_succ, ct10, exists_eq_left']
  intro w1 hw1 gw1
  generalize eb : Hp.set h10 w1 _ = h11
  obtain ⟨l11, d11, b11⟩ := boxed eb hw1 d10 gw1
  have s11 := (s10.sel [4, 0, 1, 2, 3, 5, 6, 7] (by decide) rfl).past (o := .cells #[.int .i64 0, .int .i64 1, .int .i64 0, .int .i64 b, .int .i64 f.1, .int .i64 f.2, .int .i64 z.1, .int .i64 z.2, .int .i64 (-1)] 45 (0, 0)) hw1
  rw [eb] at s11
  have z1 := zip_len (F := awayJ f) (A := A.take i) (GL := GL)
  have z2 := zip_len (F := againJ f) (A := A.take i) (GL := GL)
  refine append_piece jobC (by decide) un31 eojob (by decide) (by decide) (M := [awayJ f b z]) s11 d11 oa (Sees.row (c := jobC) (L := [awayJ f b z]) b11 rfl (Nat.le_refl _)) (by simp only [List.length_cons, List.length_nil]; omega) fun v12 a12 h12 o12 s12 d12 => ?_
  -- [a12, ya2, xt, ga, h2, ag, xf, io]
  have cf12 : ∀ j, cellIn G h12 ⟨xf, j, none⟩ = _ := fun j => cell_of (look_own (s12.at 6 rfl set_self))
  have ct12 : ∀ j, cellIn G h12 ⟨xt, j, none⟩ = _ := fun j => cell_of (look_own (s12.at 2 rfl set_self))
  try simp -implicitDefEqProofs (disch := first | with_reducible exact Nat.ne_of_beq_eq_false rfl | omega) only [ct12, List.getElem?_cons_zero, Option.some.injEq, List.getElem?_cons_succ, cf12, q18, exists_eq_left']
  intro w2 hw2 gw2
  generalize eb2 : Hp.set h12 w2 _ = h13
  obtain ⟨l13, d13, b13⟩ := boxed eb2 hw2 d12 gw2
  have s13 := (s12.sel [5, 0, 6, 7, 1, 3, 4] (by decide) rfl).past (o := .cells #[.int .i64 0, .int .i64 3, .int .i64 0, .int .i64 b, .int .i64 z.1, .int .i64 z.2, .int .i64 f.1, .int .i64 f.2, .int .i64 (-1)] 45 (0, 0)) hw2
  rw [eb2] at s13
  refine append_piece jobC (by decide) un31 eojob (by decide) (by decide) (M := [againJ f b z]) s13 d13 og (Sees.row (c := jobC) (L := [againJ f b z]) b13 rfl (Nat.le_refl _)) (by simp only [List.length_cons, List.length_nil]; omega) fun v14 a14 h14 o14 s14 d14 => ?_
  -- [a14, a12, xf, io, ya2, ga, h2]
  unfold S12_l6_k8
  try simp -implicitDefEqProofs (disch := first | with_reducible exact Nat.ne_of_beq_eq_false rfl | omega) only [upd_ne, q58, thenK_normal, opH_sv, bin_add, wrap_in]
  refine HX (A.length - (i + 1)) _ _ (by omega) ⟨i + 1, GL ++ [z], a12, a14, ya2, v12, v14, _, _, rfl, by omega, by simp [hgl], gv2, epl, by simp -implicitDefEqProofs (disch := first | with_reducible exact Nat.ne_of_beq_eq_false rfl | omega) only [upd_ne, q3], by simp -implicitDefEqProofs (disch := first | with_reducible exact Nat.ne_of_beq_eq_false rfl | omega) only [upd_ne, q5], by simp -implicitDefEqProofs (disch := first | with_reducible exact Nat.ne_of_beq_eq_false rfl | omega) only [upd_ne, q9], by simp -implicitDefEqProofs (disch := first | with_reducible exact Nat.ne_of_beq_eq_false rfl | omega) only [upd_ne, q12], by simp -implicitDefEqProofs (disch := first | with_reducible exact Nat.ne_of_beq_eq_false rfl | omega) only [upd_ne, q14], by simp -implicitDefEqProofs (disch := first | with_reducible exact Nat.ne_of_beq_eq_false rfl | omega) only [upd_ne, upd_eq], by simp -implicitDefEqProofs (disch := first | with_reducible exact Nat.ne_of_beq_eq_false rfl | omega) only [upd_ne, upd_eq], by simp -implicitDefEqProofs (disch := first | with_reducible exact Nat.ne_of_beq_eq_false rfl | omega) only [upd_ne, q56], by simp -implicitDefEqProofs (disch := first | with_reducible exact Nat.ne_of_beq_eq_false rfl | omega) only [upd_ne, q57], by simp -implicitDefEqProofs (disch := first | with_reducible exact Nat.ne_of_beq_eq_false rfl | omega) only [upd_eq] <;> rfl, yo2, (fun c => ?_), ?_, ?_, s14.sel [1, 0, 2, 3, 4, 5, 6] (by decide) rfl, d14⟩
  · rw [List.count_append, List.count_singleton]
    have hc := hgt' c
    by_cases hzc : (z == c) = true
    · obtain rfl := eq_of_beq hzc
      simp [← hn0]
      omega
    · have hzc' : (z == c) = false := by simpa using hzc
      have : ((z.1, z.2) == c) = false := hzc'
      simp only [this, Bool.false_or, Bool.false_eq_true, if_false, hzc']
      rw [Nat.add_zero, ← hc]
      cases is c <;> simp
  · rw [zip_step hAb hgl]; exact o12
  · rw [zip_step hAb hgl]; exact o14

end Go.Proofs.YtangejiigopdaaaDoor
end

section
/- The reference's jobs. -/
set_option linter.unusedSimpArgs false
set_option linter.unusedVariables false
set_option maxRecDepth 100000
namespace Go.Proofs.YtangejiigopdaaaDoor
open Go Go.HL

end Go.Proofs.YtangejiigopdaaaDoor
end

section
/- Rows that are the same; stacks copied; the document's example. -/
set_option linter.unusedSimpArgs false
set_option linter.unusedVariables false
set_option maxRecDepth 100000
namespace Go.Proofs.YtangejiigopdaaaDoor
open Go Go.HL

/-- Stacks copied. -/
theorem copystk_spec {G h : Hp} {v : Value} {S : List Stk} (hss : StS G h v S) (hst : Room S.length 40) (hb : ∀ s ∈ S, Room s.2.length 8) : HCalls Tryd.prog G 11 #[v] h (fun u h' => ∃ pz, StkO pz u S ∧ HL.Sep [pz, h] h' ∧ Dis G h') := by
  obtain ⟨a, cap, rfl, raw, sr, srr⟩ := hss
  have ca : CA G h { Cz with st := S } none 0 none 0 none 0 a cap := ⟨⟨none, 0, rfl, Nat.le_refl _, .inl rfl⟩, ⟨none, 0, rfl, Nat.le_refl _, .inl rfl⟩, ⟨none, 0, rfl, Nat.le_refl _, .inl rfl⟩, raw, sr, srr⟩
  exact copystacks_spec ca hst hb
theorem StkO.st {pz : Hp} {v : Value} {S : List Stk} (o : StkO pz v S) {G h2 : Hp} (l : pz.le h2) : StS G h2 v S := by
  obtain ⟨sz, cz, e0⟩ := o.len
  obtain ⟨raws, pr', pb', o, t, e, rel⟩ := o
  subst e0
  refine ⟨sz, cz, rfl, raws, o.sees (by decide) ((t.in 0 rfl).trans l), fun i r x h1 h2 => ?_⟩
  obtain ⟨a, b, c⟩ := rel i r x h1 h2
  exact ⟨a, b, c.sees (by decide) ((t.in 1 rfl).trans l)⟩

def C1 : Conf := ⟨3, 2, 3, [], [(2, 0)], [], [], 1, 1, 1, 1, 1, 1, 1, 1, true⟩
theorem made1 : MadeOk C1 := by
  rw [made_may]
  refine ⟨rfl, by decide, by decide, by decide, fun c hc => by simp [C1] at hc, fun c hc => ?_, fun c hc => by simp [C1] at hc, fun c hc => by simp [C1] at hc, ?_⟩
  · simp [C1] at hc
    subst hc
    decide +kernel
  · exact ⟨by simp [C1], by simp [C1], by simp [C1], by simp [C1], by simp [C1], by simp [C1]⟩
theorem jobs1 : (jobsR C1 [((0, 0), [7, 8, 9])] [] 7 (2, 0)).2 = 0 ∧ (jobsR C1 [((0, 0), [7, 8, 9])] [] 7 (2, 0)).1.map (fun j => (j.kind, j.bin)) = [(1, 9), (1, 8), (2, 7), (3, 8), (3, 9)] := by decide +kernel

theorem conf1_spec {G h : Hp} : HCalls Tryd.prog G 25 #[] h (fun u h' => ∃ pb, u = confV C1 none 0 (some ⟨pb, 0, none⟩) 1 none 0 none 0 ∧ h.le h' ∧ Dis G h' ∧ h' pb = some (.cells #[.int .i64 2, .int .i64 0] 28 (0, 0))) := by
  refine HCalls.assume fun d => enter25 (by simp) ?_
  unfold S25
  simp -implicitDefEqProofs only [retK_ret, resL_cell, upd_ne, upd_eq, resL_nil1, opH_su, opH_sv, bd28_0, bs22_1_0, bd26_0_1_2_7_8_9_10_11_12_13_14_4_15, al26, resC_ptr, ld26, add_mk, Nat.add_zero, Nat.zero_add]
  intro x hx gx
  generalize e1 : Hp.set h x _ = h1
  obtain ⟨l1, d1, b1⟩ := boxed e1 hx d gx
  try simp -implicitDefEqProofs only [opH_sv, opH_su, pureW_sv, opH_nil, pureW_nil, pick_t, pick_f, pick_tp, pick_fp, gd_tt, gd_ft, gd_tf, gd_ff, box_new, regs0, regs1, regs2, regs3, regs4, regs5, regs6, cells_agg, cells_int, cells_bool, cells_ptr, cells_slice, cells_string, cells_func, cells_nilFunc, cells_map, retK_ret, retK_normal, resL_tmp, resL_cell, resL_nil0, resL_nil1, resL_nil2, resL_nil3, resC_ptr, ex0, ex1, ex2, ex0p, ex1p, ex2p, HL.cond_true, HL.cond_false, thenK_normal, thenK_ret, thenK_exit, blockK_normal, blockK_ret, blockK_exit, scopeK_normal, scopeK_ret, scopeK_exit, wpH_pure, bin_add, bin_sub, bin_mul, bin_lss, bin_leq, bin_gtr, bin_geq, bin_quo, bin_rem, bin_quop, bin_remp, wrap_in, bin_addp, bin_subp, bin_mulp, bin_lssp, bin_leqp, bin_gtrp, bin_geqp, un_not, un_notp, un_neg, eq_int, ne_int, eq_intp, ne_intp, callV_fn, add_mk, upd_eq, upd_ne, cell_set_self, Nat.zero_add, Nat.add_zero, Option.some.injEq, exists_eq_left', List.getElem?_cons_succ, List.getElem?_cons_zero, true_and, and_true, bne_self_eq_false, beq_self_eq_true, Bool.not_true, Bool.not_false, Bool.and_true, Bool.and_self, Bool.and_false, Bool.true_and, List.length_cons, List.length_nil, ne_eq, not_false_eq_true, Nat.reduceAdd, Nat.reduceMul, if_true, if_false, oneCell_int, oneCell_bool, oneCell_ptr, oneCell_slice, oneCell_string, oneCell_func, oneCell_map, Int.toNat_natCast, List.set_cons_zero, List.set_cons_succ, Nat.lt_irrefl, Nat.zero_lt_succ, Nat.succ_lt_succ_iff, fa26_0, fa26_0p, fa26_1, fa26_1p, fa26_10, fa26_10p, fa26_11, fa26_11p, fa26_12, fa26_12p, fa26_13, fa26_13p, fa26_14, fa26_14p, fa26_15, fa26_15p, fa26_2, fa26_2p, fa26_3, fa26_3p, fa26_4, fa26_4p, fa26_5, fa26_5p, fa26_6, fa26_6p, fa26_7, fa26_7p, fa26_8, fa26_8p, fa26_9, fa26_9p, fa28_0, fa28_0p, fa28_1, fa28_1p, fa45_0, fa45_0p, fa45_1, fa45_1p, fa45_2, fa45_2p, fa45_3, fa45_3p, fa45_4, fa45_4p, fa45_5, fa45_5p, fa45_6, fa45_6p, fa49_0, fa49_0p, fa49_1, fa49_1p, fa74_0, fa74_0p, fa74_1, fa74_1p, fa74_2, fa74_2p, fa74_3, fa74_3p, fa85_0, fa85_0p, fa85_1, fa85_1p, fa93_0, fa93_0p, fa93_1, fa93_1p, fa93_2, fa93_2p, ld3, ld3p, ld4, ld4p, ld22, ld22p, ld23, ld23p, ld24, ld24p, ld26, ld26p, ld28, ld28p, ld42, ld42p, ld45, ld45p, ld49, ld49p, ld58, ld58p, ld69, ld69p, ld72, ld72p, ld85, ld85p, st3s, st4s, st22s, st23s, st24s, st26w, st28w, st42s, st45w, st49w, st85w, ix22, ix22p, ix23, ix23p, ix24, ix24p, ix31, ix31p, ix42, ix42p, ix104, ix104p, ln22, ln22p, ln23, ln23p, ln24, ln24p, ln31, ln31p, ln42, ln42p, al4, al22, al26, al28, al42, al49, al85, cf10, cf11, cf12, cf13, cf14, cf15, cf16, cf17, cf18, cf19, cf20, cf21, cf22, cf23, cf24, cf25, cf26, cf27, cf28, cf29, cf30, cf31, cf32, cf33, cf34, cf35, cf36, cf37, cf38, cf39, cf40, cf41, cf42, cf43, cf44, cf45, cf46, cf47, cf48, cf49, cf50, cf51, cf52, cf53, cf54, cf55, cf56, cf57, cf58, cf59, cf60, cf61, cf62, cf63, cf64, cf65, cf66, cf67, cf68, cf69, cf70, cf71, cf72, cf73, cf74, cf75, bd26_0_1_2_7_8_9_10_11_12_13_14_4_15, bd26_0_1_2_7_8_9_10_11_12_13_14_4_15p, bd28_, bd28_p, bd28_0, bd28_0p, bd28_0_1, bd28_0_1p, bd45_1_3_4_5_6, bd45_1_3_4_5_6p, bd49_0_1, bd49_0_1p, bd49_1, bd49_1p, bd74_0_1_2_3, bd74_0_1_2_3p, bd85_0, bd85_0p, bd85_0_1, bd85_0_1p, bd93_0_1_2, bd93_0_1_2p, bd94_0_1_2_3, bd94_0_1_2_3p, bs42_1_0, bs22_1_0, bs24_1_0, bs42_3_0_1_2, bs31_1_0, bs22_2_0_1, bs42_6_0_1_2_3_4_5, bs42_0_, eq4, eq4p, eq28, eq28p, eq42n, eq42np, eq42s, eq42sp, eq58n, eq58np, eq58s, eq58sp, eq63n, eq63np, eq63s, eq63sp, ne28, ne28p, ne45, ne45p]
  intro pb hpb gpb
  generalize e2 : Hp.set h1 pb _ = h2
  obtain ⟨l2, d2, b2⟩ := boxed e2 hpb d1 gpb
  try simp -implicitDefEqProofs (disch := first | with_reducible exact Nat.ne_of_beq_eq_false rfl | omega) only [opH_sv, opH_su, pureW_sv, opH_nil, pureW_nil, pick_t, pick_f, pick_tp, pick_fp, gd_tt, gd_ft, gd_tf, gd_ff, box_new, regs0, regs1, regs2, regs3, regs4, regs5, regs6, cells_agg, cells_int, cells_bool, cells_ptr, cells_slice, cells_string, cells_func, cells_nilFunc, cells_map, retK_ret, retK_normal, resL_tmp, resL_cell, resL_nil0, resL_nil1, resL_nil2, resL_nil3, resC_ptr, ex0, ex1, ex2, ex0p, ex1p, ex2p, HL.cond_true, HL.cond_false, thenK_normal, thenK_ret, thenK_exit, blockK_normal, blockK_ret, blockK_exit, scopeK_normal, scopeK_ret, scopeK_exit, wpH_pure, bin_add, bin_sub, bin_mul, bin_lss, bin_leq, bin_gtr, bin_geq, bin_quo, bin_rem, bin_quop, bin_remp, wrap_in, bin_addp, bin_subp, bin_mulp, bin_lssp, bin_leqp, bin_gtrp, bin_geqp, un_not, un_notp, un_neg, eq_int, ne_int, eq_intp, ne_intp, callV_fn, add_mk, upd_eq, upd_ne, cell_set_self, Nat.zero_add, Nat.add_zero, Option.some.injEq, exists_eq_left', List.getElem?_cons_succ, List.getElem?_cons_zero, true_and, and_true, bne_self_eq_false, beq_self_eq_true, Bool.not_true, Bool.not_false, Bool.and_true, Bool.and_self, Bool.and_false, Bool.true_and, List.length_cons, List.length_nil, ne_eq, not_false_eq_true, Nat.reduceAdd, Nat.reduceMul, if_true, if_false, oneCell_int, oneCell_bool, oneCell_ptr, oneCell_slice, oneCell_string, oneCell_func, oneCell_map, Int.toNat_natCast, List.set_cons_zero, List.set_cons_succ, Nat.lt_irrefl, Nat.zero_lt_succ, Nat.succ_lt_succ_iff, fa26_0, fa26_0p, fa26_1, fa26_1p, fa26_10, fa26_10p, fa26_11, fa26_11p, fa26_12, fa26_12p, fa26_13, fa26_13p, fa26_14, fa26_14p, fa26_15, fa26_15p, fa26_2, fa26_2p, fa26_3, fa26_3p, fa26_4, fa26_4p, fa26_5, fa26_5p, fa26_6, fa26_6p, fa26_7, fa26_7p, fa26_8, fa26_8p, fa26_9, fa26_9p, fa28_0, fa28_0p, fa28_1, fa28_1p, fa45_0, fa45_0p, fa45_1, fa45_1p, fa45_2, fa45_2p, fa45_3, fa45_3p, fa45_4, fa45_4p, fa45_5, fa45_5p, fa45_6, fa45_6p, fa49_0, fa49_0p, fa49_1, fa49_1p, fa74_0, fa74_0p, fa74_1, fa74_1p, fa74_2, fa74_2p, fa74_3, fa74_3p, fa85_0, fa85_0p, fa85_1, fa85_1p, fa93_0, fa93_0p, fa93_1, fa93_1p, fa93_2, fa93_2p, ld3, ld3p, ld4, ld4p, ld22, ld22p, ld23, ld23p, ld24, ld24p, ld26, ld26p, ld28, ld28p, ld42, ld42p, ld45, ld45p, ld49, ld49p, ld58, ld58p, ld69, ld69p, ld72, ld72p, ld85, ld85p, st3s, st4s, st22s, st23s, st24s, st26w, st28w, st42s, st45w, st49w, st85w, ix22, ix22p, ix23, ix23p, ix24, ix24p, ix31, ix31p, ix42, ix42p, ix104, ix104p, ln22, ln22p, ln23, ln23p, ln24, ln24p, ln31, ln31p, ln42, ln42p, al4, al22, al26, al28, al42, al49, al85, cf10, cf11, cf12, cf13, cf14, cf15, cf16, cf17, cf18, cf19, cf20, cf21, cf22, cf23, cf24, cf25, cf26, cf27, cf28, cf29, cf30, cf31, cf32, cf33, cf34, cf35, cf36, cf37, cf38, cf39, cf40, cf41, cf42, cf43, cf44, cf45, cf46, cf47, cf48, cf49, cf50, cf51, cf52, cf53, cf54, cf55, cf56, cf57, cf58, cf59, cf60, cf61, cf62, cf63, cf64, cf65, cf66, cf67, cf68, cf69, cf70, cf71, cf72, cf73, cf74, cf75, bd26_0_1_2_7_8_9_10_11_12_13_14_4_15, bd26_0_1_2_7_8_9_10_11_12_13_14_4_15p, bd28_, bd28_p, bd28_0, bd28_0p, bd28_0_1, bd28_0_1p, bd45_1_3_4_5_6, bd45_1_3_4_5_6p, bd49_0_1, bd49_0_1p, bd49_1, bd49_1p, bd74_0_1_2_3, bd74_0_1_2_3p, bd85_0, bd85_0p, bd85_0_1, bd85_0_1p, bd93_0_1_2, bd93_0_1_2p, bd94_0_1_2_3, bd94_0_1_2_3p, bs42_1_0, bs22_1_0, bs24_1_0, bs42_3_0_1_2, bs31_1_0, bs22_2_0_1, bs42_6_0_1_2_3_4_5, bs42_0_, eq4, eq4p, eq28, eq28p, eq42n, eq42np, eq42s, eq42sp, eq58n, eq58np, eq58s, eq58sp, eq63n, eq63np, eq63s, eq63sp, ne28, ne28p, ne45, ne45p]
  have nx : pb ≠ x := fun e => by rw [e, b1] at hpb; cases hpb
  refine Eq.mpr (store26 (C := C1) (D := Cz) (l2 _ _ b1)) ?_
  have cx : ∀ (o : Obj) (l : List Value) (e : TypeId), o = .cells l.toArray e (0, 0) → ∀ j, cellIn G (h2.set x o) ⟨x, j, none⟩ = l[j]? := fun o l e eo j => by rw [eo]; exact cell_of (look_own set_self)
  try simp -implicitDefEqProofs (maxSteps := 2000000) (disch := first | with_reducible exact Nat.ne_of_beq_eq_false rfl | exact oneCell_int | exact oneCell_bool | omega | rfl | (simp; done) | fail) only [cx _ _ _ rfl, List.getElem?_cons_zero, Option.some.injEq, List.getElem?_cons_succ, exists_eq_left']
  refine ⟨pb, rfl, ?_, d2.set gx, by rw [set_other nx]; exact b2⟩
  have hx2 : h x = none := hx
  exact fun b o hb => by
    by_cases hbx : b = x
    · subst hbx; rw [hx] at hb; cases hb
    · rw [set_other hbx]; exact l2 _ _ (l1 _ _ hb)

set_option maxHeartbeats 4000000 in
theorem awake_spec {G h : Hp} (st : Steps G) : HCalls Tryd.prog G 10 #[] h (fun u h' => u = .bool true ∧ h' = h) := by
  refine HCalls.assume fun d => quietly (enter10 (by simp) ?_)
  unfold S10
  simp -implicitDefEqProofs only [retK_ret, resL_tmp, upd_eq, resL_nil1, opH_sv, cf12, bd28_0, bs42_3_0_1_2, bd49_1, bs24_1_0, cf25]
  refine conf1_spec.mono ?_
  rintro _ h1 ⟨pb, rfl, l1, d1, bp⟩
  try simp -implicitDefEqProofs only [opH_sv, opH_su, pureW_sv, opH_nil, pureW_nil, pick_t, pick_f, pick_tp, pick_fp, gd_tt, gd_ft, gd_tf, gd_ff, box_new, regs0, regs1, regs2, regs3, regs4, regs5, regs6, cells_agg, cells_int, cells_bool, cells_ptr, cells_slice, cells_string, cells_func, cells_nilFunc, cells_map, retK_ret, retK_normal, resL_tmp, resL_cell, resL_nil0, resL_nil1, resL_nil2, resL_nil3, resC_ptr, ex0, ex1, ex2, ex0p, ex1p, ex2p, HL.cond_true, HL.cond_false, thenK_normal, thenK_ret, thenK_exit, blockK_normal, blockK_ret, blockK_exit, scopeK_normal, scopeK_ret, scopeK_exit, wpH_pure, bin_add, bin_sub, bin_mul, bin_lss, bin_leq, bin_gtr, bin_geq, bin_quo, bin_rem, bin_quop, bin_remp, wrap_in, bin_addp, bin_subp, bin_mulp, bin_lssp, bin_leqp, bin_gtrp, bin_geqp, un_not, un_notp, un_neg, eq_int, ne_int, eq_intp, ne_intp, callV_fn, add_mk, upd_eq, upd_ne, cell_set_self, Nat.zero_add, Nat.add_zero, Option.some.injEq, exists_eq_left', List.getElem?_cons_succ, List.getElem?_cons_zero, true_and, and_true, bne_self_eq_false, beq_self_eq_true, Bool.not_true, Bool.not_false, Bool.and_true, Bool.and_self, Bool.and_false, Bool.true_and, List.length_cons, List.length_nil, ne_eq, not_false_eq_true, Nat.reduceAdd, Nat.reduceMul, if_true, if_false, oneCell_int, oneCell_bool, oneCell_ptr, oneCell_slice, oneCell_string, oneCell_func, oneCell_map, Int.toNat_natCast, List.set_cons_zero, List.set_cons_succ, Nat.lt_irrefl, Nat.zero_lt_succ, Nat.succ_lt_succ_iff, fa26_0, fa26_0p, fa26_1, fa26_1p, fa26_10, fa26_10p, fa26_11, fa26_11p, fa26_12, fa26_12p, fa26_13, fa26_13p, fa26_14, fa26_14p, fa26_15, fa26_15p, fa26_2, fa26_2p, fa26_3, fa26_3p, fa26_4, fa26_4p, fa26_5, fa26_5p, fa26_6, fa26_6p, fa26_7, fa26_7p, fa26_8, fa26_8p, fa26_9, fa26_9p, fa28_0, fa28_0p, fa28_1, fa28_1p, fa45_0, fa45_0p, fa45_1, fa45_1p, fa45_2, fa45_2p, fa45_3, fa45_3p, fa45_4, fa45_4p, fa45_5, fa45_5p, fa45_6, fa45_6p, fa49_0, fa49_0p, fa49_1, fa49_1p, fa74_0, fa74_0p, fa74_1, fa74_1p, fa74_2, fa74_2p, fa74_3, fa74_3p, fa85_0, fa85_0p, fa85_1, fa85_1p, fa93_0, fa93_0p, fa93_1, fa93_1p, fa93_2, fa93_2p, ld3, ld3p, ld4, ld4p, ld22, ld22p, ld23, ld23p, ld24, ld24p, ld26, ld26p, ld28, ld28p, ld42, ld42p, ld45, ld45p, ld49, ld49p, ld58, ld58p, ld69, ld69p, ld72, ld72p, ld85, ld85p, st3s, st4s, st22s, st23s, st24s, st26w, st28w, st42s, st45w, st49w, st85w, ix22, ix22p, ix23, ix23p, ix24, ix24p, ix31, ix31p, ix42, ix42p, ix104, ix104p, ln22, ln22p, ln23, ln23p, ln24, ln24p, ln31, ln31p, ln42, ln42p, al4, al22, al26, al28, al42, al49, al85, cf10, cf11, cf12, cf13, cf14, cf15, cf16, cf17, cf18, cf19, cf20, cf21, cf22, cf23, cf24, cf25, cf26, cf27, cf28, cf29, cf30, cf31, cf32, cf33, cf34, cf35, cf36, cf37, cf38, cf39, cf40, cf41, cf42, cf43, cf44, cf45, cf46, cf47, cf48, cf49, cf50, cf51, cf52, cf53, cf54, cf55, cf56, cf57, cf58, cf59, cf60, cf61, cf62, cf63, cf64, cf65, cf66, cf67, cf68, cf69, cf70, cf71, cf72, cf73, cf74, cf75, bd26_0_1_2_7_8_9_10_11_12_13_14_4_15, bd26_0_1_2_7_8_9_10_11_12_13_14_4_15p, bd28_, bd28_p, bd28_0, bd28_0p, bd28_0_1, bd28_0_1p, bd45_1_3_4_5_6, bd45_1_3_4_5_6p, bd49_0_1, bd49_0_1p, bd49_1, bd49_1p, bd74_0_1_2_3, bd74_0_1_2_3p, bd85_0, bd85_0p, bd85_0_1, bd85_0_1p, bd93_0_1_2, bd93_0_1_2p, bd94_0_1_2_3, bd94_0_1_2_3p, bs42_1_0, bs22_1_0, bs24_1_0, bs42_3_0_1_2, bs31_1_0, bs22_2_0_1, bs42_6_0_1_2_3_4_5, bs42_0_, eq4, eq4p, eq28, eq28p, eq42n, eq42np, eq42s, eq42sp, eq58n, eq58np, eq58s, eq58sp, eq63n, eq63np, eq63s, eq63sp, ne28, ne28p, ne45, ne45p]
  intro x hx gx
  generalize e2 : Hp.set h1 x _ = h2
  obtain ⟨l2, d2, b2⟩ := boxed e2 hx d1 gx
  try simp -implicitDefEqProofs only [opH_sv, opH_su, pureW_sv, opH_nil, pureW_nil, pick_t, pick_f, pick_tp, pick_fp, gd_tt, gd_ft, gd_tf, gd_ff, box_new, regs0, regs1, regs2, regs3, regs4, regs5, regs6, cells_agg, cells_int, cells_bool, cells_ptr, cells_slice, cells_string, cells_func, cells_nilFunc, cells_map, retK_ret, retK_normal, resL_tmp, resL_cell, resL_nil0, resL_nil1, resL_nil2, resL_nil3, resC_ptr, ex0, ex1, ex2, ex0p, ex1p, ex2p, HL.cond_true, HL.cond_false, thenK_normal, thenK_ret, thenK_exit, blockK_normal, blockK_ret, blockK_exit, scopeK_normal, scopeK_ret, scopeK_exit, wpH_pure, bin_add, bin_sub, bin_mul, bin_lss, bin_leq, bin_gtr, bin_geq, bin_quo, bin_rem, bin_quop, bin_remp, wrap_in, bin_addp, bin_subp, bin_mulp, bin_lssp, bin_leqp, bin_gtrp, bin_geqp, un_not, un_notp, un_neg, eq_int, ne_int, eq_intp, ne_intp, callV_fn, add_mk, upd_eq, upd_ne, cell_set_self, Nat.zero_add, Nat.add_zero, Option.some.injEq, exists_eq_left', List.getElem?_cons_succ, List.getElem?_cons_zero, true_and, and_true, bne_self_eq_false, beq_self_eq_true, Bool.not_true, Bool.not_false, Bool.and_true, Bool.and_self, Bool.and_false, Bool.true_and, List.length_cons, List.length_nil, ne_eq, not_false_eq_true, Nat.reduceAdd, Nat.reduceMul, if_true, if_false, oneCell_int, oneCell_bool, oneCell_ptr, oneCell_slice, oneCell_string, oneCell_func, oneCell_map, Int.toNat_natCast, List.set_cons_zero, List.set_cons_succ, Nat.lt_irrefl, Nat.zero_lt_succ, Nat.succ_lt_succ_iff, fa26_0, fa26_0p, fa26_1, fa26_1p, fa26_10, fa26_10p, fa26_11, fa26_11p, fa26_12, fa26_12p, fa26_13, fa26_13p, fa26_14, fa26_14p, fa26_15, fa26_15p, fa26_2, fa26_2p, fa26_3, fa26_3p, fa26_4, fa26_4p, fa26_5, fa26_5p, fa26_6, fa26_6p, fa26_7, fa26_7p, fa26_8, fa26_8p, fa26_9, fa26_9p, fa28_0, fa28_0p, fa28_1, fa28_1p, fa45_0, fa45_0p, fa45_1, fa45_1p, fa45_2, fa45_2p, fa45_3, fa45_3p, fa45_4, fa45_4p, fa45_5, fa45_5p, fa45_6, fa45_6p, fa49_0, fa49_0p, fa49_1, fa49_1p, fa74_0, fa74_0p, fa74_1, fa74_1p, fa74_2, fa74_2p, fa74_3, fa74_3p, fa85_0, fa85_0p, fa85_1, fa85_1p, fa93_0, fa93_0p, fa93_1, fa93_1p, fa93_2, fa93_2p, ld3, ld3p, ld4, ld4p, ld22, ld22p, ld23, ld23p, ld24, ld24p, ld26, ld26p, ld28, ld28p, ld42, ld42p, ld45, ld45p, ld49, ld49p, ld58, ld58p, ld69, ld69p, ld72, ld72p, ld85, ld85p, st3s, st4s, st22s, st23s, st24s, st26w, st28w, st42s, st45w, st49w, st85w, ix22, ix22p, ix23, ix23p, ix24, ix24p, ix31, ix31p, ix42, ix42p, ix104, ix104p, ln22, ln22p, ln23, ln23p, ln24, ln24p, ln31, ln31p, ln42, ln42p, al4, al22, al26, al28, al42, al49, al85, cf10, cf11, cf12, cf13, cf14, cf15, cf16, cf17, cf18, cf19, cf20, cf21, cf22, cf23, cf24, cf25, cf26, cf27, cf28, cf29, cf30, cf31, cf32, cf33, cf34, cf35, cf36, cf37, cf38, cf39, cf40, cf41, cf42, cf43, cf44, cf45, cf46, cf47, cf48, cf49, cf50, cf51, cf52, cf53, cf54, cf55, cf56, cf57, cf58, cf59, cf60, cf61, cf62, cf63, cf64, cf65, cf66, cf67, cf68, cf69, cf70, cf71, cf72, cf73, cf74, cf75, bd26_0_1_2_7_8_9_10_11_12_13_14_4_15, bd26_0_1_2_7_8_9_10_11_12_13_14_4_15p, bd28_, bd28_p, bd28_0, bd28_0p, bd28_0_1, bd28_0_1p, bd45_1_3_4_5_6, bd45_1_3_4_5_6p, bd49_0_1, bd49_0_1p, bd49_1, bd49_1p, bd74_0_1_2_3, bd74_0_1_2_3p, bd85_0, bd85_0p, bd85_0_1, bd85_0_1p, bd93_0_1_2, bd93_0_1_2p, bd94_0_1_2_3, bd94_0_1_2_3p, bs42_1_0, bs22_1_0, bs24_1_0, bs42_3_0_1_2, bs31_1_0, bs22_2_0_1, bs42_6_0_1_2_3_4_5, bs42_0_, eq4, eq4p, eq28, eq28p, eq42n, eq42np, eq42s, eq42sp, eq58n, eq58np, eq58s, eq58sp, eq63n, eq63np, eq63s, eq63sp, ne28, ne28p, ne45, ne45p]
  intro y hy gy
  generalize e3 : Hp.set h2 y _ = h3
  obtain ⟨l3, d3, b3⟩ := boxed e3 hy d2 gy
  try simp -implicitDefEqProofs only [opH_sv, opH_su, pureW_sv, opH_nil, pureW_nil, pick_t, pick_f, pick_tp, pick_fp, gd_tt, gd_ft, gd_tf, gd_ff, box_new, regs0, regs1, regs2, regs3, regs4, regs5, regs6, cells_agg, cells_int, cells_bool, cells_ptr, cells_slice, cells_string, cells_func, cells_nilFunc, cells_map, retK_ret, retK_normal, resL_tmp, resL_cell, resL_nil0, resL_nil1, resL_nil2, resL_nil3, resC_ptr, ex0, ex1, ex2, ex0p, ex1p, ex2p, HL.cond_true, HL.cond_false, thenK_normal, thenK_ret, thenK_exit, blockK_normal, blockK_ret, blockK_exit, scopeK_normal, scopeK_ret, scopeK_exit, wpH_pure, bin_add, bin_sub, bin_mul, bin_lss, bin_leq, bin_gtr, bin_geq, bin_quo, bin_rem, bin_quop, bin_remp, wrap_in, bin_addp, bin_subp, bin_mulp, bin_lssp, bin_leqp, bin_gtrp, bin_geqp, un_not, un_notp, un_neg, eq_int, ne_int, eq_intp, ne_intp, callV_fn, add_mk, upd_eq, upd_ne, cell_set_self, Nat.zero_add, Nat.add_zero, Option.some.injEq, exists_eq_left', List.getElem?_cons_succ, List.getElem?_cons_zero, true_and, and_true, bne_self_eq_false, beq_self_eq_true, Bool.not_true, Bool.not_false, Bool.and_true, Bool.and_self, Bool.and_false, Bool.true_and, List.length_cons, List.length_nil, ne_eq, not_false_eq_true, Nat.reduceAdd, Nat.reduceMul, if_true, if_false, oneCell_int, oneCell_bool, oneCell_ptr, oneCell_slice, oneCell_string, oneCell_func, oneCell_map, Int.toNat_natCast, List.set_cons_zero, List.set_cons_succ, Nat.lt_irrefl, Nat.zero_lt_succ, Nat.succ_lt_succ_iff, fa26_0, fa26_0p, fa26_1, fa26_1p, fa26_10, fa26_10p, fa26_11, fa26_11p, fa26_12, fa26_12p, fa26_13, fa26_13p, fa26_14, fa26_14p, fa26_15, fa26_15p, fa26_2, fa26_2p, fa26_3, fa26_3p, fa26_4, fa26_4p, fa26_5, fa26_5p, fa26_6, fa26_6p, fa26_7, fa26_7p, fa26_8, fa26_8p, fa26_9, fa26_9p, fa28_0, fa28_0p, fa28_1, fa28_1p, fa45_0, fa45_0p, fa45_1, fa45_1p, fa45_2, fa45_2p, fa45_3, fa45_3p, fa45_4, fa45_4p, fa45_5, fa45_5p, fa45_6, fa45_6p, fa49_0, fa49_0p, fa49_1, fa49_1p, fa74_0, fa74_0p, fa74_1, fa74_1p, fa74_2, fa74_2p, fa74_3, fa74_3p, fa85_0, fa85_0p, fa85_1, fa85_1p, fa93_0, fa93_0p, fa93_1, fa93_1p, fa93_2, fa93_2p, ld3, ld3p, ld4, ld4p, ld22, ld22p, ld23, ld23p, ld24, ld24p, ld26, ld26p, ld28, ld28p, ld42, ld42p, ld45, ld45p, ld49, ld49p, ld58, ld58p, ld69, ld69p, ld72, ld72p, ld85, ld85p, st3s, st4s, st22s, st23s, st24s, st26w, st28w, st42s, st45w, st49w, st85w, ix22, ix22p, ix23, ix23p, ix24, ix24p, ix31, ix31p, ix42, ix42p, ix104, ix104p, ln22, ln22p, ln23, ln23p, ln24, ln24p, ln31, ln31p, ln42, ln42p, al4, al22, al26, al28, al42, al49, al85, cf10, cf11, cf12, cf13, cf14, cf15, cf16, cf17, cf18, cf19, cf20, cf21, cf22, cf23, cf24, cf25, cf26, cf27, cf28, cf29, cf30, cf31, cf32, cf33, cf34, cf35, cf36, cf37, cf38, cf39, cf40, cf41, cf42, cf43, cf44, cf45, cf46, cf47, cf48, cf49, cf50, cf51, cf52, cf53, cf54, cf55, cf56, cf57, cf58, cf59, cf60, cf61, cf62, cf63, cf64, cf65, cf66, cf67, cf68, cf69, cf70, cf71, cf72, cf73, cf74, cf75, bd26_0_1_2_7_8_9_10_11_12_13_14_4_15, bd26_0_1_2_7_8_9_10_11_12_13_14_4_15p, bd28_, bd28_p, bd28_0, bd28_0p, bd28_0_1, bd28_0_1p, bd45_1_3_4_5_6, bd45_1_3_4_5_6p, bd49_0_1, bd49_0_1p, bd49_1, bd49_1p, bd74_0_1_2_3, bd74_0_1_2_3p, bd85_0, bd85_0p, bd85_0_1, bd85_0_1p, bd93_0_1_2, bd93_0_1_2p, bd94_0_1_2_3, bd94_0_1_2_3p, bs42_1_0, bs22_1_0, bs24_1_0, bs42_3_0_1_2, bs31_1_0, bs22_2_0_1, bs42_6_0_1_2_3_4_5, bs42_0_, eq4, eq4p, eq28, eq28p, eq42n, eq42np, eq42s, eq42sp, eq58n, eq58np, eq58s, eq58sp, eq63n, eq63np, eq63s, eq63sp, ne28, ne28p, ne45, ne45p]
  have hss : ∀ G' h', h3.le h' → StS G' h' (.slice (some ⟨y, 0, none⟩) 1 1) [((0, 0), [7, 8, 9])] := fun G' h' l => by
    refine ⟨_, 1, rfl, [⟨0, 0, some ⟨x, 0, none⟩, 3, 3⟩], Sees.row (c := rawC) (L := [⟨0, 0, some ⟨x, 0, none⟩, 3, 3⟩]) (l _ _ b3) rfl (Nat.le_refl _), fun i r s hr hs => ?_⟩
    cases i with
    | succ i => simp at hr
    | zero =>
      simp at hr hs
      subst hr hs
      exact ⟨rfl, rfl, Sees.row (c := icC) (L := [7, 8, 9]) (l _ _ (l3 _ _ b2)) rfl (Nat.le_refl _)⟩
  have ca : CA G h3 C1 none 0 (some ⟨pb, 0, none⟩) 1 none 0 none 0 := ⟨⟨none, 0, rfl, Nat.le_refl _, .inl rfl⟩, Sees.row (c := cellC) (L := [(2, 0)]) (l3 _ _ (l2 _ _ bp)) rfl (Nat.le_refl _), ⟨none, 0, rfl, Nat.le_refl _, .inl rfl⟩, [], ⟨none, 0, rfl, Nat.le_refl _, .inl rfl⟩, fun i r s hr => by simp at hr⟩
  refine (jobs_spec (bin := 7) (port := (2, 0)) (TL := []) ca.cv hss (fun _ _ _ => ⟨none, 0, rfl, Nat.le_refl _, .inl rfl⟩) st (fun p hp => by simp [C1] at hp) (by decide) (by decide) (by decide) (fun s hs => by simp at hs; subst hs; decide)).mono ?_
  rintro _ h4 ⟨l4, d4, ⟨hm, io, vv, rfl, o, s4⟩ | ⟨hm, rfl⟩⟩
  rotate_left
  · exact absurd made1 hm
  obtain ⟨j1, j2⟩ := jobs1
  rw [j1]
  generalize (jobsR C1 [((0, 0), [7, 8, 9])] [] 7 (2, 0)).1 = J at o j2
  have hJ : J.length = 5 := by simpa using congrArg List.length j2
  obtain ⟨a0, a1, a2, a3, a4, rfl⟩ : ∃ a0 a1 a2 a3 a4, J = [a0, a1, a2, a3, a4] := by
    match J, hJ with
    | [a, b, c, d, e], _ => exact ⟨a, b, c, d, e, rfl⟩
  simp only [List.map_cons, List.map_nil, List.cons.injEq, Prod.mk.injEq, and_true] at j2
  obtain ⟨⟨k0, n0⟩, ⟨k1, n1⟩, ⟨k2, n2⟩, ⟨k3, n3⟩, ⟨k4, n4⟩⟩ := j2
  obtain ⟨sa, cap, rfl, hc⟩ := o.len (by decide)
  have sv := o.sees (G := G) (by decide) (s4.in 0 rfl)
  obtain ⟨b, ofs, rfl, _, x1, _, x3, _⟩ := Sees.job (i := 0) sv rfl
  obtain ⟨b', ofs', eb, _, _, _, y3, _⟩ := Sees.job (i := 1) sv rfl
  cases eb
  obtain ⟨b', ofs', eb, _, z1, _, z3, _⟩ := Sees.job (i := 2) sv rfl
  cases eb
  obtain ⟨b', ofs', eb, _, u1, _, u3, _⟩ := Sees.job (i := 3) sv rfl
  cases eb
  obtain ⟨b', ofs', eb, _, _, _, w3, _⟩ := Sees.job (i := 4) sv rfl
  cases eb
  rw [k0] at x1
  rw [n0] at x3
  rw [n1] at y3
  rw [k2] at z1
  rw [n2] at z3
  rw [k3] at u1
  rw [n3] at u3
  rw [n4] at w3
  simp only [Nat.zero_mul, Nat.one_mul, Nat.add_zero, Nat.reduceMul] at x1 x3 y3 z1 z3 u1 u3 w3
  try simp -implicitDefEqProofs only [List.length_cons, List.length_nil, Nat.zero_add, Nat.reduceAdd, ex1, eq_int, beq_self_eq_true, pick_t, gd_tt, opH_sv, ex0, ln31, show (((5 : Nat) : Int) == 5) = true from rfl, ix31 (by decide : (0 : Int) ≤ 0) (by decide : (0 : Int) < (5 : Nat)), show Int.toNat 0 = 0 from rfl, Nat.zero_mul, add_mk, Nat.add_zero, fa45_1, ld3, x1, Option.some.injEq, exists_eq_left', fa45_3, x3, ix31 (by decide : (0 : Int) ≤ 1) (by decide : (1 : Int) < (5 : Nat)), show Int.toNat 1 = 1 from rfl, Nat.one_mul, y3, ix31 (by decide : (0 : Int) ≤ 2) (by decide : (2 : Int) < (5 : Nat)), show Int.toNat 2 = 2 from rfl, Nat.reduceMul, z1, z3, ix31 (by decide : (0 : Int) ≤ 3) (by decide : (3 : Int) < (5 : Nat)), show Int.toNat 3 = 3 from rfl, u1, u3, ix31 (by decide : (0 : Int) ≤ 4) (by decide : (4 : Int) < (5 : Nat)), show Int.toNat 4 = 4 from rfl, w3, true_and]
  first | exact l1.trans (l2.trans (l3.trans l4)) | exact ⟨rfl, l1.trans (l2.trans (l3.trans l4))⟩

end Go.Proofs.YtangejiigopdaaaDoor
end

section
/- DigPlaces: the walk. -/
set_option linter.unusedSimpArgs false
set_option linter.unusedVariables false
set_option maxRecDepth 100000
namespace Go.Proofs.YtangejiigopdaaaDoor
open Go Go.HL

end Go.Proofs.YtangejiigopdaaaDoor
end

section
/- DigJobs: the walk. -/
set_option linter.unusedSimpArgs false
set_option linter.unusedVariables false
set_option maxRecDepth 100000
namespace Go.Proofs.YtangejiigopdaaaDoor
open Go Go.HL

end Go.Proofs.YtangejiigopdaaaDoor
end

section
/- A config that comes in as an argument. -/
set_option linter.unusedSimpArgs false
set_option linter.unusedVariables false
set_option maxRecDepth 100000
namespace Go.Proofs.YtangejiigopdaaaDoor
open Go Go.HL Go.ChangeShapes Go.WideShapes Go.RowKit

theorem light_of {H : Type} {P : Program} {ts : List TypeId} {ds : List (DataW H)} (h : (DataW.weightsEach P ts ds).all (· ≤ reachBytes) = true) {j : Nat} {t : TypeId} {d : DataW H} (ht : ts[j]? = some t) (hd : ds[j]? = some d) : Light P t d := fun n hn => by
  simpa using List.all_eq_true.1 h n (DataW.weights_mem_each ht hd n hn)

theorem okWide_structF {P : Program} {w : World} {r : Reach} {base : Nat} {t : TypeId} {v : Value} {tos : List (TypeId × Nat)} (ht : structFields P t = some tos) (hv : Value.okWide P w r base t v) : ∃ cs : Array Value, v = .agg cs := by
  unfold structFields at ht
  split at ht
  · rename_i fs hfs
    obtain ⟨cs, rfl, _⟩ := okWide_struct hfs hv
    exact ⟨cs, rfl⟩
  · cases ht

theorem sf30 : structFields Tryd.prog 85 = some [(28, 0), (4, 2)] := by kernel_rfl
theorem sf95 : structFields Tryd.prog 49 = some [(28, 0), (42, 2)] := by kernel_rfl
theorem sf26 : structFields Tryd.prog 26 = some [(3, 0), (3, 1), (3, 2), (22, 3), (22, 4), (23, 5), (24, 6), (3, 7), (3, 8), (3, 9), (3, 10), (3, 11), (3, 12), (3, 13), (3, 14), (4, 15)] := by kernel_rfl
theorem un4b : Tryd.prog.underlying 4 = some .bool := by kernel_rfl
theorem c4 : Tryd.prog.cellsOf 4 = 1 := by kernel_rfl
theorem c22 : Tryd.prog.cellsOf 22 = 1 := by kernel_rfl
theorem c23 : Tryd.prog.cellsOf 23 = 1 := by kernel_rfl
theorem c24 : Tryd.prog.cellsOf 24 = 1 := by kernel_rfl
theorem c26 : Tryd.prog.cellsOf 26 = 16 := by kernel_rfl
theorem c30 : Tryd.prog.cellsOf 85 = 3 := by kernel_rfl
theorem c57 : Tryd.prog.cellsOf 42 = 1 := by kernel_rfl
theorem c95 : Tryd.prog.cellsOf 49 = 3 := by kernel_rfl

section
variable {H : Type} {enc : TypeId × Value → H} {w : World} {base : Nat} {spare : Nat → Bool} {held : Bool}

theorem len2 {α : Type} {L : List α} (h : L.length = 2) : ∃ a b, L = [a, b] := by
  match L, h with
  | [a, b], _ => exact ⟨a, b, rfl⟩
theorem len3 {α : Type} {L : List α} (h : L.length = 3) : ∃ a b c, L = [a, b, c] := by
  match L, h with
  | [a, b, c], _ => exact ⟨a, b, c, rfl⟩

theorem cell_dec {m : Nat} {cs : List Value} {y : DataW H × List MemPlace} (h : DataW.trod enc Tryd.prog w base spare held m 28 cs = some y) : ∃ c : Cell, cs = cellC.enc c ∧ Bd c.1 ∧ Bd c.2 := by
  obtain ⟨hl, d⟩ := dec_fields sf28 h
  rw [c28] at hl
  obtain ⟨v0, v1, rfl⟩ := len2 hl
  obtain ⟨m0, z0, e0⟩ := d 0 _ _ rfl
  obtain ⟨m1, z1, e1⟩ := d 1 _ _ rfl
  rw [c3] at e0 e1
  obtain ⟨x0, f0, b0⟩ := dec_int un3i e0
  obtain ⟨x1, f1, b1⟩ := dec_int un3i e1
  simp at f0 f1
  subst f0 f1
  exact ⟨(x0, x1), rfl, b0, b1⟩
theorem pose_dec {m : Nat} {cs : List Value} {y : DataW H × List MemPlace} (h : DataW.trod enc Tryd.prog w base spare held m 85 cs = some y) : ∃ p : Pose, cs = poseC.enc p ∧ PB p := by
  obtain ⟨hl, d⟩ := dec_fields sf30 h
  rw [c30] at hl
  obtain ⟨v0, v1, v2, rfl⟩ := len3 hl
  obtain ⟨m0, z0, e0⟩ := d 0 _ _ rfl
  obtain ⟨m1, z1, e1⟩ := d 1 _ _ rfl
  rw [c28] at e0
  rw [c4] at e1
  obtain ⟨c, f0, b0⟩ := cell_dec e0
  obtain ⟨b, f1⟩ := dec_bool un4b e1
  simp [cellC] at f0 f1
  obtain ⟨rfl, rfl⟩ := f0
  subst f1
  exact ⟨⟨c.1, c.2, b⟩, rfl, b0⟩

/-- A stack among the arguments. -/
def RawOk (G : Hp) (r : Raw) : Prop := ∃ L : List Int, r.n = L.length ∧ Room L.length 8 ∧ ∀ h, Dis G h → Sees icC G h (.slice r.a r.n r.c) L

theorem room_of {n bytes : Nat} (h : n * bytes ≤ reachBytes) (hb : bytes ≤ 40) : Room n bytes := by
  unfold Room
  rw [show reachBytes = 140737488351232 from rfl] at h
  rw [Nat.add_mul, Nat.mul_assoc]
  have : 192 * bytes ≤ 7680 := by omega
  omega

theorem raw_dec {m : Nat} {cs : List Value} {y : DataW H × List MemPlace} (h : DataW.trod enc Tryd.prog w base spare held m 49 cs = some y) (hw : Light Tryd.prog 49 y.1) : ∃ r : Raw, cs = rawC.enc r ∧ RawOk (ground w) r := by
  obtain ⟨hl, d⟩ := dec_fieldsW sf95 h hw
  rw [c95] at hl
  obtain ⟨v0, v1, v2, rfl⟩ := len3 hl
  obtain ⟨m0, z0, e0, _⟩ := d 0 _ _ rfl
  obtain ⟨m1, z1, e1, w1⟩ := d 1 _ _ rfl
  rw [c28] at e0
  rw [c57] at e1
  obtain ⟨c, f0, b0⟩ := cell_dec e0
  obtain ⟨a, n, cap, L, f1, hL, hs, hg, _⟩ := dec_sliceW icC (fun _ => True) un42 c3 (by decide) (fun _ _ _ h _ => let ⟨x, e, _⟩ := dec_int un3i h; ⟨x, e, trivial⟩) e1 w1
  simp [cellC] at f0 f1
  obtain ⟨rfl, rfl⟩ := f0
  subst f1
  rw [show Tryd.prog.bytesOf 3 = 8 by kernel_rfl] at hs
  subst hL
  exact ⟨⟨c.1, c.2, a, L.length, cap⟩, rfl, L, rfl, room_of hs (by decide), hg⟩

theorem len16 {α : Type} {L : List α} (h : L.length = 16) : ∃ a b c d e f g i j k l m n o p q, L = [a, b, c, d, e, f, g, i, j, k, l, m, n, o, p, q] := by
  match L, h with
  | [a, b, c, d, e, f, g, i, j, k, l, m, n, o, p, q], _ => exact ⟨a, b, c, d, e, f, g, i, j, k, l, m, n, o, p, q, rfl⟩

theorem conf_dec {m : Nat} {cs : List Value} {y : DataW H × List MemPlace} (h : DataW.trod enc Tryd.prog w base spare held m 26 cs = some y) (hw : Light Tryd.prog 26 y.1) :
    ∃ C : Conf, (∀ h, Dis (ground w) h → CV (ground w) h (.agg cs.toArray) C) ∧ Fit0 C ∧ ∀ p ∈ C.ro, PB p := by
  obtain ⟨hl, d⟩ := dec_fieldsW sf26 h hw
  rw [c26] at hl
  obtain ⟨v0, v1, v2, v3, v4, v5, v6, v7, v8, v9, v10, v11, v12, v13, v14, v15, rfl⟩ := len16 hl
  obtain ⟨_, _, e0, _⟩ := d 0 _ _ rfl
  obtain ⟨_, _, e1, _⟩ := d 1 _ _ rfl
  obtain ⟨_, _, e2, _⟩ := d 2 _ _ rfl
  obtain ⟨_, _, e3, w3⟩ := d 3 _ _ rfl
  obtain ⟨_, _, e4, w4⟩ := d 4 _ _ rfl
  obtain ⟨_, _, e5, w5⟩ := d 5 _ _ rfl
  obtain ⟨_, _, e6, w6⟩ := d 6 _ _ rfl
  obtain ⟨_, _, e7, _⟩ := d 7 _ _ rfl
  obtain ⟨_, _, e8, _⟩ := d 8 _ _ rfl
  obtain ⟨_, _, e9, _⟩ := d 9 _ _ rfl
  obtain ⟨_, _, e10, _⟩ := d 10 _ _ rfl
  obtain ⟨_, _, e11, _⟩ := d 11 _ _ rfl
  obtain ⟨_, _, e12, _⟩ := d 12 _ _ rfl
  obtain ⟨_, _, e13, _⟩ := d 13 _ _ rfl
  obtain ⟨_, _, e14, _⟩ := d 14 _ _ rfl
  obtain ⟨_, _, e15, _⟩ := d 15 _ _ rfl
  simp only [c3, c4, c22, c23, c24] at e0 e1 e2 e3 e4 e5 e6 e7 e8 e9 e10 e11 e12 e13 e14 e15
  obtain ⟨x0, f0, _⟩ := dec_int un3i e0
  obtain ⟨x1, f1, _⟩ := dec_int un3i e1
  obtain ⟨x2, f2, _⟩ := dec_int un3i e2
  obtain ⟨ab, nb, cb, B, f3, hB, sB, gB, _⟩ := dec_sliceW cellC (fun _ => True) un22 c28 (by decide) (fun _ _ _ h _ => let ⟨x, e, _⟩ := cell_dec h; ⟨x, e, trivial⟩) e3 w3
  obtain ⟨ap, np, cp, PO, f4, hP, sP, gP, _⟩ := dec_sliceW cellC (fun _ => True) un22 c28 (by decide) (fun _ _ _ h _ => let ⟨x, e, _⟩ := cell_dec h; ⟨x, e, trivial⟩) e4 w4
  obtain ⟨ar, nr, cr, R, f5, hR, sR, gR, qR⟩ := dec_sliceW poseC PB un23 c30 (by decide) (fun _ _ _ h _ => pose_dec h) e5 w5
  obtain ⟨az, nz, cz, Z, f6, hZ, sZ, gZ, qZ⟩ := dec_sliceW rawC (RawOk (ground w)) un24 c95 (by decide) (fun _ _ _ h hw => raw_dec h hw) e6 w6
  obtain ⟨x7, f7, _⟩ := dec_int un3i e7
  obtain ⟨x8, f8, _⟩ := dec_int un3i e8
  obtain ⟨x9, f9, _⟩ := dec_int un3i e9
  obtain ⟨x10, f10, _⟩ := dec_int un3i e10
  obtain ⟨x11, f11, _⟩ := dec_int un3i e11
  obtain ⟨x12, f12, _⟩ := dec_int un3i e12
  obtain ⟨x13, f13, _⟩ := dec_int un3i e13
  obtain ⟨x14, f14, _⟩ := dec_int un3i e14
  obtain ⟨x15, f15⟩ := dec_bool un4b e15
  simp at f0 f1 f2 f3 f4 f5 f6 f7 f8 f9 f10 f11 f12 f13 f14 f15
  subst f0 f1 f2 f3 f4 f5 f6 f7 f8 f9 f10 f11 f12 f13 f14 f15
  subst hB hP hR hZ
  rw [show Tryd.prog.bytesOf 28 = 16 by kernel_rfl] at sB sP
  rw [show Tryd.prog.bytesOf 85 = 24 by kernel_rfl] at sR
  rw [show Tryd.prog.bytesOf 49 = 40 by kernel_rfl] at sZ
  obtain ⟨S, hS, qS⟩ := list_of (Q := fun i (s : Cell × List Int) => ∀ r, Z[i]? = some r → (r.x, r.y) = s.1 ∧ r.n = s.2.length ∧ Room s.2.length 8 ∧ ∀ h, Dis (ground w) h → Sees icC (ground w) h (.slice r.a s.2.length r.c) s.2) Z.length (fun i hi => by
    obtain ⟨L, e, rm, se⟩ := qZ _ (List.getElem_mem hi)
    refine ⟨((Z[i].x, Z[i].y), L), fun r hr => ?_⟩
    rw [List.getElem?_eq_getElem hi] at hr
    cases hr
    exact ⟨rfl, e, rm, fun h d => by rw [← e]; exact se h d⟩)
  refine ⟨⟨x0, x1, x2, B, PO, R, S, x7, x8, x9, x10, x11, x12, x13, x14, x15⟩, fun h d => ⟨ab, cb, ap, cp, ar, cr, az, cz, by simp only [confV, hS], gB h d, gP h d, gR h d, Z, by show Sees rawC _ h (.slice az S.length cz) Z; rw [hS]; exact gZ h d, fun i r s hr hs => ?_⟩, ⟨room_of sB (by decide), room_of sP (by decide), room_of sR (by decide), by show Room S.length 40; rw [hS]; exact room_of sZ (by decide), fun s hs => ?_⟩, qR⟩
  · obtain ⟨a, b, c, e⟩ := qS i s hs r hr
    exact ⟨a, b, e h d⟩
  · obtain ⟨i, hi⟩ := List.getElem?_of_mem hs
    have hi2 : i < Z.length := by rw [← hS]; exact (List.getElem?_eq_some_iff.1 hi).1
    exact (qS i s hi _ (List.getElem?_eq_getElem hi2)).2.2.1

theorem cell_arg {r : Reach} {b0 : Nat} {v : Value} {d : DataW H} {ps : List MemPlace} (k : Value.okWide Tryd.prog w r b0 28 v) (h : DataW.Trod enc Tryd.prog w base spare held 28 v d ps) : ∃ c : Cell, v = cellV c ∧ Bd c.1 ∧ Bd c.2 := by
  obtain ⟨cs, rfl⟩ := okWide_structF sf28 k
  obtain ⟨m, h⟩ := h
  obtain ⟨c, e, b⟩ := cell_dec (cs := cs.toList) h
  exact ⟨c, by rw [← Array.toArray_toList (xs := cs), e]; rfl, b⟩
/-- The config as an argument. -/
theorem conf_arg {r : Reach} {b0 : Nat} {v : Value} {d : DataW H} {ps : List MemPlace} (k : Value.okWide Tryd.prog w r b0 26 v) (h : DataW.Trod enc Tryd.prog w base spare held 26 v d ps) (hl : Light Tryd.prog 26 d) :
    ∃ C : Conf, (∀ h, Dis (ground w) h → CV (ground w) h v C) ∧ Fit0 C ∧ ∀ p ∈ C.ro, PB p := by
  obtain ⟨cs, rfl⟩ := okWide_structF sf26 k
  obtain ⟨m, h⟩ := h
  obtain ⟨C, hC, f, hp⟩ := conf_dec (cs := cs.toList) h hl
  exact ⟨C, fun h d => by simpa using hC h d, f, hp⟩
end
end Go.Proofs.YtangejiigopdaaaDoor
end

section
/- Cells and stacks that come in as arguments. -/
set_option linter.unusedSimpArgs false
set_option linter.unusedVariables false
set_option maxRecDepth 100000
namespace Go.Proofs.YtangejiigopdaaaDoor
open Go Go.HL Go.ChangeShapes Go.WideShapes Go.RowKit

section
variable {H : Type} {enc : TypeId × Value → H} {w : World} {base : Nat} {spare : Nat → Bool} {held : Bool}
theorem cells_arg {r : Reach} {b0 : Nat} {v : Value} {d : DataW H} {ps : List MemPlace} (k : Value.okWide Tryd.prog w r b0 22 v) (h : DataW.Trod enc Tryd.prog w base spare held 22 v d ps) (hl : Light Tryd.prog 22 d) :
    ∃ L : List Cell, (∀ h, Dis (ground w) h → Sees cellC (ground w) h v L) ∧ ∀ c ∈ L, Bd c.1 ∧ Bd c.2 := by
  obtain ⟨a, len, cap, rfl⟩ := okWide_slice un22 k
  obtain ⟨m, h⟩ := h
  obtain ⟨a', n', cap', L, f, hL, _, g, q⟩ := dec_sliceW cellC (fun c => Bd c.1 ∧ Bd c.2) un22 c28 (by decide) (fun _ _ _ h _ => cell_dec h) h hl
  simp [Value.cells] at f
  obtain ⟨rfl, rfl, rfl⟩ := f
  exact ⟨L, fun h d => g h d, q⟩
end
end Go.Proofs.YtangejiigopdaaaDoor
end

section
/- Small configs; what the place is; the law's own bins. -/
set_option linter.unusedSimpArgs false
set_option linter.unusedVariables false
set_option maxRecDepth 100000
namespace Go.Proofs.YtangejiigopdaaaDoor
open Go Go.HL

theorem bestL_none {f : Cell} {sk : Cell → Bool} : ∀ {L : List Cell} {b : Option Cell}, bestL f sk b L = none ↔ b = none ∧ ∀ c ∈ L, sk c = true
  | [], b => by simp [bestL]
  | c :: L, b => by
    rw [bestL, bestL_none]
    cases hs : sk c with
    | true => simp [hs]
    | false =>
      simp only [Bool.false_eq_true, if_false]
      constructor
      · rintro ⟨h, _⟩
        split at h
        · cases h
        · rename_i hn
          subst h
          exact absurd rfl hn
      · rintro ⟨_, h⟩
        have := h c (.head _)
        rw [hs] at this
        cases this
theorem bestL_least {f : Cell} {sk : Cell → Bool} : ∀ {L : List Cell} {b : Option Cell} {z : Cell}, bestL f sk b L = some z → (∀ x, b = some x → awayI f z ≤ awayI f x) ∧ ∀ c ∈ L, sk c = false → awayI f z ≤ awayI f c
  | [], b, z, h => ⟨fun x hx => by rw [bestL, hx] at h; cases h; exact Int.le_refl _, fun c hc => by cases hc⟩
  | c :: L, b, z, h => by
    rw [bestL] at h
    obtain ⟨h1, h2⟩ := bestL_least h
    cases hs : sk c with
    | true =>
      rw [if_pos hs] at h1
      refine ⟨h1, fun x hx hsx => ?_⟩
      rcases List.mem_cons.1 hx with rfl | hx
      · rw [hs] at hsx; cases hsx
      · exact h2 x hx hsx
    | false =>
      rw [if_neg (by rw [hs]; decide)] at h1
      cases hn : nearer f b c with
      | true =>
        rw [if_pos hn] at h1
        have hc := h1 c rfl
        refine ⟨fun x hx => ?_, fun x hx hsx => ?_⟩
        · subst hx
          unfold nearer at hn
          have := of_decide_eq_true hn
          omega
        · rcases List.mem_cons.1 hx with rfl | hx
          · exact hc
          · exact h2 x hx hsx
      | false =>
        rw [if_neg (by rw [hn]; decide)] at h1
        refine ⟨h1, fun x hx hsx => ?_⟩
        rcases List.mem_cons.1 hx with rfl | hx
        · cases b with
          | none => cases hn
          | some y =>
            unfold nearer at hn
            have := of_decide_eq_false hn
            have := h1 y rfl
            omega
        · exact h2 x hx hsx

structure SmallOk (C : Conf) : Prop where
  w : C.w ≤ 6
  h : C.h ≤ 6
  ro : C.ro.length ≤ 4
  may : MayOk C
set_option maxHeartbeats 4000000 in
theorem small_spec {G h : Hp} {v : Value} {C : Conf} (hv : CV G h v C) : HCalls Tryd.prog G 19 #[v] h (fun u h' => (∃ b, u = .bool b ∧ (b = true → SmallOk C)) ∧ h' = h) := by
  have hv0 := hv
  obtain ⟨ab, cb, ap, cp, ar, cr, az, cs, rfl, ca⟩ := hv
  refine HCalls.assume fun d => quietly (enter19 (by simp) ?_)
  unfold S19
  simp -implicitDefEqProofs only [regs0, retK_ret, resL_tmp, upd_eq, resL_nil1, opH_sv, box_new, cells_agg, fa26_0, add_mk, Nat.add_zero, ld3, cell_set_self, List.getElem?_cons_zero, Option.some.injEq, exists_eq_left', bin_leq]
  intro x hx gx
  generalize e1 : Hp.set h x _ = h1
  obtain ⟨l1, d1, b1⟩ := boxed e1 hx d gx
  have cx : ∀ j, cellIn G h1 ⟨x, j, none⟩ = _ := fun j => cell_of (look_own b1)
  by_cases g1 : C.w ≤ 6
  rotate_left
  · try simp -implicitDefEqProofs only [decide_eq_false g1, pick_f, gd_ft]
    exact ⟨⟨false, rfl, by simp⟩, l1⟩
  by_cases g2 : C.h ≤ 6
  rotate_left
  · try simp -implicitDefEqProofs only [decide_eq_true g1, pick_t, gd_tt, opH_sv, fa26_1, add_mk, Nat.zero_add, ld3, cx, List.getElem?_cons_succ, List.getElem?_cons_zero, Option.some.injEq, exists_eq_left', bin_leq, decide_eq_false g2, pick_f, gd_ft]
    exact ⟨⟨false, rfl, by simp⟩, l1⟩
  by_cases g3 : C.bu ≤ 4000
  rotate_left
  · try simp -implicitDefEqProofs only [decide_eq_true g1, pick_t, gd_tt, opH_sv, fa26_1, add_mk, Nat.zero_add, ld3, cx, List.getElem?_cons_succ, List.getElem?_cons_zero, Option.some.injEq, exists_eq_left', bin_leq, decide_eq_true g2, fa26_14, decide_eq_false g3, pick_f, gd_ft]
    exact ⟨⟨false, rfl, by simp⟩, l1⟩
  by_cases g4 : C.un ≤ 100
  rotate_left
  · try simp -implicitDefEqProofs only [decide_eq_true g1, pick_t, gd_tt, opH_sv, fa26_1, add_mk, Nat.zero_add, ld3, cx, List.getElem?_cons_succ, List.getElem?_cons_zero, Option.some.injEq, exists_eq_left', bin_leq, decide_eq_true g2, fa26_14, decide_eq_true g3, fa26_7, decide_eq_false g4, pick_f, gd_ft]
    exact ⟨⟨false, rfl, by simp⟩, l1⟩
  by_cases g5 : C.tu ≤ 200
  rotate_left
  · try simp -implicitDefEqProofs only [decide_eq_true g1, pick_t, gd_tt, opH_sv, fa26_1, add_mk, Nat.zero_add, ld3, cx, List.getElem?_cons_succ, List.getElem?_cons_zero, Option.some.injEq, exists_eq_left', bin_leq, decide_eq_true g2, fa26_14, decide_eq_true g3, fa26_7, decide_eq_true g4, fa26_10, decide_eq_false g5, pick_f, gd_ft]
    exact ⟨⟨false, rfl, by simp⟩, l1⟩
  by_cases g6 : C.ho ≤ 200
  rotate_left
  · try simp -implicitDefEqProofs only [decide_eq_true g1, pick_t, gd_tt, opH_sv, fa26_1, add_mk, Nat.zero_add, ld3, cx, List.getElem?_cons_succ, List.getElem?_cons_zero, Option.some.injEq, exists_eq_left', bin_leq, decide_eq_true g2, fa26_14, decide_eq_true g3, fa26_7, decide_eq_true g4, fa26_10, decide_eq_true g5, fa26_11, decide_eq_false g6, pick_f, gd_ft]
    exact ⟨⟨false, rfl, by simp⟩, l1⟩
  by_cases g7 : ((C.ro.length : Nat) : Int) ≤ 4
  rotate_left
  · try simp -implicitDefEqProofs only [decide_eq_true g1, pick_t, gd_tt, opH_sv, fa26_1, add_mk, Nat.zero_add, ld3, cx, List.getElem?_cons_succ, List.getElem?_cons_zero, Option.some.injEq, exists_eq_left', bin_leq, decide_eq_true g2, fa26_14, decide_eq_true g3, fa26_7, decide_eq_true g4, fa26_10, decide_eq_true g5, fa26_11, decide_eq_true g6, fa26_5, ld23, ln23, decide_eq_false g7, pick_f, gd_ft]
    exact ⟨⟨false, rfl, by simp⟩, l1⟩
  try simp -implicitDefEqProofs only [decide_eq_true g1, pick_t, gd_tt, opH_sv, fa26_1, add_mk, Nat.zero_add, ld3, cx, List.getElem?_cons_succ, List.getElem?_cons_zero, Option.some.injEq, exists_eq_left', bin_leq, decide_eq_true g2, fa26_14, decide_eq_true g3, fa26_7, decide_eq_true g4, fa26_10, decide_eq_true g5, fa26_11, decide_eq_true g6, fa26_5, ld23, ln23, decide_eq_true g7, cf14, ld26, Nat.add_zero]
  refine (rmay_spec (hv0.up l1 d1)).mono ?_
  rintro _ h1 ⟨⟨b, rfl, hb⟩, rfl⟩
  try simp -implicitDefEqProofs only [opH_sv, opH_su, pureW_sv, opH_nil, pureW_nil, pick_t, pick_f, pick_tp, pick_fp, gd_tt, gd_ft, gd_tf, gd_ff, box_new, regs0, regs1, regs2, regs3, regs4, regs5, regs6, cells_agg, cells_int, cells_bool, cells_ptr, cells_slice, cells_string, cells_func, cells_nilFunc, cells_map, retK_ret, retK_normal, resL_tmp, resL_cell, resL_nil0, resL_nil1, resL_nil2, resL_nil3, resC_ptr, ex0, ex1, ex2, ex0p, ex1p, ex2p, HL.cond_true, HL.cond_false, thenK_normal, thenK_ret, thenK_exit, blockK_normal, blockK_ret, blockK_exit, scopeK_normal, scopeK_ret, scopeK_exit, wpH_pure, bin_add, bin_sub, bin_mul, bin_lss, bin_leq, bin_gtr, bin_geq, bin_quo, bin_rem, bin_quop, bin_remp, wrap_in, bin_addp, bin_subp, bin_mulp, bin_lssp, bin_leqp, bin_gtrp, bin_geqp, un_not, un_notp, un_neg, eq_int, ne_int, eq_intp, ne_intp, callV_fn, add_mk, upd_eq, upd_ne, cell_set_self, Nat.zero_add, Nat.add_zero, Option.some.injEq, exists_eq_left', List.getElem?_cons_succ, List.getElem?_cons_zero, true_and, and_true, bne_self_eq_false, beq_self_eq_true, Bool.not_true, Bool.not_false, Bool.and_true, Bool.and_self, Bool.and_false, Bool.true_and, List.length_cons, List.length_nil, ne_eq, not_false_eq_true, Nat.reduceAdd, Nat.reduceMul, if_true, if_false, oneCell_int, oneCell_bool, oneCell_ptr, oneCell_slice, oneCell_string, oneCell_func, oneCell_map, Int.toNat_natCast, List.set_cons_zero, List.set_cons_succ, Nat.lt_irrefl, Nat.zero_lt_succ, Nat.succ_lt_succ_iff, fa26_0, fa26_0p, fa26_1, fa26_1p, fa26_10, fa26_10p, fa26_11, fa26_11p, fa26_12, fa26_12p, fa26_13, fa26_13p, fa26_14, fa26_14p, fa26_15, fa26_15p, fa26_2, fa26_2p, fa26_3, fa26_3p, fa26_4, fa26_4p, fa26_5, fa26_5p, fa26_6, fa26_6p, fa26_7, fa26_7p, fa26_8, fa26_8p, fa26_9, fa26_9p, fa28_0, fa28_0p, fa28_1, fa28_1p, fa45_0, fa45_0p, fa45_1, fa45_1p, fa45_2, fa45_2p, fa45_3, fa45_3p, fa45_4, fa45_4p, fa45_5, fa45_5p, fa45_6, fa45_6p, fa49_0, fa49_0p, fa49_1, fa49_1p, fa74_0, fa74_0p, fa74_1, fa74_1p, fa74_2, fa74_2p, fa74_3, fa74_3p, fa85_0, fa85_0p, fa85_1, fa85_1p, fa93_0, fa93_0p, fa93_1, fa93_1p, fa93_2, fa93_2p, ld3, ld3p, ld4, ld4p, ld22, ld22p, ld23, ld23p, ld24, ld24p, ld26, ld26p, ld28, ld28p, ld42, ld42p, ld45, ld45p, ld49, ld49p, ld58, ld58p, ld69, ld69p, ld72, ld72p, ld85, ld85p, st3s, st4s, st22s, st23s, st24s, st26w, st28w, st42s, st45w, st49w, st85w, ix22, ix22p, ix23, ix23p, ix24, ix24p, ix31, ix31p, ix42, ix42p, ix104, ix104p, ln22, ln22p, ln23, ln23p, ln24, ln24p, ln31, ln31p, ln42, ln42p, al4, al22, al26, al28, al42, al49, al85, cf10, cf11, cf12, cf13, cf14, cf15, cf16, cf17, cf18, cf19, cf20, cf21, cf22, cf23, cf24, cf25, cf26, cf27, cf28, cf29, cf30, cf31, cf32, cf33, cf34, cf35, cf36, cf37, cf38, cf39, cf40, cf41, cf42, cf43, cf44, cf45, cf46, cf47, cf48, cf49, cf50, cf51, cf52, cf53, cf54, cf55, cf56, cf57, cf58, cf59, cf60, cf61, cf62, cf63, cf64, cf65, cf66, cf67, cf68, cf69, cf70, cf71, cf72, cf73, cf74, cf75, bd26_0_1_2_7_8_9_10_11_12_13_14_4_15, bd26_0_1_2_7_8_9_10_11_12_13_14_4_15p, bd28_, bd28_p, bd28_0, bd28_0p, bd28_0_1, bd28_0_1p, bd45_1_3_4_5_6, bd45_1_3_4_5_6p, bd49_0_1, bd49_0_1p, bd49_1, bd49_1p, bd74_0_1_2_3, bd74_0_1_2_3p, bd85_0, bd85_0p, bd85_0_1, bd85_0_1p, bd93_0_1_2, bd93_0_1_2p, bd94_0_1_2_3, bd94_0_1_2_3p, bs42_1_0, bs22_1_0, bs24_1_0, bs42_3_0_1_2, bs31_1_0, bs22_2_0_1, bs42_6_0_1_2_3_4_5, bs42_0_, eq4, eq4p, eq28, eq28p, eq42n, eq42np, eq42s, eq42sp, eq58n, eq58np, eq58s, eq58sp, eq63n, eq63np, eq63s, eq63sp, ne28, ne28p, ne45, ne45p]
  exact ⟨⟨b, rfl, fun e => ⟨g1, g2, by omega, hb.1 e⟩⟩, l1⟩

theorem lbins14 {G h : Hp} {v : Value} {S : List Stk} {c : Cell} (hss : StS G h v S) (hL : S.length ≤ 100000000000000) : HCalls Tryd.prog G 21 #[v, cellV c] h (fun u h' => (∃ a cap, u = .slice a (binsL S c).length cap ∧ Sees icC G h u (binsL S c)) ∧ h' = h) := by
  obtain ⟨sa, sc, rfl, raw, sr, srr⟩ := id hss
  refine HCalls.assume fun d => quietly (enter21 (by simp) ?_)
  unfold S21
  simp -implicitDefEqProofs only [regs1, opH_sv, box_new, cells_agg]
  intro x hx gx
  generalize ex : Hp.set h x _ = h2
  obtain ⟨l2, d2, b2⟩ := boxed ex hx d gx
  have cx : ∀ k, cellIn G h2 ⟨x, k, none⟩ = _ := fun k => cell_of (look_own b2)
  clear ex
  have hrl : raw.length = S.length := by
    obtain ⟨s', cap', e⟩ := sr.len
    simp at e
    omega
  generalize hKK : retK Tryd.prog G _ _ = KK
  refine loop_I (fun m r h3 => ∃ i : Nat, m = S.length - i ∧ i ≤ S.length ∧ r 0 = .slice sa S.length sc ∧ r 3 = .pointer (some ⟨x, 0, none⟩) ∧ r 5 = .int .i64 i ∧ h3 = h2 ∧ (S.take i).any (fun x => x.1 == c) = false) ?_
    (m := S.length) ⟨0, rfl, Nat.zero_le _, by simp -implicitDefEqProofs (disch := first | with_reducible exact Nat.ne_of_beq_eq_false rfl | omega) only [upd_ne, regs0], by simp -implicitDefEqProofs (disch := first | with_reducible exact Nat.ne_of_beq_eq_false rfl | omega) only [upd_ne, upd_eq], by simp -implicitDefEqProofs only [upd_eq] <;> rfl, rfl, by simp⟩
  rintro m q h3 ⟨i, rfl, hi, g0, g3, g5, rfl, hn⟩ X HX
  unfold S21_l2
  simp -implicitDefEqProofs only [g0, g5, thenK_exit, blockK_exit, thenK_normal, if_true, opH_sv, ln24, bin_lss]
  refine cond_dec (fun hlt => ?_) (fun hge => ?_)
  · obtain ⟨s, hs⟩ : ∃ s, S[i]? = some s := ⟨_, List.getElem?_eq_getElem (by omega)⟩
    obtain ⟨r, hr⟩ : ∃ r, raw[i]? = some r := ⟨_, List.getElem?_eq_getElem (by omega)⟩
    obtain ⟨er, en, eb⟩ := srr i r s hr hs
    obtain ⟨b, of, cc, e3, e4⟩ := (sr.up l2 d2).get hr
    simp only [Value.slice.injEq] at e3
    obtain ⟨rfl, -, -⟩ := e3
    have z0 := e4 0 (by decide)
    have z1 := e4 1 (by decide)
    have z2 := e4 2 (by decide)
    simp only [rawC, Nat.add_zero, List.getElem?_cons_zero, List.getElem?_cons_succ] at z0 z1 z2
    have ec : ((r.x == c.1) && (r.y == c.2)) = (s.1 == c) := by rw [← er]; rfl
    unfold S21_l2_k3
    simp -implicitDefEqProofs (disch := first | with_reducible exact Nat.ne_of_beq_eq_false rfl | omega) only [upd_ne, g0, g5, g3, thenK_ret, blockK_ret, opH_sv, ix24 (Int.natCast_nonneg i) hlt, Int.toNat_natCast, add_mk, fa49_1, ld42, pureW_sv, ld28p, Nat.add_zero, cx, List.getElem?_cons_zero, Option.some.injEq, Nat.zero_add, List.getElem?_cons_succ, exists_eq_left', ix24p, fa49_0p, z0, z1, eq28p, Bool.and_true, ec, z2]
    refine cond_bool (fun hb => ?_) (fun hb => ?_)
    · rw [← hKK]
      try simp -implicitDefEqProofs only [retK_ret, resL_tmp, upd_eq, resL_nil1]
      have e5 : binsL S c = s.2 := by
        have e6 := binsL_take (c := c) hs
        rw [hn, if_neg (by decide), if_pos hb] at e6
        have : ∀ {A B : List Stk}, A.any (fun x => x.1 == c) = true → binsL (A ++ B) c = binsL A c := by
          intro A B hA
          induction A with
          | nil => cases hA
          | cons y A ih =>
            rw [List.cons_append, binsL, binsL]
            rw [List.any_cons] at hA
            cases hy : (y.1 == c) with
            | true => rfl
            | false =>
              rw [hy, Bool.false_or] at hA
              simp only [Bool.false_eq_true, if_false]
              exact ih hA
        rw [← List.take_append_drop (i + 1) S, this (by rw [any_step hs, hb, Bool.or_true]), e6]
      refine ⟨⟨r.a, r.c, ?_, ?_⟩, l2⟩
      · rw [e5, en]
      · rw [e5, en]; exact eb
    · unfold S21_l2_k4
      simp -implicitDefEqProofs (disch := first | with_reducible exact Nat.ne_of_beq_eq_false rfl | omega) only [upd_ne, g5, thenK_normal, opH_sv, bin_add, wrap_in]
      exact HX (S.length - (i + 1)) _ _ (by omega) ⟨i + 1, rfl, by omega, by simp -implicitDefEqProofs (disch := first | with_reducible exact Nat.ne_of_beq_eq_false rfl | omega) only [upd_ne, g0], by simp -implicitDefEqProofs (disch := first | with_reducible exact Nat.ne_of_beq_eq_false rfl | omega) only [upd_ne, g3], by simp -implicitDefEqProofs (disch := first | with_reducible exact Nat.ne_of_beq_eq_false rfl | omega) only [upd_eq] <;> rfl, rfl, by rw [any_step hs, hn, hb]; rfl⟩
  · obtain rfl : i = S.length := by omega
    rw [List.take_of_length_le (Nat.le_refl _)] at hn
    try simp -implicitDefEqProofs only [opH_sv, opH_su, pureW_sv, opH_nil, pureW_nil, pick_t, pick_f, pick_tp, pick_fp, gd_tt, gd_ft, gd_tf, gd_ff, box_new, regs0, regs1, regs2, regs3, regs4, regs5, regs6, cells_agg, cells_int, cells_bool, cells_ptr, cells_slice, cells_string, cells_func, cells_nilFunc, cells_map, retK_ret, retK_normal, resL_tmp, resL_cell, resL_nil0, resL_nil1, resL_nil2, resL_nil3, resC_ptr, ex0, ex1, ex2, ex0p, ex1p, ex2p, HL.cond_true, HL.cond_false, thenK_normal, thenK_ret, thenK_exit, blockK_normal, blockK_ret, blockK_exit, scopeK_normal, scopeK_ret, scopeK_exit, wpH_pure, bin_add, bin_sub, bin_mul, bin_lss, bin_leq, bin_gtr, bin_geq, bin_quo, bin_rem, bin_quop, bin_remp, wrap_in, bin_addp, bin_subp, bin_mulp, bin_lssp, bin_leqp, bin_gtrp, bin_geqp, un_not, un_notp, un_neg, eq_int, ne_int, eq_intp, ne_intp, callV_fn, add_mk, upd_eq, upd_ne, cell_set_self, Nat.zero_add, Nat.add_zero, Option.some.injEq, exists_eq_left', List.getElem?_cons_succ, List.getElem?_cons_zero, true_and, and_true, bne_self_eq_false, beq_self_eq_true, Bool.not_true, Bool.not_false, Bool.and_true, Bool.and_self, Bool.and_false, Bool.true_and, List.length_cons, List.length_nil, ne_eq, not_false_eq_true, Nat.reduceAdd, Nat.reduceMul, if_true, if_false, oneCell_int, oneCell_bool, oneCell_ptr, oneCell_slice, oneCell_string, oneCell_func, oneCell_map, Int.toNat_natCast, List.set_cons_zero, List.set_cons_succ, Nat.lt_irrefl, Nat.zero_lt_succ, Nat.succ_lt_succ_iff, fa26_0, fa26_0p, fa26_1, fa26_1p, fa26_10, fa26_10p, fa26_11, fa26_11p, fa26_12, fa26_12p, fa26_13, fa26_13p, fa26_14, fa26_14p, fa26_15, fa26_15p, fa26_2, fa26_2p, fa26_3, fa26_3p, fa26_4, fa26_4p, fa26_5, fa26_5p, fa26_6, fa26_6p, fa26_7, fa26_7p, fa26_8, fa26_8p, fa26_9, fa26_9p, fa28_0, fa28_0p, fa28_1, fa28_1p, fa45_0, fa45_0p, fa45_1, fa45_1p, fa45_2, fa45_2p, fa45_3, fa45_3p, fa45_4, fa45_4p, fa45_5, fa45_5p, fa45_6, fa45_6p, fa49_0, fa49_0p, fa49_1, fa49_1p, fa74_0, fa74_0p, fa74_1, fa74_1p, fa74_2, fa74_2p, fa74_3, fa74_3p, fa85_0, fa85_0p, fa85_1, fa85_1p, fa93_0, fa93_0p, fa93_1, fa93_1p, fa93_2, fa93_2p, ld3, ld3p, ld4, ld4p, ld22, ld22p, ld23, ld23p, ld24, ld24p, ld26, ld26p, ld28, ld28p, ld42, ld42p, ld45, ld45p, ld49, ld49p, ld58, ld58p, ld69, ld69p, ld72, ld72p, ld85, ld85p, st3s, st4s, st22s, st23s, st24s, st26w, st28w, st42s, st45w, st49w, st85w, ix22, ix22p, ix23, ix23p, ix24, ix24p, ix31, ix31p, ix42, ix42p, ix104, ix104p, ln22, ln22p, ln23, ln23p, ln24, ln24p, ln31, ln31p, ln42, ln42p, al4, al22, al26, al28, al42, al49, al85, cf10, cf11, cf12, cf13, cf14, cf15, cf16, cf17, cf18, cf19, cf20, cf21, cf22, cf23, cf24, cf25, cf26, cf27, cf28, cf29, cf30, cf31, cf32, cf33, cf34, cf35, cf36, cf37, cf38, cf39, cf40, cf41, cf42, cf43, cf44, cf45, cf46, cf47, cf48, cf49, cf50, cf51, cf52, cf53, cf54, cf55, cf56, cf57, cf58, cf59, cf60, cf61, cf62, cf63, cf64, cf65, cf66, cf67, cf68, cf69, cf70, cf71, cf72, cf73, cf74, cf75, bd26_0_1_2_7_8_9_10_11_12_13_14_4_15, bd26_0_1_2_7_8_9_10_11_12_13_14_4_15p, bd28_, bd28_p, bd28_0, bd28_0p, bd28_0_1, bd28_0_1p, bd45_1_3_4_5_6, bd45_1_3_4_5_6p, bd49_0_1, bd49_0_1p, bd49_1, bd49_1p, bd74_0_1_2_3, bd74_0_1_2_3p, bd85_0, bd85_0p, bd85_0_1, bd85_0_1p, bd93_0_1_2, bd93_0_1_2p, bd94_0_1_2_3, bd94_0_1_2_3p, bs42_1_0, bs22_1_0, bs24_1_0, bs42_3_0_1_2, bs31_1_0, bs22_2_0_1, bs42_6_0_1_2_3_4_5, bs42_0_, eq4, eq4p, eq28, eq28p, eq42n, eq42np, eq42s, eq42sp, eq58n, eq58np, eq58s, eq58sp, eq63n, eq63np, eq63s, eq63sp, ne28, ne28p, ne45, ne45p]
    unfold S21_k1
    rw [← hKK]
    simp -implicitDefEqProofs only [retK_ret, resL_tmp, upd_eq, resL_nil1]
    rw [binsL_not hn]
    exact ⟨⟨none, 0, rfl, ⟨none, 0, rfl, Nat.le_refl _, .inl rfl⟩⟩, l2⟩

end Go.Proofs.YtangejiigopdaaaDoor
end

section
/- DigMore: the walk. -/
set_option linter.unusedSimpArgs false
set_option linter.unusedVariables false
set_option maxRecDepth 100000
namespace Go.Proofs.YtangejiigopdaaaDoor
open Go Go.HL

theorem CA.sts {G h : Hp} {C : Conf} {ab : Option Addr} {cb : Nat} {ap : Option Addr} {cp : Nat} {ar : Option Addr} {cr : Nat} {az : Option Addr} {cs : Nat} (ca : CA G h C ab cb ap cp ar cr az cs) : StS G h (.slice az C.st.length cs) C.st := ⟨az, cs, rfl, ca.st⟩

end Go.Proofs.YtangejiigopdaaaDoor
end

section
/- DigNear: the walk. -/
set_option linter.unusedSimpArgs false
set_option linter.unusedVariables false
set_option maxRecDepth 100000
namespace Go.Proofs.YtangejiigopdaaaDoor
open Go Go.HL

theorem place_some {C : Conf} {S : List Stk} {TL : List Cell} {f : Cell} : (placeR C S TL f).isSome = (rstacksL C).any (fun c => !skipR f C.ht S TL [] c) := by
  unfold placeR
  cases h : bestL f (skipR f C.ht S TL []) none (rstacksL C) with
  | none =>
    have := (bestL_none.1 h).2
    symm
    rw [Option.isSome_none, List.any_eq_false]
    intro c hc
    rw [this c hc]
    decide
  | some z =>
    rcases bestL_some h with h1 | ⟨h1, h2⟩
    · cases h1
    · symm
      rw [Option.isSome_some, List.any_eq_true]
      exact ⟨z, h1, by rw [h2]; rfl⟩
theorem skip_split {f c : Cell} {ht : Int} {S : List Stk} {TL : List Cell} : (((c == f) || decide (((binsL S c).length : Int) ≥ ht)) || decide (c ∈ TL)) = skipR f ht S TL [] c := by
  unfold skipR
  have : hgt S c + (([] : List Cell).count c : Int) = ((binsL S c).length : Int) := by unfold hgt; simp
  rw [this, Bool.or_assoc, Bool.or_assoc]
  congr 1
  rw [Bool.or_comm]

set_option maxHeartbeats 8000000 in
theorem near_walk {G : Hp} {v tv : Value} {C : Conf} {TL : List Cell} {from_ : Cell} (st : Steps G) (hv : CV G noHp v C) (fit : Fit0 C) (hp : ∀ p ∈ C.ro, PB p) (ht : Sees cellC G noHp tv TL) :
    HCalls Tryd.prog G 8 #[v, tv, cellV from_] noHp (fun u _ => u = .bool true) := by
  obtain ⟨lb, lp, lr, ls⟩ := fit.lens
  have hv0 := hv
  obtain ⟨ab, cb, ap, cp, ar, cr, az, cs, rfl, ca⟩ := hv
  obtain ⟨ta, tc, rfl⟩ := ht.len
  refine HCalls.assume fun d => enter8 (by simp) ?_
  unfold S8
  simp -implicitDefEqProofs only [regs0, regs2, regs1, retK_ret, resL_tmp, upd_eq, resL_nil1, cf10, opH_sv, cf19, box_new, cells_agg, ld26, add_mk, Nat.add_zero, Nat.zero_add]
  intro x hx gx
  generalize e1 : Hp.set noHp x _ = h1
  obtain ⟨l1, d1, b1⟩ := boxed e1 hx d gx
  intro y hy gy
  generalize e2 : Hp.set h1 y _ = h2
  obtain ⟨l2, d2, b2⟩ := boxed e2 hy d1 gy
  have awake : ∀ (hh : Hp) {R : Value → Hp → Prop}, (∀ hh', R (.bool true) hh') → HCalls Tryd.prog G 10 #[] hh R := fun hh R H => (awake_spec st).mono (by rintro _ _ ⟨rfl, rfl⟩; exact H _)
  have l02 := l1.trans l2
  have cx : ∀ j, cellIn G h2 ⟨x, j, none⟩ = _ := fun j => cell_of (look_own (l2 _ _ b1))
  try simp -implicitDefEqProofs only [cx, List.getElem?_cons_zero, Option.some.injEq, List.getElem?_cons_succ, exists_eq_left']
  refine (small_spec (hv0.up l02 d2)).mono ?_
  rintro _ h2 ⟨⟨b, rfl, hb⟩, rfl⟩
  cases b with
  | false =>
    try simp -implicitDefEqProofs only [un_not, Bool.not_false, pick_t, HL.cond_true, gd_tf]
    refine awake _ fun _ => ?_
    try simp -implicitDefEqProofs only []
  | true =>
  have sm := hb rfl
  have hm : MadeOk C := made_may.2 sm.may
  by_cases h1T : ((TL.length : Nat) : Int) > 40
  · try simp -implicitDefEqProofs only [un_not, Bool.not_true, pick_f, gd_ff, opH_sv, ln22, bin_gtr, decide_eq_true h1T, HL.cond_true]
    refine awake _ fun _ => ?_
    try simp -implicitDefEqProofs only []
  try simp -implicitDefEqProofs only [un_not, Bool.not_true, pick_f, gd_ff, opH_sv, ln22, bin_gtr, decide_eq_false h1T, HL.cond_false]
  unfold S8_k1
  try simp -implicitDefEqProofs (disch := first | with_reducible exact Nat.ne_of_beq_eq_false rfl | omega) only [upd_ne, upd_eq, regs1, retK_ret, resL_tmp, resL_nil1, opH_su, opH_sv, al28, pureW_sv, cf26, ld28p, add_mk, Nat.add_zero, Nat.zero_add, cf11, fa26_6p, ld24p, cf13, ld26p, cf28, ld26, cx, List.getElem?_cons_zero, Option.some.injEq, List.getElem?_cons_succ, exists_eq_left']
  refine (copyconf_spec (hv0.up l02 d2) fit).mono ?_
  rintro u3 h3 ⟨⟨pb, pp, pr, pz, vb, vp, vr, vz, co⟩, d3⟩
  have l3 := co.sep.in 4 rfl
  refine (new_spec (co.cv (Hp.le.refl _)) st hp ls).mono ?_
  rintro _ h4 ⟨l4, d4, ⟨_, ga, gp, kb, rfl, go, s4⟩ | ⟨hm', _⟩⟩
  rotate_left
  · exact absurd hm hm'
  clear co
  have l24 := l3.trans l4
  have l04 := l02.trans l24
  have gs4 : GS G h4 (.pointer (some ⟨gp, 0, none⟩)) (wC C) (kC C) (f3C C) := (go.gs (G := G)).up (s4.in 0 rfl) d4
  have cx4 : ∀ j, cellIn G h4 ⟨x, j, none⟩ = _ := fun j => cell_of (look_own (l24 _ _ (l2 _ _ b1)))
  have cy4 : ∀ j, cellIn G h4 ⟨y, j, none⟩ = _ := fun j => cell_of (look_own (l24 _ _ b2))
  try simp -implicitDefEqProofs only [ex1, ne_int, bne_self_eq_false, pick_f, gd_ff, ex0, cx4, List.getElem?_cons_zero, Option.some.injEq, List.getElem?_cons_succ, eq58s, exists_eq_left']
  refine (copyconf_spec (hv0.up l04 d4) fit).mono ?_
  rintro u5 h5 ⟨⟨pb, pp, pr, pz, vb, vp, vr, vz, co⟩, d5⟩
  have l5 := co.sep.in 4 rfl
  refine ⟨l5, ?_⟩
  have l05 := l04.trans l5
  try simp -implicitDefEqProofs only [opH_sv, opH_su, pureW_sv, opH_nil, pureW_nil, pick_t, pick_f, pick_tp, pick_fp, gd_tt, gd_ft, gd_tf, gd_ff, box_new, regs0, regs1, regs2, regs3, regs4, regs5, regs6, cells_agg, cells_int, cells_bool, cells_ptr, cells_slice, cells_string, cells_func, cells_nilFunc, cells_map, retK_ret, retK_normal, resL_tmp, resL_cell, resL_nil0, resL_nil1, resL_nil2, resL_nil3, resC_ptr, ex0, ex1, ex2, ex0p, ex1p, ex2p, HL.cond_true, HL.cond_false, thenK_normal, thenK_ret, thenK_exit, blockK_normal, blockK_ret, blockK_exit, scopeK_normal, scopeK_ret, scopeK_exit, wpH_pure, bin_add, bin_sub, bin_mul, bin_lss, bin_leq, bin_gtr, bin_geq, bin_quo, bin_rem, bin_quop, bin_remp, wrap_in, bin_addp, bin_subp, bin_mulp, bin_lssp, bin_leqp, bin_gtrp, bin_geqp, un_not, un_notp, un_neg, eq_int, ne_int, eq_intp, ne_intp, callV_fn, add_mk, upd_eq, upd_ne, cell_set_self, Nat.zero_add, Nat.add_zero, Option.some.injEq, exists_eq_left', List.getElem?_cons_succ, List.getElem?_cons_zero, true_and, and_true, bne_self_eq_false, beq_self_eq_true, Bool.not_true, Bool.not_false, Bool.and_true, Bool.and_self, Bool.and_false, Bool.true_and, List.length_cons, List.length_nil, ne_eq, not_false_eq_true, Nat.reduceAdd, Nat.reduceMul, if_true, if_false, oneCell_int, oneCell_bool, oneCell_ptr, oneCell_slice, oneCell_string, oneCell_func, oneCell_map, Int.toNat_natCast, List.set_cons_zero, List.set_cons_succ, Nat.lt_irrefl, Nat.zero_lt_succ, Nat.succ_lt_succ_iff, fa26_0, fa26_0p, fa26_1, fa26_1p, fa26_10, fa26_10p, fa26_11, fa26_11p, fa26_12, fa26_12p, fa26_13, fa26_13p, fa26_14, fa26_14p, fa26_15, fa26_15p, fa26_2, fa26_2p, fa26_3, fa26_3p, fa26_4, fa26_4p, fa26_5, fa26_5p, fa26_6, fa26_6p, fa26_7, fa26_7p, fa26_8, fa26_8p, fa26_9, fa26_9p, fa28_0, fa28_0p, fa28_1, fa28_1p, fa45_0, fa45_0p, fa45_1, fa45_1p, fa45_2, fa45_2p, fa45_3, fa45_3p, fa45_4, fa45_4p, fa45_5, fa45_5p, fa45_6, fa45_6p, fa49_0, fa49_0p, fa49_1, fa49_1p, fa74_0, fa74_0p, fa74_1, fa74_1p, fa74_2, fa74_2p, fa74_3, fa74_3p, fa85_0, fa85_0p, fa85_1, fa85_1p, fa93_0, fa93_0p, fa93_1, fa93_1p, fa93_2, fa93_2p, ld3, ld3p, ld4, ld4p, ld22, ld22p, ld23, ld23p, ld24, ld24p, ld26, ld26p, ld28, ld28p, ld42, ld42p, ld45, ld45p, ld49, ld49p, ld58, ld58p, ld69, ld69p, ld72, ld72p, ld85, ld85p, st3s, st4s, st22s, st23s, st24s, st26w, st28w, st42s, st45w, st49w, st85w, ix22, ix22p, ix23, ix23p, ix24, ix24p, ix31, ix31p, ix42, ix42p, ix104, ix104p, ln22, ln22p, ln23, ln23p, ln24, ln24p, ln31, ln31p, ln42, ln42p, al4, al22, al26, al28, al42, al49, al85, cf10, cf11, cf12, cf13, cf14, cf15, cf16, cf17, cf18, cf19, cf20, cf21, cf22, cf23, cf24, cf25, cf26, cf27, cf28, cf29, cf30, cf31, cf32, cf33, cf34, cf35, cf36, cf37, cf38, cf39, cf40, cf41, cf42, cf43, cf44, cf45, cf46, cf47, cf48, cf49, cf50, cf51, cf52, cf53, cf54, cf55, cf56, cf57, cf58, cf59, cf60, cf61, cf62, cf63, cf64, cf65, cf66, cf67, cf68, cf69, cf70, cf71, cf72, cf73, cf74, cf75, bd26_0_1_2_7_8_9_10_11_12_13_14_4_15, bd26_0_1_2_7_8_9_10_11_12_13_14_4_15p, bd28_, bd28_p, bd28_0, bd28_0p, bd28_0_1, bd28_0_1p, bd45_1_3_4_5_6, bd45_1_3_4_5_6p, bd49_0_1, bd49_0_1p, bd49_1, bd49_1p, bd74_0_1_2_3, bd74_0_1_2_3p, bd85_0, bd85_0p, bd85_0_1, bd85_0_1p, bd93_0_1_2, bd93_0_1_2p, bd94_0_1_2_3, bd94_0_1_2_3p, bs42_1_0, bs22_1_0, bs24_1_0, bs42_3_0_1_2, bs31_1_0, bs22_2_0_1, bs42_6_0_1_2_3_4_5, bs42_0_, eq4, eq4p, eq28, eq28p, eq42n, eq42np, eq42s, eq42sp, eq58n, eq58np, eq58s, eq58sp, eq63n, eq63np, eq63s, eq63sp, ne28, ne28p, ne45, ne45p, cx4]
  refine (copystk_spec (ca.up l05 d5).sts fit.st fit.bins).mono ?_
  rintro u6 h6 ⟨qz, oz, s6, d6⟩
  have l6 : h5.le h6 := s6.in 1 rfl
  refine ⟨l5.trans l6, ?_⟩
  have l06 := l05.trans l6
  refine append_piece cellC (by decide) un22 eocell (by decide) (by decide) (L := []) (M := TL) (s6.none) d6 Slc.nil (ht.up l06 d6) (by simp; omega) fun v7 a7 h7 o7 s7 d7 => ?_
  rw [List.nil_append] at o7
  have l7 : h5.le h7 := s7.in 2 rfl
  refine ⟨l5.trans l7, ?_⟩
  try simp -implicitDefEqProofs only [cy4, List.getElem?_cons_zero, Option.some.injEq, List.getElem?_cons_succ, exists_eq_left']
  refine (dplace_spec (from_ := from_) (co.cv l7) (oz.st (s7.in 1 rfl)) (fun G' h' l => o7.sees (by decide) ((s7.in 0 rfl).trans l)) st hp ls ls (by omega)).mono ?_
  rintro _ h7 ⟨hres, rfl⟩
  rcases hres with ⟨_, rfl⟩ | ⟨hm', _⟩
  rotate_left
  · exact absurd hm hm'
  clear co oz s6 s7 o7
  have l47 := l5.trans l7
  try simp -implicitDefEqProofs only [ex1p, ne_int, ex0p, st28w]
  intro z hz gz
  generalize e8 : Hp.set h7 z _ = h8
  obtain ⟨l8, d8, b8⟩ := boxed e8 hz d7 gz
  have l48 := l47.trans l8
  have l28 := l24.trans l48
  have l08 := l02.trans l28
  have gs8 := gs4.up l48 d8
  have psome := place_some (C := C) (S := C.st) (TL := TL) (f := from_)
  have pin : ∀ z, placeR C C.st TL from_ = some z → skipR from_ C.ht C.st TL [] z = false := fun z h => by
    unfold placeR at h
    rcases bestL_some h with h1 | ⟨_, h1⟩
    · cases h1
    · exact h1
  have pfar : ∀ z, placeR C C.st TL from_ = some z → ∀ c ∈ rstacksL C, skipR from_ C.ht C.st TL [] c = false → awayI from_ z ≤ awayI from_ c := fun z h => (bestL_least h).2
  generalize hP : placeR C C.st TL from_ = P at b8 e8 psome pin pfar ⊢
  obtain ⟨en, hen⟩ : ∃ en : Int, en = if P.isSome = true then 0 else 14 := ⟨_, rfl⟩
  rw [← hen]
  have hck : ((en != 0) && (en != 14)) = false := by rw [hen]; cases P <;> rfl
  have heq : (en == 0) = P.isSome := by rw [hen]; cases P <;> rfl
  have hck2 : (en != 0) = true → (en != 14) = false := fun h => by rw [h] at hck; simpa using hck
  generalize hKK : retK Tryd.prog G _ _ = KK
  have tail : ∀ r1 : Rg, r1 1 = .slice ta TL.length tc → r1 3 = .pointer (some ⟨x, 0, none⟩) → r1 5 = .pointer (some ⟨y, 0, none⟩) → r1 7 = .pointer (some ⟨gp, 0, none⟩) → r1 9 = .pointer (some ⟨z, 0, none⟩) → r1 10 = .int .i64 en → S8_k2 G KK r1 h8 := by
    intro r1 k1 k3 k5 k7 k9 k10
    unfold S8_k2
    try simp -implicitDefEqProofs only [k7, cf29, cf30]
    refine (stacks41_spec (gp := gp)).mono ?_
    rintro _ h9 ⟨bb, rfl, l9, d9, eb⟩
    try simp -implicitDefEqProofs only [opH_sv, opH_su, pureW_sv, opH_nil, pureW_nil, pick_t, pick_f, pick_tp, pick_fp, gd_tt, gd_ft, gd_tf, gd_ff, box_new, regs0, regs1, regs2, regs3, regs4, regs5, regs6, cells_agg, cells_int, cells_bool, cells_ptr, cells_slice, cells_string, cells_func, cells_nilFunc, cells_map, retK_ret, retK_normal, resL_tmp, resL_cell, resL_nil0, resL_nil1, resL_nil2, resL_nil3, resC_ptr, ex0, ex1, ex2, ex0p, ex1p, ex2p, HL.cond_true, HL.cond_false, thenK_normal, thenK_ret, thenK_exit, blockK_normal, blockK_ret, blockK_exit, scopeK_normal, scopeK_ret, scopeK_exit, wpH_pure, bin_add, bin_sub, bin_mul, bin_lss, bin_leq, bin_gtr, bin_geq, bin_quo, bin_rem, bin_quop, bin_remp, wrap_in, bin_addp, bin_subp, bin_mulp, bin_lssp, bin_leqp, bin_gtrp, bin_geqp, un_not, un_notp, un_neg, eq_int, ne_int, eq_intp, ne_intp, callV_fn, add_mk, upd_eq, upd_ne, cell_set_self, Nat.zero_add, Nat.add_zero, Option.some.injEq, exists_eq_left', List.getElem?_cons_succ, List.getElem?_cons_zero, true_and, and_true, bne_self_eq_false, beq_self_eq_true, Bool.not_true, Bool.not_false, Bool.and_true, Bool.and_self, Bool.and_false, Bool.true_and, List.length_cons, List.length_nil, ne_eq, not_false_eq_true, Nat.reduceAdd, Nat.reduceMul, if_true, if_false, oneCell_int, oneCell_bool, oneCell_ptr, oneCell_slice, oneCell_string, oneCell_func, oneCell_map, Int.toNat_natCast, List.set_cons_zero, List.set_cons_succ, Nat.lt_irrefl, Nat.zero_lt_succ, Nat.succ_lt_succ_iff, fa26_0, fa26_0p, fa26_1, fa26_1p, fa26_10, fa26_10p, fa26_11, fa26_11p, fa26_12, fa26_12p, fa26_13, fa26_13p, fa26_14, fa26_14p, fa26_15, fa26_15p, fa26_2, fa26_2p, fa26_3, fa26_3p, fa26_4, fa26_4p, fa26_5, fa26_5p, fa26_6, fa26_6p, fa26_7, fa26_7p, fa26_8, fa26_8p, fa26_9, fa26_9p, fa28_0, fa28_0p, fa28_1, fa28_1p, fa45_0, fa45_0p, fa45_1, fa45_1p, fa45_2, fa45_2p, fa45_3, fa45_3p, fa45_4, fa45_4p, fa45_5, fa45_5p, fa45_6, fa45_6p, fa49_0, fa49_0p, fa49_1, fa49_1p, fa74_0, fa74_0p, fa74_1, fa74_1p, fa74_2, fa74_2p, fa74_3, fa74_3p, fa85_0, fa85_0p, fa85_1, fa85_1p, fa93_0, fa93_0p, fa93_1, fa93_1p, fa93_2, fa93_2p, ld3, ld3p, ld4, ld4p, ld22, ld22p, ld23, ld23p, ld24, ld24p, ld26, ld26p, ld28, ld28p, ld42, ld42p, ld45, ld45p, ld49, ld49p, ld58, ld58p, ld69, ld69p, ld72, ld72p, ld85, ld85p, st3s, st4s, st22s, st23s, st24s, st26w, st28w, st42s, st45w, st49w, st85w, ix22, ix22p, ix23, ix23p, ix24, ix24p, ix31, ix31p, ix42, ix42p, ix104, ix104p, ln22, ln22p, ln23, ln23p, ln24, ln24p, ln31, ln31p, ln42, ln42p, al4, al22, al26, al28, al42, al49, al85, cf10, cf11, cf12, cf13, cf14, cf15, cf16, cf17, cf18, cf19, cf20, cf21, cf22, cf23, cf24, cf25, cf26, cf27, cf28, cf29, cf30, cf31, cf32, cf33, cf34, cf35, cf36, cf37, cf38, cf39, cf40, cf41, cf42, cf43, cf44, cf45, cf46, cf47, cf48, cf49, cf50, cf51, cf52, cf53, cf54, cf55, cf56, cf57, cf58, cf59, cf60, cf61, cf62, cf63, cf64, cf65, cf66, cf67, cf68, cf69, cf70, cf71, cf72, cf73, cf74, cf75, bd26_0_1_2_7_8_9_10_11_12_13_14_4_15, bd26_0_1_2_7_8_9_10_11_12_13_14_4_15p, bd28_, bd28_p, bd28_0, bd28_0p, bd28_0_1, bd28_0_1p, bd45_1_3_4_5_6, bd45_1_3_4_5_6p, bd49_0_1, bd49_0_1p, bd49_1, bd49_1p, bd74_0_1_2_3, bd74_0_1_2_3p, bd85_0, bd85_0p, bd85_0_1, bd85_0_1p, bd93_0_1_2, bd93_0_1_2p, bd94_0_1_2_3, bd94_0_1_2_3p, bs42_1_0, bs22_1_0, bs24_1_0, bs42_3_0_1_2, bs31_1_0, bs22_2_0_1, bs42_6_0_1_2_3_4_5, bs42_0_, eq4, eq4p, eq28, eq28p, eq42n, eq42np, eq42s, eq42sp, eq58n, eq58np, eq58s, eq58sp, eq63n, eq63np, eq63s, eq63sp, ne28, ne28p, ne45, ne45p]
    refine (cells45_spec (most := 1000) eb (gs8.up l9 d9) (by decide) (by decide)).mono ?_
    rintro u10 h10 ⟨ip, o10, s10, d10⟩
    have l10 : h9.le h10 := s10.in 1 rfl
    have lA : h8.le h10 := l9.trans l10
    have hcl := rstacks_len (C := C) (by obtain ⟨e7, e8, _, w2, _, k2⟩ := within_wk hm.laid.w hm.laid.h; omega) (by obtain ⟨e7, e8, _, w2, _, k2⟩ := within_wk hm.laid.w hm.laid.h; omega)
    rw [stacks_eq hm, List.take_of_length_le (by rw [show (1000 : Int).toNat = 1000 from rfl]; exact hcl)] at o10
    generalize hLL : rstacksL C = L at o10 hcl psome pfar
    obtain ⟨pa, pc, rfl, _⟩ := o10.len (by decide)
    have sl := o10.sees (G := G) (by decide) (s10.in 0 rfl)
    try simp -implicitDefEqProofs (disch := first | with_reducible exact Nat.ne_of_beq_eq_false rfl | omega) only [opH_sv, opH_su, pureW_sv, opH_nil, pureW_nil, pick_t, pick_f, pick_tp, pick_fp, gd_tt, gd_ft, gd_tf, gd_ff, box_new, regs0, regs1, regs2, regs3, regs4, regs5, regs6, cells_agg, cells_int, cells_bool, cells_ptr, cells_slice, cells_string, cells_func, cells_nilFunc, cells_map, retK_ret, retK_normal, resL_tmp, resL_cell, resL_nil0, resL_nil1, resL_nil2, resL_nil3, resC_ptr, ex0, ex1, ex2, ex0p, ex1p, ex2p, HL.cond_true, HL.cond_false, thenK_normal, thenK_ret, thenK_exit, blockK_normal, blockK_ret, blockK_exit, scopeK_normal, scopeK_ret, scopeK_exit, wpH_pure, bin_add, bin_sub, bin_mul, bin_lss, bin_leq, bin_gtr, bin_geq, bin_quo, bin_rem, bin_quop, bin_remp, wrap_in, bin_addp, bin_subp, bin_mulp, bin_lssp, bin_leqp, bin_gtrp, bin_geqp, un_not, un_notp, un_neg, eq_int, ne_int, eq_intp, ne_intp, callV_fn, add_mk, upd_eq, upd_ne, cell_set_self, Nat.zero_add, Nat.add_zero, Option.some.injEq, exists_eq_left', List.getElem?_cons_succ, List.getElem?_cons_zero, true_and, and_true, bne_self_eq_false, beq_self_eq_true, Bool.not_true, Bool.not_false, Bool.and_true, Bool.and_self, Bool.and_false, Bool.true_and, List.length_cons, List.length_nil, ne_eq, not_false_eq_true, Nat.reduceAdd, Nat.reduceMul, if_true, if_false, oneCell_int, oneCell_bool, oneCell_ptr, oneCell_slice, oneCell_string, oneCell_func, oneCell_map, Int.toNat_natCast, List.set_cons_zero, List.set_cons_succ, Nat.lt_irrefl, Nat.zero_lt_succ, Nat.succ_lt_succ_iff, fa26_0, fa26_0p, fa26_1, fa26_1p, fa26_10, fa26_10p, fa26_11, fa26_11p, fa26_12, fa26_12p, fa26_13, fa26_13p, fa26_14, fa26_14p, fa26_15, fa26_15p, fa26_2, fa26_2p, fa26_3, fa26_3p, fa26_4, fa26_4p, fa26_5, fa26_5p, fa26_6, fa26_6p, fa26_7, fa26_7p, fa26_8, fa26_8p, fa26_9, fa26_9p, fa28_0, fa28_0p, fa28_1, fa28_1p, fa45_0, fa45_0p, fa45_1, fa45_1p, fa45_2, fa45_2p, fa45_3, fa45_3p, fa45_4, fa45_4p, fa45_5, fa45_5p, fa45_6, fa45_6p, fa49_0, fa49_0p, fa49_1, fa49_1p, fa74_0, fa74_0p, fa74_1, fa74_1p, fa74_2, fa74_2p, fa74_3, fa74_3p, fa85_0, fa85_0p, fa85_1, fa85_1p, fa93_0, fa93_0p, fa93_1, fa93_1p, fa93_2, fa93_2p, ld3, ld3p, ld4, ld4p, ld22, ld22p, ld23, ld23p, ld24, ld24p, ld26, ld26p, ld28, ld28p, ld42, ld42p, ld45, ld45p, ld49, ld49p, ld58, ld58p, ld69, ld69p, ld72, ld72p, ld85, ld85p, st3s, st4s, st22s, st23s, st24s, st26w, st28w, st42s, st45w, st49w, st85w, ix22, ix22p, ix23, ix23p, ix24, ix24p, ix31, ix31p, ix42, ix42p, ix104, ix104p, ln22, ln22p, ln23, ln23p, ln24, ln24p, ln31, ln31p, ln42, ln42p, al4, al22, al26, al28, al42, al49, al85, cf10, cf11, cf12, cf13, cf14, cf15, cf16, cf17, cf18, cf19, cf20, cf21, cf22, cf23, cf24, cf25, cf26, cf27, cf28, cf29, cf30, cf31, cf32, cf33, cf34, cf35, cf36, cf37, cf38, cf39, cf40, cf41, cf42, cf43, cf44, cf45, cf46, cf47, cf48, cf49, cf50, cf51, cf52, cf53, cf54, cf55, cf56, cf57, cf58, cf59, cf60, cf61, cf62, cf63, cf64, cf65, cf66, cf67, cf68, cf69, cf70, cf71, cf72, cf73, cf74, cf75, bd26_0_1_2_7_8_9_10_11_12_13_14_4_15, bd26_0_1_2_7_8_9_10_11_12_13_14_4_15p, bd28_, bd28_p, bd28_0, bd28_0p, bd28_0_1, bd28_0_1p, bd45_1_3_4_5_6, bd45_1_3_4_5_6p, bd49_0_1, bd49_0_1p, bd49_1, bd49_1p, bd74_0_1_2_3, bd74_0_1_2_3p, bd85_0, bd85_0p, bd85_0_1, bd85_0_1p, bd93_0_1_2, bd93_0_1_2p, bd94_0_1_2_3, bd94_0_1_2_3p, bs42_1_0, bs22_1_0, bs24_1_0, bs42_3_0_1_2, bs31_1_0, bs22_2_0_1, bs42_6_0_1_2_3_4_5, bs42_0_, eq4, eq4p, eq28, eq28p, eq42n, eq42np, eq42s, eq42sp, eq58n, eq58np, eq58s, eq58sp, eq63n, eq63np, eq63s, eq63sp, ne28, ne28p, ne45, ne45p]
    refine loop_I (fun m q h11 => ∃ (i : Nat), m = L.length - i ∧ i ≤ L.length ∧ q 1 = .slice ta TL.length tc ∧ q 3 = .pointer (some ⟨x, 0, none⟩) ∧ q 5 = .pointer (some ⟨y, 0, none⟩) ∧ q 9 = .pointer (some ⟨z, 0, none⟩) ∧ q 10 = .int .i64 en ∧ q 11 = .slice pa L.length pc ∧ q 12 = .bool ((L.take i).any (fun c => !skipR from_ C.ht C.st TL [] c)) ∧ q 13 = .int .i64 i ∧ h10.le h11 ∧ Dis G h11) ?_
      (m := L.length) ⟨0, rfl, Nat.zero_le _, by simp -implicitDefEqProofs (disch := first | with_reducible exact Nat.ne_of_beq_eq_false rfl | omega) only [upd_ne, k1], by simp -implicitDefEqProofs (disch := first | with_reducible exact Nat.ne_of_beq_eq_false rfl | omega) only [upd_ne, k3], by simp -implicitDefEqProofs (disch := first | with_reducible exact Nat.ne_of_beq_eq_false rfl | omega) only [upd_ne, k5], by simp -implicitDefEqProofs (disch := first | with_reducible exact Nat.ne_of_beq_eq_false rfl | omega) only [upd_ne, k9], by simp -implicitDefEqProofs (disch := first | with_reducible exact Nat.ne_of_beq_eq_false rfl | omega) only [upd_ne, k10], by simp -implicitDefEqProofs (disch := first | with_reducible exact Nat.ne_of_beq_eq_false rfl | omega) only [upd_ne, upd_eq], by simp -implicitDefEqProofs (disch := first | with_reducible exact Nat.ne_of_beq_eq_false rfl | omega) only [upd_ne, upd_eq] <;> rfl, by simp -implicitDefEqProofs only [upd_eq] <;> rfl, Hp.le.refl _, d10⟩
    clear k1 k3 k5 k7 k9 k10
    rintro m q h11 ⟨i, rfl, hi, q1, q3, q5, q9, q10, q11, q12, q13, lB, d11⟩ X HX
    have l8B := lA.trans lB
    have cx11 : ∀ j, cellIn G h11 ⟨x, j, none⟩ = _ := fun j => cell_of (look_own (l8B _ _ (l28 _ _ (l2 _ _ b1))))
    have cy11 : ∀ j, cellIn G h11 ⟨y, j, none⟩ = _ := fun j => cell_of (look_own (l8B _ _ (l28 _ _ b2)))
    have cz11 : ∀ j, cellIn G h11 ⟨z, j, none⟩ = _ := fun j => cell_of (look_own (l8B _ _ b8))
    unfold S8_l4
    simp -implicitDefEqProofs only [q11, q13, thenK_exit, blockK_exit, thenK_normal, if_true, opH_sv, ln22, bin_lss]
    refine cond_dec (fun hlt => ?_) (fun hge => ?_)
    rotate_left
    · obtain rfl : i = L.length := by omega
      rw [List.take_of_length_le (Nat.le_refl _), ← psome, ← heq] at q12
      try simp -implicitDefEqProofs (disch := first | with_reducible exact Nat.ne_of_beq_eq_false rfl | omega) only [opH_sv, opH_su, pureW_sv, opH_nil, pureW_nil, pick_t, pick_f, pick_tp, pick_fp, gd_tt, gd_ft, gd_tf, gd_ff, box_new, regs0, regs1, regs2, regs3, regs4, regs5, regs6, cells_agg, cells_int, cells_bool, cells_ptr, cells_slice, cells_string, cells_func, cells_nilFunc, cells_map, retK_ret, retK_normal, resL_tmp, resL_cell, resL_nil0, resL_nil1, resL_nil2, resL_nil3, resC_ptr, ex0, ex1, ex2, ex0p, ex1p, ex2p, HL.cond_true, HL.cond_false, thenK_normal, thenK_ret, thenK_exit, blockK_normal, blockK_ret, blockK_exit, scopeK_normal, scopeK_ret, scopeK_exit, wpH_pure, bin_add, bin_sub, bin_mul, bin_lss, bin_leq, bin_gtr, bin_geq, bin_quo, bin_rem, bin_quop, bin_remp, wrap_in, bin_addp, bin_subp, bin_mulp, bin_lssp, bin_leqp, bin_gtrp, bin_geqp, un_not, un_notp, un_neg, eq_int, ne_int, eq_intp, ne_intp, callV_fn, add_mk, upd_eq, upd_ne, cell_set_self, Nat.zero_add, Nat.add_zero, Option.some.injEq, exists_eq_left', List.getElem?_cons_succ, List.getElem?_cons_zero, true_and, and_true, bne_self_eq_false, beq_self_eq_true, Bool.not_true, Bool.not_false, Bool.and_true, Bool.and_self, Bool.and_false, Bool.true_and, List.length_cons, List.length_nil, ne_eq, not_false_eq_true, Nat.reduceAdd, Nat.reduceMul, if_true, if_false, oneCell_int, oneCell_bool, oneCell_ptr, oneCell_slice, oneCell_string, oneCell_func, oneCell_map, Int.toNat_natCast, List.set_cons_zero, List.set_cons_succ, Nat.lt_irrefl, Nat.zero_lt_succ, Nat.succ_lt_succ_iff, fa26_0, fa26_0p, fa26_1, fa26_1p, fa26_10, fa26_10p, fa26_11, fa26_11p, fa26_12, fa26_12p, fa26_13, fa26_13p, fa26_14, fa26_14p, fa26_15, fa26_15p, fa26_2, fa26_2p, fa26_3, fa26_3p, fa26_4, fa26_4p, fa26_5, fa26_5p, fa26_6, fa26_6p, fa26_7, fa26_7p, fa26_8, fa26_8p, fa26_9, fa26_9p, fa28_0, fa28_0p, fa28_1, fa28_1p, fa45_0, fa45_0p, fa45_1, fa45_1p, fa45_2, fa45_2p, fa45_3, fa45_3p, fa45_4, fa45_4p, fa45_5, fa45_5p, fa45_6, fa45_6p, fa49_0, fa49_0p, fa49_1, fa49_1p, fa74_0, fa74_0p, fa74_1, fa74_1p, fa74_2, fa74_2p, fa74_3, fa74_3p, fa85_0, fa85_0p, fa85_1, fa85_1p, fa93_0, fa93_0p, fa93_1, fa93_1p, fa93_2, fa93_2p, ld3, ld3p, ld4, ld4p, ld22, ld22p, ld23, ld23p, ld24, ld24p, ld26, ld26p, ld28, ld28p, ld42, ld42p, ld45, ld45p, ld49, ld49p, ld58, ld58p, ld69, ld69p, ld72, ld72p, ld85, ld85p, st3s, st4s, st22s, st23s, st24s, st26w, st28w, st42s, st45w, st49w, st85w, ix22, ix22p, ix23, ix23p, ix24, ix24p, ix31, ix31p, ix42, ix42p, ix104, ix104p, ln22, ln22p, ln23, ln23p, ln24, ln24p, ln31, ln31p, ln42, ln42p, al4, al22, al26, al28, al42, al49, al85, cf10, cf11, cf12, cf13, cf14, cf15, cf16, cf17, cf18, cf19, cf20, cf21, cf22, cf23, cf24, cf25, cf26, cf27, cf28, cf29, cf30, cf31, cf32, cf33, cf34, cf35, cf36, cf37, cf38, cf39, cf40, cf41, cf42, cf43, cf44, cf45, cf46, cf47, cf48, cf49, cf50, cf51, cf52, cf53, cf54, cf55, cf56, cf57, cf58, cf59, cf60, cf61, cf62, cf63, cf64, cf65, cf66, cf67, cf68, cf69, cf70, cf71, cf72, cf73, cf74, cf75, bd26_0_1_2_7_8_9_10_11_12_13_14_4_15, bd26_0_1_2_7_8_9_10_11_12_13_14_4_15p, bd28_, bd28_p, bd28_0, bd28_0p, bd28_0_1, bd28_0_1p, bd45_1_3_4_5_6, bd45_1_3_4_5_6p, bd49_0_1, bd49_0_1p, bd49_1, bd49_1p, bd74_0_1_2_3, bd74_0_1_2_3p, bd85_0, bd85_0p, bd85_0_1, bd85_0_1p, bd93_0_1_2, bd93_0_1_2p, bd94_0_1_2_3, bd94_0_1_2_3p, bs42_1_0, bs22_1_0, bs24_1_0, bs42_3_0_1_2, bs31_1_0, bs22_2_0_1, bs42_6_0_1_2_3_4_5, bs42_0_, eq4, eq4p, eq28, eq28p, eq42n, eq42np, eq42s, eq42sp, eq58n, eq58np, eq58s, eq58sp, eq63n, eq63np, eq63s, eq63sp, ne28, ne28p, ne45, ne45p]
      unfold S8_k3
      try simp -implicitDefEqProofs (disch := first | with_reducible exact Nat.ne_of_beq_eq_false rfl | omega) only [upd_ne, q10, q12, eq_int, eq4, beq_self_eq_true, pick_t, gd_tt, cf10]
      refine awake _ fun _ => ?_
      rw [← hKK]
      try simp -implicitDefEqProofs (disch := first | with_reducible exact Nat.ne_of_beq_eq_false rfl | omega) only [retK_ret, resL_tmp, upd_eq, resL_nil1]
    obtain ⟨c, hc⟩ : ∃ c, L[i]? = some c := ⟨_, List.getElem?_eq_getElem (by omega)⟩
    obtain ⟨zb, zo, rfl, y0, y1⟩ := Sees.cell (sl.up lB d11) hc
    have estep : (L.take (i + 1)).any (fun c => !skipR from_ C.ht C.st TL [] c) = ((L.take i).any (fun c => !skipR from_ C.ht C.st TL [] c) || !skipR from_ C.ht C.st TL [] c) := by
      rw [List.take_add_one, hc, List.any_append]
      simp
    unfold S8_l4_k5
    try simp -implicitDefEqProofs (disch := first | with_reducible exact Nat.ne_of_beq_eq_false rfl | omega) only [upd_ne, q11, q13, cf21, pureW_sv, opH_su, opH_sv, al28, ld28p, add_mk, Nat.add_zero, Nat.zero_add, ix22 (Int.natCast_nonneg i) hlt, Int.toNat_natCast, ld28, y0, Option.some.injEq, y1, exists_eq_left', st28w, cell_set_self, List.getElem?_cons_zero, List.getElem?_cons_succ]
    intro xb hxb gxb
    generalize e12 : Hp.set h11 xb _ = h12
    obtain ⟨l12, d12, b12⟩ := boxed e12 hxb d11 gxb
    have lC := lB.trans l12
    have l8C := lA.trans lC
    have cx12 : ∀ j, cellIn G h12 ⟨x, j, none⟩ = _ := fun j => cell_of (look_own (l8C _ _ (l28 _ _ (l2 _ _ b1))))
    have cy12 : ∀ j, cellIn G h12 ⟨y, j, none⟩ = _ := fun j => cell_of (look_own (l8C _ _ (l28 _ _ b2)))
    have cz12 : ∀ j, cellIn G h12 ⟨z, j, none⟩ = _ := fun j => cell_of (look_own (l8C _ _ b8))
    have cb12 : ∀ j, cellIn G h12 ⟨xb, j, none⟩ = _ := fun j => cell_of (look_own b12)
    have inner : ∀ (b0 : Bool) (r1 : Rg) (KB KC : Exit → Rg → Hp → Prop), b0 = ((c == from_) || decide (((binsL C.st c).length : Int) ≥ C.ht)) → (∀ k, k ≤ 13 → r1 k = q k) → r1 14 = .pointer (some ⟨xb, 0, none⟩) → r1 15 = .bool b0 → r1 16 = .int .i64 0 → loopP (S8_l4_l10 G) r1 h12 (blockK 2 (thenK (S8_l4_k7 G (thenK X KB)) KC)) := by
      intro b0 r1 KB KC hb0 hk k14 k15 k16
      refine loop_I (fun m q' h13 => ∃ (k : Nat), m = TL.length - k ∧ k ≤ TL.length ∧ (∀ k, k ≤ 13 → q' k = q k) ∧ q' 14 = .pointer (some ⟨xb, 0, none⟩) ∧ q' 15 = .bool (b0 || decide (c ∈ TL.take k)) ∧ q' 16 = .int .i64 k ∧ h13 = h12) ?_
        (m := TL.length) ⟨0, rfl, Nat.zero_le _, hk, k14, by rw [k15]; simp, by rw [k16]; rfl, rfl⟩
      clear hk k14 k15 k16 r1
      rintro m q' h13 ⟨k, rfl, hk, hq, q14, q15, q16, rfl⟩ X' HX'
      unfold S8_l4_l10
      simp -implicitDefEqProofs (disch := first | with_reducible exact Nat.ne_of_beq_eq_false rfl | omega) only [hq 1 (by decide), q1, q16, thenK_exit, blockK_exit, thenK_normal, if_true, opH_sv, ln22, bin_lss]
      refine cond_dec (fun hlk => ?_) (fun hgk => ?_)
      · obtain ⟨w, hw⟩ : ∃ w, TL[k]? = some w := ⟨_, List.getElem?_eq_getElem (by omega)⟩
        obtain ⟨wb, wo, rfl, w0, w1⟩ := Sees.cell (ht.up (l08.trans (lA.trans lC)) d12) hw
        have emem : decide (c ∈ TL.take (k + 1)) = (decide (c ∈ TL.take k) || (w == c)) := by
          rw [Bool.eq_iff_iff, List.take_add_one, hw]
          simp only [Option.toList, List.mem_append, List.mem_singleton, decide_eq_true_eq, Bool.or_eq_true, beq_iff_eq]
          exact or_congr_right ⟨Eq.symm, Eq.symm⟩
        unfold S8_l4_l10_k11
        generalize hbk : (b0 || decide (c ∈ TL.take k)) = bk at q15
        cases bk with
        | true =>
          try simp -implicitDefEqProofs (disch := first | with_reducible exact Nat.ne_of_beq_eq_false rfl | omega) only [upd_ne, q15, pick_tp, gd_tf]
          unfold S8_l4_l10_k12
          try simp -implicitDefEqProofs (disch := first | with_reducible exact Nat.ne_of_beq_eq_false rfl | omega) only [upd_ne, q16, thenK_normal, opH_sv, bin_add, wrap_in]
          exact HX' (TL.length - (k + 1)) _ _ (by omega) ⟨k + 1, rfl, by omega, (fun t ht => by simp (disch := omega) only [upd_ne, hq]), by simp -implicitDefEqProofs (disch := first | with_reducible exact Nat.ne_of_beq_eq_false rfl | omega) only [upd_ne, q14], by simp -implicitDefEqProofs (disch := first | with_reducible exact Nat.ne_of_beq_eq_false rfl | omega) only [upd_ne, upd_eq] <;> rw [emem, ← Bool.or_assoc, hbk, Bool.true_or], by simp -implicitDefEqProofs (maxSteps := 2000000) (disch := first | with_reducible exact Nat.ne_of_beq_eq_false rfl | exact oneCell_int | exact oneCell_bool | omega | rfl | (simp; done) | fail) only [upd_eq] <;> rfl, rfl⟩
        | false =>
          try simp -implicitDefEqProofs (maxSteps := 2000000) (disch := first | with_reducible exact Nat.ne_of_beq_eq_false rfl | exact oneCell_int | exact oneCell_bool | omega | rfl | (simp; done) | fail) only [upd_ne, q15, pick_fp, gd_ff, pureW_sv]
          try simp -implicitDefEqProofs (maxSteps := 2000000) (disch := first | with_reducible exact Nat.ne_of_beq_eq_false rfl | exact oneCell_int | exact oneCell_bool | omega | rfl | (simp; done) | fail) only [hq 1 (by decide), q1, q16, q14, ld28p, add_mk, Nat.add_zero, cb12, List.getElem?_cons_zero, Option.some.injEq, Nat.zero_add, List.getElem?_cons_succ, exists_eq_left', ix22p (Int.natCast_nonneg k) hlk, Int.toNat_natCast, w0, w1, eq28p, Bool.and_true]
          rw [cell_beq w c]
          unfold S8_l4_l10_k12
          try simp -implicitDefEqProofs (disch := first | with_reducible exact Nat.ne_of_beq_eq_false rfl | omega) only [upd_ne, q16, thenK_normal, opH_sv, bin_add, wrap_in]
          exact HX' (TL.length - (k + 1)) _ _ (by omega) ⟨k + 1, rfl, by omega, (fun t ht => by simp (disch := omega) only [upd_ne, hq]), by simp -implicitDefEqProofs (disch := first | with_reducible exact Nat.ne_of_beq_eq_false rfl | omega) only [upd_ne, q14], by simp -implicitDefEqProofs (disch := first | with_reducible exact Nat.ne_of_beq_eq_false rfl | omega) only [upd_ne, upd_eq] <;> rw [emem, ← Bool.or_assoc, hbk, Bool.false_or], by simp -implicitDefEqProofs (maxSteps := 2000000) (disch := first | with_reducible exact Nat.ne_of_beq_eq_false rfl | exact oneCell_int | exact oneCell_bool | omega | rfl | (simp; done) | fail) only [upd_eq] <;> rfl, rfl⟩
      · obtain rfl : k = TL.length := by omega
        rw [List.take_of_length_le (Nat.le_refl _), hb0, skip_split] at q15
        clear HX'
        have next : ∀ (r1 : Rg) (KB : Exit → Rg → Hp → Prop) (h14 : Hp), (∀ k, k ≤ 11 → r1 k = q k) → r1 12 = .bool ((L.take (i + 1)).any (fun c => !skipR from_ C.ht C.st TL [] c)) → r1 13 = q 13 → h10.le h14 → Dis G h14 → S8_l4_k6 G (thenK X KB) r1 h14 := by
          intro r1 KB h14 hr r12 r13 l14 d14
          unfold S8_l4_k6
          try simp -implicitDefEqProofs (disch := first | with_reducible exact Nat.ne_of_beq_eq_false rfl | omega) only [r13, q13, thenK_normal, opH_sv, bin_add, wrap_in]
          exact HX (L.length - (i + 1)) _ _ (by omega) ⟨i + 1, rfl, by omega, by simp -implicitDefEqProofs (disch := first | with_reducible exact Nat.ne_of_beq_eq_false rfl | omega) only [upd_ne, hr 1 (by decide), q1], by simp -implicitDefEqProofs (disch := first | with_reducible exact Nat.ne_of_beq_eq_false rfl | omega) only [upd_ne, hr 3 (by decide), q3], by simp -implicitDefEqProofs (disch := first | with_reducible exact Nat.ne_of_beq_eq_false rfl | omega) only [upd_ne, hr 5 (by decide), q5], by simp -implicitDefEqProofs (disch := first | with_reducible exact Nat.ne_of_beq_eq_false rfl | omega) only [upd_ne, hr 9 (by decide), q9], by simp -implicitDefEqProofs (disch := first | with_reducible exact Nat.ne_of_beq_eq_false rfl | omega) only [upd_ne, hr 10 (by decide), q10], by simp -implicitDefEqProofs (disch := first | with_reducible exact Nat.ne_of_beq_eq_false rfl | omega) only [upd_ne, hr 11 (by decide), q11], by simp -implicitDefEqProofs (disch := first | with_reducible exact Nat.ne_of_beq_eq_false rfl | omega) only [upd_ne, r12], by simp -implicitDefEqProofs (disch := first | with_reducible exact Nat.ne_of_beq_eq_false rfl | omega) only [upd_eq] <;> rfl, l14, d14⟩
        try simp -implicitDefEqProofs (disch := first | with_reducible exact Nat.ne_of_beq_eq_false rfl | omega) only [opH_sv, opH_su, pureW_sv, opH_nil, pureW_nil, pick_t, pick_f, pick_tp, pick_fp, gd_tt, gd_ft, gd_tf, gd_ff, box_new, regs0, regs1, regs2, regs3, regs4, regs5, regs6, cells_agg, cells_int, cells_bool, cells_ptr, cells_slice, cells_string, cells_func, cells_nilFunc, cells_map, retK_ret, retK_normal, resL_tmp, resL_cell, resL_nil0, resL_nil1, resL_nil2, resL_nil3, resC_ptr, ex0, ex1, ex2, ex0p, ex1p, ex2p, HL.cond_true, HL.cond_false, thenK_normal, thenK_ret, thenK_exit, blockK_normal, blockK_ret, blockK_exit, scopeK_normal, scopeK_ret, scopeK_exit, wpH_pure, bin_add, bin_sub, bin_mul, bin_lss, bin_leq, bin_gtr, bin_geq, bin_quo, bin_rem, bin_quop, bin_remp, wrap_in, bin_addp, bin_subp, bin_mulp, bin_lssp, bin_leqp, bin_gtrp, bin_geqp, un_not, un_notp, un_neg, eq_int, ne_int, eq_intp, ne_intp, callV_fn, add_mk, upd_eq, upd_ne, cell_set_self, Nat.zero_add, Nat.add_zero, Option.some.injEq, exists_eq_left', List.getElem?_cons_succ, List.getElem?_cons_zero, true_and, and_true, bne_self_eq_false, beq_self_eq_true, Bool.not_true, Bool.not_false, Bool.and_true, Bool.and_self, Bool.and_false, Bool.true_and, List.length_cons, List.length_nil, ne_eq, not_false_eq_true, Nat.reduceAdd, Nat.reduceMul, if_true, if_false, oneCell_int, oneCell_bool, oneCell_ptr, oneCell_slice, oneCell_string, oneCell_func, oneCell_map, Int.toNat_natCast, List.set_cons_zero, List.set_cons_succ, Nat.lt_irrefl, Nat.zero_lt_succ, Nat.succ_lt_succ_iff, fa26_0, fa26_0p, fa26_1, fa26_1p, fa26_10, fa26_10p, fa26_11, fa26_11p, fa26_12, fa26_12p, fa26_13, fa26_13p, fa26_14, fa26_14p, fa26_15, fa26_15p, fa26_2, fa26_2p, fa26_3, fa26_3p, fa26_4, fa26_4p, fa26_5, fa26_5p, fa26_6, fa26_6p, fa26_7, fa26_7p, fa26_8, fa26_8p, fa26_9, fa26_9p, fa28_0, fa28_0p, fa28_1, fa28_1p, fa45_0, fa45_0p, fa45_1, fa45_1p, fa45_2, fa45_2p, fa45_3, fa45_3p, fa45_4, fa45_4p, fa45_5, fa45_5p, fa45_6, fa45_6p, fa49_0, fa49_0p, fa49_1, fa49_1p, fa74_0, fa74_0p, fa74_1, fa74_1p, fa74_2, fa74_2p, fa74_3, fa74_3p, fa85_0, fa85_0p, fa85_1, fa85_1p, fa93_0, fa93_0p, fa93_1, fa93_1p, fa93_2, fa93_2p, ld3, ld3p, ld4, ld4p, ld22, ld22p, ld23, ld23p, ld24, ld24p, ld26, ld26p, ld28, ld28p, ld42, ld42p, ld45, ld45p, ld49, ld49p, ld58, ld58p, ld69, ld69p, ld72, ld72p, ld85, ld85p, st3s, st4s, st22s, st23s, st24s, st26w, st28w, st42s, st45w, st49w, st85w, ix22, ix22p, ix23, ix23p, ix24, ix24p, ix31, ix31p, ix42, ix42p, ix104, ix104p, ln22, ln22p, ln23, ln23p, ln24, ln24p, ln31, ln31p, ln42, ln42p, al4, al22, al26, al28, al42, al49, al85, cf10, cf11, cf12, cf13, cf14, cf15, cf16, cf17, cf18, cf19, cf20, cf21, cf22, cf23, cf24, cf25, cf26, cf27, cf28, cf29, cf30, cf31, cf32, cf33, cf34, cf35, cf36, cf37, cf38, cf39, cf40, cf41, cf42, cf43, cf44, cf45, cf46, cf47, cf48, cf49, cf50, cf51, cf52, cf53, cf54, cf55, cf56, cf57, cf58, cf59, cf60, cf61, cf62, cf63, cf64, cf65, cf66, cf67, cf68, cf69, cf70, cf71, cf72, cf73, cf74, cf75, bd26_0_1_2_7_8_9_10_11_12_13_14_4_15, bd26_0_1_2_7_8_9_10_11_12_13_14_4_15p, bd28_, bd28_p, bd28_0, bd28_0p, bd28_0_1, bd28_0_1p, bd45_1_3_4_5_6, bd45_1_3_4_5_6p, bd49_0_1, bd49_0_1p, bd49_1, bd49_1p, bd74_0_1_2_3, bd74_0_1_2_3p, bd85_0, bd85_0p, bd85_0_1, bd85_0_1p, bd93_0_1_2, bd93_0_1_2p, bd94_0_1_2_3, bd94_0_1_2_3p, bs42_1_0, bs22_1_0, bs24_1_0, bs42_3_0_1_2, bs31_1_0, bs22_2_0_1, bs42_6_0_1_2_3_4_5, bs42_0_, eq4, eq4p, eq28, eq28p, eq42n, eq42np, eq42s, eq42sp, eq58n, eq58np, eq58s, eq58sp, eq63n, eq63np, eq63s, eq63sp, ne28, ne28p, ne45, ne45p]
        unfold S8_l4_k7
        have hsk : skipR from_ C.ht C.st TL [] c = false → ∀ z, P = some z → awayI from_ z ≤ awayI from_ c := fun h z e => pfar z e c (List.mem_of_getElem? hc) h
        cases hs : skipR from_ C.ht C.st TL [] c with
        | true =>
          rw [hs, Bool.not_true, Bool.or_false] at estep
          rw [hs] at q15
          try simp -implicitDefEqProofs (disch := first | with_reducible exact Nat.ne_of_beq_eq_false rfl | omega) only [upd_ne, q15, thenK_ret, HL.cond_true]
          have fin : ∀ r1 : Rg, (∀ k, k ≤ 14 → r1 k = q' k) → S8_l4_k9 G (thenK X KB) r1 h13 := fun r1 hr => by
            unfold S8_l4_k9
            exact next _ _ _ (fun k hk => by rw [hr k (by omega), hq k (by omega)]) (by rw [hr 12 (by decide), hq 12 (by decide), q12, estep]) (by rw [hr 13 (by decide), hq 13 (by decide)]) lC d12
          cases P with
          | none =>
            have : (en == 0) = false := heq
            try simp -implicitDefEqProofs (disch := first | with_reducible exact Nat.ne_of_beq_eq_false rfl | omega) only [hq 10 (by decide), q10, eq_int, this, pick_f, HL.cond_false, gd_ft]
            exact fin _ (fun k hk => by simp (disch := omega) only [upd_ne])
          | some p =>
            have : (en == 0) = true := heq
            have hcp : (c == p) = false := by
              cases hcp : (c == p) with
              | false => rfl
              | true => rw [eq_of_beq hcp] at hs; rw [pin p rfl] at hs; cases hs
            have hcp' : (c.1 == p.1 && c.2 == p.2) = false := hcp
            try simp -implicitDefEqProofs only [hq 10 (by decide), q10, q14, hq 9 (by decide), q9, eq_int, this, pick_t, gd_tt, opH_sv, ld28, add_mk, Nat.add_zero, Nat.zero_add, cb12, List.getElem?_cons_zero, Option.some.injEq, List.getElem?_cons_succ, cz12, exists_eq_left', eq28, Bool.and_true]
            first | exact fin _ (fun k hk => by simp (disch := omega) only [upd_ne]) | (try simp -implicitDefEqProofs (disch := first | with_reducible exact Nat.ne_of_beq_eq_false rfl | omega) only [show (c.1 == (bCell (some p)).1 && c.2 == (bCell (some p)).2) = false from hcp', HL.cond_false]; exact fin _ (fun k hk => by simp (disch := omega) only [upd_ne]))
        | false =>
          rw [hs, Bool.not_false, Bool.or_true] at estep
          rw [hs] at q15
          try simp -implicitDefEqProofs (disch := first | with_reducible exact Nat.ne_of_beq_eq_false rfl | omega) only [upd_ne, q15, thenK_ret, HL.cond_false]
          unfold S8_l4_k8
          cases P with
          | none =>
            have : (en == 0) = false := heq
            try simp -implicitDefEqProofs (disch := first | with_reducible exact Nat.ne_of_beq_eq_false rfl | omega) only [upd_ne, hq 10 (by decide), q10, cf31, thenK_ret, eq_intp, this, pick_fp, HL.cond_false, gd_ft]
            exact next _ _ _ (fun k hk => by simp (disch := omega) only [upd_ne, hq]) (by simp -implicitDefEqProofs (disch := first | with_reducible exact Nat.ne_of_beq_eq_false rfl | omega) only [upd_ne, upd_eq]; rw [estep]) (by simp (disch := omega) only [upd_ne, hq]) lC d12
          | some p =>
            have : (en == 0) = true := heq
            try simp -implicitDefEqProofs (disch := first | with_reducible exact Nat.ne_of_beq_eq_false rfl | omega) only [upd_ne, hq 10 (by decide), q10, hq 5 (by decide), q5, q14, cf31, hq 9 (by decide), q9, thenK_ret, eq_intp, this, pick_tp, gd_tt, pureW_sv, ld28p, add_mk, Nat.add_zero, cz12, List.getElem?_cons_zero, Option.some.injEq, Nat.zero_add, List.getElem?_cons_succ, exists_eq_left', cy12, cb12]
            refine (away_spec (a := from_) (b := c)).mono ?_
            rintro _ h14 ⟨rfl, rfl⟩
            refine ⟨Hp.le.refl _, ?_⟩
            try simp -implicitDefEqProofs only [opH_sv, opH_su, pureW_sv, opH_nil, pureW_nil, pick_t, pick_f, pick_tp, pick_fp, gd_tt, gd_ft, gd_tf, gd_ff, box_new, regs0, regs1, regs2, regs3, regs4, regs5, regs6, cells_agg, cells_int, cells_bool, cells_ptr, cells_slice, cells_string, cells_func, cells_nilFunc, cells_map, retK_ret, retK_normal, resL_tmp, resL_cell, resL_nil0, resL_nil1, resL_nil2, resL_nil3, resC_ptr, ex0, ex1, ex2, ex0p, ex1p, ex2p, HL.cond_true, HL.cond_false, thenK_normal, thenK_ret, thenK_exit, blockK_normal, blockK_ret, blockK_exit, scopeK_normal, scopeK_ret, scopeK_exit, wpH_pure, bin_add, bin_sub, bin_mul, bin_lss, bin_leq, bin_gtr, bin_geq, bin_quo, bin_rem, bin_quop, bin_remp, wrap_in, bin_addp, bin_subp, bin_mulp, bin_lssp, bin_leqp, bin_gtrp, bin_geqp, un_not, un_notp, un_neg, eq_int, ne_int, eq_intp, ne_intp, callV_fn, add_mk, upd_eq, upd_ne, cell_set_self, Nat.zero_add, Nat.add_zero, Option.some.injEq, exists_eq_left', List.getElem?_cons_succ, List.getElem?_cons_zero, true_and, and_true, bne_self_eq_false, beq_self_eq_true, Bool.not_true, Bool.not_false, Bool.and_true, Bool.and_self, Bool.and_false, Bool.true_and, List.length_cons, List.length_nil, ne_eq, not_false_eq_true, Nat.reduceAdd, Nat.reduceMul, if_true, if_false, oneCell_int, oneCell_bool, oneCell_ptr, oneCell_slice, oneCell_string, oneCell_func, oneCell_map, Int.toNat_natCast, List.set_cons_zero, List.set_cons_succ, Nat.lt_irrefl, Nat.zero_lt_succ, Nat.succ_lt_succ_iff, fa26_0, fa26_0p, fa26_1, fa26_1p, fa26_10, fa26_10p, fa26_11, fa26_11p, fa26_12, fa26_12p, fa26_13, fa26_13p, fa26_14, fa26_14p, fa26_15, fa26_15p, fa26_2, fa26_2p, fa26_3, fa26_3p, fa26_4, fa26_4p, fa26_5, fa26_5p, fa26_6, fa26_6p, fa26_7, fa26_7p, fa26_8, fa26_8p, fa26_9, fa26_9p, fa28_0, fa28_0p, fa28_1, fa28_1p, fa45_0, fa45_0p, fa45_1, fa45_1p, fa45_2, fa45_2p, fa45_3, fa45_3p, fa45_4, fa45_4p, fa45_5, fa45_5p, fa45_6, fa45_6p, fa49_0, fa49_0p, fa49_1, fa49_1p, fa74_0, fa74_0p, fa74_1, fa74_1p, fa74_2, fa74_2p, fa74_3, fa74_3p, fa85_0, fa85_0p, fa85_1, fa85_1p, fa93_0, fa93_0p, fa93_1, fa93_1p, fa93_2, fa93_2p, ld3, ld3p, ld4, ld4p, ld22, ld22p, ld23, ld23p, ld24, ld24p, ld26, ld26p, ld28, ld28p, ld42, ld42p, ld45, ld45p, ld49, ld49p, ld58, ld58p, ld69, ld69p, ld72, ld72p, ld85, ld85p, st3s, st4s, st22s, st23s, st24s, st26w, st28w, st42s, st45w, st49w, st85w, ix22, ix22p, ix23, ix23p, ix24, ix24p, ix31, ix31p, ix42, ix42p, ix104, ix104p, ln22, ln22p, ln23, ln23p, ln24, ln24p, ln31, ln31p, ln42, ln42p, al4, al22, al26, al28, al42, al49, al85, cf10, cf11, cf12, cf13, cf14, cf15, cf16, cf17, cf18, cf19, cf20, cf21, cf22, cf23, cf24, cf25, cf26, cf27, cf28, cf29, cf30, cf31, cf32, cf33, cf34, cf35, cf36, cf37, cf38, cf39, cf40, cf41, cf42, cf43, cf44, cf45, cf46, cf47, cf48, cf49, cf50, cf51, cf52, cf53, cf54, cf55, cf56, cf57, cf58, cf59, cf60, cf61, cf62, cf63, cf64, cf65, cf66, cf67, cf68, cf69, cf70, cf71, cf72, cf73, cf74, cf75, bd26_0_1_2_7_8_9_10_11_12_13_14_4_15, bd26_0_1_2_7_8_9_10_11_12_13_14_4_15p, bd28_, bd28_p, bd28_0, bd28_0p, bd28_0_1, bd28_0_1p, bd45_1_3_4_5_6, bd45_1_3_4_5_6p, bd49_0_1, bd49_0_1p, bd49_1, bd49_1p, bd74_0_1_2_3, bd74_0_1_2_3p, bd85_0, bd85_0p, bd85_0_1, bd85_0_1p, bd93_0_1_2, bd93_0_1_2p, bd94_0_1_2_3, bd94_0_1_2_3p, bs42_1_0, bs22_1_0, bs24_1_0, bs42_3_0_1_2, bs31_1_0, bs22_2_0_1, bs42_6_0_1_2_3_4_5, bs42_0_, eq4, eq4p, eq28, eq28p, eq42n, eq42np, eq42s, eq42sp, eq58n, eq58np, eq58s, eq58sp, eq63n, eq63np, eq63s, eq63sp, ne28, ne28p, ne45, ne45p, q14, hq 5 (by decide), q5, hq 9 (by decide), q9, cb12, cy12, cz12]
            refine (away_spec (a := from_) (b := p)).mono ?_
            rintro _ h14 ⟨rfl, rfl⟩
            try simp -implicitDefEqProofs only [bin_lssp, decide_eq_false (show ¬awayI from_ c < awayI from_ p from by have := hsk hs p rfl; omega), HL.cond_false]
            exact next _ _ _ (fun k hk => by simp (disch := omega) only [upd_ne, hq]) (by simp -implicitDefEqProofs (disch := first | with_reducible exact Nat.ne_of_beq_eq_false rfl | omega) only [upd_ne, upd_eq]; rw [estep]) (by simp (disch := omega) only [upd_ne, hq]) lC d12
    cases hcf : (c == from_) with
    | true =>
      try simp -implicitDefEqProofs (disch := first | with_reducible exact Nat.ne_of_beq_eq_false rfl | omega) only [q5, ld28p, add_mk, Nat.add_zero, cy12, List.getElem?_cons_zero, Option.some.injEq, Nat.zero_add, List.getElem?_cons_succ, exists_eq_left', eq28p, Bool.and_true, cell_beq, hcf, pick_tp, gd_tf]
      exact inner true _ _ _ (by rw [hcf]; rfl) (fun k hk => by simp (disch := omega) only [upd_ne]) (by simp -implicitDefEqProofs (disch := first | with_reducible exact Nat.ne_of_beq_eq_false rfl | omega) only [upd_ne, upd_eq]) (by simp -implicitDefEqProofs (disch := first | with_reducible exact Nat.ne_of_beq_eq_false rfl | omega) only [upd_ne, upd_eq]) (by simp -implicitDefEqProofs only [upd_eq])
    | false =>
      try simp -implicitDefEqProofs (disch := first | with_reducible exact Nat.ne_of_beq_eq_false rfl | omega) only [q5, q3, ld28p, add_mk, Nat.add_zero, cy12, List.getElem?_cons_zero, Option.some.injEq, Nat.zero_add, List.getElem?_cons_succ, exists_eq_left', eq28p, Bool.and_true, cell_beq, hcf, pick_fp, gd_ff, pureW_sv, fa26_2p, ld3p, cx12, cb12, fa26_6p, ld24p]
      refine (lbins14 (c := c) (ca.up (l08.trans (lA.trans lC)) d12).sts ls).mono ?_
      rintro _ h13 ⟨⟨ba, bcap, rfl, _⟩, rfl⟩
      refine ⟨Hp.le.refl _, ?_⟩
      try simp -implicitDefEqProofs (disch := first | with_reducible exact Nat.ne_of_beq_eq_false rfl | omega) only [ln42p, bin_geqp]
      exact inner _ _ _ _ (by rw [hcf, Bool.false_or]) (fun k hk => by simp (disch := omega) only [upd_ne]) (by simp -implicitDefEqProofs (disch := first | with_reducible exact Nat.ne_of_beq_eq_false rfl | omega) only [upd_ne, upd_eq]) (by simp -implicitDefEqProofs (disch := first | with_reducible exact Nat.ne_of_beq_eq_false rfl | omega) only [upd_ne, upd_eq]) (by simp -implicitDefEqProofs only [upd_eq])
  cases hne : (en != 0) with
  | true =>
    try simp -implicitDefEqProofs (disch := first | with_reducible exact Nat.ne_of_beq_eq_false rfl | omega) only [pick_t, gd_tt, ne_int, hck2 hne, HL.cond_false]
    exact tail _ (by simp -implicitDefEqProofs (disch := first | with_reducible exact Nat.ne_of_beq_eq_false rfl | omega) only [upd_ne, regs1]) (by simp -implicitDefEqProofs (disch := first | with_reducible exact Nat.ne_of_beq_eq_false rfl | omega) only [upd_ne, upd_eq]) (by simp -implicitDefEqProofs (disch := first | with_reducible exact Nat.ne_of_beq_eq_false rfl | omega) only [upd_ne, upd_eq]) (by simp -implicitDefEqProofs (disch := first | with_reducible exact Nat.ne_of_beq_eq_false rfl | omega) only [upd_ne, upd_eq]) (by simp -implicitDefEqProofs (disch := first | with_reducible exact Nat.ne_of_beq_eq_false rfl | omega) only [upd_ne, upd_eq]) (by simp -implicitDefEqProofs (disch := first | with_reducible exact Nat.ne_of_beq_eq_false rfl | omega) only [upd_ne, upd_eq])
  | false =>
    try simp -implicitDefEqProofs (disch := first | with_reducible exact Nat.ne_of_beq_eq_false rfl | omega) only [pick_f, HL.cond_false, gd_ft]
    exact tail _ (by simp -implicitDefEqProofs (disch := first | with_reducible exact Nat.ne_of_beq_eq_false rfl | omega) only [upd_ne, regs1]) (by simp -implicitDefEqProofs (disch := first | with_reducible exact Nat.ne_of_beq_eq_false rfl | omega) only [upd_ne, upd_eq]) (by simp -implicitDefEqProofs (disch := first | with_reducible exact Nat.ne_of_beq_eq_false rfl | omega) only [upd_ne, upd_eq]) (by simp -implicitDefEqProofs (disch := first | with_reducible exact Nat.ne_of_beq_eq_false rfl | omega) only [upd_ne, upd_eq]) (by simp -implicitDefEqProofs (disch := first | with_reducible exact Nat.ne_of_beq_eq_false rfl | omega) only [upd_ne, upd_eq]) (by simp -implicitDefEqProofs (disch := first | with_reducible exact Nat.ne_of_beq_eq_false rfl | omega) only [upd_ne, upd_eq])

end Go.Proofs.YtangejiigopdaaaDoor
end
