/- Texts of the proof, one behind the other. -/
import Derived.Test.YtangejiigopdaaaDoorM6
section
/- DigDone: the sums, the last look. -/
set_option linter.unusedSimpArgs false
set_option linter.unusedVariables false
set_option maxRecDepth 100000
namespace Go.Proofs.YtangejiigopdaaaDoor
open Go Go.HL

theorem tot_take {S : List Stk} {i : Nat} {s : Stk} (h : S[i]? = some s) : tot (S.take (i + 1)) = tot (S.take i) + s.2.length := by
  rw [List.take_add_one, h]
  unfold tot
  simp
theorem tot_le {S : List Stk} {i : Nat} : tot (S.take i) ≤ tot S := by
  have h : tot (S.take i) + tot (S.drop i) = tot S := by
    unfold tot
    rw [← List.sum_append, ← List.map_append, List.take_append_drop]
  omega

abbrev doneR (G : Hp) : Exit → Rg → Hp → Prop := retK Tryd.prog G [ResultVar.tmp 8] fun u _ => u = Value.bool true

set_option maxHeartbeats 8000000 in
theorem done_sum2 {G : Hp} {C : Conf} {x : Nat} {ab : Option Addr} {cb : Nat} {ap : Option Addr} {cp : Nat} {ar : Option Addr} {cr : Nat} {az : Option Addr} {cs : Nat} {n : Nat} (st : Steps G)
    {r : Rg} {h : Hp} (bx : h x = some (.cells #[.int .i64 C.w, .int .i64 C.h, .int .i64 C.ht, .slice ab C.bl.length cb, .slice ap C.po.length cp, .slice ar C.ro.length cr, .slice az C.st.length cs, .int .i64 C.un, .int .i64 C.ac, .int .i64 C.sp, .int .i64 C.tu, .int .i64 C.ho, .int .i64 C.qu, .int .i64 C.re, .int .i64 C.bu, .bool C.back] 26 (0, 0)))
    (hs : StS G h (.slice az C.st.length cs) C.st) (few : C.st.length ≤ 1000) (most : tot C.st ≤ 512) (hn : n + 1 = tot C.st)
    (r4 : r 4 = .pointer (some ⟨x, 0, none⟩)) (r20 : r 20 = .int .i64 n) (r21 : r 21 = .int .i64 0) : S4_k6 G (doneR G) r h := by
  obtain ⟨sa, sc, e0, raw, sr, srr⟩ := hs
  simp only [Value.slice.injEq, true_and] at e0
  obtain ⟨rfl, rfl⟩ := e0
  have hrl : raw.length = C.st.length := by
    obtain ⟨s', cap', e⟩ := sr.len
    simp at e
    omega
  have cx : ∀ j, cellIn G h ⟨x, j, none⟩ = _ := fun j => cell_of (look_own bx)
  unfold S4_k6
  refine loop_I (fun mm q h1 => ∃ i : Nat, mm = C.st.length - i ∧ i ≤ C.st.length ∧ q 4 = .pointer (some ⟨x, 0, none⟩) ∧ q 20 = .int .i64 n ∧ q 21 = .int .i64 (tot (C.st.take i)) ∧ q 23 = .int .i64 i ∧ h1 = h) ?_
    (m := C.st.length) ⟨0, rfl, Nat.zero_le _, by simp -implicitDefEqProofs (maxSteps := 2000000) (disch := first | with_reducible exact Nat.ne_of_beq_eq_false rfl | exact oneCell_int | exact oneCell_bool | omega | rfl | (simp; done) | fail) only [upd_ne, r4], by simp -implicitDefEqProofs (maxSteps := 2000000) (disch := first | with_reducible exact Nat.ne_of_beq_eq_false rfl | exact oneCell_int | exact oneCell_bool | omega | rfl | (simp; done) | fail) only [upd_ne, r20], by simp -implicitDefEqProofs (maxSteps := 2000000) (disch := first | with_reducible exact Nat.ne_of_beq_eq_false rfl | exact oneCell_int | exact oneCell_bool | omega | rfl | (simp; done) | fail) only [upd_ne, r21] <;> rfl, by simp -implicitDefEqProofs (maxSteps := 2000000) (disch := first | with_reducible exact Nat.ne_of_beq_eq_false rfl | exact oneCell_int | exact oneCell_bool | omega | rfl | (simp; done) | fail) only [upd_eq] <;> rfl, rfl⟩
  rintro mm q h1 ⟨i, rfl, hi, q4, q20, q21, q23, rfl⟩ X HX
  unfold S4_l8
  try simp -implicitDefEqProofs (maxSteps := 2000000) (disch := first | with_reducible exact Nat.ne_of_beq_eq_false rfl | exact oneCell_int | exact oneCell_bool | omega | rfl | (simp; done) | fail) only [q4, q23, thenK_exit, blockK_exit, thenK_normal, if_true, opH_sv, fa26_6, add_mk, Nat.zero_add, ld24, cx, List.getElem?_cons_succ, List.getElem?_cons_zero, Option.some.injEq, exists_eq_left', ln24, bin_lss]
  refine cond_dec (fun hlt => ?_) (fun hge => ?_)
  · obtain ⟨s, hs'⟩ : ∃ s, C.st[i]? = some s := ⟨_, List.getElem?_eq_getElem (by omega)⟩
    obtain ⟨r0, hr⟩ : ∃ r, raw[i]? = some r := ⟨_, List.getElem?_eq_getElem (by omega)⟩
    obtain ⟨er, en, eb⟩ := srr i r0 s hr hs'
    obtain ⟨b, of, cc, e3, e4⟩ := sr.get hr
    simp only [Value.slice.injEq] at e3
    obtain ⟨rfl, -, -⟩ := e3
    have z2 := e4 2 (by decide)
    simp only [rawC, Nat.add_zero, List.getElem?_cons_zero, List.getElem?_cons_succ] at z2
    have ht := tot_take hs'
    have htl := tot_le (S := C.st) (i := i + 1)
    unfold S4_l8_k9
    try simp -implicitDefEqProofs (maxSteps := 2000000) (disch := first | with_reducible exact Nat.ne_of_beq_eq_false rfl | exact oneCell_int | exact oneCell_bool | omega | rfl | (simp; done) | fail) only [upd_ne, q4, q23, q21, opH_sv, fa26_6, add_mk, Nat.zero_add, ld24, cx, List.getElem?_cons_succ, List.getElem?_cons_zero, Option.some.injEq, exists_eq_left', ix24 (Int.natCast_nonneg i) hlt, Int.toNat_natCast, fa49_1, ld42, z2, en, ln42, bin_add, wrap_in]
    unfold S4_l8_k10
    try simp -implicitDefEqProofs (maxSteps := 2000000) (disch := first | with_reducible exact Nat.ne_of_beq_eq_false rfl | exact oneCell_int | exact oneCell_bool | omega | rfl | (simp; done) | fail) only [upd_ne, q23, thenK_normal, opH_sv, bin_add, wrap_in]
    exact HX (C.st.length - (i + 1)) _ _ (by omega) ⟨i + 1, rfl, by omega, by simp -implicitDefEqProofs (maxSteps := 2000000) (disch := first | with_reducible exact Nat.ne_of_beq_eq_false rfl | exact oneCell_int | exact oneCell_bool | omega | rfl | (simp; done) | fail) only [upd_ne, q4], by simp -implicitDefEqProofs (maxSteps := 2000000) (disch := first | with_reducible exact Nat.ne_of_beq_eq_false rfl | exact oneCell_int | exact oneCell_bool | omega | rfl | (simp; done) | fail) only [upd_ne, q20], by simp -implicitDefEqProofs (maxSteps := 2000000) (disch := first | with_reducible exact Nat.ne_of_beq_eq_false rfl | exact oneCell_int | exact oneCell_bool | omega | rfl | (simp; done) | fail) only [upd_ne, upd_eq] <;> (rw [ht]; rfl), by simp -implicitDefEqProofs (maxSteps := 2000000) (disch := first | with_reducible exact Nat.ne_of_beq_eq_false rfl | exact oneCell_int | exact oneCell_bool | omega | rfl | (simp; done) | fail) only [upd_eq] <;> rfl, rfl⟩
  obtain rfl : i = C.st.length := by omega
  rw [List.take_of_length_le (Nat.le_refl _), ← hn] at q21
  try simp -implicitDefEqProofs (maxSteps := 2000000) (disch := first | with_reducible exact Nat.ne_of_beq_eq_false rfl | exact oneCell_int | exact oneCell_bool | omega | rfl | (simp; done) | fail) only [opH_sv, opH_su, pureW_sv, opH_nil, pureW_nil, pick_t, pick_f, pick_tp, pick_fp, gd_tt, gd_ft, gd_tf, gd_ff, box_new, regs0, regs1, regs2, regs3, regs4, regs5, regs6, cells_agg, cells_int, cells_bool, cells_ptr, cells_slice, cells_string, cells_func, cells_nilFunc, cells_map, retK_ret, retK_normal, resL_tmp, resL_cell, resL_nil0, resL_nil1, resL_nil2, resL_nil3, resC_ptr, ex0, ex1, ex2, ex0p, ex1p, ex2p, HL.cond_true, HL.cond_false, thenK_normal, thenK_ret, thenK_exit, blockK_normal, blockK_ret, blockK_exit, scopeK_normal, scopeK_ret, scopeK_exit, wpH_pure, bin_add, bin_sub, bin_mul, bin_lss, bin_leq, bin_gtr, bin_geq, bin_quo, bin_rem, bin_quop, bin_remp, wrap_in, bin_addp, bin_subp, bin_mulp, bin_lssp, bin_leqp, bin_gtrp, bin_geqp, un_not, un_notp, un_neg, eq_int, ne_int, eq_intp, ne_intp, callV_fn, add_mk, upd_eq, upd_ne, cell_set_self, Nat.zero_add, Nat.add_zero, Option.some.injEq, exists_eq_left', List.getElem?_cons_succ, List.getElem?_cons_zero, true_and, and_true, bne_self_eq_false, beq_self_eq_true, Bool.not_true, Bool.not_false, Bool.and_true, Bool.and_self, Bool.and_false, Bool.true_and, List.length_cons, List.length_nil, ne_eq, not_false_eq_true, Nat.reduceAdd, Nat.reduceMul, if_true, if_false, oneCell_int, oneCell_bool, oneCell_ptr, oneCell_slice, oneCell_string, oneCell_func, oneCell_map, Int.toNat_natCast, List.set_cons_zero, List.set_cons_succ, Nat.lt_irrefl, Nat.zero_lt_succ, Nat.succ_lt_succ_iff, fa26_0, fa26_0p, fa26_1, fa26_1p, fa26_10, fa26_10p, fa26_11, fa26_11p, fa26_12, fa26_12p, fa26_13, fa26_13p, fa26_14, fa26_14p, fa26_15, fa26_15p, fa26_2, fa26_2p, fa26_3, fa26_3p, fa26_4, fa26_4p, fa26_5, fa26_5p, fa26_6, fa26_6p, fa26_7, fa26_7p, fa26_8, fa26_8p, fa26_9, fa26_9p, fa28_0, fa28_0p, fa28_1, fa28_1p, fa45_0, fa45_0p, fa45_1, fa45_1p, fa45_2, fa45_2p, fa45_3, fa45_3p, fa45_4, fa45_4p, fa45_5, fa45_5p, fa45_6, fa45_6p, fa49_0, fa49_0p, fa49_1, fa49_1p, fa74_0, fa74_0p, fa74_1, fa74_1p, fa74_2, fa74_2p, fa74_3, fa74_3p, fa85_0, fa85_0p, fa85_1, fa85_1p, fa93_0, fa93_0p, fa93_1, fa93_1p, fa93_2, fa93_2p, ld3, ld3p, ld4, ld4p, ld22, ld22p, ld23, ld23p, ld24, ld24p, ld26, ld26p, ld28, ld28p, ld42, ld42p, ld45, ld45p, ld49, ld49p, ld58, ld58p, ld69, ld69p, ld72, ld72p, ld85, ld85p, st3s, st4s, st22s, st23s, st24s, st26w, st28w, st42s, st45w, st49w, st85w, ix22, ix22p, ix23, ix23p, ix24, ix24p, ix31, ix31p, ix42, ix42p, ix104, ix104p, ln22, ln22p, ln23, ln23p, ln24, ln24p, ln31, ln31p, ln42, ln42p, al4, al22, al26, al28, al42, al49, al85, cf10, cf11, cf12, cf13, cf14, cf15, cf16, cf17, cf18, cf19, cf20, cf21, cf22, cf23, cf24, cf25, cf26, cf27, cf28, cf29, cf30, cf31, cf32, cf33, cf34, cf35, cf36, cf37, cf38, cf39, cf40, cf41, cf42, cf43, cf44, cf45, cf46, cf47, cf48, cf49, cf50, cf51, cf52, cf53, cf54, cf55, cf56, cf57, cf58, cf59, cf60, cf61, cf62, cf63, cf64, cf65, cf66, cf67, cf68, cf69, cf70, cf71, cf72, cf73, cf74, cf75, bd26_0_1_2_7_8_9_10_11_12_13_14_4_15, bd26_0_1_2_7_8_9_10_11_12_13_14_4_15p, bd28_, bd28_p, bd28_0, bd28_0p, bd28_0_1, bd28_0_1p, bd45_1_3_4_5_6, bd45_1_3_4_5_6p, bd49_0_1, bd49_0_1p, bd49_1, bd49_1p, bd74_0_1_2_3, bd74_0_1_2_3p, bd85_0, bd85_0p, bd85_0_1, bd85_0_1p, bd93_0_1_2, bd93_0_1_2p, bd94_0_1_2_3, bd94_0_1_2_3p, bs42_1_0, bs22_1_0, bs24_1_0, bs42_3_0_1_2, bs31_1_0, bs22_2_0_1, bs42_6_0_1_2_3_4_5, bs42_0_, eq4, eq4p, eq28, eq28p, eq42n, eq42np, eq42s, eq42sp, eq58n, eq58np, eq58s, eq58sp, eq63n, eq63np, eq63s, eq63sp, ne28, ne28p, ne45, ne45p]
  unfold S4_k7
  have e1 : ((n + 1 : Nat) : Int) - 1 = (n : Int) := by omega
  try simp -implicitDefEqProofs (maxSteps := 2000000) (disch := first | with_reducible exact Nat.ne_of_beq_eq_false rfl | exact oneCell_int | exact oneCell_bool | omega | rfl | (simp; done) | fail) only [upd_ne, q21, q20, retK_ret, resL_tmp, upd_eq, resL_nil1, opH_sv, bin_sub, e1, wrap_in, eq_int, beq_self_eq_true, pick_t, gd_tt, cf10]
  refine (awake_spec st).mono ?_
  rintro _ _ ⟨rfl, rfl⟩
  try simp -implicitDefEqProofs (maxSteps := 2000000) (disch := first | with_reducible exact Nat.ne_of_beq_eq_false rfl | exact oneCell_int | exact oneCell_bool | omega | rfl | (simp; done) | fail) only []

set_option maxHeartbeats 8000000 in
theorem done_sum1 {G : Hp} {C : Conf} {x : Nat} {ab : Option Addr} {cb : Nat} {ap : Option Addr} {cp : Nat} {ar : Option Addr} {cr : Nat} {az : Option Addr} {cs : Nat} {N : List Stk} {vN : Value} {pr hb : Hp} {R : List Hp} (st : Steps G)
    {r : Rg} {h : Hp} (bx : h x = some (.cells #[.int .i64 C.w, .int .i64 C.h, .int .i64 C.ht, .slice ab C.bl.length cb, .slice ap C.po.length cp, .slice ar C.ro.length cr, .slice az C.st.length cs, .int .i64 C.un, .int .i64 C.ac, .int .i64 C.sp, .int .i64 C.tu, .int .i64 C.ho, .int .i64 C.qu, .int .i64 C.re, .int .i64 C.bu, .bool C.back] 26 (0, 0)))
    (hs : StS G h (.slice az C.st.length cs) C.st) (few : C.st.length ≤ 1000) (most : tot C.st ≤ 512) (hn : tot N + 1 = tot C.st) (on : NowO G pr hb vN N) (sp : HL.Sep (pr :: hb :: R) h) (hN : N.length ≤ 100000)
    (r4 : r 4 = .pointer (some ⟨x, 0, none⟩)) (r12 : r 12 = vN) : S4_k5 G (doneR G) r h := by
  obtain ⟨raw, ow, hrl, srr⟩ := on
  obtain ⟨sa, sc, rfl, _⟩ := ow.len (by decide)
  have sr : Sees rawC G h _ raw := ow.sees (by decide) sp.hd
  rw [hrl] at sr r12
  unfold S4_k5
  refine loop_I (fun mm q h1 => ∃ i : Nat, mm = N.length - i ∧ i ≤ N.length ∧ q 4 = .pointer (some ⟨x, 0, none⟩) ∧ q 12 = .slice sa N.length sc ∧ q 20 = .int .i64 (tot (N.take i)) ∧ q 21 = .int .i64 0 ∧ q 22 = .int .i64 i ∧ h1 = h) ?_
    (m := N.length) ⟨0, rfl, Nat.zero_le _, by simp -implicitDefEqProofs (maxSteps := 2000000) (disch := first | with_reducible exact Nat.ne_of_beq_eq_false rfl | exact oneCell_int | exact oneCell_bool | omega | rfl | (simp; done) | fail) only [upd_ne, r4], by simp -implicitDefEqProofs (maxSteps := 2000000) (disch := first | with_reducible exact Nat.ne_of_beq_eq_false rfl | exact oneCell_int | exact oneCell_bool | omega | rfl | (simp; done) | fail) only [upd_ne, r12], by simp -implicitDefEqProofs (maxSteps := 2000000) (disch := first | with_reducible exact Nat.ne_of_beq_eq_false rfl | exact oneCell_int | exact oneCell_bool | omega | rfl | (simp; done) | fail) only [upd_ne, upd_eq] <;> rfl, by simp -implicitDefEqProofs (maxSteps := 2000000) (disch := first | with_reducible exact Nat.ne_of_beq_eq_false rfl | exact oneCell_int | exact oneCell_bool | omega | rfl | (simp; done) | fail) only [upd_ne, upd_eq], by simp -implicitDefEqProofs (maxSteps := 2000000) (disch := first | with_reducible exact Nat.ne_of_beq_eq_false rfl | exact oneCell_int | exact oneCell_bool | omega | rfl | (simp; done) | fail) only [upd_eq] <;> rfl, rfl⟩
  rintro mm q h1 ⟨i, rfl, hi, q4, q12, q20, q21, q22, rfl⟩ X HX
  unfold S4_l11
  try simp -implicitDefEqProofs (maxSteps := 2000000) (disch := first | with_reducible exact Nat.ne_of_beq_eq_false rfl | exact oneCell_int | exact oneCell_bool | omega | rfl | (simp; done) | fail) only [q12, q22, thenK_exit, blockK_exit, thenK_normal, if_true, opH_sv, ln24, bin_lss]
  refine cond_dec (fun hlt => ?_) (fun hge => ?_)
  · obtain ⟨s, hs'⟩ : ∃ s, N[i]? = some s := ⟨_, List.getElem?_eq_getElem (by omega)⟩
    obtain ⟨r0, hr⟩ : ∃ r, raw[i]? = some r := ⟨_, List.getElem?_eq_getElem (by omega)⟩
    obtain ⟨er, en, eb⟩ := srr i r0 s hr hs'
    obtain ⟨b, of, cc, e3, e4⟩ := sr.get hr
    simp only [Value.slice.injEq] at e3
    obtain ⟨rfl, -, -⟩ := e3
    have z2 := e4 2 (by decide)
    simp only [rawC, Nat.add_zero, List.getElem?_cons_zero, List.getElem?_cons_succ] at z2
    have ht := tot_take hs'
    have htl := tot_le (S := N) (i := i + 1)
    unfold S4_l11_k12
    try simp -implicitDefEqProofs (maxSteps := 2000000) (disch := first | with_reducible exact Nat.ne_of_beq_eq_false rfl | exact oneCell_int | exact oneCell_bool | omega | rfl | (simp; done) | fail) only [upd_ne, q12, q22, q20, opH_sv, ix24 (Int.natCast_nonneg i) hlt, Int.toNat_natCast, add_mk, fa49_1, ld42, z2, en, Option.some.injEq, exists_eq_left', ln42, bin_add, wrap_in]
    unfold S4_l11_k13
    try simp -implicitDefEqProofs (maxSteps := 2000000) (disch := first | with_reducible exact Nat.ne_of_beq_eq_false rfl | exact oneCell_int | exact oneCell_bool | omega | rfl | (simp; done) | fail) only [upd_ne, q22, thenK_normal, opH_sv, bin_add, wrap_in]
    exact HX (N.length - (i + 1)) _ _ (by omega) ⟨i + 1, rfl, by omega, by simp -implicitDefEqProofs (maxSteps := 2000000) (disch := first | with_reducible exact Nat.ne_of_beq_eq_false rfl | exact oneCell_int | exact oneCell_bool | omega | rfl | (simp; done) | fail) only [upd_ne, q4], by simp -implicitDefEqProofs (maxSteps := 2000000) (disch := first | with_reducible exact Nat.ne_of_beq_eq_false rfl | exact oneCell_int | exact oneCell_bool | omega | rfl | (simp; done) | fail) only [upd_ne, q12], by simp -implicitDefEqProofs (maxSteps := 2000000) (disch := first | with_reducible exact Nat.ne_of_beq_eq_false rfl | exact oneCell_int | exact oneCell_bool | omega | rfl | (simp; done) | fail) only [upd_ne, upd_eq] <;> (rw [ht]; rfl), by simp -implicitDefEqProofs (maxSteps := 2000000) (disch := first | with_reducible exact Nat.ne_of_beq_eq_false rfl | exact oneCell_int | exact oneCell_bool | omega | rfl | (simp; done) | fail) only [upd_ne, q21], by simp -implicitDefEqProofs (maxSteps := 2000000) (disch := first | with_reducible exact Nat.ne_of_beq_eq_false rfl | exact oneCell_int | exact oneCell_bool | omega | rfl | (simp; done) | fail) only [upd_eq] <;> rfl, rfl⟩
  obtain rfl : i = N.length := by omega
  rw [List.take_of_length_le (Nat.le_refl _)] at q20
  try simp -implicitDefEqProofs (maxSteps := 2000000) (disch := first | with_reducible exact Nat.ne_of_beq_eq_false rfl | exact oneCell_int | exact oneCell_bool | omega | rfl | (simp; done) | fail) only [opH_sv, opH_su, pureW_sv, opH_nil, pureW_nil, pick_t, pick_f, pick_tp, pick_fp, gd_tt, gd_ft, gd_tf, gd_ff, box_new, regs0, regs1, regs2, regs3, regs4, regs5, regs6, cells_agg, cells_int, cells_bool, cells_ptr, cells_slice, cells_string, cells_func, cells_nilFunc, cells_map, retK_ret, retK_normal, resL_tmp, resL_cell, resL_nil0, resL_nil1, resL_nil2, resL_nil3, resC_ptr, ex0, ex1, ex2, ex0p, ex1p, ex2p, HL.cond_true, HL.cond_false, thenK_normal, thenK_ret, thenK_exit, blockK_normal, blockK_ret, blockK_exit, scopeK_normal, scopeK_ret, scopeK_exit, wpH_pure, bin_add, bin_sub, bin_mul, bin_lss, bin_leq, bin_gtr, bin_geq, bin_quo, bin_rem, bin_quop, bin_remp, wrap_in, bin_addp, bin_subp, bin_mulp, bin_lssp, bin_leqp, bin_gtrp, bin_geqp, un_not, un_notp, un_neg, eq_int, ne_int, eq_intp, ne_intp, callV_fn, add_mk, upd_eq, upd_ne, cell_set_self, Nat.zero_add, Nat.add_zero, Option.some.injEq, exists_eq_left', List.getElem?_cons_succ, List.getElem?_cons_zero, true_and, and_true, bne_self_eq_false, beq_self_eq_true, Bool.not_true, Bool.not_false, Bool.and_true, Bool.and_self, Bool.and_false, Bool.true_and, List.length_cons, List.length_nil, ne_eq, not_false_eq_true, Nat.reduceAdd, Nat.reduceMul, if_true, if_false, oneCell_int, oneCell_bool, oneCell_ptr, oneCell_slice, oneCell_string, oneCell_func, oneCell_map, Int.toNat_natCast, List.set_cons_zero, List.set_cons_succ, Nat.lt_irrefl, Nat.zero_lt_succ, Nat.succ_lt_succ_iff, fa26_0, fa26_0p, fa26_1, fa26_1p, fa26_10, fa26_10p, fa26_11, fa26_11p, fa26_12, fa26_12p, fa26_13, fa26_13p, fa26_14, fa26_14p, fa26_15, fa26_15p, fa26_2, fa26_2p, fa26_3, fa26_3p, fa26_4, fa26_4p, fa26_5, fa26_5p, fa26_6, fa26_6p, fa26_7, fa26_7p, fa26_8, fa26_8p, fa26_9, fa26_9p, fa28_0, fa28_0p, fa28_1, fa28_1p, fa45_0, fa45_0p, fa45_1, fa45_1p, fa45_2, fa45_2p, fa45_3, fa45_3p, fa45_4, fa45_4p, fa45_5, fa45_5p, fa45_6, fa45_6p, fa49_0, fa49_0p, fa49_1, fa49_1p, fa74_0, fa74_0p, fa74_1, fa74_1p, fa74_2, fa74_2p, fa74_3, fa74_3p, fa85_0, fa85_0p, fa85_1, fa85_1p, fa93_0, fa93_0p, fa93_1, fa93_1p, fa93_2, fa93_2p, ld3, ld3p, ld4, ld4p, ld22, ld22p, ld23, ld23p, ld24, ld24p, ld26, ld26p, ld28, ld28p, ld42, ld42p, ld45, ld45p, ld49, ld49p, ld58, ld58p, ld69, ld69p, ld72, ld72p, ld85, ld85p, st3s, st4s, st22s, st23s, st24s, st26w, st28w, st42s, st45w, st49w, st85w, ix22, ix22p, ix23, ix23p, ix24, ix24p, ix31, ix31p, ix42, ix42p, ix104, ix104p, ln22, ln22p, ln23, ln23p, ln24, ln24p, ln31, ln31p, ln42, ln42p, al4, al22, al26, al28, al42, al49, al85, cf10, cf11, cf12, cf13, cf14, cf15, cf16, cf17, cf18, cf19, cf20, cf21, cf22, cf23, cf24, cf25, cf26, cf27, cf28, cf29, cf30, cf31, cf32, cf33, cf34, cf35, cf36, cf37, cf38, cf39, cf40, cf41, cf42, cf43, cf44, cf45, cf46, cf47, cf48, cf49, cf50, cf51, cf52, cf53, cf54, cf55, cf56, cf57, cf58, cf59, cf60, cf61, cf62, cf63, cf64, cf65, cf66, cf67, cf68, cf69, cf70, cf71, cf72, cf73, cf74, cf75, bd26_0_1_2_7_8_9_10_11_12_13_14_4_15, bd26_0_1_2_7_8_9_10_11_12_13_14_4_15p, bd28_, bd28_p, bd28_0, bd28_0p, bd28_0_1, bd28_0_1p, bd45_1_3_4_5_6, bd45_1_3_4_5_6p, bd49_0_1, bd49_0_1p, bd49_1, bd49_1p, bd74_0_1_2_3, bd74_0_1_2_3p, bd85_0, bd85_0p, bd85_0_1, bd85_0_1p, bd93_0_1_2, bd93_0_1_2p, bd94_0_1_2_3, bd94_0_1_2_3p, bs42_1_0, bs22_1_0, bs24_1_0, bs42_3_0_1_2, bs31_1_0, bs22_2_0_1, bs42_6_0_1_2_3_4_5, bs42_0_, eq4, eq4p, eq28, eq28p, eq42n, eq42np, eq42s, eq42sp, eq58n, eq58np, eq58s, eq58sp, eq63n, eq63np, eq63s, eq63sp, ne28, ne28p, ne45, ne45p]
  exact done_sum2 st bx hs few most hn (by simp -implicitDefEqProofs (maxSteps := 2000000) (disch := first | with_reducible exact Nat.ne_of_beq_eq_false rfl | exact oneCell_int | exact oneCell_bool | omega | rfl | (simp; done) | fail) only [upd_ne, q4]) (by simp -implicitDefEqProofs (maxSteps := 2000000) (disch := first | with_reducible exact Nat.ne_of_beq_eq_false rfl | exact oneCell_int | exact oneCell_bool | omega | rfl | (simp; done) | fail) only [upd_ne, q20]) (by simp -implicitDefEqProofs (maxSteps := 2000000) (disch := first | with_reducible exact Nat.ne_of_beq_eq_false rfl | exact oneCell_int | exact oneCell_bool | omega | rfl | (simp; done) | fail) only [upd_ne, q21])

end Go.Proofs.YtangejiigopdaaaDoor
end

section
/- DigDone: what each stack is at last. -/
set_option linter.unusedSimpArgs false
set_option linter.unusedVariables false
set_option maxRecDepth 100000
namespace Go.Proofs.YtangejiigopdaaaDoor
open Go Go.HL

theorem filter_take {L : List Int} {k : Nat} {a : Int} {f : Int → Bool} (h : L[k]? = some a) : (L.take (k + 1)).filter f = (L.take k).filter f ++ (if f a = true then [a] else []) := by
  rw [List.take_add_one, h, List.filter_append]
  congr 1
  show List.filter f [a] = _
  rw [List.filter_cons, List.filter_nil]

set_option maxHeartbeats 8000000 in
theorem done_back {G : Hp} {C : Conf} {x : Nat} {ab : Option Addr} {cb : Nat} {ap : Option Addr} {cp : Nat} {ar : Option Addr} {cr : Nat} {az : Option Addr} {cs : Nat} {N : List Stk} {vN : Value} {pr hb h6 : Hp} {bin : Int} (st : Steps G)
    {r : Rg} {h : Hp} (bx : h6 x = some (.cells #[.int .i64 C.w, .int .i64 C.h, .int .i64 C.ht, .slice ab C.bl.length cb, .slice ap C.po.length cp, .slice ar C.ro.length cr, .slice az C.st.length cs, .int .i64 C.un, .int .i64 C.ac, .int .i64 C.sp, .int .i64 C.tu, .int .i64 C.ho, .int .i64 C.qu, .int .i64 C.re, .int .i64 C.bu, .bool C.back] 26 (0, 0)))
    (hs : StS G h6 (.slice az C.st.length cs) C.st) (few : C.st.length ≤ 1000) (most : tot C.st ≤ 512) (hn : tot N + 1 = tot C.st) (on : NowO G pr hb vN N) (sp : HL.Sep [pr, hb, h6] h) (d : Dis G h) (hN : N.length ≤ 100000)
    (hback : C.back = true → ∀ s ∈ C.st, binsL N s.1 = s.2.filter (fun x => !(x == bin)))
    (r2 : r 2 = .int .i64 bin) (r4 : r 4 = .pointer (some ⟨x, 0, none⟩)) (r12 : r 12 = vN) : S4_k4 G (doneR G) r h := by
  obtain ⟨sa, sc, e0, raw, sr, srr⟩ := id hs
  simp only [Value.slice.injEq, true_and] at e0
  obtain ⟨rfl, rfl⟩ := e0
  have hrl : raw.length = C.st.length := by
    obtain ⟨s', cap', e⟩ := sr.len
    simp at e
    omega
  unfold S4_k4
  refine loop_I (fun mm q h => ∃ i : Nat, mm = C.st.length - i ∧ i ≤ C.st.length ∧ q 2 = .int .i64 bin ∧ q 4 = .pointer (some ⟨x, 0, none⟩) ∧ q 12 = vN ∧ q 17 = .int .i64 i ∧ HL.Sep [pr, hb, h6] h ∧ Dis G h) ?_
    (m := C.st.length) ⟨0, rfl, Nat.zero_le _, by simp -implicitDefEqProofs (maxSteps := 2000000) (disch := first | with_reducible exact Nat.ne_of_beq_eq_false rfl | exact oneCell_int | exact oneCell_bool | omega | rfl | (simp; done) | fail) only [upd_ne, r2], by simp -implicitDefEqProofs (maxSteps := 2000000) (disch := first | with_reducible exact Nat.ne_of_beq_eq_false rfl | exact oneCell_int | exact oneCell_bool | omega | rfl | (simp; done) | fail) only [upd_ne, r4], by simp -implicitDefEqProofs (maxSteps := 2000000) (disch := first | with_reducible exact Nat.ne_of_beq_eq_false rfl | exact oneCell_int | exact oneCell_bool | omega | rfl | (simp; done) | fail) only [upd_ne, r12], by simp -implicitDefEqProofs (maxSteps := 2000000) (disch := first | with_reducible exact Nat.ne_of_beq_eq_false rfl | exact oneCell_int | exact oneCell_bool | omega | rfl | (simp; done) | fail) only [upd_eq] <;> rfl, sp, d⟩
  clear r2 r4 r12 sp d
  rintro mm q h ⟨i, rfl, hi, q2, q4, q12, q17, sp, d⟩ X HX
  have l6 : h6.le h := sp.in 2 rfl
  have cx : ∀ j, cellIn G h ⟨x, j, none⟩ = _ := fun j => cell_of (look_own (l6 _ _ bx))
  have hend : ∀ q : Rg, q 4 = .pointer (some ⟨x, 0, none⟩) → q 12 = vN → S4_k5 G (doneR G) q h := fun q q4 q12 => done_sum1 st (l6 _ _ bx) (hs.up l6 d) few most hn on sp hN q4 q12
  unfold S4_l14
  try simp -implicitDefEqProofs (maxSteps := 2000000) (disch := first | with_reducible exact Nat.ne_of_beq_eq_false rfl | exact oneCell_int | exact oneCell_bool | omega | rfl | (simp; done) | fail) only [q4, q17, thenK_exit, blockK_exit, thenK_normal, if_true, opH_sv, fa26_6, add_mk, Nat.zero_add, ld24, cx, List.getElem?_cons_succ, List.getElem?_cons_zero, Option.some.injEq, exists_eq_left', ln24, bin_lss]
  by_cases hlt : ((i : Int) < (C.st.length : Int))
  rotate_left
  · try simp -implicitDefEqProofs (maxSteps := 2000000) (disch := first | with_reducible exact Nat.ne_of_beq_eq_false rfl | exact oneCell_int | exact oneCell_bool | omega | rfl | (simp; done) | fail) only [decide_eq_false hlt, pick_f, HL.cond_false, gd_ft]
    exact hend _ (by simp -implicitDefEqProofs (maxSteps := 2000000) (disch := first | with_reducible exact Nat.ne_of_beq_eq_false rfl | exact oneCell_int | exact oneCell_bool | omega | rfl | (simp; done) | fail) only [upd_ne, q4]) (by simp -implicitDefEqProofs (maxSteps := 2000000) (disch := first | with_reducible exact Nat.ne_of_beq_eq_false rfl | exact oneCell_int | exact oneCell_bool | omega | rfl | (simp; done) | fail) only [upd_ne, q12])
  cases hbk : C.back with
  | false =>
    try simp -implicitDefEqProofs (maxSteps := 2000000) (disch := first | with_reducible exact Nat.ne_of_beq_eq_false rfl | exact oneCell_int | exact oneCell_bool | omega | rfl | (simp; done) | fail) only [decide_eq_true hlt, pick_t, gd_tt, opH_sv, fa26_15, add_mk, Nat.zero_add, ld4, cx, hbk, List.getElem?_cons_succ, List.getElem?_cons_zero, Option.some.injEq, exists_eq_left', HL.cond_false]
    exact hend _ (by simp -implicitDefEqProofs (maxSteps := 2000000) (disch := first | with_reducible exact Nat.ne_of_beq_eq_false rfl | exact oneCell_int | exact oneCell_bool | omega | rfl | (simp; done) | fail) only [upd_ne, q4]) (by simp -implicitDefEqProofs (maxSteps := 2000000) (disch := first | with_reducible exact Nat.ne_of_beq_eq_false rfl | exact oneCell_int | exact oneCell_bool | omega | rfl | (simp; done) | fail) only [upd_ne, q12])
  | true =>
  try simp -implicitDefEqProofs (maxSteps := 2000000) (disch := first | with_reducible exact Nat.ne_of_beq_eq_false rfl | exact oneCell_int | exact oneCell_bool | omega | rfl | (simp; done) | fail) only [decide_eq_true hlt, pick_t, gd_tt, opH_sv, fa26_15, add_mk, Nat.zero_add, ld4, cx, hbk, List.getElem?_cons_succ, List.getElem?_cons_zero, Option.some.injEq, exists_eq_left', HL.cond_true]
  unfold S4_l14_k15
  have hlt' : i < C.st.length := by omega
  obtain ⟨s, hs'⟩ : ∃ s, C.st[i]? = some s := ⟨_, List.getElem?_eq_getElem hlt'⟩
  have hbs := hback hbk s (List.mem_of_getElem? hs')
  obtain ⟨r0, hr⟩ : ∃ r, raw[i]? = some r := ⟨_, List.getElem?_eq_getElem (by omega)⟩
  obtain ⟨er, en, eb⟩ := srr i r0 s hr hs'
  have hs512 : s.2.length ≤ 512 := by
    have h1 := tot_take hs'
    have h2 := tot_le (S := C.st) (i := i + 1)
    omega
  refine loop_I (fun mm q h => ∃ (k : Nat) (ip : Hp) (w : Value), mm = s.2.length - k ∧ k ≤ s.2.length ∧ q 2 = .int .i64 bin ∧ q 4 = .pointer (some ⟨x, 0, none⟩) ∧ q 12 = vN ∧ q 17 = .int .i64 i ∧ q 18 = w ∧ q 19 = .int .i64 k ∧ Slc icC 3 ip w ((s.2.take k).filter fun x => !(x == bin)) ∧ HL.Sep [ip, pr, hb, h6] h ∧ Dis G h) ?_
    (m := s.2.length) ⟨0, noHp, _, rfl, Nat.zero_le _, by simp -implicitDefEqProofs (maxSteps := 2000000) (disch := first | with_reducible exact Nat.ne_of_beq_eq_false rfl | exact oneCell_int | exact oneCell_bool | omega | rfl | (simp; done) | fail) only [upd_ne, q2], by simp -implicitDefEqProofs (maxSteps := 2000000) (disch := first | with_reducible exact Nat.ne_of_beq_eq_false rfl | exact oneCell_int | exact oneCell_bool | omega | rfl | (simp; done) | fail) only [upd_ne, q4], by simp -implicitDefEqProofs (maxSteps := 2000000) (disch := first | with_reducible exact Nat.ne_of_beq_eq_false rfl | exact oneCell_int | exact oneCell_bool | omega | rfl | (simp; done) | fail) only [upd_ne, q12], by simp -implicitDefEqProofs (maxSteps := 2000000) (disch := first | with_reducible exact Nat.ne_of_beq_eq_false rfl | exact oneCell_int | exact oneCell_bool | omega | rfl | (simp; done) | fail) only [upd_ne, q17], by simp -implicitDefEqProofs (maxSteps := 2000000) (disch := first | with_reducible exact Nat.ne_of_beq_eq_false rfl | exact oneCell_int | exact oneCell_bool | omega | rfl | (simp; done) | fail) only [upd_ne, upd_eq] <;> rfl, by simp -implicitDefEqProofs (maxSteps := 2000000) (disch := first | with_reducible exact Nat.ne_of_beq_eq_false rfl | exact oneCell_int | exact oneCell_bool | omega | rfl | (simp; done) | fail) only [upd_eq] <;> rfl, Slc.nil, sp.none, d⟩
  clear q2 q4 q12 q17 sp d cx l6 hend
  rintro mm q h ⟨k, ip, w, rfl, hk, q2, q4, q12, q17, q18, q19, ow, sp, d⟩ Y HY
  have l6 : h6.le h := sp.in 3 rfl
  have cx : ∀ j, cellIn G h ⟨x, j, none⟩ = _ := fun j => cell_of (look_own (l6 _ _ bx))
  obtain ⟨b, of, cc, e3, e4⟩ := (sr.up l6 d).get hr
  simp only [Value.slice.injEq] at e3
  obtain ⟨rfl, -, -⟩ := e3
  have z0 := e4 0 (by decide)
  have z1 := e4 1 (by decide)
  have z2 := e4 2 (by decide)
  simp only [rawC, Nat.add_zero, List.getElem?_cons_zero, List.getElem?_cons_succ] at z0 z1 z2
  rw [show r0.x = s.1.1 from congrArg Prod.fst er] at z0
  rw [show r0.y = s.1.2 from congrArg Prod.snd er] at z1
  unfold S4_l14_l18
  try simp -implicitDefEqProofs (maxSteps := 2000000) (disch := first | with_reducible exact Nat.ne_of_beq_eq_false rfl | exact oneCell_int | exact oneCell_bool | omega | rfl | (simp; done) | fail) only [q4, q17, q19, thenK_exit, blockK_exit, thenK_normal, if_true, opH_sv, fa26_6, add_mk, Nat.zero_add, ld24, cx, List.getElem?_cons_succ, List.getElem?_cons_zero, Option.some.injEq, exists_eq_left', ix24 (Int.natCast_nonneg i) hlt, Int.toNat_natCast, fa49_1, ld42, z2, en, ln42, bin_lss]
  refine cond_dec (fun hlt2 => ?_) (fun hge => ?_)
  · obtain ⟨v, hv⟩ : ∃ v, s.2[k]? = some v := ⟨_, List.getElem?_eq_getElem (by omega)⟩
    obtain ⟨b2, o2, c2, f3, f4⟩ := (eb.up l6 d).get hv
    simp only [Value.slice.injEq] at f3
    obtain ⟨ea, -, -⟩ := f3
    have y0 := f4 0 (by decide)
    simp only [icC, Nat.add_zero, List.getElem?_cons_zero] at y0
    have hft := filter_take (f := fun x => !(x == bin)) hv
    unfold S4_l14_l18_k19
    try simp -implicitDefEqProofs (maxSteps := 2000000) (disch := first | with_reducible exact Nat.ne_of_beq_eq_false rfl | exact oneCell_int | exact oneCell_bool | omega | rfl | (simp; done) | fail) only [ea, upd_ne, q4, q17, q19, q2, opH_sv, fa26_6, add_mk, Nat.zero_add, ld24, cx, List.getElem?_cons_succ, List.getElem?_cons_zero, Option.some.injEq, exists_eq_left', ix24 (Int.natCast_nonneg i) hlt, Int.toNat_natCast, fa49_1, ld42, z2, en, ix42 (Int.natCast_nonneg k) hlt2, ld3, y0, ne_int, bs42_1_0]
    refine cond_bool (fun hvb => ?_) (fun hvb => ?_)
    · intro w1 hw1 gw1
      have sp1 := sp.past (o := .cells #[.int .i64 v] 3 (0, 0)) hw1
      obtain ⟨lw, d1, bw⟩ := boxed rfl hw1 d gw1 (o := .cells #[.int .i64 v] 3 (0, 0))
      generalize Hp.set h w1 _ = h1 at sp1 lw d1 bw ⊢
      rw [q18]
      refine append_piece icC (by decide) un42 eoint (by decide) (by decide) (M := [v]) sp1 d1 ow (Sees.row (c := icC) (L := [v]) bw rfl (Nat.le_refl _)) (by
        have := List.length_filter_le (fun x => !(x == bin)) (s.2.take k)
        rw [List.length_take] at this
        rw [List.length_singleton]
        omega) fun v7 ip7 h7 o7 s7 d7 => ?_
      have hvb' : (!(v == bin)) = true := hvb
      rw [if_pos hvb'] at hft
      unfold S4_l14_l18_k20
      try simp -implicitDefEqProofs (maxSteps := 2000000) (disch := first | with_reducible exact Nat.ne_of_beq_eq_false rfl | exact oneCell_int | exact oneCell_bool | omega | rfl | (simp; done) | fail) only [upd_ne, q19, thenK_normal, opH_sv, bin_add, wrap_in]
      exact HY (s.2.length - (k + 1)) _ _ (by omega) ⟨k + 1, ip7, v7, rfl, by omega, by simp -implicitDefEqProofs (maxSteps := 2000000) (disch := first | with_reducible exact Nat.ne_of_beq_eq_false rfl | exact oneCell_int | exact oneCell_bool | omega | rfl | (simp; done) | fail) only [upd_ne, q2], by simp -implicitDefEqProofs (maxSteps := 2000000) (disch := first | with_reducible exact Nat.ne_of_beq_eq_false rfl | exact oneCell_int | exact oneCell_bool | omega | rfl | (simp; done) | fail) only [upd_ne, q4], by simp -implicitDefEqProofs (maxSteps := 2000000) (disch := first | with_reducible exact Nat.ne_of_beq_eq_false rfl | exact oneCell_int | exact oneCell_bool | omega | rfl | (simp; done) | fail) only [upd_ne, q12], by simp -implicitDefEqProofs (maxSteps := 2000000) (disch := first | with_reducible exact Nat.ne_of_beq_eq_false rfl | exact oneCell_int | exact oneCell_bool | omega | rfl | (simp; done) | fail) only [upd_ne, q17], by simp -implicitDefEqProofs (maxSteps := 2000000) (disch := first | with_reducible exact Nat.ne_of_beq_eq_false rfl | exact oneCell_int | exact oneCell_bool | omega | rfl | (simp; done) | fail) only [upd_ne, upd_eq], by simp -implicitDefEqProofs (maxSteps := 2000000) (disch := first | with_reducible exact Nat.ne_of_beq_eq_false rfl | exact oneCell_int | exact oneCell_bool | omega | rfl | (simp; done) | fail) only [upd_eq] <;> rfl, by rw [hft]; exact o7, s7, d7⟩
    · have hvb' : ¬ (!(v == bin)) = true := by
        have e : (!(v == bin)) = false := hvb
        rw [e]; decide
      rw [if_neg hvb', List.append_nil] at hft
      unfold S4_l14_l18_k20
      try simp -implicitDefEqProofs (maxSteps := 2000000) (disch := first | with_reducible exact Nat.ne_of_beq_eq_false rfl | exact oneCell_int | exact oneCell_bool | omega | rfl | (simp; done) | fail) only [upd_ne, q19, thenK_normal, opH_sv, bin_add, wrap_in]
      exact HY (s.2.length - (k + 1)) _ _ (by omega) ⟨k + 1, ip, w, rfl, by omega, by simp -implicitDefEqProofs (maxSteps := 2000000) (disch := first | with_reducible exact Nat.ne_of_beq_eq_false rfl | exact oneCell_int | exact oneCell_bool | omega | rfl | (simp; done) | fail) only [upd_ne, q2], by simp -implicitDefEqProofs (maxSteps := 2000000) (disch := first | with_reducible exact Nat.ne_of_beq_eq_false rfl | exact oneCell_int | exact oneCell_bool | omega | rfl | (simp; done) | fail) only [upd_ne, q4], by simp -implicitDefEqProofs (maxSteps := 2000000) (disch := first | with_reducible exact Nat.ne_of_beq_eq_false rfl | exact oneCell_int | exact oneCell_bool | omega | rfl | (simp; done) | fail) only [upd_ne, q12], by simp -implicitDefEqProofs (maxSteps := 2000000) (disch := first | with_reducible exact Nat.ne_of_beq_eq_false rfl | exact oneCell_int | exact oneCell_bool | omega | rfl | (simp; done) | fail) only [upd_ne, q17], by simp -implicitDefEqProofs (maxSteps := 2000000) (disch := first | with_reducible exact Nat.ne_of_beq_eq_false rfl | exact oneCell_int | exact oneCell_bool | omega | rfl | (simp; done) | fail) only [upd_ne, q18], by simp -implicitDefEqProofs (maxSteps := 2000000) (disch := first | with_reducible exact Nat.ne_of_beq_eq_false rfl | exact oneCell_int | exact oneCell_bool | omega | rfl | (simp; done) | fail) only [upd_eq] <;> rfl, by rw [hft]; exact ow, sp, d⟩
  obtain rfl : k = s.2.length := by omega
  rw [List.take_of_length_le (Nat.le_refl _)] at ow
  clear HY
  try simp -implicitDefEqProofs (maxSteps := 2000000) (disch := first | with_reducible exact Nat.ne_of_beq_eq_false rfl | exact oneCell_int | exact oneCell_bool | omega | rfl | (simp; done) | fail) only [opH_sv, opH_su, pureW_sv, opH_nil, pureW_nil, pick_t, pick_f, pick_tp, pick_fp, gd_tt, gd_ft, gd_tf, gd_ff, box_new, regs0, regs1, regs2, regs3, regs4, regs5, regs6, cells_agg, cells_int, cells_bool, cells_ptr, cells_slice, cells_string, cells_func, cells_nilFunc, cells_map, retK_ret, retK_normal, resL_tmp, resL_cell, resL_nil0, resL_nil1, resL_nil2, resL_nil3, resC_ptr, ex0, ex1, ex2, ex0p, ex1p, ex2p, HL.cond_true, HL.cond_false, thenK_normal, thenK_ret, thenK_exit, blockK_normal, blockK_ret, blockK_exit, scopeK_normal, scopeK_ret, scopeK_exit, wpH_pure, bin_add, bin_sub, bin_mul, bin_lss, bin_leq, bin_gtr, bin_geq, bin_quo, bin_rem, bin_quop, bin_remp, wrap_in, bin_addp, bin_subp, bin_mulp, bin_lssp, bin_leqp, bin_gtrp, bin_geqp, un_not, un_notp, un_neg, eq_int, ne_int, eq_intp, ne_intp, callV_fn, add_mk, upd_eq, upd_ne, cell_set_self, Nat.zero_add, Nat.add_zero, Option.some.injEq, exists_eq_left', List.getElem?_cons_succ, List.getElem?_cons_zero, true_and, and_true, bne_self_eq_false, beq_self_eq_true, Bool.not_true, Bool.not_false, Bool.and_true, Bool.and_self, Bool.and_false, Bool.true_and, List.length_cons, List.length_nil, ne_eq, not_false_eq_true, Nat.reduceAdd, Nat.reduceMul, if_true, if_false, oneCell_int, oneCell_bool, oneCell_ptr, oneCell_slice, oneCell_string, oneCell_func, oneCell_map, Int.toNat_natCast, List.set_cons_zero, List.set_cons_succ, Nat.lt_irrefl, Nat.zero_lt_succ, Nat.succ_lt_succ_iff, fa26_0, fa26_0p, fa26_1, fa26_1p, fa26_10, fa26_10p, fa26_11, fa26_11p, fa26_12, fa26_12p, fa26_13, fa26_13p, fa26_14, fa26_14p, fa26_15, fa26_15p, fa26_2, fa26_2p, fa26_3, fa26_3p, fa26_4, fa26_4p, fa26_5, fa26_5p, fa26_6, fa26_6p, fa26_7, fa26_7p, fa26_8, fa26_8p, fa26_9, fa26_9p, fa28_0, fa28_0p, fa28_1, fa28_1p, fa45_0, fa45_0p, fa45_1, fa45_1p, fa45_2, fa45_2p, fa45_3, fa45_3p, fa45_4, fa45_4p, fa45_5, fa45_5p, fa45_6, fa45_6p, fa49_0, fa49_0p, fa49_1, fa49_1p, fa74_0, fa74_0p, fa74_1, fa74_1p, fa74_2, fa74_2p, fa74_3, fa74_3p, fa85_0, fa85_0p, fa85_1, fa85_1p, fa93_0, fa93_0p, fa93_1, fa93_1p, fa93_2, fa93_2p, ld3, ld3p, ld4, ld4p, ld22, ld22p, ld23, ld23p, ld24, ld24p, ld26, ld26p, ld28, ld28p, ld42, ld42p, ld45, ld45p, ld49, ld49p, ld58, ld58p, ld69, ld69p, ld72, ld72p, ld85, ld85p, st3s, st4s, st22s, st23s, st24s, st26w, st28w, st42s, st45w, st49w, st85w, ix22, ix22p, ix23, ix23p, ix24, ix24p, ix31, ix31p, ix42, ix42p, ix104, ix104p, ln22, ln22p, ln23, ln23p, ln24, ln24p, ln31, ln31p, ln42, ln42p, al4, al22, al26, al28, al42, al49, al85, cf10, cf11, cf12, cf13, cf14, cf15, cf16, cf17, cf18, cf19, cf20, cf21, cf22, cf23, cf24, cf25, cf26, cf27, cf28, cf29, cf30, cf31, cf32, cf33, cf34, cf35, cf36, cf37, cf38, cf39, cf40, cf41, cf42, cf43, cf44, cf45, cf46, cf47, cf48, cf49, cf50, cf51, cf52, cf53, cf54, cf55, cf56, cf57, cf58, cf59, cf60, cf61, cf62, cf63, cf64, cf65, cf66, cf67, cf68, cf69, cf70, cf71, cf72, cf73, cf74, cf75, bd26_0_1_2_7_8_9_10_11_12_13_14_4_15, bd26_0_1_2_7_8_9_10_11_12_13_14_4_15p, bd28_, bd28_p, bd28_0, bd28_0p, bd28_0_1, bd28_0_1p, bd45_1_3_4_5_6, bd45_1_3_4_5_6p, bd49_0_1, bd49_0_1p, bd49_1, bd49_1p, bd74_0_1_2_3, bd74_0_1_2_3p, bd85_0, bd85_0p, bd85_0_1, bd85_0_1p, bd93_0_1_2, bd93_0_1_2p, bd94_0_1_2_3, bd94_0_1_2_3p, bs42_1_0, bs22_1_0, bs24_1_0, bs42_3_0_1_2, bs31_1_0, bs22_2_0_1, bs42_6_0_1_2_3_4_5, bs42_0_, eq4, eq4p, eq28, eq28p, eq42n, eq42np, eq42s, eq42sp, eq58n, eq58np, eq58s, eq58sp, eq63n, eq63np, eq63s, eq63sp, ne28, ne28p, ne45, ne45p]
  unfold S4_l14_k17
  try simp -implicitDefEqProofs (maxSteps := 2000000) (disch := first | with_reducible exact Nat.ne_of_beq_eq_false rfl | exact oneCell_int | exact oneCell_bool | omega | rfl | (simp; done) | fail) only [upd_ne, q4, q17, q12, thenK_ret, blockK_ret, retK_ret, resL_tmp, upd_eq, resL_nil1, opH_sv, cf24, cf21, fa26_6, add_mk, Nat.zero_add, ld24, cx, List.getElem?_cons_succ, List.getElem?_cons_zero, Option.some.injEq, exists_eq_left', ix24 (Int.natCast_nonneg i) hlt, Int.toNat_natCast, fa49_0, Nat.add_zero, ld28, z0, z1]
  have sp' := sp.sel [1, 2, 3] (by decide) rfl
  refine (bins_now (c := s.1) on sp' (by omega)).mono ?_
  rintro _ h ⟨⟨a2, cap2, rfl, ic2⟩, rfl⟩
  rw [hbs] at ic2 ⊢
  obtain ⟨wa, wc, rfl, _⟩ := ow.len (by decide)
  have hfl : (s.2.filter fun x => !(x == bin)).length ≤ 512 := Nat.le_trans (List.length_filter_le _ _) hs512
  try simp -implicitDefEqProofs (maxSteps := 2000000) (disch := first | with_reducible exact Nat.ne_of_beq_eq_false rfl | exact oneCell_int | exact oneCell_bool | omega | rfl | (simp; done) | fail) only [q18]
  refine (sameints_spec (ic2.1.up (sp.in 2 rfl) d) (ow.sees (by decide) (sp.in 0 rfl)) (by omega)).mono ?_
  rintro _ h ⟨rfl, rfl⟩
  try simp -implicitDefEqProofs (maxSteps := 2000000) (disch := first | with_reducible exact Nat.ne_of_beq_eq_false rfl | exact oneCell_int | exact oneCell_bool | omega | rfl | (simp; done) | fail) only [un_not, Bool.not_true, HL.cond_false]
  unfold S4_l14_k16
  try simp -implicitDefEqProofs (maxSteps := 2000000) (disch := first | with_reducible exact Nat.ne_of_beq_eq_false rfl | exact oneCell_int | exact oneCell_bool | omega | rfl | (simp; done) | fail) only [upd_ne, q17, thenK_normal, opH_sv, bin_add, wrap_in]
  exact HX (C.st.length - (i + 1)) _ _ (by omega) ⟨i + 1, rfl, hlt', by simp -implicitDefEqProofs (maxSteps := 2000000) (disch := first | with_reducible exact Nat.ne_of_beq_eq_false rfl | exact oneCell_int | exact oneCell_bool | omega | rfl | (simp; done) | fail) only [upd_ne, q2], by simp -implicitDefEqProofs (maxSteps := 2000000) (disch := first | with_reducible exact Nat.ne_of_beq_eq_false rfl | exact oneCell_int | exact oneCell_bool | omega | rfl | (simp; done) | fail) only [upd_ne, q4], by simp -implicitDefEqProofs (maxSteps := 2000000) (disch := first | with_reducible exact Nat.ne_of_beq_eq_false rfl | exact oneCell_int | exact oneCell_bool | omega | rfl | (simp; done) | fail) only [upd_ne, q12], by simp -implicitDefEqProofs (maxSteps := 2000000) (disch := first | with_reducible exact Nat.ne_of_beq_eq_false rfl | exact oneCell_int | exact oneCell_bool | omega | rfl | (simp; done) | fail) only [upd_eq] <;> rfl, sp', d⟩

end Go.Proofs.YtangejiigopdaaaDoor
end

section
/- DigDone: the walk. -/
set_option linter.unusedSimpArgs false
set_option linter.unusedVariables false
set_option maxRecDepth 100000
namespace Go.Proofs.YtangejiigopdaaaDoor
open Go Go.HL

set_option maxHeartbeats 8000000 in
theorem done_walk {G : Hp} {v tv : Value} {C : Conf} {TL : List Cell} {bin port : Int} (st : Steps G) (hv : CV G noHp v C) (fit : Fit0 C) (hp : ∀ p ∈ C.ro, PB p) (ht : Sees cellC G noHp tv TL) (pbd : Bd port) :
    HCalls Tryd.prog G 4 #[v, tv, .int .i64 bin, .int .i64 port] noHp (fun u _ => u = .bool true) := by
  obtain ⟨lb, lp, lr, ls⟩ := fit.lens
  have hv0 := hv
  obtain ⟨ab, cb, ap, cp, ar, cr, az, cs, rfl, ca⟩ := hv
  obtain ⟨ta, tc, rfl⟩ := ht.len
  refine HCalls.assume fun d => enter4 (by simp) ?_
  unfold S4
  simp -implicitDefEqProofs (maxSteps := 2000000) (disch := first | with_reducible exact Nat.ne_of_beq_eq_false rfl | exact oneCell_int | exact oneCell_bool | omega | rfl | (simp; done) | fail) only [regs0, regs1, retK_ret, resL_tmp, upd_eq, resL_nil1, cf10, opH_sv, cf19, box_new, cells_agg, ld26, add_mk, Nat.add_zero, cell_set_self, List.getElem?_cons_zero, Option.some.injEq, Nat.zero_add, List.getElem?_cons_succ, exists_eq_left']
  intro x hx gx
  generalize e1 : Hp.set noHp x _ = h1
  obtain ⟨l1, d1, b1⟩ := boxed e1 hx d gx
  have awake : ∀ (hh : Hp) {R : Value → Hp → Prop}, (∀ hh', R (.bool true) hh') → HCalls Tryd.prog G 10 #[] hh R := fun hh R H => (awake_spec st).mono (by rintro _ _ ⟨rfl, rfl⟩; exact H _)
  have cx : ∀ j, cellIn G h1 ⟨x, j, none⟩ = _ := fun j => cell_of (look_own b1)
  try simp -implicitDefEqProofs (maxSteps := 2000000) (disch := first | with_reducible exact Nat.ne_of_beq_eq_false rfl | exact oneCell_int | exact oneCell_bool | omega | rfl | (simp; done) | fail) only [opH_sv, opH_su, pureW_sv, opH_nil, pureW_nil, pick_t, pick_f, pick_tp, pick_fp, gd_tt, gd_ft, gd_tf, gd_ff, box_new, regs0, regs1, regs2, regs3, regs4, regs5, regs6, cells_agg, cells_int, cells_bool, cells_ptr, cells_slice, cells_string, cells_func, cells_nilFunc, cells_map, retK_ret, retK_normal, resL_tmp, resL_cell, resL_nil0, resL_nil1, resL_nil2, resL_nil3, resC_ptr, ex0, ex1, ex2, ex0p, ex1p, ex2p, HL.cond_true, HL.cond_false, thenK_normal, thenK_ret, thenK_exit, blockK_normal, blockK_ret, blockK_exit, scopeK_normal, scopeK_ret, scopeK_exit, wpH_pure, bin_add, bin_sub, bin_mul, bin_lss, bin_leq, bin_gtr, bin_geq, bin_quo, bin_rem, bin_quop, bin_remp, wrap_in, bin_addp, bin_subp, bin_mulp, bin_lssp, bin_leqp, bin_gtrp, bin_geqp, un_not, un_notp, un_neg, eq_int, ne_int, eq_intp, ne_intp, callV_fn, add_mk, upd_eq, upd_ne, cell_set_self, Nat.zero_add, Nat.add_zero, Option.some.injEq, exists_eq_left', List.getElem?_cons_succ, List.getElem?_cons_zero, true_and, and_true, bne_self_eq_false, beq_self_eq_true, Bool.not_true, Bool.not_false, Bool.and_true, Bool.and_self, Bool.and_false, Bool.true_and, List.length_cons, List.length_nil, ne_eq, not_false_eq_true, Nat.reduceAdd, Nat.reduceMul, if_true, if_false, oneCell_int, oneCell_bool, oneCell_ptr, oneCell_slice, oneCell_string, oneCell_func, oneCell_map, Int.toNat_natCast, List.set_cons_zero, List.set_cons_succ, Nat.lt_irrefl, Nat.zero_lt_succ, Nat.succ_lt_succ_iff, fa26_0, fa26_0p, fa26_1, fa26_1p, fa26_10, fa26_10p, fa26_11, fa26_11p, fa26_12, fa26_12p, fa26_13, fa26_13p, fa26_14, fa26_14p, fa26_15, fa26_15p, fa26_2, fa26_2p, fa26_3, fa26_3p, fa26_4, fa26_4p, fa26_5, fa26_5p, fa26_6, fa26_6p, fa26_7, fa26_7p, fa26_8, fa26_8p, fa26_9, fa26_9p, fa28_0, fa28_0p, fa28_1, fa28_1p, fa45_0, fa45_0p, fa45_1, fa45_1p, fa45_2, fa45_2p, fa45_3, fa45_3p, fa45_4, fa45_4p, fa45_5, fa45_5p, fa45_6, fa45_6p, fa49_0, fa49_0p, fa49_1, fa49_1p, fa74_0, fa74_0p, fa74_1, fa74_1p, fa74_2, fa74_2p, fa74_3, fa74_3p, fa85_0, fa85_0p, fa85_1, fa85_1p, fa93_0, fa93_0p, fa93_1, fa93_1p, fa93_2, fa93_2p, ld3, ld3p, ld4, ld4p, ld22, ld22p, ld23, ld23p, ld24, ld24p, ld26, ld26p, ld28, ld28p, ld42, ld42p, ld45, ld45p, ld49, ld49p, ld58, ld58p, ld69, ld69p, ld72, ld72p, ld85, ld85p, st3s, st4s, st22s, st23s, st24s, st26w, st28w, st42s, st45w, st49w, st85w, ix22, ix22p, ix23, ix23p, ix24, ix24p, ix31, ix31p, ix42, ix42p, ix104, ix104p, ln22, ln22p, ln23, ln23p, ln24, ln24p, ln31, ln31p, ln42, ln42p, al4, al22, al26, al28, al42, al49, al85, cf10, cf11, cf12, cf13, cf14, cf15, cf16, cf17, cf18, cf19, cf20, cf21, cf22, cf23, cf24, cf25, cf26, cf27, cf28, cf29, cf30, cf31, cf32, cf33, cf34, cf35, cf36, cf37, cf38, cf39, cf40, cf41, cf42, cf43, cf44, cf45, cf46, cf47, cf48, cf49, cf50, cf51, cf52, cf53, cf54, cf55, cf56, cf57, cf58, cf59, cf60, cf61, cf62, cf63, cf64, cf65, cf66, cf67, cf68, cf69, cf70, cf71, cf72, cf73, cf74, cf75, bd26_0_1_2_7_8_9_10_11_12_13_14_4_15, bd26_0_1_2_7_8_9_10_11_12_13_14_4_15p, bd28_, bd28_p, bd28_0, bd28_0p, bd28_0_1, bd28_0_1p, bd45_1_3_4_5_6, bd45_1_3_4_5_6p, bd49_0_1, bd49_0_1p, bd49_1, bd49_1p, bd74_0_1_2_3, bd74_0_1_2_3p, bd85_0, bd85_0p, bd85_0_1, bd85_0_1p, bd93_0_1_2, bd93_0_1_2p, bd94_0_1_2_3, bd94_0_1_2_3p, bs42_1_0, bs22_1_0, bs24_1_0, bs42_3_0_1_2, bs31_1_0, bs22_2_0_1, bs42_6_0_1_2_3_4_5, bs42_0_, eq4, eq4p, eq28, eq28p, eq42n, eq42np, eq42s, eq42sp, eq58n, eq58np, eq58s, eq58sp, eq63n, eq63np, eq63s, eq63sp, ne28, ne28p, ne45, ne45p, cx]
  refine (small_spec (hv0.up l1 d1)).mono ?_
  rintro _ h1 ⟨⟨b, rfl, hb⟩, rfl⟩
  cases b with
  | false =>
    try simp -implicitDefEqProofs (maxSteps := 2000000) (disch := first | with_reducible exact Nat.ne_of_beq_eq_false rfl | exact oneCell_int | exact oneCell_bool | omega | rfl | (simp; done) | fail) only [un_not, Bool.not_false, pick_t, HL.cond_true, gd_tf]
    refine awake _ fun _ => ?_
    try simp -implicitDefEqProofs (maxSteps := 2000000) (disch := first | with_reducible exact Nat.ne_of_beq_eq_false rfl | exact oneCell_int | exact oneCell_bool | omega | rfl | (simp; done) | fail) only []
  | true =>
  have sm := hb rfl
  have hm : MadeOk C := made_may.2 sm.may
  by_cases h0P : C.po.length = 0
  · try simp -implicitDefEqProofs (maxSteps := 2000000) (disch := first | with_reducible exact Nat.ne_of_beq_eq_false rfl | exact oneCell_int | exact oneCell_bool | omega | rfl | (simp; done) | fail) only [h0P, un_not, Bool.not_true, pick_f, gd_ff, opH_sv, fa26_4, add_mk, Nat.zero_add, ld22, cx, List.getElem?_cons_succ, List.getElem?_cons_zero, Option.some.injEq, exists_eq_left', ln22, eq_int, show (((0 : Nat) : Int) == 0) = true from rfl, pick_t, HL.cond_true, gd_tf]
    refine awake _ fun _ => ?_
    try simp -implicitDefEqProofs (maxSteps := 2000000) (disch := first | with_reducible exact Nat.ne_of_beq_eq_false rfl | exact oneCell_int | exact oneCell_bool | omega | rfl | (simp; done) | fail) only []
  have h0P' : (((C.po.length : Nat) : Int) == 0) = false := by rw [beq_eq_false_iff_ne]; omega
  by_cases h1T : ((TL.length : Nat) : Int) > 40
  · try simp -implicitDefEqProofs (maxSteps := 2000000) (disch := first | with_reducible exact Nat.ne_of_beq_eq_false rfl | exact oneCell_int | exact oneCell_bool | omega | rfl | (simp; done) | fail) only [un_not, Bool.not_true, pick_f, gd_ff, opH_sv, fa26_4, add_mk, Nat.zero_add, ld22, cx, List.getElem?_cons_succ, List.getElem?_cons_zero, Option.some.injEq, exists_eq_left', ln22, eq_int, h0P', bin_gtr, decide_eq_true h1T, HL.cond_true]
    refine awake _ fun _ => ?_
    try simp -implicitDefEqProofs (maxSteps := 2000000) (disch := first | with_reducible exact Nat.ne_of_beq_eq_false rfl | exact oneCell_int | exact oneCell_bool | omega | rfl | (simp; done) | fail) only []
  try simp -implicitDefEqProofs (maxSteps := 2000000) (disch := first | with_reducible exact Nat.ne_of_beq_eq_false rfl | exact oneCell_int | exact oneCell_bool | omega | rfl | (simp; done) | fail) only [un_not, Bool.not_true, pick_f, gd_ff, opH_sv, fa26_4, add_mk, Nat.zero_add, ld22, cx, List.getElem?_cons_succ, List.getElem?_cons_zero, Option.some.injEq, exists_eq_left', ln22, eq_int, h0P', bin_gtr, decide_eq_false h1T, HL.cond_false]
  unfold S4_k1
  try simp -implicitDefEqProofs (maxSteps := 2000000) (disch := first | with_reducible exact Nat.ne_of_beq_eq_false rfl | exact oneCell_int | exact oneCell_bool | omega | rfl | (simp; done) | fail) only [upd_ne, upd_eq, regs3, regs1, regs2, retK_ret, resL_tmp, resL_nil1, opH_sv, pureW_sv, cf12, cf11, fa26_6p, add_mk, Nat.zero_add, ld24p, cf13, ld26p, Nat.add_zero, opH_su, al28, ld28p, cf20, fa26_4p, ld22p, cx, List.getElem?_cons_succ, List.getElem?_cons_zero, Option.some.injEq, exists_eq_left', ln22p]
  have po8 := hm.laid.po8
  refine (place_spec (a := port) (n := (C.po.length : Int)) pbd (by omega) (by omega)).mono ?_
  rintro _ h1 ⟨rfl, rfl⟩
  refine ⟨Hp.le.refl _, ?_⟩
  have hn0 := Int.emod_nonneg port (show (C.po.length : Int) ≠ 0 by omega)
  have hn1 := Int.emod_lt_of_pos port (show (0 : Int) < C.po.length by omega)
  obtain ⟨k, hk⟩ : ∃ k : Nat, (k : Int) = port % (C.po.length : Int) := ⟨_, Int.toNat_of_nonneg hn0⟩
  rw [← hk] at hn0 hn1 ⊢
  obtain ⟨p, hpk⟩ : ∃ p, C.po[k]? = some p := ⟨_, List.getElem?_eq_getElem (by omega)⟩
  obtain ⟨pbk, po, pcc, e1, e2⟩ := (ca.po.up l1 d1).get hpk
  simp only [Value.slice.injEq] at e1
  obtain ⟨rfl, -, -⟩ := e1
  have x0 := e2 0 (by decide)
  have x1 := e2 1 (by decide)
  simp only [cellC, Nat.add_zero, List.getElem?_cons_zero, List.getElem?_cons_succ] at x0 x1
  try simp -implicitDefEqProofs (maxSteps := 2000000) (disch := first | with_reducible exact Nat.ne_of_beq_eq_false rfl | exact oneCell_int | exact oneCell_bool | omega | rfl | (simp; done) | fail) only [ix22p hn0 hn1, Int.toNat_natCast, add_mk, ld28p, Nat.add_zero, x0, Option.some.injEq, x1, exists_eq_left', st28w, cell_set_self, List.getElem?_cons_zero, List.getElem?_cons_succ]
  intro y hy gy
  generalize ey : Hp.set h1 y _ = h2
  obtain ⟨l2, d2, b2⟩ := boxed ey hy d1 gy
  have cx2 : ∀ j, cellIn G h2 ⟨x, j, none⟩ = _ := fun j => cell_of (look_own (l2 _ _ b1))
  have cy2 : ∀ j, cellIn G h2 ⟨y, j, none⟩ = _ := fun j => cell_of (look_own b2)
  have l02 := l1.trans l2
  try simp -implicitDefEqProofs (maxSteps := 2000000) (disch := first | with_reducible exact Nat.ne_of_beq_eq_false rfl | exact oneCell_int | exact oneCell_bool | omega | rfl | (simp; done) | fail) only [cx2, List.getElem?_cons_zero, Option.some.injEq, List.getElem?_cons_succ, exists_eq_left']
  refine (copyconf_spec (hv0.up l02 d2) fit).mono ?_
  rintro u3 h3 ⟨⟨pb, pp, pr, pz, vb, vp, vr, vz, co⟩, d3⟩
  have l3 := co.sep.in 4 rfl
  refine ⟨l3, ?_⟩
  have l03 := l02.trans l3
  try simp -implicitDefEqProofs (maxSteps := 2000000) (disch := first | with_reducible exact Nat.ne_of_beq_eq_false rfl | exact oneCell_int | exact oneCell_bool | omega | rfl | (simp; done) | fail) only [opH_sv, opH_su, pureW_sv, opH_nil, pureW_nil, pick_t, pick_f, pick_tp, pick_fp, gd_tt, gd_ft, gd_tf, gd_ff, box_new, regs0, regs1, regs2, regs3, regs4, regs5, regs6, cells_agg, cells_int, cells_bool, cells_ptr, cells_slice, cells_string, cells_func, cells_nilFunc, cells_map, retK_ret, retK_normal, resL_tmp, resL_cell, resL_nil0, resL_nil1, resL_nil2, resL_nil3, resC_ptr, ex0, ex1, ex2, ex0p, ex1p, ex2p, HL.cond_true, HL.cond_false, thenK_normal, thenK_ret, thenK_exit, blockK_normal, blockK_ret, blockK_exit, scopeK_normal, scopeK_ret, scopeK_exit, wpH_pure, bin_add, bin_sub, bin_mul, bin_lss, bin_leq, bin_gtr, bin_geq, bin_quo, bin_rem, bin_quop, bin_remp, wrap_in, bin_addp, bin_subp, bin_mulp, bin_lssp, bin_leqp, bin_gtrp, bin_geqp, un_not, un_notp, un_neg, eq_int, ne_int, eq_intp, ne_intp, callV_fn, add_mk, upd_eq, upd_ne, cell_set_self, Nat.zero_add, Nat.add_zero, Option.some.injEq, exists_eq_left', List.getElem?_cons_succ, List.getElem?_cons_zero, true_and, and_true, bne_self_eq_false, beq_self_eq_true, Bool.not_true, Bool.not_false, Bool.and_true, Bool.and_self, Bool.and_false, Bool.true_and, List.length_cons, List.length_nil, ne_eq, not_false_eq_true, Nat.reduceAdd, Nat.reduceMul, if_true, if_false, oneCell_int, oneCell_bool, oneCell_ptr, oneCell_slice, oneCell_string, oneCell_func, oneCell_map, Int.toNat_natCast, List.set_cons_zero, List.set_cons_succ, Nat.lt_irrefl, Nat.zero_lt_succ, Nat.succ_lt_succ_iff, fa26_0, fa26_0p, fa26_1, fa26_1p, fa26_10, fa26_10p, fa26_11, fa26_11p, fa26_12, fa26_12p, fa26_13, fa26_13p, fa26_14, fa26_14p, fa26_15, fa26_15p, fa26_2, fa26_2p, fa26_3, fa26_3p, fa26_4, fa26_4p, fa26_5, fa26_5p, fa26_6, fa26_6p, fa26_7, fa26_7p, fa26_8, fa26_8p, fa26_9, fa26_9p, fa28_0, fa28_0p, fa28_1, fa28_1p, fa45_0, fa45_0p, fa45_1, fa45_1p, fa45_2, fa45_2p, fa45_3, fa45_3p, fa45_4, fa45_4p, fa45_5, fa45_5p, fa45_6, fa45_6p, fa49_0, fa49_0p, fa49_1, fa49_1p, fa74_0, fa74_0p, fa74_1, fa74_1p, fa74_2, fa74_2p, fa74_3, fa74_3p, fa85_0, fa85_0p, fa85_1, fa85_1p, fa93_0, fa93_0p, fa93_1, fa93_1p, fa93_2, fa93_2p, ld3, ld3p, ld4, ld4p, ld22, ld22p, ld23, ld23p, ld24, ld24p, ld26, ld26p, ld28, ld28p, ld42, ld42p, ld45, ld45p, ld49, ld49p, ld58, ld58p, ld69, ld69p, ld72, ld72p, ld85, ld85p, st3s, st4s, st22s, st23s, st24s, st26w, st28w, st42s, st45w, st49w, st85w, ix22, ix22p, ix23, ix23p, ix24, ix24p, ix31, ix31p, ix42, ix42p, ix104, ix104p, ln22, ln22p, ln23, ln23p, ln24, ln24p, ln31, ln31p, ln42, ln42p, al4, al22, al26, al28, al42, al49, al85, cf10, cf11, cf12, cf13, cf14, cf15, cf16, cf17, cf18, cf19, cf20, cf21, cf22, cf23, cf24, cf25, cf26, cf27, cf28, cf29, cf30, cf31, cf32, cf33, cf34, cf35, cf36, cf37, cf38, cf39, cf40, cf41, cf42, cf43, cf44, cf45, cf46, cf47, cf48, cf49, cf50, cf51, cf52, cf53, cf54, cf55, cf56, cf57, cf58, cf59, cf60, cf61, cf62, cf63, cf64, cf65, cf66, cf67, cf68, cf69, cf70, cf71, cf72, cf73, cf74, cf75, bd26_0_1_2_7_8_9_10_11_12_13_14_4_15, bd26_0_1_2_7_8_9_10_11_12_13_14_4_15p, bd28_, bd28_p, bd28_0, bd28_0p, bd28_0_1, bd28_0_1p, bd45_1_3_4_5_6, bd45_1_3_4_5_6p, bd49_0_1, bd49_0_1p, bd49_1, bd49_1p, bd74_0_1_2_3, bd74_0_1_2_3p, bd85_0, bd85_0p, bd85_0_1, bd85_0_1p, bd93_0_1_2, bd93_0_1_2p, bd94_0_1_2_3, bd94_0_1_2_3p, bs42_1_0, bs22_1_0, bs24_1_0, bs42_3_0_1_2, bs31_1_0, bs22_2_0_1, bs42_6_0_1_2_3_4_5, bs42_0_, eq4, eq4p, eq28, eq28p, eq42n, eq42np, eq42s, eq42sp, eq58n, eq58np, eq58s, eq58sp, eq63n, eq63np, eq63s, eq63sp, ne28, ne28p, ne45, ne45p, cx2]
  refine (copystk_spec (ca.up l03 d3).sts fit.st fit.bins).mono ?_
  rintro u4 h4 ⟨qz, oz, s4, d4⟩
  have l4 : h3.le h4 := s4.in 1 rfl
  refine ⟨l3.trans l4, ?_⟩
  have l04 := l03.trans l4
  try simp -implicitDefEqProofs (maxSteps := 2000000) (disch := first | with_reducible exact Nat.ne_of_beq_eq_false rfl | exact oneCell_int | exact oneCell_bool | omega | rfl | (simp; done) | fail) only [opH_sv, opH_su, pureW_sv, opH_nil, pureW_nil, pick_t, pick_f, pick_tp, pick_fp, gd_tt, gd_ft, gd_tf, gd_ff, box_new, regs0, regs1, regs2, regs3, regs4, regs5, regs6, cells_agg, cells_int, cells_bool, cells_ptr, cells_slice, cells_string, cells_func, cells_nilFunc, cells_map, retK_ret, retK_normal, resL_tmp, resL_cell, resL_nil0, resL_nil1, resL_nil2, resL_nil3, resC_ptr, ex0, ex1, ex2, ex0p, ex1p, ex2p, HL.cond_true, HL.cond_false, thenK_normal, thenK_ret, thenK_exit, blockK_normal, blockK_ret, blockK_exit, scopeK_normal, scopeK_ret, scopeK_exit, wpH_pure, bin_add, bin_sub, bin_mul, bin_lss, bin_leq, bin_gtr, bin_geq, bin_quo, bin_rem, bin_quop, bin_remp, wrap_in, bin_addp, bin_subp, bin_mulp, bin_lssp, bin_leqp, bin_gtrp, bin_geqp, un_not, un_notp, un_neg, eq_int, ne_int, eq_intp, ne_intp, callV_fn, add_mk, upd_eq, upd_ne, cell_set_self, Nat.zero_add, Nat.add_zero, Option.some.injEq, exists_eq_left', List.getElem?_cons_succ, List.getElem?_cons_zero, true_and, and_true, bne_self_eq_false, beq_self_eq_true, Bool.not_true, Bool.not_false, Bool.and_true, Bool.and_self, Bool.and_false, Bool.true_and, List.length_cons, List.length_nil, ne_eq, not_false_eq_true, Nat.reduceAdd, Nat.reduceMul, if_true, if_false, oneCell_int, oneCell_bool, oneCell_ptr, oneCell_slice, oneCell_string, oneCell_func, oneCell_map, Int.toNat_natCast, List.set_cons_zero, List.set_cons_succ, Nat.lt_irrefl, Nat.zero_lt_succ, Nat.succ_lt_succ_iff, fa26_0, fa26_0p, fa26_1, fa26_1p, fa26_10, fa26_10p, fa26_11, fa26_11p, fa26_12, fa26_12p, fa26_13, fa26_13p, fa26_14, fa26_14p, fa26_15, fa26_15p, fa26_2, fa26_2p, fa26_3, fa26_3p, fa26_4, fa26_4p, fa26_5, fa26_5p, fa26_6, fa26_6p, fa26_7, fa26_7p, fa26_8, fa26_8p, fa26_9, fa26_9p, fa28_0, fa28_0p, fa28_1, fa28_1p, fa45_0, fa45_0p, fa45_1, fa45_1p, fa45_2, fa45_2p, fa45_3, fa45_3p, fa45_4, fa45_4p, fa45_5, fa45_5p, fa45_6, fa45_6p, fa49_0, fa49_0p, fa49_1, fa49_1p, fa74_0, fa74_0p, fa74_1, fa74_1p, fa74_2, fa74_2p, fa74_3, fa74_3p, fa85_0, fa85_0p, fa85_1, fa85_1p, fa93_0, fa93_0p, fa93_1, fa93_1p, fa93_2, fa93_2p, ld3, ld3p, ld4, ld4p, ld22, ld22p, ld23, ld23p, ld24, ld24p, ld26, ld26p, ld28, ld28p, ld42, ld42p, ld45, ld45p, ld49, ld49p, ld58, ld58p, ld69, ld69p, ld72, ld72p, ld85, ld85p, st3s, st4s, st22s, st23s, st24s, st26w, st28w, st42s, st45w, st49w, st85w, ix22, ix22p, ix23, ix23p, ix24, ix24p, ix31, ix31p, ix42, ix42p, ix104, ix104p, ln22, ln22p, ln23, ln23p, ln24, ln24p, ln31, ln31p, ln42, ln42p, al4, al22, al26, al28, al42, al49, al85, cf10, cf11, cf12, cf13, cf14, cf15, cf16, cf17, cf18, cf19, cf20, cf21, cf22, cf23, cf24, cf25, cf26, cf27, cf28, cf29, cf30, cf31, cf32, cf33, cf34, cf35, cf36, cf37, cf38, cf39, cf40, cf41, cf42, cf43, cf44, cf45, cf46, cf47, cf48, cf49, cf50, cf51, cf52, cf53, cf54, cf55, cf56, cf57, cf58, cf59, cf60, cf61, cf62, cf63, cf64, cf65, cf66, cf67, cf68, cf69, cf70, cf71, cf72, cf73, cf74, cf75, bd26_0_1_2_7_8_9_10_11_12_13_14_4_15, bd26_0_1_2_7_8_9_10_11_12_13_14_4_15p, bd28_, bd28_p, bd28_0, bd28_0p, bd28_0_1, bd28_0_1p, bd45_1_3_4_5_6, bd45_1_3_4_5_6p, bd49_0_1, bd49_0_1p, bd49_1, bd49_1p, bd74_0_1_2_3, bd74_0_1_2_3p, bd85_0, bd85_0p, bd85_0_1, bd85_0_1p, bd93_0_1_2, bd93_0_1_2p, bd94_0_1_2_3, bd94_0_1_2_3p, bs42_1_0, bs22_1_0, bs24_1_0, bs42_3_0_1_2, bs31_1_0, bs22_2_0_1, bs42_6_0_1_2_3_4_5, bs42_0_, eq4, eq4p, eq28, eq28p, eq42n, eq42np, eq42s, eq42sp, eq58n, eq58np, eq58s, eq58sp, eq63n, eq63np, eq63s, eq63sp, ne28, ne28p, ne45, ne45p]
  refine append_piece cellC (by decide) un22 eocell (by decide) (by decide) (L := []) (M := TL) (s4.none) d4 Slc.nil (ht.up l04 d4) (by simp; omega) fun v5 a5 h5 o5 s5 d5 => ?_
  rw [List.nil_append] at o5
  have l35 : h3.le h5 := s5.in 2 rfl
  have l25 := l3.trans l35
  have l05 := l02.trans l25
  refine ⟨l25, ?_⟩
  have hB := fun s hs => room8 (fit.bins s hs)
  try simp -implicitDefEqProofs (maxSteps := 2000000) (disch := first | with_reducible exact Nat.ne_of_beq_eq_false rfl | exact oneCell_int | exact oneCell_bool | omega | rfl | (simp; done) | fail) only [opH_sv, opH_su, pureW_sv, opH_nil, pureW_nil, pick_t, pick_f, pick_tp, pick_fp, gd_tt, gd_ft, gd_tf, gd_ff, box_new, regs0, regs1, regs2, regs3, regs4, regs5, regs6, cells_agg, cells_int, cells_bool, cells_ptr, cells_slice, cells_string, cells_func, cells_nilFunc, cells_map, retK_ret, retK_normal, resL_tmp, resL_cell, resL_nil0, resL_nil1, resL_nil2, resL_nil3, resC_ptr, ex0, ex1, ex2, ex0p, ex1p, ex2p, HL.cond_true, HL.cond_false, thenK_normal, thenK_ret, thenK_exit, blockK_normal, blockK_ret, blockK_exit, scopeK_normal, scopeK_ret, scopeK_exit, wpH_pure, bin_add, bin_sub, bin_mul, bin_lss, bin_leq, bin_gtr, bin_geq, bin_quo, bin_rem, bin_quop, bin_remp, wrap_in, bin_addp, bin_subp, bin_mulp, bin_lssp, bin_leqp, bin_gtrp, bin_geqp, un_not, un_notp, un_neg, eq_int, ne_int, eq_intp, ne_intp, callV_fn, add_mk, upd_eq, upd_ne, cell_set_self, Nat.zero_add, Nat.add_zero, Option.some.injEq, exists_eq_left', List.getElem?_cons_succ, List.getElem?_cons_zero, true_and, and_true, bne_self_eq_false, beq_self_eq_true, Bool.not_true, Bool.not_false, Bool.and_true, Bool.and_self, Bool.and_false, Bool.true_and, List.length_cons, List.length_nil, ne_eq, not_false_eq_true, Nat.reduceAdd, Nat.reduceMul, if_true, if_false, oneCell_int, oneCell_bool, oneCell_ptr, oneCell_slice, oneCell_string, oneCell_func, oneCell_map, Int.toNat_natCast, List.set_cons_zero, List.set_cons_succ, Nat.lt_irrefl, Nat.zero_lt_succ, Nat.succ_lt_succ_iff, fa26_0, fa26_0p, fa26_1, fa26_1p, fa26_10, fa26_10p, fa26_11, fa26_11p, fa26_12, fa26_12p, fa26_13, fa26_13p, fa26_14, fa26_14p, fa26_15, fa26_15p, fa26_2, fa26_2p, fa26_3, fa26_3p, fa26_4, fa26_4p, fa26_5, fa26_5p, fa26_6, fa26_6p, fa26_7, fa26_7p, fa26_8, fa26_8p, fa26_9, fa26_9p, fa28_0, fa28_0p, fa28_1, fa28_1p, fa45_0, fa45_0p, fa45_1, fa45_1p, fa45_2, fa45_2p, fa45_3, fa45_3p, fa45_4, fa45_4p, fa45_5, fa45_5p, fa45_6, fa45_6p, fa49_0, fa49_0p, fa49_1, fa49_1p, fa74_0, fa74_0p, fa74_1, fa74_1p, fa74_2, fa74_2p, fa74_3, fa74_3p, fa85_0, fa85_0p, fa85_1, fa85_1p, fa93_0, fa93_0p, fa93_1, fa93_1p, fa93_2, fa93_2p, ld3, ld3p, ld4, ld4p, ld22, ld22p, ld23, ld23p, ld24, ld24p, ld26, ld26p, ld28, ld28p, ld42, ld42p, ld45, ld45p, ld49, ld49p, ld58, ld58p, ld69, ld69p, ld72, ld72p, ld85, ld85p, st3s, st4s, st22s, st23s, st24s, st26w, st28w, st42s, st45w, st49w, st85w, ix22, ix22p, ix23, ix23p, ix24, ix24p, ix31, ix31p, ix42, ix42p, ix104, ix104p, ln22, ln22p, ln23, ln23p, ln24, ln24p, ln31, ln31p, ln42, ln42p, al4, al22, al26, al28, al42, al49, al85, cf10, cf11, cf12, cf13, cf14, cf15, cf16, cf17, cf18, cf19, cf20, cf21, cf22, cf23, cf24, cf25, cf26, cf27, cf28, cf29, cf30, cf31, cf32, cf33, cf34, cf35, cf36, cf37, cf38, cf39, cf40, cf41, cf42, cf43, cf44, cf45, cf46, cf47, cf48, cf49, cf50, cf51, cf52, cf53, cf54, cf55, cf56, cf57, cf58, cf59, cf60, cf61, cf62, cf63, cf64, cf65, cf66, cf67, cf68, cf69, cf70, cf71, cf72, cf73, cf74, cf75, bd26_0_1_2_7_8_9_10_11_12_13_14_4_15, bd26_0_1_2_7_8_9_10_11_12_13_14_4_15p, bd28_, bd28_p, bd28_0, bd28_0p, bd28_0_1, bd28_0_1p, bd45_1_3_4_5_6, bd45_1_3_4_5_6p, bd49_0_1, bd49_0_1p, bd49_1, bd49_1p, bd74_0_1_2_3, bd74_0_1_2_3p, bd85_0, bd85_0p, bd85_0_1, bd85_0_1p, bd93_0_1_2, bd93_0_1_2p, bd94_0_1_2_3, bd94_0_1_2_3p, bs42_1_0, bs22_1_0, bs24_1_0, bs42_3_0_1_2, bs31_1_0, bs22_2_0_1, bs42_6_0_1_2_3_4_5, bs42_0_, eq4, eq4p, eq28, eq28p, eq42n, eq42np, eq42s, eq42sp, eq58n, eq58np, eq58s, eq58sp, eq63n, eq63np, eq63s, eq63sp, ne28, ne28p, ne45, ne45p, cy2]
  refine (jobs_spec (bin := bin) (port := p) (co.cv l35) (fun G' h' l => oz.st ((s5.in 1 rfl).trans l)) (fun G' h' l => o5.sees (by decide) ((s5.in 0 rfl).trans l)) st hp ls ls (by omega) hB).mono ?_
  rintro _ h6 ⟨l6, d6, hres⟩
  rcases hres with ⟨_, io, vv, rfl, o6, s6⟩ | ⟨hm', _⟩
  rotate_left
  · exact absurd hm hm'
  have l26 := l25.trans l6
  have l06 := l02.trans l26
  have ht8 : 1 ≤ C.ht ∧ C.ht ≤ 8 := by
    have := hm.ht
    unfold withinB at this
    simp at this
    exact this
  obtain ⟨e7, e8, _, w2, _, k2⟩ := within_wk hm.laid.w hm.laid.h
  have hjl := jobs_len (C := C) (S := C.st) (TL := TL) (bin := bin) (port := p) ht8 (rstacks_len (C := C) (by omega) (by omega))
  rcases done_plain hm (TL := TL) (bin := bin) (p := p) with ⟨he, hnil⟩ | ⟨he, JL, hJL, runs, htot, hcnt, hback⟩
  · rw [hnil] at o6
    have he' : ((jobsR C C.st TL bin p).2 != 0) = true := by simpa using he
    obtain ⟨sj, cj, rfl, _⟩ := o6.len (by decide)
    try simp -implicitDefEqProofs (maxSteps := 2000000) (disch := first | with_reducible exact Nat.ne_of_beq_eq_false rfl | exact oneCell_int | exact oneCell_bool | omega | rfl | (simp; done) | fail) only [List.length_nil, ex1p, ne_int, he', HL.cond_true, ex0p, ln31, eq_int, show (((0 : Nat) : Int) == 0) = true from rfl, pick_t, gd_tt, cf10]
    refine awake _ fun _ => ?_
    try simp -implicitDefEqProofs (maxSteps := 2000000) (disch := first | with_reducible exact Nat.ne_of_beq_eq_false rfl | exact oneCell_int | exact oneCell_bool | omega | rfl | (simp; done) | fail) only []
  rw [hJL] at o6 hjl
  rw [he]
  try simp -implicitDefEqProofs (maxSteps := 2000000) (disch := first | with_reducible exact Nat.ne_of_beq_eq_false rfl | exact oneCell_int | exact oneCell_bool | omega | rfl | (simp; done) | fail) only [ex1p, ne_int, bne_self_eq_false, HL.cond_false, ex0p]
  unfold S4_k2
  have cx6 : ∀ j, cellIn G h6 ⟨x, j, none⟩ = _ := fun j => cell_of (look_own (l26 _ _ (l2 _ _ b1)))
  have cy6 : ∀ j, cellIn G h6 ⟨y, j, none⟩ = _ := fun j => cell_of (look_own (l26 _ _ b2))
  try simp -implicitDefEqProofs (maxSteps := 2000000) (disch := first | with_reducible exact Nat.ne_of_beq_eq_false rfl | exact oneCell_int | exact oneCell_bool | omega | rfl | (simp; done) | fail) only [upd_ne, upd_eq, cf11, opH_sv, fa26_6, add_mk, Nat.zero_add, ld24, cx6, List.getElem?_cons_succ, List.getElem?_cons_zero, Option.some.injEq, exists_eq_left']
  refine (copystk_spec (ca.up l06 d6).sts fit.st fit.bins).mono ?_
  rintro u7 h7 ⟨qz7, oz7, s7, d7⟩
  obtain ⟨pr, hb0, on, s7⟩ := NowO.of (G := G) oz7 s7
  have l7 : h6.le h7 := s7.in 2 rfl
  obtain ⟨sj, cj, rfl, _⟩ := o6.len (by decide)
  clear co oz s4 s5 o5 oz7
  have few := st_few hm sm.may
  have most : tot C.st ≤ 512 := by
    have := hm.sta.most
    rw [List.length_flatMap] at this
    exact this
  have hst6 : StS G h6 (.slice az C.st.length cs) C.st := (ca.up l06 d6).sts
  try simp -implicitDefEqProofs (maxSteps := 2000000) (disch := first | with_reducible exact Nat.ne_of_beq_eq_false rfl | exact oneCell_int | exact oneCell_bool | omega | rfl | (simp; done) | fail) only [opH_sv, opH_su, pureW_sv, opH_nil, pureW_nil, pick_t, pick_f, pick_tp, pick_fp, gd_tt, gd_ft, gd_tf, gd_ff, box_new, regs0, regs1, regs2, regs3, regs4, regs5, regs6, cells_agg, cells_int, cells_bool, cells_ptr, cells_slice, cells_string, cells_func, cells_nilFunc, cells_map, retK_ret, retK_normal, resL_tmp, resL_cell, resL_nil0, resL_nil1, resL_nil2, resL_nil3, resC_ptr, ex0, ex1, ex2, ex0p, ex1p, ex2p, HL.cond_true, HL.cond_false, thenK_normal, thenK_ret, thenK_exit, blockK_normal, blockK_ret, blockK_exit, scopeK_normal, scopeK_ret, scopeK_exit, wpH_pure, bin_add, bin_sub, bin_mul, bin_lss, bin_leq, bin_gtr, bin_geq, bin_quo, bin_rem, bin_quop, bin_remp, wrap_in, bin_addp, bin_subp, bin_mulp, bin_lssp, bin_leqp, bin_gtrp, bin_geqp, un_not, un_notp, un_neg, eq_int, ne_int, eq_intp, ne_intp, callV_fn, add_mk, upd_eq, upd_ne, cell_set_self, Nat.zero_add, Nat.add_zero, Option.some.injEq, exists_eq_left', List.getElem?_cons_succ, List.getElem?_cons_zero, true_and, and_true, bne_self_eq_false, beq_self_eq_true, Bool.not_true, Bool.not_false, Bool.and_true, Bool.and_self, Bool.and_false, Bool.true_and, List.length_cons, List.length_nil, ne_eq, not_false_eq_true, Nat.reduceAdd, Nat.reduceMul, if_true, if_false, oneCell_int, oneCell_bool, oneCell_ptr, oneCell_slice, oneCell_string, oneCell_func, oneCell_map, Int.toNat_natCast, List.set_cons_zero, List.set_cons_succ, Nat.lt_irrefl, Nat.zero_lt_succ, Nat.succ_lt_succ_iff, fa26_0, fa26_0p, fa26_1, fa26_1p, fa26_10, fa26_10p, fa26_11, fa26_11p, fa26_12, fa26_12p, fa26_13, fa26_13p, fa26_14, fa26_14p, fa26_15, fa26_15p, fa26_2, fa26_2p, fa26_3, fa26_3p, fa26_4, fa26_4p, fa26_5, fa26_5p, fa26_6, fa26_6p, fa26_7, fa26_7p, fa26_8, fa26_8p, fa26_9, fa26_9p, fa28_0, fa28_0p, fa28_1, fa28_1p, fa45_0, fa45_0p, fa45_1, fa45_1p, fa45_2, fa45_2p, fa45_3, fa45_3p, fa45_4, fa45_4p, fa45_5, fa45_5p, fa45_6, fa45_6p, fa49_0, fa49_0p, fa49_1, fa49_1p, fa74_0, fa74_0p, fa74_1, fa74_1p, fa74_2, fa74_2p, fa74_3, fa74_3p, fa85_0, fa85_0p, fa85_1, fa85_1p, fa93_0, fa93_0p, fa93_1, fa93_1p, fa93_2, fa93_2p, ld3, ld3p, ld4, ld4p, ld22, ld22p, ld23, ld23p, ld24, ld24p, ld26, ld26p, ld28, ld28p, ld42, ld42p, ld45, ld45p, ld49, ld49p, ld58, ld58p, ld69, ld69p, ld72, ld72p, ld85, ld85p, st3s, st4s, st22s, st23s, st24s, st26w, st28w, st42s, st45w, st49w, st85w, ix22, ix22p, ix23, ix23p, ix24, ix24p, ix31, ix31p, ix42, ix42p, ix104, ix104p, ln22, ln22p, ln23, ln23p, ln24, ln24p, ln31, ln31p, ln42, ln42p, al4, al22, al26, al28, al42, al49, al85, cf10, cf11, cf12, cf13, cf14, cf15, cf16, cf17, cf18, cf19, cf20, cf21, cf22, cf23, cf24, cf25, cf26, cf27, cf28, cf29, cf30, cf31, cf32, cf33, cf34, cf35, cf36, cf37, cf38, cf39, cf40, cf41, cf42, cf43, cf44, cf45, cf46, cf47, cf48, cf49, cf50, cf51, cf52, cf53, cf54, cf55, cf56, cf57, cf58, cf59, cf60, cf61, cf62, cf63, cf64, cf65, cf66, cf67, cf68, cf69, cf70, cf71, cf72, cf73, cf74, cf75, bd26_0_1_2_7_8_9_10_11_12_13_14_4_15, bd26_0_1_2_7_8_9_10_11_12_13_14_4_15p, bd28_, bd28_p, bd28_0, bd28_0p, bd28_0_1, bd28_0_1p, bd45_1_3_4_5_6, bd45_1_3_4_5_6p, bd49_0_1, bd49_0_1p, bd49_1, bd49_1p, bd74_0_1_2_3, bd74_0_1_2_3p, bd85_0, bd85_0p, bd85_0_1, bd85_0_1p, bd93_0_1_2, bd93_0_1_2p, bd94_0_1_2_3, bd94_0_1_2_3p, bs42_1_0, bs22_1_0, bs24_1_0, bs42_3_0_1_2, bs31_1_0, bs22_2_0_1, bs42_6_0_1_2_3_4_5, bs42_0_, eq4, eq4p, eq28, eq28p, eq42n, eq42np, eq42s, eq42sp, eq58n, eq58np, eq58s, eq58sp, eq63n, eq63np, eq63s, eq63sp, ne28, ne28p, ne45, ne45p]
  refine done_loop (x := x) (y := y) (p := p) (bin := bin) (h6 := h6) (vc := confV C ab cb (some ⟨pbk, po, none⟩) cp ar cr az cs) (JL := JL) ab cb (some ⟨pbk, po, none⟩) cp ar cr az cs (hv0.up l06 d6) lb lp lr (l26 _ _ (l2 _ _ b1)) (l26 _ _ b2) (o6.sees (by decide) (s6.in 0 rfl)) hjl ht8.2 runs few most (fun r h pr hb vN q2 q4 q9 q12 q13 on sp d => ?_) (by simp -implicitDefEqProofs (maxSteps := 2000000) (disch := first | with_reducible exact Nat.ne_of_beq_eq_false rfl | exact oneCell_int | exact oneCell_bool | omega | rfl | (simp; done) | fail) only [upd_ne, regs2]) (by simp -implicitDefEqProofs (maxSteps := 2000000) (disch := first | with_reducible exact Nat.ne_of_beq_eq_false rfl | exact oneCell_int | exact oneCell_bool | omega | rfl | (simp; done) | fail) only [upd_ne, upd_eq]) (by simp -implicitDefEqProofs (maxSteps := 2000000) (disch := first | with_reducible exact Nat.ne_of_beq_eq_false rfl | exact oneCell_int | exact oneCell_bool | omega | rfl | (simp; done) | fail) only [upd_ne, upd_eq]) (by simp -implicitDefEqProofs (maxSteps := 2000000) (disch := first | with_reducible exact Nat.ne_of_beq_eq_false rfl | exact oneCell_int | exact oneCell_bool | omega | rfl | (simp; done) | fail) only [upd_ne, upd_eq]) (by simp -implicitDefEqProofs (maxSteps := 2000000) (disch := first | with_reducible exact Nat.ne_of_beq_eq_false rfl | exact oneCell_int | exact oneCell_bool | omega | rfl | (simp; done) | fail) only [upd_ne, upd_eq] <;> rfl) (by simp -implicitDefEqProofs (maxSteps := 2000000) (disch := first | with_reducible exact Nat.ne_of_beq_eq_false rfl | exact oneCell_int | exact oneCell_bool | omega | rfl | (simp; done) | fail) only [upd_ne, upd_eq]) (by simp -implicitDefEqProofs (maxSteps := 2000000) (disch := first | with_reducible exact Nat.ne_of_beq_eq_false rfl | exact oneCell_int | exact oneCell_bool | omega | rfl | (simp; done) | fail) only [upd_eq]) on s7 d7
  try simp -implicitDefEqProofs (maxSteps := 2000000) (disch := first | with_reducible exact Nat.ne_of_beq_eq_false rfl | exact oneCell_int | exact oneCell_bool | omega | rfl | (simp; done) | fail) only [blockK_exit, thenK_normal, thenK_exit, if_true]
  unfold S4_k3
  rw [hcnt] at q13
  try simp -implicitDefEqProofs (maxSteps := 2000000) (disch := first | with_reducible exact Nat.ne_of_beq_eq_false rfl | exact oneCell_int | exact oneCell_bool | omega | rfl | (simp; done) | fail) only [q13, retK_ret, resL_tmp, upd_eq, resL_nil1, ne_int, show ((((1 : Nat) : Int) != 1)) = false from rfl, HL.cond_false]
  have hN : (JL.foldl stepN C.st).length ≤ 100000 := by
    have := steps_len (L := JL) (N := C.st)
    omega
  exact done_back st (l26 _ _ (l2 _ _ b1)) hst6 few most htot on sp d hN hback (by simp -implicitDefEqProofs (maxSteps := 2000000) (disch := first | with_reducible exact Nat.ne_of_beq_eq_false rfl | exact oneCell_int | exact oneCell_bool | omega | rfl | (simp; done) | fail) only [upd_ne, q2]) (by simp -implicitDefEqProofs (maxSteps := 2000000) (disch := first | with_reducible exact Nat.ne_of_beq_eq_false rfl | exact oneCell_int | exact oneCell_bool | omega | rfl | (simp; done) | fail) only [upd_ne, q4]) (by simp -implicitDefEqProofs (maxSteps := 2000000) (disch := first | with_reducible exact Nat.ne_of_beq_eq_false rfl | exact oneCell_int | exact oneCell_bool | omega | rfl | (simp; done) | fail) only [upd_ne, q12])

end Go.Proofs.YtangejiigopdaaaDoor
end
