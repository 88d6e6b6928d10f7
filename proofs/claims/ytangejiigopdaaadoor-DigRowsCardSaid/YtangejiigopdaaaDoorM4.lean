/- Texts of the proof, one behind the other. -/
import Derived.Test.YtangejiigopdaaaDoorM3
import Derived.Test.YtangejiigopdaaaDoorH4
import Derived.Test.YtangejiigopdaaaDoorM2
import Derived.Test.YtangejiigopdaaaDoorH3
section
/- Found in rows: a number, a stack. -/
set_option linter.unusedSimpArgs false
set_option linter.unusedVariables false
set_option maxRecDepth 100000
namespace Go.Proofs.YtangejiigopdaaaDoor
open Go Go.HL

theorem Sees.num {G h : Hp} {sa : Option Addr} {cap n : Nat} {L : List Int} (s : Sees icC G h (.slice sa n cap) L) {i : Nat} {x : Int} (hx : L[i]? = some x) :
    ∃ b o, sa = some ⟨b, o, none⟩ ∧ cellIn G h ⟨b, o + i, none⟩ = some (.int .i64 x) := by
  obtain ⟨b, o, c, e1, e2⟩ := s.get hx
  simp only [Value.slice.injEq] at e1
  obtain ⟨rfl, -, -⟩ := e1
  have x0 := e2 0 (by decide)
  simp only [icC, Nat.add_zero, Nat.mul_one, List.getElem?_cons_zero] at x0
  exact ⟨b, o, rfl, x0⟩

/-- Where it stands first. -/
def FirstAt {α : Type} (p : α → Bool) (L : List α) (n : Int) : Prop := (n = -1 ∧ L.any p = false) ∨ ∃ i : Nat, n = i ∧ (∃ x, L[i]? = some x ∧ p x = true) ∧ (L.take i).any p = false

theorem indexi_spec {G h : Hp} {v : Value} {L : List Int} {c : Int} (hv : Sees icC G h v L) (hL : L.length ≤ 100000000000000) : HCalls Tryd.prog G 61 #[v, .int .i64 c] h (fun u h' => (∃ n : Int, u = .int .i64 n ∧ FirstAt (fun x => c == x) L n) ∧ h' = h) := by
  obtain ⟨sa, cap, rfl⟩ := hv.len
  refine HCalls.assume fun d => quietly (enter61 (by simp) ?_)
  unfold S61
  simp -implicitDefEqProofs only [regs0, opH_sv, ln42]
  generalize hKK : retK Tryd.prog G _ _ = KK
  refine loop_I (fun m r h3 => ∃ i : Nat, m = L.length - i ∧ i ≤ L.length ∧ r 0 = .slice sa L.length cap ∧ r 1 = .int .i64 c ∧ r 7 = .int .i64 L.length ∧ r 8 = .int .i64 i ∧ h3 = h ∧ (L.take i).any (fun x => c == x) = false) ?_
    (m := L.length) ⟨0, rfl, Nat.zero_le _, by simp -implicitDefEqProofs (disch := first | with_reducible exact Nat.ne_of_beq_eq_false rfl | omega) only [upd_ne, regs0], by simp -implicitDefEqProofs (disch := first | with_reducible exact Nat.ne_of_beq_eq_false rfl | omega) only [upd_ne, regs1], by simp -implicitDefEqProofs (disch := first | with_reducible exact Nat.ne_of_beq_eq_false rfl | omega) only [upd_ne, upd_eq], by simp -implicitDefEqProofs only [upd_eq] <;> rfl, rfl, by simp⟩
  rintro m r h3 ⟨i, rfl, hi, g0, g1, g7, g8, rfl, hn⟩ X HX
  unfold S61_l2
  simp -implicitDefEqProofs only [g8, g7, thenK_exit, blockK_exit, thenK_normal, if_true, opH_sv, bin_lss]
  refine cond_dec (fun hlt => ?_) (fun hge => ?_)
  · obtain ⟨y, hy⟩ : ∃ x, L[i]? = some x := ⟨_, List.getElem?_eq_getElem (by omega)⟩
    obtain ⟨b, o, rfl, y0⟩ := Sees.num hv hy
    unfold S61_l2_k3
    simp -implicitDefEqProofs (disch := first | with_reducible exact Nat.ne_of_beq_eq_false rfl | omega) only [upd_ne, g0, g8, g1, thenK_ret, blockK_ret, opH_sv, ix42 (Int.natCast_nonneg i) hlt, Int.toNat_natCast, Nat.mul_one, add_mk, ld3, y0, Option.some.injEq, exists_eq_left', eq_int]
    refine cond_bool (fun hb => ?_) (fun hb => ?_)
    · rw [← hKK]
      simp -implicitDefEqProofs only [retK_ret, resL_tmp, upd_eq, resL_nil1]
      exact ⟨⟨_, rfl, .inr ⟨i, rfl, ⟨y, hy, hb⟩, hn⟩⟩, Hp.le.refl _⟩
    · unfold S61_l2_k4
      simp -implicitDefEqProofs (disch := first | with_reducible exact Nat.ne_of_beq_eq_false rfl | omega) only [upd_ne, g8, thenK_normal, opH_sv, bin_add, wrap_in]
      exact HX (L.length - (i + 1)) _ _ (by omega) ⟨i + 1, rfl, by omega, by simp -implicitDefEqProofs (disch := first | with_reducible exact Nat.ne_of_beq_eq_false rfl | omega) only [upd_ne, g0], by simp -implicitDefEqProofs (disch := first | with_reducible exact Nat.ne_of_beq_eq_false rfl | omega) only [upd_ne, g1], by simp -implicitDefEqProofs (disch := first | with_reducible exact Nat.ne_of_beq_eq_false rfl | omega) only [upd_ne, g7], by simp -implicitDefEqProofs (disch := first | with_reducible exact Nat.ne_of_beq_eq_false rfl | omega) only [upd_eq] <;> rfl, rfl, by rw [List.take_add_one, hy, List.any_append, hn]; simpa using hb⟩
  · obtain rfl : i = L.length := by omega
    rw [List.take_of_length_le (Nat.le_refl _)] at hn
    try simp -implicitDefEqProofs only [opH_sv, opH_su, pureW_sv, opH_nil, pureW_nil, pick_t, pick_f, pick_tp, pick_fp, gd_tt, gd_ft, gd_tf, gd_ff, box_new, regs0, regs1, regs2, regs3, regs4, regs5, regs6, cells_agg, cells_int, cells_bool, cells_ptr, cells_slice, cells_string, cells_func, cells_nilFunc, cells_map, retK_ret, retK_normal, resL_tmp, resL_cell, resL_nil0, resL_nil1, resL_nil2, resL_nil3, resC_ptr, ex0, ex1, ex2, ex0p, ex1p, ex2p, HL.cond_true, HL.cond_false, thenK_normal, thenK_ret, thenK_exit, blockK_normal, blockK_ret, blockK_exit, scopeK_normal, scopeK_ret, scopeK_exit, wpH_pure, bin_add, bin_sub, bin_mul, bin_lss, bin_leq, bin_gtr, bin_geq, bin_quo, bin_rem, bin_quop, bin_remp, wrap_in, bin_addp, bin_subp, bin_mulp, bin_lssp, bin_leqp, bin_gtrp, bin_geqp, un_not, un_notp, un_neg, eq_int, ne_int, eq_intp, ne_intp, callV_fn, add_mk, upd_eq, upd_ne, cell_set_self, Nat.zero_add, Nat.add_zero, Option.some.injEq, exists_eq_left', List.getElem?_cons_succ, List.getElem?_cons_zero, true_and, and_true, bne_self_eq_false, beq_self_eq_true, Bool.not_true, Bool.not_false, Bool.and_true, Bool.and_self, Bool.and_false, Bool.true_and, List.length_cons, List.length_nil, ne_eq, not_false_eq_true, Nat.reduceAdd, Nat.reduceMul, if_true, if_false, oneCell_int, oneCell_bool, oneCell_ptr, oneCell_slice, oneCell_string, oneCell_func, oneCell_map, Int.toNat_natCast, List.set_cons_zero, List.set_cons_succ, Nat.lt_irrefl, Nat.zero_lt_succ, Nat.succ_lt_succ_iff, fa26_0, fa26_0p, fa26_1, fa26_1p, fa26_10, fa26_10p, fa26_11, fa26_11p, fa26_12, fa26_12p, fa26_13, fa26_13p, fa26_14, fa26_14p, fa26_15, fa26_15p, fa26_2, fa26_2p, fa26_3, fa26_3p, fa26_4, fa26_4p, fa26_5, fa26_5p, fa26_6, fa26_6p, fa26_7, fa26_7p, fa26_8, fa26_8p, fa26_9, fa26_9p, fa28_0, fa28_0p, fa28_1, fa28_1p, fa45_0, fa45_0p, fa45_1, fa45_1p, fa45_2, fa45_2p, fa45_3, fa45_3p, fa45_4, fa45_4p, fa45_5, fa45_5p, fa45_6, fa45_6p, fa49_0, fa49_0p, fa49_1, fa49_1p, fa74_0, fa74_0p, fa74_1, fa74_1p, fa74_2, fa74_2p, fa74_3, fa74_3p, fa85_0, fa85_0p, fa85_1, fa85_1p, fa93_0, fa93_0p, fa93_1, fa93_1p, fa93_2, fa93_2p, ld3, ld3p, ld4, ld4p, ld22, ld22p, ld23, ld23p, ld24, ld24p, ld26, ld26p, ld28, ld28p, ld42, ld42p, ld45, ld45p, ld49, ld49p, ld58, ld58p, ld69, ld69p, ld72, ld72p, ld85, ld85p, st3s, st4s, st22s, st23s, st24s, st26w, st28w, st42s, st45w, st49w, st85w, ix22, ix22p, ix23, ix23p, ix24, ix24p, ix31, ix31p, ix42, ix42p, ix104, ix104p, ln22, ln22p, ln23, ln23p, ln24, ln24p, ln31, ln31p, ln42, ln42p, al4, al22, al26, al28, al42, al49, al85, cf10, cf11, cf12, cf13, cf14, cf15, cf16, cf17, cf18, cf19, cf20, cf21, cf22, cf23, cf24, cf25, cf26, cf27, cf28, cf29, cf30, cf31, cf32, cf33, cf34, cf35, cf36, cf37, cf38, cf39, cf40, cf41, cf42, cf43, cf44, cf45, cf46, cf47, cf48, cf49, cf50, cf51, cf52, cf53, cf54, cf55, cf56, cf57, cf58, cf59, cf60, cf61, cf62, cf63, cf64, cf65, cf66, cf67, cf68, cf69, cf70, cf71, cf72, cf73, cf74, cf75, bd26_0_1_2_7_8_9_10_11_12_13_14_4_15, bd26_0_1_2_7_8_9_10_11_12_13_14_4_15p, bd28_, bd28_p, bd28_0, bd28_0p, bd28_0_1, bd28_0_1p, bd45_1_3_4_5_6, bd45_1_3_4_5_6p, bd49_0_1, bd49_0_1p, bd49_1, bd49_1p, bd74_0_1_2_3, bd74_0_1_2_3p, bd85_0, bd85_0p, bd85_0_1, bd85_0_1p, bd93_0_1_2, bd93_0_1_2p, bd94_0_1_2_3, bd94_0_1_2_3p, bs42_1_0, bs22_1_0, bs24_1_0, bs42_3_0_1_2, bs31_1_0, bs22_2_0_1, bs42_6_0_1_2_3_4_5, bs42_0_, eq4, eq4p, eq28, eq28p, eq42n, eq42np, eq42s, eq42sp, eq58n, eq58np, eq58s, eq58sp, eq63n, eq63np, eq63s, eq63sp, ne28, ne28p, ne45, ne45p]
    unfold S61_k1
    rw [← hKK]
    simp -implicitDefEqProofs only [retK_ret, resL_tmp, upd_eq, resL_nil1]
    exact ⟨⟨_, rfl, .inl ⟨rfl, hn⟩⟩, Hp.le.refl _⟩

theorem find1_spec {G h : Hp} {r : Raw} {ab : Nat} {c : Cell} (hc : h ab = some (cellO c)) : HCalls Tryd.prog G 60 #[.agg #[.int .i64 r.x, .int .i64 r.y, .slice r.a r.n r.c], .pointer (some ⟨ab, 0, none⟩)] h (fun u h' => u = .bool ((r.x, r.y) == c) ∧ h' = h) := by
  refine HCalls.assume fun d => quietly (enter60 (by simp) ?_)
  unfold S60
  simp -implicitDefEqProofs only [regs0, regs1, retK_ret, resL_tmp, upd_eq, resL_nil1, opH_sv, ld28, add_mk, Nat.add_zero, Nat.zero_add, box_new, cells_agg, fa49_0, cell_set_self, List.getElem?_cons_zero, Option.some.injEq, List.getElem?_cons_succ, exists_eq_left']
  intro x hx gx
  generalize ex : Hp.set h x _ = h2
  obtain ⟨l2, d2, b2⟩ := boxed ex hx d gx
  have cx : ∀ k, cellIn G h2 ⟨x, k, none⟩ = _ := fun k => cell_of (look_own b2)
  have cc : ∀ k, cellIn G h2 ⟨ab, k, none⟩ = _ := fun k => cell_of (look_own (l2 _ _ hc))
  try simp -implicitDefEqProofs only [cc, List.getElem?_cons_zero, Option.some.injEq, List.getElem?_cons_succ, exists_eq_left', eq28, Bool.and_true]
  exact ⟨rfl, l2⟩

theorem indexs_spec {G h : Hp} {v : Value} {S : List Stk} {ab : Nat} {c : Cell} (hss : StS G h v S) (hc : h ab = some (cellO c)) (hL : S.length ≤ 100000000000000) : HCalls Tryd.prog G 59 #[v, .func (.func 60) #[] #[.pointer (some ⟨ab, 0, none⟩)]] h (fun u h' => (∃ n : Int, u = .int .i64 n ∧ FirstAt (fun x : Stk => x.1 == c) S n) ∧ h' = h) := by
  obtain ⟨sa, sc, rfl, raw, sr, srr⟩ := id hss
  refine HCalls.assume fun d => quietly (enter59 (by simp) ?_)
  unfold S59
  simp -implicitDefEqProofs only [regs0, opH_sv, ln24]
  have hrl : raw.length = S.length := by
    obtain ⟨s', cap', e⟩ := sr.len
    simp at e
    omega
  generalize hKK : retK Tryd.prog G _ _ = KK
  refine loop_I (fun m r h3 => ∃ i : Nat, m = S.length - i ∧ i ≤ S.length ∧ r 0 = .slice sa S.length sc ∧ r 1 = .func (.func 60) #[] #[.pointer (some ⟨ab, 0, none⟩)] ∧ r 7 = .int .i64 S.length ∧ r 8 = .int .i64 i ∧ h3 = h ∧ (S.take i).any (fun x => x.1 == c) = false) ?_
    (m := S.length) ⟨0, rfl, Nat.zero_le _, by simp -implicitDefEqProofs (disch := first | with_reducible exact Nat.ne_of_beq_eq_false rfl | omega) only [upd_ne, regs0], by simp -implicitDefEqProofs (disch := first | with_reducible exact Nat.ne_of_beq_eq_false rfl | omega) only [upd_ne, regs1], by simp -implicitDefEqProofs (disch := first | with_reducible exact Nat.ne_of_beq_eq_false rfl | omega) only [upd_ne, upd_eq], by simp -implicitDefEqProofs only [upd_eq] <;> rfl, rfl, by simp⟩
  rintro m q h3 ⟨i, rfl, hi, g0, g1, g7, g8, rfl, hn⟩ X HX
  unfold S59_l2
  simp -implicitDefEqProofs only [g8, g7, thenK_exit, blockK_exit, thenK_normal, if_true, opH_sv, bin_lss]
  refine cond_dec (fun hlt => ?_) (fun hge => ?_)
  · obtain ⟨s, hs⟩ : ∃ s, S[i]? = some s := ⟨_, List.getElem?_eq_getElem (by omega)⟩
    obtain ⟨r, hr⟩ : ∃ r, raw[i]? = some r := ⟨_, List.getElem?_eq_getElem (by omega)⟩
    obtain ⟨er, en, eb⟩ := srr i r s hr hs
    obtain ⟨b, of, cc, e3, e4⟩ := sr.get hr
    simp only [Value.slice.injEq] at e3
    obtain ⟨rfl, -, -⟩ := e3
    have z0 := e4 0 (by decide)
    have z1 := e4 1 (by decide)
    have z2 := e4 2 (by decide)
    simp only [rawC, Nat.add_zero, List.getElem?_cons_zero, List.getElem?_cons_succ] at z0 z1 z2
    unfold S59_l2_k3
    simp -implicitDefEqProofs (disch := first | with_reducible exact Nat.ne_of_beq_eq_false rfl | omega) only [upd_ne, g0, g8, g1, callV_fn, thenK_ret, blockK_ret, cf60, opH_sv, ix24 (Int.natCast_nonneg i) hlt, Int.toNat_natCast, add_mk, ld49, Nat.add_zero, z0, Option.some.injEq, z1, z2, exists_eq_left']
    refine (find1_spec (r := r) hc).mono ?_
    rintro _ h3 ⟨rfl, rfl⟩
    refine cond_bool (fun hb => ?_) (fun hb => ?_)
    · rw [← hKK]
      simp -implicitDefEqProofs only [retK_ret, resL_tmp, upd_eq, resL_nil1]
      exact ⟨⟨_, rfl, .inr ⟨i, rfl, ⟨s, hs, by show (s.1 == c) = true; rw [← er]; exact hb⟩, hn⟩⟩, Hp.le.refl _⟩
    · unfold S59_l2_k4
      simp -implicitDefEqProofs (disch := first | with_reducible exact Nat.ne_of_beq_eq_false rfl | omega) only [upd_ne, g8, thenK_normal, opH_sv, bin_add, wrap_in]
      exact HX (S.length - (i + 1)) _ _ (by omega) ⟨i + 1, rfl, by omega, by simp -implicitDefEqProofs (disch := first | with_reducible exact Nat.ne_of_beq_eq_false rfl | omega) only [upd_ne, g0], by simp -implicitDefEqProofs (disch := first | with_reducible exact Nat.ne_of_beq_eq_false rfl | omega) only [upd_ne, g1], by simp -implicitDefEqProofs (disch := first | with_reducible exact Nat.ne_of_beq_eq_false rfl | omega) only [upd_ne, g7], by simp -implicitDefEqProofs (disch := first | with_reducible exact Nat.ne_of_beq_eq_false rfl | omega) only [upd_eq] <;> rfl, rfl, by rw [any_step hs, hn, ← er, hb]; rfl⟩
  · obtain rfl : i = S.length := by omega
    rw [List.take_of_length_le (Nat.le_refl _)] at hn
    try simp -implicitDefEqProofs only [opH_sv, opH_su, pureW_sv, opH_nil, pureW_nil, pick_t, pick_f, pick_tp, pick_fp, gd_tt, gd_ft, gd_tf, gd_ff, box_new, regs0, regs1, regs2, regs3, regs4, regs5, regs6, cells_agg, cells_int, cells_bool, cells_ptr, cells_slice, cells_string, cells_func, cells_nilFunc, cells_map, retK_ret, retK_normal, resL_tmp, resL_cell, resL_nil0, resL_nil1, resL_nil2, resL_nil3, resC_ptr, ex0, ex1, ex2, ex0p, ex1p, ex2p, HL.cond_true, HL.cond_false, thenK_normal, thenK_ret, thenK_exit, blockK_normal, blockK_ret, blockK_exit, scopeK_normal, scopeK_ret, scopeK_exit, wpH_pure, bin_add, bin_sub, bin_mul, bin_lss, bin_leq, bin_gtr, bin_geq, bin_quo, bin_rem, bin_quop, bin_remp, wrap_in, bin_addp, bin_subp, bin_mulp, bin_lssp, bin_leqp, bin_gtrp, bin_geqp, un_not, un_notp, un_neg, eq_int, ne_int, eq_intp, ne_intp, callV_fn, add_mk, upd_eq, upd_ne, cell_set_self, Nat.zero_add, Nat.add_zero, Option.some.injEq, exists_eq_left', List.getElem?_cons_succ, List.getElem?_cons_zero, true_and, and_true, bne_self_eq_false, beq_self_eq_true, Bool.not_true, Bool.not_false, Bool.and_true, Bool.and_self, Bool.and_false, Bool.true_and, List.length_cons, List.length_nil, ne_eq, not_false_eq_true, Nat.reduceAdd, Nat.reduceMul, if_true, if_false, oneCell_int, oneCell_bool, oneCell_ptr, oneCell_slice, oneCell_string, oneCell_func, oneCell_map, Int.toNat_natCast, List.set_cons_zero, List.set_cons_succ, Nat.lt_irrefl, Nat.zero_lt_succ, Nat.succ_lt_succ_iff, fa26_0, fa26_0p, fa26_1, fa26_1p, fa26_10, fa26_10p, fa26_11, fa26_11p, fa26_12, fa26_12p, fa26_13, fa26_13p, fa26_14, fa26_14p, fa26_15, fa26_15p, fa26_2, fa26_2p, fa26_3, fa26_3p, fa26_4, fa26_4p, fa26_5, fa26_5p, fa26_6, fa26_6p, fa26_7, fa26_7p, fa26_8, fa26_8p, fa26_9, fa26_9p, fa28_0, fa28_0p, fa28_1, fa28_1p, fa45_0, fa45_0p, fa45_1, fa45_1p, fa45_2, fa45_2p, fa45_3, fa45_3p, fa45_4, fa45_4p, fa45_5, fa45_5p, fa45_6, fa45_6p, fa49_0, fa49_0p, fa49_1, fa49_1p, fa74_0, fa74_0p, fa74_1, fa74_1p, fa74_2, fa74_2p, fa74_3, fa74_3p, fa85_0, fa85_0p, fa85_1, fa85_1p, fa93_0, fa93_0p, fa93_1, fa93_1p, fa93_2, fa93_2p, ld3, ld3p, ld4, ld4p, ld22, ld22p, ld23, ld23p, ld24, ld24p, ld26, ld26p, ld28, ld28p, ld42, ld42p, ld45, ld45p, ld49, ld49p, ld58, ld58p, ld69, ld69p, ld72, ld72p, ld85, ld85p, st3s, st4s, st22s, st23s, st24s, st26w, st28w, st42s, st45w, st49w, st85w, ix22, ix22p, ix23, ix23p, ix24, ix24p, ix31, ix31p, ix42, ix42p, ix104, ix104p, ln22, ln22p, ln23, ln23p, ln24, ln24p, ln31, ln31p, ln42, ln42p, al4, al22, al26, al28, al42, al49, al85, cf10, cf11, cf12, cf13, cf14, cf15, cf16, cf17, cf18, cf19, cf20, cf21, cf22, cf23, cf24, cf25, cf26, cf27, cf28, cf29, cf30, cf31, cf32, cf33, cf34, cf35, cf36, cf37, cf38, cf39, cf40, cf41, cf42, cf43, cf44, cf45, cf46, cf47, cf48, cf49, cf50, cf51, cf52, cf53, cf54, cf55, cf56, cf57, cf58, cf59, cf60, cf61, cf62, cf63, cf64, cf65, cf66, cf67, cf68, cf69, cf70, cf71, cf72, cf73, cf74, cf75, bd26_0_1_2_7_8_9_10_11_12_13_14_4_15, bd26_0_1_2_7_8_9_10_11_12_13_14_4_15p, bd28_, bd28_p, bd28_0, bd28_0p, bd28_0_1, bd28_0_1p, bd45_1_3_4_5_6, bd45_1_3_4_5_6p, bd49_0_1, bd49_0_1p, bd49_1, bd49_1p, bd74_0_1_2_3, bd74_0_1_2_3p, bd85_0, bd85_0p, bd85_0_1, bd85_0_1p, bd93_0_1_2, bd93_0_1_2p, bd94_0_1_2_3, bd94_0_1_2_3p, bs42_1_0, bs22_1_0, bs24_1_0, bs42_3_0_1_2, bs31_1_0, bs22_2_0_1, bs42_6_0_1_2_3_4_5, bs42_0_, eq4, eq4p, eq28, eq28p, eq42n, eq42np, eq42s, eq42sp, eq58n, eq58np, eq58s, eq58sp, eq63n, eq63np, eq63s, eq63sp, ne28, ne28p, ne45, ne45p]
    unfold S59_k1
    rw [← hKK]
    simp -implicitDefEqProofs only [retK_ret, resL_tmp, upd_eq, resL_nil1]
    exact ⟨⟨_, rfl, .inl ⟨rfl, hn⟩⟩, Hp.le.refl _⟩

end Go.Proofs.YtangejiigopdaaaDoor
end

section
/- A row cloned. -/
set_option linter.unusedSimpArgs false
set_option linter.unusedVariables false
set_option maxRecDepth 100000
namespace Go.Proofs.YtangejiigopdaaaDoor
open Go Go.HL

theorem clone_spec {G h : Hp} {v : Value} {L : List Int} (hv : Sees icC G h v L) (hL : L.length ≤ 17592186044320) : HCalls Tryd.prog G 62 #[v] h (fun u h' => ∃ ip, Slc icC 3 ip u L ∧ HL.Sep [ip, h] h' ∧ Dis G h') := by
  refine HCalls.assume fun d => enter62 (by simp) ?_
  unfold S62
  obtain ⟨sa, cap, rfl⟩ := hv.len
  cases sa with
  | none =>
    have hL0 : L = [] := by
      obtain ⟨s, c, e, _, h1 | ⟨b, o, rfl, _⟩⟩ := hv
      · exact h1
      · cases e
    subst hL0
    try simp -implicitDefEqProofs only [List.length_nil, regs0, retK_ret, resL_tmp, upd_eq, resL_nil1, eq42n, HL.cond_true]
    exact ⟨noHp, Slc.nil, Sep.one.none, d⟩
  | some ad =>
    try simp -implicitDefEqProofs only [regs0, retK_ret, resL_tmp, upd_eq, resL_nil1, eq42s, HL.cond_false]
    unfold S62_k1
    try simp -implicitDefEqProofs only [upd_ne, regs0, retK_ret, resL_tmp, upd_eq, resL_nil1, opH_sv, bs42_0_]
    intro x hx gx
    have s1 := (Sep.one (h := h)).new (o := .cells #[] 3 (0, 0)) hx
    have d1 := d.set (o := .cells #[] 3 (0, 0)) gx
    have o1 : Slc icC 3 (noHp.set x (.cells #[] 3 (0, 0))) (.slice (some ⟨x, 0, none⟩) 0 0) [] := ⟨some x, 0, [], rfl, set_self, rfl⟩
    have hv1 := hv.up (s1.in 1 rfl) d1
    generalize Hp.set h x _ = h1 at s1 d1 hv1 ⊢
    refine append_big icC (by decide) un42 eoint (by decide) (L := []) (M := L) s1 d1 o1 hv1 (by simp; omega) fun v2 a2 h2 o2 s2 d2 => ?_
    rw [List.nil_append] at o2
    try simp -implicitDefEqProofs (disch := first | with_reducible exact Nat.ne_of_beq_eq_false rfl | omega) only [opH_sv, opH_su, pureW_sv, opH_nil, pureW_nil, pick_t, pick_f, pick_tp, pick_fp, gd_tt, gd_ft, gd_tf, gd_ff, box_new, regs0, regs1, regs2, regs3, regs4, regs5, regs6, cells_agg, cells_int, cells_bool, cells_ptr, cells_slice, cells_string, cells_func, cells_nilFunc, cells_map, retK_ret, retK_normal, resL_tmp, resL_cell, resL_nil0, resL_nil1, resL_nil2, resL_nil3, resC_ptr, ex0, ex1, ex2, ex0p, ex1p, ex2p, HL.cond_true, HL.cond_false, thenK_normal, thenK_ret, thenK_exit, blockK_normal, blockK_ret, blockK_exit, scopeK_normal, scopeK_ret, scopeK_exit, wpH_pure, bin_add, bin_sub, bin_mul, bin_lss, bin_leq, bin_gtr, bin_geq, bin_quo, bin_rem, bin_quop, bin_remp, wrap_in, bin_addp, bin_subp, bin_mulp, bin_lssp, bin_leqp, bin_gtrp, bin_geqp, un_not, un_notp, un_neg, eq_int, ne_int, eq_intp, ne_intp, callV_fn, add_mk, upd_eq, upd_ne, cell_set_self, Nat.zero_add, Nat.add_zero, Option.some.injEq, exists_eq_left', List.getElem?_cons_succ, List.getElem?_cons_zero, true_and, and_true, bne_self_eq_false, beq_self_eq_true, Bool.not_true, Bool.not_false, Bool.and_true, Bool.and_self, Bool.and_false, Bool.true_and, List.length_cons, List.length_nil, ne_eq, not_false_eq_true, Nat.reduceAdd, Nat.reduceMul, if_true, if_false, oneCell_int, oneCell_bool, oneCell_ptr, oneCell_slice, oneCell_string, oneCell_func, oneCell_map, Int.toNat_natCast, List.set_cons_zero, List.set_cons_succ, Nat.lt_irrefl, Nat.zero_lt_succ, Nat.succ_lt_succ_iff, fa26_0, fa26_0p, fa26_1, fa26_1p, fa26_10, fa26_10p, fa26_11, fa26_11p, fa26_12, fa26_12p, fa26_13, fa26_13p, fa26_14, fa26_14p, fa26_15, fa26_15p, fa26_2, fa26_2p, fa26_3, fa26_3p, fa26_4, fa26_4p, fa26_5, fa26_5p, fa26_6, fa26_6p, fa26_7, fa26_7p, fa26_8, fa26_8p, fa26_9, fa26_9p, fa28_0, fa28_0p, fa28_1, fa28_1p, fa45_0, fa45_0p, fa45_1, fa45_1p, fa45_2, fa45_2p, fa45_3, fa45_3p, fa45_4, fa45_4p, fa45_5, fa45_5p, fa45_6, fa45_6p, fa49_0, fa49_0p, fa49_1, fa49_1p, fa74_0, fa74_0p, fa74_1, fa74_1p, fa74_2, fa74_2p, fa74_3, fa74_3p, fa85_0, fa85_0p, fa85_1, fa85_1p, fa93_0, fa93_0p, fa93_1, fa93_1p, fa93_2, fa93_2p, ld3, ld3p, ld4, ld4p, ld22, ld22p, ld23, ld23p, ld24, ld24p, ld26, ld26p, ld28, ld28p, ld42, ld42p, ld45, ld45p, ld49, ld49p, ld58, ld58p, ld69, ld69p, ld72, ld72p, ld85, ld85p, st3s, st4s, st22s, st23s, st24s, st26w, st28w, st42s, st45w, st49w, st85w, ix22, ix22p, ix23, ix23p, ix24, ix24p, ix31, ix31p, ix42, ix42p, ix104, ix104p, ln22, ln22p, ln23, ln23p, ln24, ln24p, ln31, ln31p, ln42, ln42p, al4, al22, al26, al28, al42, al49, al85, cf10, cf11, cf12, cf13, cf14, cf15, cf16, cf17, cf18, cf19, cf20, cf21, cf22, cf23, cf24, cf25, cf26, cf27, cf28, cf29, cf30, cf31, cf32, cf33, cf34, cf35, cf36, cf37, cf38, cf39, cf40, cf41, cf42, cf43, cf44, cf45, cf46, cf47, cf48, cf49, cf50, cf51, cf52, cf53, cf54, cf55, cf56, cf57, cf58, cf59, cf60, cf61, cf62, cf63, cf64, cf65, cf66, cf67, cf68, cf69, cf70, cf71, cf72, cf73, cf74, cf75, bd26_0_1_2_7_8_9_10_11_12_13_14_4_15, bd26_0_1_2_7_8_9_10_11_12_13_14_4_15p, bd28_, bd28_p, bd28_0, bd28_0p, bd28_0_1, bd28_0_1p, bd45_1_3_4_5_6, bd45_1_3_4_5_6p, bd49_0_1, bd49_0_1p, bd49_1, bd49_1p, bd74_0_1_2_3, bd74_0_1_2_3p, bd85_0, bd85_0p, bd85_0_1, bd85_0_1p, bd93_0_1_2, bd93_0_1_2p, bd94_0_1_2_3, bd94_0_1_2_3p, bs42_1_0, bs22_1_0, bs24_1_0, bs42_3_0_1_2, bs31_1_0, bs22_2_0_1, bs42_6_0_1_2_3_4_5, bs42_0_, eq4, eq4p, eq28, eq28p, eq42n, eq42np, eq42s, eq42sp, eq58n, eq58np, eq58s, eq58sp, eq63n, eq63np, eq63s, eq63sp, ne28, ne28p, ne45, ne45p]
    exact ⟨a2, o2, s2, d2⟩

/-- Changed about up to i from both ends. -/
def Flipped {α : Type} (L M : List α) (i : Nat) : Prop := M.length = L.length ∧ ∀ p : Nat, p < L.length → M[p]? = if p < i ∨ L.length - i ≤ p then L[L.length - 1 - p]? else L[p]?
theorem Flipped.zero {α : Type} {L : List α} : Flipped L L 0 := ⟨rfl, fun p hp => by rw [if_neg (by omega)]⟩
theorem Flipped.all {α : Type} {L M : List α} {i : Nat} (f : Flipped L M i) (h : L.length ≤ 2 * i + 1) : M = L.reverse := by
  refine List.ext_getElem? fun p => ?_
  by_cases hp : p < L.length
  · rw [f.2 p hp, List.getElem?_reverse hp]
    split
    · rfl
    · congr 1
      omega
  · rw [List.getElem?_eq_none (by rw [f.1]; omega), List.getElem?_eq_none (by simp; omega)]
theorem Flipped.next {α : Type} {L M : List α} {i : Nat} {x y : α} (f : Flipped L M i) (h : 2 * i + 1 < L.length) (hx : M[i]? = some x) (hy : M[L.length - 1 - i]? = some y) : Flipped L ((M.set i y).set (L.length - 1 - i) x) (i + 1) := by
  refine ⟨by rw [List.length_set, List.length_set, f.1], fun p hp => ?_⟩
  have e1 : L[i]? = some x := by rw [← hx, f.2 i (by omega), if_neg (by omega)]
  have e2 : L[L.length - 1 - i]? = some y := by rw [← hy, f.2 _ (by omega), if_neg (by omega)]
  by_cases h1 : p = L.length - 1 - i
  · subst h1
    rw [List.getElem?_set_self (by rw [List.length_set, f.1]; omega), if_pos (by omega), show L.length - 1 - (L.length - 1 - i) = i by omega, e1]
  · rw [List.getElem?_set_ne (by omega)]
    by_cases h2 : p = i
    · subst h2
      rw [List.getElem?_set_self (by rw [f.1]; omega), if_pos (by omega), e2]
    · rw [List.getElem?_set_ne (by omega), f.2 p hp]
      by_cases h3 : p < i ∨ L.length - i ≤ p
      · rw [if_pos h3, if_pos (by omega)]
      · rw [if_neg h3, if_neg (by omega)]

set_option maxHeartbeats 4000000 in
theorem revi_spec {G h a : Hp} {R : List Hp} {v : Value} {L : List Int} (s : HL.Sep (a :: R) h) (o : Slc icC 3 a v L) (hL : L.length ≤ 17592186044320) : HCalls Tryd.prog G 63 #[v] h (fun u h' => ∃ a', Slc icC 3 a' v L.reverse ∧ HL.Sep (a' :: R) h' ∧ Dis G h') := by
  refine HCalls.assume fun d => enter63 (by simp) ?_
  unfold S63
  obtain ⟨sa, cap, rfl, _⟩ := o.len (by decide)
  simp -implicitDefEqProofs (disch := first | with_reducible exact Nat.ne_of_beq_eq_false rfl | omega) only [regs0, opH_sv, ln42, bin_sub, wrap_in]
  generalize hKK : retK Tryd.prog G _ _ = KK
  refine loop_I (fun m q h3 => ∃ (i : Nat) (a : Hp) (M : List Int), m = L.length - i ∧ 2 * i ≤ L.length + 1 ∧ q 0 = .slice sa L.length cap ∧ q 2 = .int .i64 i ∧ q 3 = .int .i64 ((L.length : Int) - 1 - i) ∧ Slc icC 3 a (.slice sa L.length cap) M ∧ Flipped L M i ∧ HL.Sep (a :: R) h3 ∧ Dis G h3) ?_
    (m := L.length) ⟨0, a, L, rfl, by omega, by simp -implicitDefEqProofs (maxSteps := 2000000) (disch := first | with_reducible exact Nat.ne_of_beq_eq_false rfl | exact oneCell_int | exact oneCell_bool | omega | rfl | (simp; done) | fail) only [upd_ne, regs0], by simp -implicitDefEqProofs (maxSteps := 2000000) (disch := first | with_reducible exact Nat.ne_of_beq_eq_false rfl | exact oneCell_int | exact oneCell_bool | omega | rfl | (simp; done) | fail) only [upd_ne, upd_eq] <;> rfl, by simp -implicitDefEqProofs (maxSteps := 2000000) (disch := first | with_reducible exact Nat.ne_of_beq_eq_false rfl | exact oneCell_int | exact oneCell_bool | omega | rfl | (simp; done) | fail) only [upd_eq]; simp, o, Flipped.zero, s, d⟩
  clear s o d
  rintro m q h3 ⟨i, a, M, rfl, hi, q0, q2, q3, o, fl, s3, d3⟩ X HX
  unfold S63_l1
  simp -implicitDefEqProofs only [q2, q3, thenK_exit, blockK_exit, if_true, opH_sv, bin_lss]
  refine cond_dec (fun hlt => ?_) (fun hge => ?_)
  rotate_left
  · try simp -implicitDefEqProofs only [opH_sv, opH_su, pureW_sv, opH_nil, pureW_nil, pick_t, pick_f, pick_tp, pick_fp, gd_tt, gd_ft, gd_tf, gd_ff, box_new, regs0, regs1, regs2, regs3, regs4, regs5, regs6, cells_agg, cells_int, cells_bool, cells_ptr, cells_slice, cells_string, cells_func, cells_nilFunc, cells_map, retK_ret, retK_normal, resL_tmp, resL_cell, resL_nil0, resL_nil1, resL_nil2, resL_nil3, resC_ptr, ex0, ex1, ex2, ex0p, ex1p, ex2p, HL.cond_true, HL.cond_false, thenK_normal, thenK_ret, thenK_exit, blockK_normal, blockK_ret, blockK_exit, scopeK_normal, scopeK_ret, scopeK_exit, wpH_pure, bin_add, bin_sub, bin_mul, bin_lss, bin_leq, bin_gtr, bin_geq, bin_quo, bin_rem, bin_quop, bin_remp, wrap_in, bin_addp, bin_subp, bin_mulp, bin_lssp, bin_leqp, bin_gtrp, bin_geqp, un_not, un_notp, un_neg, eq_int, ne_int, eq_intp, ne_intp, callV_fn, add_mk, upd_eq, upd_ne, cell_set_self, Nat.zero_add, Nat.add_zero, Option.some.injEq, exists_eq_left', List.getElem?_cons_succ, List.getElem?_cons_zero, true_and, and_true, bne_self_eq_false, beq_self_eq_true, Bool.not_true, Bool.not_false, Bool.and_true, Bool.and_self, Bool.and_false, Bool.true_and, List.length_cons, List.length_nil, ne_eq, not_false_eq_true, Nat.reduceAdd, Nat.reduceMul, if_true, if_false, oneCell_int, oneCell_bool, oneCell_ptr, oneCell_slice, oneCell_string, oneCell_func, oneCell_map, Int.toNat_natCast, List.set_cons_zero, List.set_cons_succ, Nat.lt_irrefl, Nat.zero_lt_succ, Nat.succ_lt_succ_iff, fa26_0, fa26_0p, fa26_1, fa26_1p, fa26_10, fa26_10p, fa26_11, fa26_11p, fa26_12, fa26_12p, fa26_13, fa26_13p, fa26_14, fa26_14p, fa26_15, fa26_15p, fa26_2, fa26_2p, fa26_3, fa26_3p, fa26_4, fa26_4p, fa26_5, fa26_5p, fa26_6, fa26_6p, fa26_7, fa26_7p, fa26_8, fa26_8p, fa26_9, fa26_9p, fa28_0, fa28_0p, fa28_1, fa28_1p, fa45_0, fa45_0p, fa45_1, fa45_1p, fa45_2, fa45_2p, fa45_3, fa45_3p, fa45_4, fa45_4p, fa45_5, fa45_5p, fa45_6, fa45_6p, fa49_0, fa49_0p, fa49_1, fa49_1p, fa74_0, fa74_0p, fa74_1, fa74_1p, fa74_2, fa74_2p, fa74_3, fa74_3p, fa85_0, fa85_0p, fa85_1, fa85_1p, fa93_0, fa93_0p, fa93_1, fa93_1p, fa93_2, fa93_2p, ld3, ld3p, ld4, ld4p, ld22, ld22p, ld23, ld23p, ld24, ld24p, ld26, ld26p, ld28, ld28p, ld42, ld42p, ld45, ld45p, ld49, ld49p, ld58, ld58p, ld69, ld69p, ld72, ld72p, ld85, ld85p, st3s, st4s, st22s, st23s, st24s, st26w, st28w, st42s, st45w, st49w, st85w, ix22, ix22p, ix23, ix23p, ix24, ix24p, ix31, ix31p, ix42, ix42p, ix104, ix104p, ln22, ln22p, ln23, ln23p, ln24, ln24p, ln31, ln31p, ln42, ln42p, al4, al22, al26, al28, al42, al49, al85, cf10, cf11, cf12, cf13, cf14, cf15, cf16, cf17, cf18, cf19, cf20, cf21, cf22, cf23, cf24, cf25, cf26, cf27, cf28, cf29, cf30, cf31, cf32, cf33, cf34, cf35, cf36, cf37, cf38, cf39, cf40, cf41, cf42, cf43, cf44, cf45, cf46, cf47, cf48, cf49, cf50, cf51, cf52, cf53, cf54, cf55, cf56, cf57, cf58, cf59, cf60, cf61, cf62, cf63, cf64, cf65, cf66, cf67, cf68, cf69, cf70, cf71, cf72, cf73, cf74, cf75, bd26_0_1_2_7_8_9_10_11_12_13_14_4_15, bd26_0_1_2_7_8_9_10_11_12_13_14_4_15p, bd28_, bd28_p, bd28_0, bd28_0p, bd28_0_1, bd28_0_1p, bd45_1_3_4_5_6, bd45_1_3_4_5_6p, bd49_0_1, bd49_0_1p, bd49_1, bd49_1p, bd74_0_1_2_3, bd74_0_1_2_3p, bd85_0, bd85_0p, bd85_0_1, bd85_0_1p, bd93_0_1_2, bd93_0_1_2p, bd94_0_1_2_3, bd94_0_1_2_3p, bs42_1_0, bs22_1_0, bs24_1_0, bs42_3_0_1_2, bs31_1_0, bs22_2_0_1, bs42_6_0_1_2_3_4_5, bs42_0_, eq4, eq4p, eq28, eq28p, eq42n, eq42np, eq42s, eq42sp, eq58n, eq58np, eq58s, eq58sp, eq63n, eq63np, eq63s, eq63sp, ne28, ne28p, ne45, ne45p]
    rw [← hKK]
    try simp -implicitDefEqProofs only [retK_normal, resL_nil0]
    rw [fl.all (by omega)] at o
    exact ⟨a, o, s3, d3⟩
  have hij : 2 * i + 1 < L.length := by omega
  obtain ⟨j, ej⟩ : ∃ j : Nat, j = L.length - 1 - i := ⟨_, rfl⟩
  have ejn : (L.length : Int) - 1 - (i : Int) = (j : Int) := by omega
  rw [ejn] at q3
  have hil : (i : Int) < L.length := by omega
  have hjl : (j : Int) < L.length := by omega
  obtain ⟨x, hx⟩ : ∃ x, M[i]? = some x := ⟨_, List.getElem?_eq_getElem (by rw [fl.1]; omega)⟩
  obtain ⟨y, hy⟩ : ∃ y, M[j]? = some y := ⟨_, List.getElem?_eq_getElem (by rw [fl.1]; omega)⟩
  have sv := o.sees (G := G) (by decide) (s3.in 0 rfl)
  obtain ⟨b, of, rfl, zx⟩ := Sees.num sv hx
  obtain ⟨b', of', e', zy⟩ := Sees.num sv hy
  cases e'
  obtain ⟨ob, o'⟩ := o
  cases ob with
  | none => exact absurd o'.2 (fun e => by rw [e] at hx; simp at hx)
  | some ob =>
  obtain ⟨cap', t, e9, hb, hbl⟩ := o'
  rw [fl.1] at e9
  simp only [Value.slice.injEq, Option.some.injEq, Addr.mk.injEq, and_true, true_and] at e9
  obtain ⟨⟨rfl, rfl⟩, rfl⟩ := e9
  rw [Nat.zero_add] at zx zy
  have hb3 := s3.at 0 rfl hb
  unfold S63_l1_k2
  simp -implicitDefEqProofs (disch := first | with_reducible exact Nat.ne_of_beq_eq_false rfl | omega) only [upd_ne, q0, q3, q2, opH_su, pureW_sv, ix42p, Int.toNat_natCast, Nat.mul_one, add_mk, Nat.zero_add, ld3p, zx, Option.some.injEq, exists_eq_left', zy]
  have hset : ∀ {N : List Int} {p : Nat} {n : Int}, p < N.length → (icC.rows N ++ t).set p (.int .i64 n) = icC.rows (N.set p n) ++ t := by
    intro N p n hp
    have := icC.rows_put (t := t) (x := n) hp
    rw [show icC.n = 1 from rfl, Nat.mul_one] at this
    exact this
  have hlen : ∀ {N : List Int} {p : Nat}, p < N.length → p < (icC.rows N ++ t).length := by
    intro N p hp
    rw [List.length_append, icC.rows_length, show icC.n = 1 from rfl]
    omega
  rw [store1_eq sz3 rfl hb3 (hlen (by rw [fl.1]; omega)), hset (by rw [fl.1]; omega)]
  have s4 := s3.put (o := .cells (icC.rows (M.set i y) ++ t).toArray 3 (0, 0)) hb
  have d4 := d3.set (o := .cells (icC.rows (M.set i y) ++ t).toArray 3 (0, 0)) (d3 _ _ hb3)
  generalize Hp.set h3 b _ = h4 at s4 d4 ⊢
  try simp -implicitDefEqProofs only [opH_sv, opH_su, pureW_sv, opH_nil, pureW_nil, pick_t, pick_f, pick_tp, pick_fp, gd_tt, gd_ft, gd_tf, gd_ff, box_new, regs0, regs1, regs2, regs3, regs4, regs5, regs6, cells_agg, cells_int, cells_bool, cells_ptr, cells_slice, cells_string, cells_func, cells_nilFunc, cells_map, retK_ret, retK_normal, resL_tmp, resL_cell, resL_nil0, resL_nil1, resL_nil2, resL_nil3, resC_ptr, ex0, ex1, ex2, ex0p, ex1p, ex2p, HL.cond_true, HL.cond_false, thenK_normal, thenK_ret, thenK_exit, blockK_normal, blockK_ret, blockK_exit, scopeK_normal, scopeK_ret, scopeK_exit, wpH_pure, bin_add, bin_sub, bin_mul, bin_lss, bin_leq, bin_gtr, bin_geq, bin_quo, bin_rem, bin_quop, bin_remp, wrap_in, bin_addp, bin_subp, bin_mulp, bin_lssp, bin_leqp, bin_gtrp, bin_geqp, un_not, un_notp, un_neg, eq_int, ne_int, eq_intp, ne_intp, callV_fn, add_mk, upd_eq, upd_ne, cell_set_self, Nat.zero_add, Nat.add_zero, Option.some.injEq, exists_eq_left', List.getElem?_cons_succ, List.getElem?_cons_zero, true_and, and_true, bne_self_eq_false, beq_self_eq_true, Bool.not_true, Bool.not_false, Bool.and_true, Bool.and_self, Bool.and_false, Bool.true_and, List.length_cons, List.length_nil, ne_eq, not_false_eq_true, Nat.reduceAdd, Nat.reduceMul, if_true, if_false, oneCell_int, oneCell_bool, oneCell_ptr, oneCell_slice, oneCell_string, oneCell_func, oneCell_map, Int.toNat_natCast, List.set_cons_zero, List.set_cons_succ, Nat.lt_irrefl, Nat.zero_lt_succ, Nat.succ_lt_succ_iff, fa26_0, fa26_0p, fa26_1, fa26_1p, fa26_10, fa26_10p, fa26_11, fa26_11p, fa26_12, fa26_12p, fa26_13, fa26_13p, fa26_14, fa26_14p, fa26_15, fa26_15p, fa26_2, fa26_2p, fa26_3, fa26_3p, fa26_4, fa26_4p, fa26_5, fa26_5p, fa26_6, fa26_6p, fa26_7, fa26_7p, fa26_8, fa26_8p, fa26_9, fa26_9p, fa28_0, fa28_0p, fa28_1, fa28_1p, fa45_0, fa45_0p, fa45_1, fa45_1p, fa45_2, fa45_2p, fa45_3, fa45_3p, fa45_4, fa45_4p, fa45_5, fa45_5p, fa45_6, fa45_6p, fa49_0, fa49_0p, fa49_1, fa49_1p, fa74_0, fa74_0p, fa74_1, fa74_1p, fa74_2, fa74_2p, fa74_3, fa74_3p, fa85_0, fa85_0p, fa85_1, fa85_1p, fa93_0, fa93_0p, fa93_1, fa93_1p, fa93_2, fa93_2p, ld3, ld3p, ld4, ld4p, ld22, ld22p, ld23, ld23p, ld24, ld24p, ld26, ld26p, ld28, ld28p, ld42, ld42p, ld45, ld45p, ld49, ld49p, ld58, ld58p, ld69, ld69p, ld72, ld72p, ld85, ld85p, st3s, st4s, st22s, st23s, st24s, st26w, st28w, st42s, st45w, st49w, st85w, ix22, ix22p, ix23, ix23p, ix24, ix24p, ix31, ix31p, ix42, ix42p, ix104, ix104p, ln22, ln22p, ln23, ln23p, ln24, ln24p, ln31, ln31p, ln42, ln42p, al4, al22, al26, al28, al42, al49, al85, cf10, cf11, cf12, cf13, cf14, cf15, cf16, cf17, cf18, cf19, cf20, cf21, cf22, cf23, cf24, cf25, cf26, cf27, cf28, cf29, cf30, cf31, cf32, cf33, cf34, cf35, cf36, cf37, cf38, cf39, cf40, cf41, cf42, cf43, cf44, cf45, cf46, cf47, cf48, cf49, cf50, cf51, cf52, cf53, cf54, cf55, cf56, cf57, cf58, cf59, cf60, cf61, cf62, cf63, cf64, cf65, cf66, cf67, cf68, cf69, cf70, cf71, cf72, cf73, cf74, cf75, bd26_0_1_2_7_8_9_10_11_12_13_14_4_15, bd26_0_1_2_7_8_9_10_11_12_13_14_4_15p, bd28_, bd28_p, bd28_0, bd28_0p, bd28_0_1, bd28_0_1p, bd45_1_3_4_5_6, bd45_1_3_4_5_6p, bd49_0_1, bd49_0_1p, bd49_1, bd49_1p, bd74_0_1_2_3, bd74_0_1_2_3p, bd85_0, bd85_0p, bd85_0_1, bd85_0_1p, bd93_0_1_2, bd93_0_1_2p, bd94_0_1_2_3, bd94_0_1_2_3p, bs42_1_0, bs22_1_0, bs24_1_0, bs42_3_0_1_2, bs31_1_0, bs22_2_0_1, bs42_6_0_1_2_3_4_5, bs42_0_, eq4, eq4p, eq28, eq28p, eq42n, eq42np, eq42s, eq42sp, eq58n, eq58np, eq58s, eq58sp, eq63n, eq63np, eq63s, eq63sp, ne28, ne28p, ne45, ne45p, q0, q3, ix42 (Int.natCast_nonneg j) hjl, Int.toNat_natCast, Nat.mul_one]
  rw [store1_eq sz3 rfl (s4.at 0 rfl set_self) (hlen (by rw [List.length_set, fl.1]; omega)), hset (by rw [List.length_set, fl.1]; omega)]
  have s5 := s4.put (o := .cells (icC.rows ((M.set i y).set j x) ++ t).toArray 3 (0, 0)) set_self
  rw [set_set] at s5
  have d5 := d4.set (o := .cells (icC.rows ((M.set i y).set j x) ++ t).toArray 3 (0, 0)) (d4 _ _ (s4.at 0 rfl set_self))
  generalize Hp.set h4 b _ = h5 at s5 d5 ⊢
  have fn := fl.next hij hx (by rw [← ej]; exact hy)
  rw [← ej] at fn
  unfold S63_l1_k3
  simp -implicitDefEqProofs (disch := first | with_reducible exact Nat.ne_of_beq_eq_false rfl | omega) only [upd_ne, q2, q3, thenK_normal, opH_sv, bin_sub, wrap_in, bin_add]
  refine HX (L.length - (i + 1)) _ _ (by omega) ⟨i + 1, _, _, rfl, by omega, by simp -implicitDefEqProofs (disch := first | with_reducible exact Nat.ne_of_beq_eq_false rfl | omega) only [upd_ne, q0], by simp -implicitDefEqProofs (disch := first | with_reducible exact Nat.ne_of_beq_eq_false rfl | omega) only [upd_ne, upd_eq] <;> rfl, by simp -implicitDefEqProofs (disch := first | with_reducible exact Nat.ne_of_beq_eq_false rfl | omega) only [upd_eq] <;> (congr 1; omega), ⟨some b, cap, t, by rw [fn.1], set_self, ?_⟩, fn, s5, d5⟩
  rw [← hbl, List.length_append, List.length_append, icC.rows_length, icC.rows_length, List.length_set, List.length_set]

end Go.Proofs.YtangejiigopdaaaDoor
end

section
/- A bin found. -/
set_option linter.unusedSimpArgs false
set_option linter.unusedVariables false
set_option maxRecDepth 100000
namespace Go.Proofs.YtangejiigopdaaaDoor
open Go Go.HL

/-- Where a bin stands first, and what stands above it (the highest first). -/
def aboveL (B : List Int) (bin : Int) : List Int := (B.drop (B.findIdx (fun x => bin == x) + 1)).reverse
def findIn (S : List Stk) (bin : Int) : List Cell → Option (Cell × List Int)
  | [] => none
  | c :: L => if bin ∈ binsL S c then some (c, aboveL (binsL S c) bin) else findIn S bin L
/-- The telling goes on while the bin is not there. -/
def goesOn (S : List Stk) (bin : Int) (L : List Cell) : Bool := match L.getLast? with
  | none => true
  | some c => decide (bin ∉ binsL S c)

theorem firstS {S : List Stk} {c : Cell} {n : Int} (f : FirstAt (fun x : Stk => x.1 == c) S n) : (n = -1 ∧ binsL S c = []) ∨ ∃ (i : Nat) (s : Stk), n = i ∧ S[i]? = some s ∧ binsL S c = s.2 := by
  rcases f with ⟨h1, h2⟩ | ⟨i, h1, ⟨s, h2, h3⟩, h4⟩
  · exact .inl ⟨h1, binsL_not h2⟩
  · refine .inr ⟨i, s, h1, h2, ?_⟩
    clear h1
    induction S generalizing i with
    | nil => simp at h2
    | cons y S ih =>
      rw [binsL]
      cases i with
      | zero =>
        simp at h2
        subst h2
        rw [if_pos h3]
      | succ i =>
        simp at h2
        rw [List.take_succ_cons, List.any_cons, Bool.or_eq_false_iff] at h4
        rw [if_neg (by rw [h4.1]; decide)]
        exact ih i h4.2 h2
theorem firstI {B : List Int} {bin n : Int} (f : FirstAt (fun x => bin == x) B n) : (n = -1 ∧ bin ∉ B) ∨ ∃ i : Nat, n = i ∧ i < B.length ∧ bin ∈ B ∧ B.findIdx (fun x => bin == x) = i := by
  rcases f with ⟨h1, h2⟩ | ⟨i, h1, ⟨s, h2, h3⟩, h4⟩
  · refine .inl ⟨h1, fun hm => ?_⟩
    have := List.any_eq_false.1 h2 bin hm
    simp at this
  · have hlt := (List.getElem?_eq_some_iff.1 h2).1
    refine .inr ⟨i, h1, hlt, by rw [eq_of_beq h3]; exact List.mem_of_getElem? h2, ?_⟩
    rw [List.findIdx_eq hlt]
    refine ⟨by rw [(List.getElem?_eq_some_iff.1 h2).2]; exact h3, fun j hj => ?_⟩
    have hm : B[j]'(by omega) ∈ B.take i := by
      rw [List.mem_take_iff_getElem]
      exact ⟨j, by omega, rfl⟩
    simpa using List.any_eq_false.1 h4 _ hm

end Go.Proofs.YtangejiigopdaaaDoor
end

section
/- A bin found: one round. -/
set_option linter.unusedSimpArgs false
set_option linter.unusedVariables false
set_option maxRecDepth 100000
namespace Go.Proofs.YtangejiigopdaaaDoor
open Go Go.HL

abbrev svO (v : Value) : Obj := .cells #[v] 24 (0, 0)
abbrev ivO (v : Value) : Obj := .cells #[v] 42 (0, 0)
abbrev inO (n : Int) : Obj := .cells #[.int .i64 n] 3 (0, 0)
def FYs (w : Hp) (l x6 x7 x8 v0 v1 : Nat) (o : Obj) (sv : Value) (bin : Int) (c : Cell) (vv : Value) (ok : Bool) : List Hp :=
  [noHp.set l o, noHp.set x6 (cellO c), noHp.set x7 (ivO vv), noHp.set x8 (boolO ok), w, noHp.set v0 (svO sv), noHp.set v1 (inO bin)]
def FY (w : Hp) (l x6 x7 x8 v0 v1 : Nat) (o : Obj) (sv : Value) (bin : Int) (L : List Cell) (a : Hp) : Prop := HL.Sep (FYs w l x6 x7 x8 v0 v1 o sv bin (0, 0) (.slice none 0 0) false) a
def FZ (w : Hp) (l x6 x7 x8 v0 v1 : Nat) (o : Obj) (sv : Value) (bin : Int) (S : List Stk) (L : List Cell) (a : Hp) : Prop :=
  ∃ c io vv, L.getLast? = some c ∧ bin ∈ binsL S c ∧ Slc icC 3 io vv (aboveL (binsL S c) bin) ∧ HL.Sep (FYs w l x6 x7 x8 v0 v1 o sv bin c vv true ++ [io]) a

theorem st_iv {G h : Hp} {b : Nat} {z : Value} {a : Option Addr} {n c : Nat} {K : Unit → Hp → Prop} (hb : h b = some (ivO z)) : wpH Tryd.prog G (Instr.storeAt 42 (.pointer (some ⟨b, 0, none⟩)) (.slice a n c)) h K = K () (h.set b (ivO (.slice a n c))) := by
  rw [store1_eq sz42 rfl hb (by simp)]
  rfl

set_option maxHeartbeats 4000000 in
theorem find_yield {G : Hp} {y' : Value} {w : Hp} {l x6 x7 x8 v0 v1 : Nat} {o : Option Exit → Obj} {S : List Stk} {sv : Value} {bin : Int} {r : Rg} (gl : G l = none) (ho : ∀ e, isCells (o e) = false)
    (hss : ∀ G, StS G w sv S) (hS : S.length ≤ 100000000000000) (hB : ∀ s ∈ S, s.2.length ≤ 17592186044320)
    (r4 : r 4 = .pointer (some ⟨v0, 0, none⟩)) (r5 : r 5 = .pointer (some ⟨v1, 0, none⟩)) (r6 : r 6 = .pointer (some ⟨x6, 0, none⟩)) (r7 : r 7 = .pointer (some ⟨x7, 0, none⟩)) (r8 : r 8 = .pointer (some ⟨x8, 0, none⟩))
    (hy : ∀ (args : Array Value) (h1 : Hp) (K1 : Value → Hp → Prop), args.size = 1 → h1 l = some (o none) →
      S35_a2 G (setR 47 #[18] args r) h1 (fun e r2 h2 => e = .normal ∧ h2 l = some (o none) ∧ ∀ ob, isCells ob = false → S35_b2 G r2 (h2.set l ob) (fun e _ h3 => h3 l = some ob ∧ match e with
        | .normal => K1 (.bool true) (h3.set l (o none))
        | .panic _ => False
        | .outgrown => False
        | e => K1 (.bool false) (h3.set l (o (some e))))) →
      opH Tryd.prog G (xCallV y' args) h1 K1) :
    Yl cellV G y' (FY w l x6 x7 x8 v0 v1 (o none) sv bin) (FZ w l x6 x7 x8 v0 v1 (o (some .ret)) sv bin S) (goesOn S bin) := by
  rintro L m a q h pa s d
  have s1 := s.swap.split pa
  simp only [List.append_nil] at s1
  unfold FYs at s1
  refine hy #[cellV m] h _ rfl (s1.at 1 rfl set_self) ?_
  rw [setR1 (by decide)]
  unfold S35_a2
  simp -implicitDefEqProofs only [upd_eq, true_and, opH_su, opH_sv, al28, st28w]
  intro x hx gx
  try simp -implicitDefEqProofs only [opH_sv, opH_su, pureW_sv, opH_nil, pureW_nil, pick_t, pick_f, pick_tp, pick_fp, gd_tt, gd_ft, gd_tf, gd_ff, box_new, regs0, regs1, regs2, regs3, regs4, regs5, regs6, cells_agg, cells_int, cells_bool, cells_ptr, cells_slice, cells_string, cells_func, cells_nilFunc, cells_map, retK_ret, retK_normal, resL_tmp, resL_cell, resL_nil0, resL_nil1, resL_nil2, resL_nil3, resC_ptr, ex0, ex1, ex2, ex0p, ex1p, ex2p, HL.cond_true, HL.cond_false, thenK_normal, thenK_ret, thenK_exit, blockK_normal, blockK_ret, blockK_exit, scopeK_normal, scopeK_ret, scopeK_exit, wpH_pure, bin_add, bin_sub, bin_mul, bin_lss, bin_leq, bin_gtr, bin_geq, bin_quo, bin_rem, bin_quop, bin_remp, wrap_in, bin_addp, bin_subp, bin_mulp, bin_lssp, bin_leqp, bin_gtrp, bin_geqp, un_not, un_notp, un_neg, eq_int, ne_int, eq_intp, ne_intp, callV_fn, add_mk, upd_eq, upd_ne, cell_set_self, Nat.zero_add, Nat.add_zero, Option.some.injEq, exists_eq_left', List.getElem?_cons_succ, List.getElem?_cons_zero, true_and, and_true, bne_self_eq_false, beq_self_eq_true, Bool.not_true, Bool.not_false, Bool.and_true, Bool.and_self, Bool.and_false, Bool.true_and, List.length_cons, List.length_nil, ne_eq, not_false_eq_true, Nat.reduceAdd, Nat.reduceMul, if_true, if_false, oneCell_int, oneCell_bool, oneCell_ptr, oneCell_slice, oneCell_string, oneCell_func, oneCell_map, Int.toNat_natCast, List.set_cons_zero, List.set_cons_succ, Nat.lt_irrefl, Nat.zero_lt_succ, Nat.succ_lt_succ_iff, fa26_0, fa26_0p, fa26_1, fa26_1p, fa26_10, fa26_10p, fa26_11, fa26_11p, fa26_12, fa26_12p, fa26_13, fa26_13p, fa26_14, fa26_14p, fa26_15, fa26_15p, fa26_2, fa26_2p, fa26_3, fa26_3p, fa26_4, fa26_4p, fa26_5, fa26_5p, fa26_6, fa26_6p, fa26_7, fa26_7p, fa26_8, fa26_8p, fa26_9, fa26_9p, fa28_0, fa28_0p, fa28_1, fa28_1p, fa45_0, fa45_0p, fa45_1, fa45_1p, fa45_2, fa45_2p, fa45_3, fa45_3p, fa45_4, fa45_4p, fa45_5, fa45_5p, fa45_6, fa45_6p, fa49_0, fa49_0p, fa49_1, fa49_1p, fa74_0, fa74_0p, fa74_1, fa74_1p, fa74_2, fa74_2p, fa74_3, fa74_3p, fa85_0, fa85_0p, fa85_1, fa85_1p, fa93_0, fa93_0p, fa93_1, fa93_1p, fa93_2, fa93_2p, ld3, ld3p, ld4, ld4p, ld22, ld22p, ld23, ld23p, ld24, ld24p, ld26, ld26p, ld28, ld28p, ld42, ld42p, ld45, ld45p, ld49, ld49p, ld58, ld58p, ld69, ld69p, ld72, ld72p, ld85, ld85p, st3s, st4s, st22s, st23s, st24s, st26w, st28w, st42s, st45w, st49w, st85w, ix22, ix22p, ix23, ix23p, ix24, ix24p, ix31, ix31p, ix42, ix42p, ix104, ix104p, ln22, ln22p, ln23, ln23p, ln24, ln24p, ln31, ln31p, ln42, ln42p, al4, al22, al26, al28, al42, al49, al85, cf10, cf11, cf12, cf13, cf14, cf15, cf16, cf17, cf18, cf19, cf20, cf21, cf22, cf23, cf24, cf25, cf26, cf27, cf28, cf29, cf30, cf31, cf32, cf33, cf34, cf35, cf36, cf37, cf38, cf39, cf40, cf41, cf42, cf43, cf44, cf45, cf46, cf47, cf48, cf49, cf50, cf51, cf52, cf53, cf54, cf55, cf56, cf57, cf58, cf59, cf60, cf61, cf62, cf63, cf64, cf65, cf66, cf67, cf68, cf69, cf70, cf71, cf72, cf73, cf74, cf75, bd26_0_1_2_7_8_9_10_11_12_13_14_4_15, bd26_0_1_2_7_8_9_10_11_12_13_14_4_15p, bd28_, bd28_p, bd28_0, bd28_0p, bd28_0_1, bd28_0_1p, bd45_1_3_4_5_6, bd45_1_3_4_5_6p, bd49_0_1, bd49_0_1p, bd49_1, bd49_1p, bd74_0_1_2_3, bd74_0_1_2_3p, bd85_0, bd85_0p, bd85_0_1, bd85_0_1p, bd93_0_1_2, bd93_0_1_2p, bd94_0_1_2_3, bd94_0_1_2_3p, bs42_1_0, bs22_1_0, bs24_1_0, bs42_3_0_1_2, bs31_1_0, bs22_2_0_1, bs42_6_0_1_2_3_4_5, bs42_0_, eq4, eq4p, eq28, eq28p, eq42n, eq42np, eq42s, eq42sp, eq58n, eq58np, eq58s, eq58sp, eq63n, eq63np, eq63s, eq63sp, ne28, ne28p, ne45, ne45p]
  have sx := s1.new (o := cellO m) hx
  have d2 := d.set (o := cellO m) gx
  have nlx : l ≠ x := fun e => by rw [← e, s1.at 1 rfl set_self] at hx; cases hx
  refine ⟨by rw [set_other nlx]; exact s1.at 1 rfl set_self, fun ob hob => ?_⟩
  generalize Hp.set h x _ = h2 at sx d2 ⊢
  have s3 := (sx.pick 2 rfl rfl).put (o := ob) set_self
  rw [set_set] at s3
  have d3 : Dis G (h2.set l ob) := d2.set gl
  generalize Hp.set h2 l ob = h3 at s3 d3 ⊢
  have s4 : HL.Sep [noHp.set l ob, noHp.set x (cellO m), q, noHp.set x6 (cellO (0, 0)), noHp.set x7 (ivO (.slice none 0 0)), noHp.set x8 (boolO false), w, noHp.set v0 (svO sv), noHp.set v1 (inO bin)] h3 := s3
  clear s3 sx s1 d2 d
  have hl3 : h3 l = some ob := s4.at 0 rfl set_self
  have hx3 : h3 x = some (cellO m) := s4.at 1 rfl set_self
  have cx : ∀ j, cellIn G h3 ⟨x, j, none⟩ = _ := fun j => cell_of (look_own hx3)
  have c0 : ∀ j, cellIn G h3 ⟨v0, j, none⟩ = _ := fun j => cell_of (look_own (s4.at 7 rfl set_self))
  have c1 : ∀ j, cellIn G h3 ⟨v1, j, none⟩ = _ := fun j => cell_of (look_own (s4.at 8 rfl set_self))
  have hlast : (L ++ [m]).getLast? = some m := by simp
  have ss3 := (hss G).up (s4.in 6 rfl) d3
  have goon : bin ∉ binsL S m → h3 l = some ob ∧ ∃ a', Value.bool true = Value.bool (goesOn S bin (L ++ [m])) ∧ HL.Sep [a', q] (h3.set l (o none)) ∧ Dis G (h3.set l (o none)) ∧ (if goesOn S bin (L ++ [m]) = true then FY w l x6 x7 x8 v0 v1 (o none) sv bin (L ++ [m]) a' else FZ w l x6 x7 x8 v0 v1 (o (some .ret)) sv bin S (L ++ [m]) a') := by
    intro hn
    have eg : goesOn S bin (L ++ [m]) = true := by unfold goesOn; rw [hlast]; exact decide_eq_true hn
    refine ⟨hl3, ?_⟩
    have s6 := s4.put (o := o none) set_self
    rw [set_set] at s6
    have s7 := (s6.pick 1 rfl rfl).drop
    have s8 : HL.Sep (FYs w l x6 x7 x8 v0 v1 (o none) sv bin (0, 0) (.slice none 0 0) false ++ [q]) (h3.set l (o none)) := permute s7 (List.Perm.cons _ (List.perm_append_comm (l₁ := [q])))
    obtain ⟨a', s9, t9⟩ := packAll s8
    exact ⟨a', by rw [eg], s9, d3.set gl, by rw [eg, if_pos rfl]; exact t9⟩
  unfold S35_b2
  try simp -implicitDefEqProofs (disch := first | with_reducible exact Nat.ne_of_beq_eq_false rfl | omega) only [upd_ne, r4, upd_eq, opH_sv, cf59, ld24, c0, List.getElem?_cons_zero, Option.some.injEq, exists_eq_left']
  refine (indexs_spec (c := m) ss3 hx3 hS).mono ?_
  rintro _ h3 ⟨⟨n, rfl, fS⟩, rfl⟩
  rcases firstS fS with ⟨rfl, e1⟩ | ⟨i, st, rfl, hs, e1⟩
  · try simp -implicitDefEqProofs only [bin_lss, show decide ((-1 : Int) < 0) = true from rfl, HL.cond_true]
    exact goon (by rw [e1]; simp)
  try simp -implicitDefEqProofs (disch := first | with_reducible exact Nat.ne_of_beq_eq_false rfl | omega) only [bin_lss, decide_eq_false (show ¬(i : Int) < 0 by omega), HL.cond_false]
  unfold S35_b2_k3
  obtain ⟨sa, sc, rfl, raw, sr, srr⟩ := ss3
  have hil : (i : Int) < S.length := by have := (List.getElem?_eq_some_iff.1 hs).1; omega
  have hrl : raw.length = S.length := by
    obtain ⟨s', cap', e⟩ := sr.len
    simp at e
    omega
  obtain ⟨rr, hr⟩ : ∃ r, raw[i]? = some r := ⟨_, List.getElem?_eq_getElem (by omega)⟩
  obtain ⟨er, en, eb⟩ := srr i rr st hr hs
  obtain ⟨b, of, cc, e3, e4⟩ := sr.get hr
  simp only [Value.slice.injEq] at e3
  obtain ⟨rfl, -, -⟩ := e3
  have z2 := e4 2 (by decide)
  simp only [rawC, Nat.add_zero, List.getElem?_cons_zero, List.getElem?_cons_succ] at z2
  have hbl : st.2.length ≤ 17592186044320 := hB st (List.mem_of_getElem? hs)
  rw [← en] at eb
  try simp -implicitDefEqProofs (disch := first | with_reducible exact Nat.ne_of_beq_eq_false rfl | omega) only [upd_ne, r4, upd_eq, r5, opH_sv, cf61, pureW_sv, ld3p, c1, List.getElem?_cons_zero, Option.some.injEq, exists_eq_left', ld24p, c0, ix24p, Int.toNat_natCast, add_mk, fa49_1p, ld42p, z2]
  refine (indexi_spec (c := bin) (show Sees icC G h3 (.slice rr.a rr.n rr.c) st.2 from eb) (by omega)).mono ?_
  rintro _ h3 ⟨⟨n, rfl, fI⟩, rfl⟩
  rcases firstI fI with ⟨rfl, hni⟩ | ⟨p, rfl, hp, hmem, hidx⟩
  · try simp -implicitDefEqProofs (disch := first | with_reducible exact Nat.ne_of_beq_eq_false rfl | omega) only [bin_lss, show decide ((-1 : Int) < 0) = true from rfl, HL.cond_true]
    exact goon (by rw [e1]; exact hni)
  try simp -implicitDefEqProofs (disch := first | with_reducible exact Nat.ne_of_beq_eq_false rfl | omega) only [bin_lss, decide_eq_false (show ¬(p : Int) < 0 by omega), HL.cond_false]
  unfold S35_b2_k4
  try simp -implicitDefEqProofs (disch := first | with_reducible exact Nat.ne_of_beq_eq_false rfl | omega) only [upd_ne, r4, upd_eq, opH_su, opH_sv, ld28, add_mk, Nat.add_zero, Nat.zero_add, cf63, cf62, bin_add, wrap_in, ld24, c0, List.getElem?_cons_zero, Option.some.injEq, exists_eq_left', ix24 (Int.natCast_nonneg i) hil, Int.toNat_natCast, fa49_1, ld42, z2]
  have ew : IntKind.i64.wrap ((p : Int) + 1) = ((p + 1 : Nat) : Int) := by rw [wrap_in (by omega) (by omega)]; omega
  refine sees_from (c := icC) (L := st.2) (j := ((p : Int) + 1)) un42 sz3 eb (fun e => by rw [e] at hp; simp at hp) (by omega) (by omega) fun v5 s5 => ?_
  refine (clone_spec s5 (by simp; omega)).mono ?_
  rintro v6 h6 ⟨io, o6, s6, d6⟩
  have s7 := HL.Sep.split s6 s4
  rw [List.append_nil] at s7
  refine (revi_spec s7 o6 (by simp; omega)).mono ?_
  rintro _ h8 ⟨io8, o8, s8, d8⟩
  rw [show (st.2.drop ((p : Int) + 1).toNat).reverse = aboveL (binsL S m) bin by unfold aboveL; rw [e1, hidx]; rfl] at o8
  have hx8 : h8 x = some (cellO m) := s8.at 2 rfl set_self
  have cx8 : ∀ j, cellIn G h8 ⟨x, j, none⟩ = _ := fun j => cell_of (look_own hx8)
  try simp -implicitDefEqProofs only [cx8, List.getElem?_cons_zero, Option.some.injEq, List.getElem?_cons_succ, r6, r7, r8, exists_eq_left']
  obtain ⟨va, vc, rfl, _⟩ := o8.len (by decide)
  rw [st_cell (m := m) (s8.at 4 rfl set_self)]
  have s9 := (s8.pick 4 rfl rfl).put (o := cellO m) set_self
  rw [set_set] at s9
  have d9 := d8.set (o := cellO m) (d8 _ _ (s8.at 4 rfl set_self))
  generalize Hp.set h8 x6 _ = h9 at s9 d9 ⊢
  rw [st_iv (s9.at 5 rfl set_self)]
  have s10 := (s9.pick 5 rfl rfl).put (o := ivO (.slice va (aboveL (binsL S m) bin).length vc)) set_self
  rw [set_set] at s10
  have d10 := d9.set (o := ivO (.slice va (aboveL (binsL S m) bin).length vc)) (d9 _ _ (s9.at 5 rfl set_self))
  generalize Hp.set h9 x7 _ = h10 at s10 d10 ⊢
  rw [st_bool (s10.at 6 rfl set_self)]
  have s11 := (s10.pick 6 rfl rfl).put (o := boolO true) set_self
  rw [set_set] at s11
  have d11 := d10.set (o := boolO true) (d10 _ _ (s10.at 6 rfl set_self))
  generalize Hp.set h10 x8 _ = h11 at s11 d11 ⊢
  have eg : goesOn S bin (L ++ [m]) = false := by unfold goesOn; rw [hlast]; exact decide_eq_false (by rw [e1]; simpa using hmem)
  refine ⟨s11.at 4 rfl set_self, ?_⟩
  have s12 := (s11.pick 4 rfl rfl).put (o := o (some .ret)) set_self
  rw [set_set] at s12
  have s13 := (s12.pick 5 rfl rfl).drop
  have s14 := ((((((((s13.pick 5 rfl rfl).pick 5 rfl rfl).pick 8 rfl rfl).pick 8 rfl rfl).pick 8 rfl rfl).pick 6 rfl rfl).pick 7 rfl rfl).pick 8 rfl rfl).pick 8 rfl rfl
  obtain ⟨a', s15, t15⟩ := packAll (L := FYs w l x6 x7 x8 v0 v1 (o (some .ret)) (.slice (some ⟨b, of, none⟩) S.length sc) bin m (.slice va (aboveL (binsL S m) bin).length vc) true ++ [io8]) (q := q) s14
  exact ⟨a', by rw [eg], s15, d11.set gl, by rw [eg, if_neg (by decide)]; exact ⟨m, io8, _, hlast, by rw [e1]; exact hmem, o8, t15⟩⟩

end Go.Proofs.YtangejiigopdaaaDoor
end

section
/- A bin found: the walk. -/
set_option linter.unusedSimpArgs false
set_option linter.unusedVariables false
set_option maxRecDepth 100000
namespace Go.Proofs.YtangejiigopdaaaDoor
open Go Go.HL

theorem feed_find {S : List Stk} {bin : Int} : ∀ {M L : List Cell}, (findIn S bin M = none ∧ feed (goesOn S bin) L M = (L ++ M, true)) ∨ (∃ c N, findIn S bin M = some (c, aboveL (binsL S c) bin) ∧ feed (goesOn S bin) L M = (N, false) ∧ N.getLast? = some c)
  | [], L => .inl ⟨rfl, by simp [feed]⟩
  | c :: M, L => by
    have hl : (L ++ [c]).getLast? = some c := by simp
    by_cases hb : bin ∈ binsL S c
    · have hg : goesOn S bin (L ++ [c]) = false := by unfold goesOn; rw [hl]; exact decide_eq_false (by simpa using hb)
      exact .inr ⟨c, L ++ [c], by rw [findIn, if_pos hb], feed_f hg, hl⟩
    · have hg : goesOn S bin (L ++ [c]) = true := by unfold goesOn; rw [hl]; exact decide_eq_true hb
      rw [findIn, if_neg hb, feed_t hg]
      rcases feed_find (M := M) (L := L ++ [c]) with ⟨h1, h2⟩ | h
      · exact .inl ⟨h1, by rw [h2]; simp⟩
      · exact .inr h

set_option maxHeartbeats 4000000 in
theorem find_in {G h ya ga w : Hp} {yp gp kb mb wn k : Nat} {f : Nat → Nat → Int} {ht bin : Int} {hv : Cell → Int} {is : Cell → Bool} {S : List Stk} {sv tv : Value} (s : HL.Sep [ya, ga, w] h) (yo : YardO ya yp gp mb ht tv hv is) (go : GO ga gp kb wn k f) (hss : ∀ G, StS G w sv S) (hS : S.length ≤ 100000000000000) (hB : ∀ s ∈ S, s.2.length ≤ 17592186044320) :
    HCalls Tryd.prog G 35 #[.pointer (some ⟨yp, 0, none⟩), sv, .int .i64 bin] h (fun u h' => Dis G h' ∧ ((findIn S bin (stacksW wn k f) = none ∧ u = .tuple #[cellV (0, 0), .slice none 0 0, .bool false] ∧ HL.Sep [ya, ga, w] h') ∨
      (∃ c io vv, findIn S bin (stacksW wn k f) = some (c, aboveL (binsL S c) bin) ∧ bin ∈ binsL S c ∧ u = .tuple #[cellV c, vv, .bool true] ∧ Slc icC 3 io vv (aboveL (binsL S c) bin) ∧ HL.Sep [io, ya, ga, w] h'))) := by
  obtain ⟨sa, sc, rfl, _⟩ := hss G
  refine HCalls.assume fun d => enter35 (by simp) ?_
  unfold S35
  simp -implicitDefEqProofs only [regs1, regs2, regs0, cf30, opH_sv, opH_nil, fa74_1, add_mk, Nat.zero_add, ld58, al4, al42, al28, box_new, cells_int, cells_slice]
  intro v0 hv0 gv0 v1 hv1 gv1 x6 hx6 gx6 x7 hx7 gx7 x8 hx8 gx8
  have s1 := s.new (o := svO (.slice sa S.length sc)) hv0
  have d1 := d.set (o := svO (.slice sa S.length sc)) gv0
  generalize Hp.set h v0 _ = h1 at s1 d1 hv1 hx6 hx7 hx8 ⊢
  have s2 := s1.new (o := inO bin) hv1
  have d2 := d1.set (o := inO bin) gv1
  generalize Hp.set h1 v1 _ = h2 at s2 d2 hx6 hx7 hx8 ⊢
  have s3 := s2.new (o := cellO (0, 0)) hx6
  have d3 := d2.set (o := cellO (0, 0)) gx6
  generalize Hp.set h2 x6 _ = h3 at s3 d3 hx7 hx8 ⊢
  have s4 := s3.new (o := ivO (.slice none 0 0)) hx7
  have d4 := d3.set (o := ivO (.slice none 0 0)) gx7
  generalize Hp.set h3 x7 _ = h4 at s4 d4 hx8 ⊢
  have s5 := s4.new (o := boolO false) hx8
  have d5 := d4.set (o := boolO false) gx8
  generalize Hp.set h4 x8 _ = h5 at s5 d5 ⊢
  have s8 : HL.Sep [noHp.set x8 (boolO false), noHp.set x7 (ivO (.slice none 0 0)), noHp.set x6 (cellO (0, 0)), noHp.set v1 (inO bin), noHp.set v0 (svO (.slice sa S.length sc)), ya, ga, w] h5 := s5
  clear s5 s4 s3 s2 s1 d4 d3 d2 d1 hx8 hx7 hx6 hv1 hv0
  obtain ⟨om, C, ab, cb, ap, cp, ar, cr, az, cs, ty, mi⟩ := id yo
  have cyp : ∀ j, cellIn G h5 ⟨yp, j, none⟩ = _ := fun j => cell_of (look_own (s8.in 5 rfl _ _ (ty.at 0 rfl set_self)))
  try simp -implicitDefEqProofs only [cyp, List.getElem?_cons_succ, List.getElem?_cons_zero, Option.some.injEq, exists_eq_left']
  refine stacks_new.mono ?_
  rintro _ _ ⟨b1, rfl, hb1, gb1, rfl⟩
  have s9 := s8.new (o := .cells #[.pointer (some ⟨gp, 0, none⟩)] 58 (0, 0)) hb1
  have d9 := d5.set (o := .cells #[.pointer (some ⟨gp, 0, none⟩)] 58 (0, 0)) gb1
  generalize Hp.set h5 b1 _ = h9 at s9 d9 ⊢
  intro y' l o hl gl ho HY
  rw [opE55]
  have s10 := s9.new (o := o none) hl
  have d10 := d9.set (o := o none) gl
  generalize Hp.set h9 l _ = h10 at s10 d10 ⊢
  -- [l, b1, x8, x7, x6, v1, v0, ya, ga, w]
  have s11 := (((((((((s10.pick 5 rfl rfl).pick 6 rfl rfl).pick 9 rfl rfl).pick 5 rfl rfl).pick 6 rfl rfl).pick 7 rfl rfl).pick 6 rfl rfl).pick 8 rfl rfl).pick 8 rfl rfl).pick 9 rfl rfl
  have s12 : HL.Sep (ga :: noHp.set b1 (.cells #[.pointer (some ⟨gp, 0, none⟩)] 58 (0, 0)) :: ya :: FYs w l x6 x7 x8 v0 v1 (o none) (.slice sa S.length sc) bin (0, 0) (.slice none 0 0) false) h10 := s11
  obtain ⟨qq, s13, tq⟩ := s12.pack3
  obtain ⟨aa, s14, ta⟩ := packAll (permute s13 (List.perm_append_comm (l₁ := [qq])))
  refine (stacks1_spec (find_yield gl ho hss hS hB (by simp -implicitDefEqProofs (disch := first | with_reducible exact Nat.ne_of_beq_eq_false rfl | omega) only [upd_ne, upd_eq]) (by simp -implicitDefEqProofs (disch := first | with_reducible exact Nat.ne_of_beq_eq_false rfl | omega) only [upd_ne, upd_eq]) (by simp -implicitDefEqProofs (disch := first | with_reducible exact Nat.ne_of_beq_eq_false rfl | omega) only [upd_ne, upd_eq]) (by simp -implicitDefEqProofs (disch := first | with_reducible exact Nat.ne_of_beq_eq_false rfl | omega) only [upd_ne, upd_eq]) (by simp -implicitDefEqProofs (disch := first | with_reducible exact Nat.ne_of_beq_eq_false rfl | omega) only [upd_ne, upd_eq]) HY) (show FY w l x6 x7 x8 v0 v1 (o none) (.slice sa S.length sc) bin [] aa from ta) s14 (tq.at 1 rfl set_self) ((go.gs (G := G)).up (tq.in 0 rfl) (fun b o e => d10 b o (s14.in 1 rfl _ _ e)))).mono ?_
  rintro _ h12 ⟨a12, s15, d15, z⟩
  rcases feed_find (S := S) (bin := bin) (M := stacksW wn k f) (L := []) with ⟨e1, e2⟩ | ⟨c, N, e1, e2, e3⟩
  · rw [e2] at z
    have z' : HL.Sep (FYs w l x6 x7 x8 v0 v1 (o none) (.slice sa S.length sc) bin (0, 0) (.slice none 0 0) false) a12 := z
    have s16 := HL.Sep.split s15.swap z'
    have s17 := HL.Sep.split (s16.swap) tq
    have s18 : HL.Sep ([ga, noHp.set b1 (.cells #[.pointer (some ⟨gp, 0, none⟩)] 58 (0, 0)), ya, noHp.set x6 (cellO (0, 0)), noHp.set x7 (ivO (.slice none 0 0)), noHp.set x8 (boolO false), w, noHp.set v0 (svO (.slice sa S.length sc)), noHp.set v1 (inO bin)] ++ [noHp.set l (o none)]) h12 := permute s17 (List.perm_append_comm (l₁ := [noHp.set l (o none)]))
    obtain ⟨a20, s20, t20⟩ := packAll s18
    refine ⟨a20, s20.in 0 rfl, ?_, .inl ⟨s20.at 1 rfl set_self, ?_⟩⟩
    · rcases s20.apart (b := noHp.set l (o none)) (by simp) l with e | e
      · exact e
      · rw [set_self] at e; cases e
    have d20 : Dis G a20 := fun b o e => d15 b o (s20.in 0 rfl _ _ e)
    try simp -implicitDefEqProofs only [blockK_normal, thenK_normal]
    unfold S35_k1
    try simp -implicitDefEqProofs (disch := first | with_reducible exact Nat.ne_of_beq_eq_false rfl | omega) only [upd_ne, upd_eq, retK_ret, resL_cell, resC_ptr, resL_nil3, ld4, ld42, ld28, add_mk, Nat.add_zero, Nat.zero_add, opH_su, opH_sv, bd28_]
    rw [st_cell (m := (0, 0)) (t20.at 3 rfl set_self)]
    have t21 := (t20.pick 3 rfl rfl).put (o := cellO (0, 0)) set_self
    rw [set_set] at t21
    have d21 := d20.set (o := cellO (0, 0)) (d20 _ _ (t20.at 3 rfl set_self))
    generalize Hp.set a20 x6 _ = h21 at t21 d21 ⊢
    rw [st_iv (t21.at 4 rfl set_self)]
    have t22 := (t21.pick 4 rfl rfl).put (o := ivO (.slice none 0 0)) set_self
    rw [set_set] at t22
    have d22 := d21.set (o := ivO (.slice none 0 0)) (d21 _ _ (t21.at 4 rfl set_self))
    generalize Hp.set h21 x7 _ = h22 at t22 d22 ⊢
    rw [st_bool (t22.at 5 rfl set_self)]
    have t23 := (t22.pick 5 rfl rfl).put (o := boolO false) set_self
    rw [set_set] at t23
    have d23 := d22.set (o := boolO false) (d22 _ _ (t22.at 5 rfl set_self))
    generalize Hp.set h22 x8 _ = h23 at t23 d23 ⊢
    -- [x8, x7, x6, ga, b1, ya, w, v0, v1]
    have q8 : ∀ j, cellIn G h23 ⟨x8, j, none⟩ = _ := fun j => cell_of (look_own (t23.at 0 rfl set_self))
    have q7 : ∀ j, cellIn G h23 ⟨x7, j, none⟩ = _ := fun j => cell_of (look_own (t23.at 1 rfl set_self))
    have q6 : ∀ j, cellIn G h23 ⟨x6, j, none⟩ = _ := fun j => cell_of (look_own (t23.at 2 rfl set_self))
    try simp -implicitDefEqProofs only [q6, List.getElem?_cons_zero, Option.some.injEq, List.getElem?_cons_succ, q7, q8, exists_eq_left', true_and]
    exact ⟨d23, .inl ⟨e1, (((t23.pick 6 rfl rfl).pick 4 rfl rfl).pick 6 rfl rfl).take 3 rfl⟩⟩
  · rw [e2] at z
    have z' : FZ w l x6 x7 x8 v0 v1 (o (some .ret)) (.slice sa S.length sc) bin S N a12 := z
    obtain ⟨c', io, vv, hl', hmem, ov, sz⟩ := z'
    rw [e3] at hl'
    cases hl'
    have s16 := HL.Sep.split s15.swap sz
    have s17 := HL.Sep.split (s16.swap) tq
    have s18 : HL.Sep ([ga, noHp.set b1 (.cells #[.pointer (some ⟨gp, 0, none⟩)] 58 (0, 0)), ya, noHp.set x6 (cellO c), noHp.set x7 (ivO vv), noHp.set x8 (boolO true), w, noHp.set v0 (svO (.slice sa S.length sc)), noHp.set v1 (inO bin), io] ++ [noHp.set l (o (some .ret))]) h12 := permute s17 (List.perm_append_comm (l₁ := [noHp.set l (o (some .ret))]))
    obtain ⟨a20, s20, t20⟩ := packAll s18
    refine ⟨a20, s20.in 0 rfl, ?_, .inr ⟨.ret, trivial, s20.at 1 rfl set_self, ?_⟩⟩
    · rcases s20.apart (b := noHp.set l (o (some .ret))) (by simp) l with e | e
      · exact e
      · rw [set_self] at e; cases e
    have d20 : Dis G a20 := fun b o e => d15 b o (s20.in 0 rfl _ _ e)
    have q6 : ∀ j, cellIn G a20 ⟨x6, j, none⟩ = _ := fun j => cell_of (look_own (t20.at 3 rfl set_self))
    have q7 : ∀ j, cellIn G a20 ⟨x7, j, none⟩ = _ := fun j => cell_of (look_own (t20.at 4 rfl set_self))
    have q8 : ∀ j, cellIn G a20 ⟨x8, j, none⟩ = _ := fun j => cell_of (look_own (t20.at 5 rfl set_self))
    try simp -implicitDefEqProofs (disch := first | with_reducible exact Nat.ne_of_beq_eq_false rfl | omega) only [blockK_ret, thenK_ret, retK_ret, resL_cell, upd_ne, upd_eq, resC_ptr, resL_nil3, ld4, ld42, ld28, add_mk, Nat.add_zero, q6, List.getElem?_cons_zero, Option.some.injEq, Nat.zero_add, List.getElem?_cons_succ, q7, q8, exists_eq_left']
    exact ⟨d20, .inr ⟨c, io, vv, e1, hmem, rfl, ov, ((((t20.pick 6 rfl rfl).pick 1 rfl rfl).pick 3 rfl rfl).pick 9 rfl rfl).take 4 rfl⟩⟩

end Go.Proofs.YtangejiigopdaaaDoor
end

section
/- Jobs in a row; the row turned round. -/
set_option linter.unusedSimpArgs false
set_option linter.unusedVariables false
set_option maxRecDepth 100000
namespace Go.Proofs.YtangejiigopdaaaDoor
open Go Go.HL

structure Job where
  id : Int
  kind : Int
  order : Int
  bin : Int
  fx : Int
  fy : Int
  tx : Int
  ty : Int
  robot : Int
def jobL (j : Job) : List Value := [.int .i64 j.id, .int .i64 j.kind, .int .i64 j.order, .int .i64 j.bin, .int .i64 j.fx, .int .i64 j.fy, .int .i64 j.tx, .int .i64 j.ty, .int .i64 j.robot]
def jobC : Cod Job := ⟨9, jobL, fun _ => rfl, fun _ v hv => by simp [jobL] at hv; rcases hv with rfl | rfl | rfl | rfl | rfl | rfl | rfl | rfl | rfl <;> rfl⟩
abbrev jobV (j : Job) : Value := .agg #[.int .i64 j.id, .int .i64 j.kind, .int .i64 j.order, .int .i64 j.bin, .int .i64 j.fx, .int .i64 j.fy, .int .i64 j.tx, .int .i64 j.ty, .int .i64 j.robot]
theorem eojob : ElemOk Tryd.prog 45 jobC.n 72 := eo45
theorem Sees.job {G h : Hp} {sa : Option Addr} {cap n : Nat} {L : List Job} (s : Sees jobC G h (.slice sa n cap) L) {i : Nat} {x : Job} (hx : L[i]? = some x) :
    ∃ b o, sa = some ⟨b, o, none⟩ ∧ cellIn G h ⟨b, o + i * 9, none⟩ = some (.int .i64 x.id) ∧ cellIn G h ⟨b, o + i * 9 + 1, none⟩ = some (.int .i64 x.kind) ∧ cellIn G h ⟨b, o + i * 9 + 2, none⟩ = some (.int .i64 x.order) ∧ cellIn G h ⟨b, o + i * 9 + 3, none⟩ = some (.int .i64 x.bin) ∧
      cellIn G h ⟨b, o + i * 9 + 4, none⟩ = some (.int .i64 x.fx) ∧ cellIn G h ⟨b, o + i * 9 + 5, none⟩ = some (.int .i64 x.fy) ∧ cellIn G h ⟨b, o + i * 9 + 6, none⟩ = some (.int .i64 x.tx) ∧ cellIn G h ⟨b, o + i * 9 + 7, none⟩ = some (.int .i64 x.ty) ∧ cellIn G h ⟨b, o + i * 9 + 8, none⟩ = some (.int .i64 x.robot) := by
  obtain ⟨b, o, c, e1, e2⟩ := s.get hx
  simp only [Value.slice.injEq] at e1
  obtain ⟨rfl, -, -⟩ := e1
  exact ⟨b, o, rfl, e2 0 (by decide), e2 1 (by decide), e2 2 (by decide), e2 3 (by decide), e2 4 (by decide), e2 5 (by decide), e2 6 (by decide), e2 7 (by decide), e2 8 (by decide)⟩

/-- A job stored in a row. -/
theorem st_job {G h : Hp} {b i : Nat} {M : List Job} {t : List Value} {j : Job} {K : Unit → Hp → Prop} (hb : h b = some (.cells (jobC.rows M ++ t).toArray 45 (0, 0))) (hi : i < M.length) :
    wpH Tryd.prog G (Instr.storeAt 45 (.pointer (some ⟨b, i * 9, none⟩)) (jobV j)) h K = K () (h.set b (.cells (jobC.rows (M.set i j) ++ t).toArray 45 (0, 0))) := by
  rw [store_eq (n := 9) sz45 hb rfl (by rw [List.length_append, jobC.rows_length, show jobC.n = 9 from rfl]; omega) (by intro v hv; simp [Value.cells] at hv; rcases hv with rfl | rfl | rfl | rfl | rfl | rfl | rfl | rfl | rfl <;> rfl)]
  have := jobC.rows_put (t := t) (x := j) hi
  rw [← this]
  rfl

set_option maxHeartbeats 4000000 in
theorem revj_spec {G h a : Hp} {R : List Hp} {v : Value} {L : List Job} (s : HL.Sep (a :: R) h) (o : Slc jobC 45 a v L) (hL : L.length ≤ 100000) : HCalls Tryd.prog G 38 #[v] h (fun u h' => ∃ a', Slc jobC 45 a' v L.reverse ∧ HL.Sep (a' :: R) h' ∧ Dis G h') := by
  refine HCalls.assume fun d => enter38 (by simp) ?_
  unfold S38
  obtain ⟨sa, cap, rfl, _⟩ := o.len (by decide)
  simp -implicitDefEqProofs (disch := first | with_reducible exact Nat.ne_of_beq_eq_false rfl | omega) only [regs0, opH_sv, ln31, bin_sub, wrap_in]
  generalize hKK : retK Tryd.prog G _ _ = KK
  refine loop_I (fun m q h3 => ∃ (i : Nat) (a : Hp) (M : List Job), m = L.length - i ∧ 2 * i ≤ L.length + 1 ∧ q 0 = .slice sa L.length cap ∧ q 2 = .int .i64 i ∧ q 3 = .int .i64 ((L.length : Int) - 1 - i) ∧ Slc jobC 45 a (.slice sa L.length cap) M ∧ Flipped L M i ∧ HL.Sep (a :: R) h3 ∧ Dis G h3) ?_
    (m := L.length) ⟨0, a, L, rfl, by omega, by simp -implicitDefEqProofs (maxSteps := 2000000) (disch := first | with_reducible exact Nat.ne_of_beq_eq_false rfl | exact oneCell_int | exact oneCell_bool | omega | rfl | (simp; done) | fail) only [upd_ne, regs0], by simp -implicitDefEqProofs (maxSteps := 2000000) (disch := first | with_reducible exact Nat.ne_of_beq_eq_false rfl | exact oneCell_int | exact oneCell_bool | omega | rfl | (simp; done) | fail) only [upd_ne, upd_eq] <;> rfl, by simp -implicitDefEqProofs (maxSteps := 2000000) (disch := first | with_reducible exact Nat.ne_of_beq_eq_false rfl | exact oneCell_int | exact oneCell_bool | omega | rfl | (simp; done) | fail) only [upd_eq]; simp, o, Flipped.zero, s, d⟩
  clear s o d
  rintro m q h3 ⟨i, a, M, rfl, hi, q0, q2, q3, o, fl, s3, d3⟩ X HX
  unfold S38_l1
  simp -implicitDefEqProofs only [q2, q3, thenK_exit, blockK_exit, if_true, opH_sv, bin_lss]
  refine cond_dec (fun hlt => ?_) (fun hge => ?_)
  rotate_left
  · try simp -implicitDefEqProofs only [opH_sv, opH_su, pureW_sv, opH_nil, pureW_nil, pick_t, pick_f, pick_tp, pick_fp, gd_tt, gd_ft, gd_tf, gd_ff, box_new, regs0, regs1, regs2, regs3, regs4, regs5, regs6, cells_agg, cells_int, cells_bool, cells_ptr, cells_slice, cells_string, cells_func, cells_nilFunc, cells_map, retK_ret, retK_normal, resL_tmp, resL_cell, resL_nil0, resL_nil1, resL_nil2, resL_nil3, resC_ptr, ex0, ex1, ex2, ex0p, ex1p, ex2p, HL.cond_true, HL.cond_false, thenK_normal, thenK_ret, thenK_exit, blockK_normal, blockK_ret, blockK_exit, scopeK_normal, scopeK_ret, scopeK_exit, wpH_pure, bin_add, bin_sub, bin_mul, bin_lss, bin_leq, bin_gtr, bin_geq, bin_quo, bin_rem, bin_quop, bin_remp, wrap_in, bin_addp, bin_subp, bin_mulp, bin_lssp, bin_leqp, bin_gtrp, bin_geqp, un_not, un_notp, un_neg, eq_int, ne_int, eq_intp, ne_intp, callV_fn, add_mk, upd_eq, upd_ne, cell_set_self, Nat.zero_add, Nat.add_zero, Option.some.injEq, exists_eq_left', List.getElem?_cons_succ, List.getElem?_cons_zero, true_and, and_true, bne_self_eq_false, beq_self_eq_true, Bool.not_true, Bool.not_false, Bool.and_true, Bool.and_self, Bool.and_false, Bool.true_and, List.length_cons, List.length_nil, ne_eq, not_false_eq_true, Nat.reduceAdd, Nat.reduceMul, if_true, if_false, oneCell_int, oneCell_bool, oneCell_ptr, oneCell_slice, oneCell_string, oneCell_func, oneCell_map, Int.toNat_natCast, List.set_cons_zero, List.set_cons_succ, Nat.lt_irrefl, Nat.zero_lt_succ, Nat.succ_lt_succ_iff, fa26_0, fa26_0p, fa26_1, fa26_1p, fa26_10, fa26_10p, fa26_11, fa26_11p, fa26_12, fa26_12p, fa26_13, fa26_13p, fa26_14, fa26_14p, fa26_15, fa26_15p, fa26_2, fa26_2p, fa26_3, fa26_3p, fa26_4, fa26_4p, fa26_5, fa26_5p, fa26_6, fa26_6p, fa26_7, fa26_7p, fa26_8, fa26_8p, fa26_9, fa26_9p, fa28_0, fa28_0p, fa28_1, fa28_1p, fa45_0, fa45_0p, fa45_1, fa45_1p, fa45_2, fa45_2p, fa45_3, fa45_3p, fa45_4, fa45_4p, fa45_5, fa45_5p, fa45_6, fa45_6p, fa49_0, fa49_0p, fa49_1, fa49_1p, fa74_0, fa74_0p, fa74_1, fa74_1p, fa74_2, fa74_2p, fa74_3, fa74_3p, fa85_0, fa85_0p, fa85_1, fa85_1p, fa93_0, fa93_0p, fa93_1, fa93_1p, fa93_2, fa93_2p, ld3, ld3p, ld4, ld4p, ld22, ld22p, ld23, ld23p, ld24, ld24p, ld26, ld26p, ld28, ld28p, ld42, ld42p, ld45, ld45p, ld49, ld49p, ld58, ld58p, ld69, ld69p, ld72, ld72p, ld85, ld85p, st3s, st4s, st22s, st23s, st24s, st26w, st28w, st42s, st45w, st49w, st85w, ix22, ix22p, ix23, ix23p, ix24, ix24p, ix31, ix31p, ix42, ix42p, ix104, ix104p, ln22, ln22p, ln23, ln23p, ln24, ln24p, ln31, ln31p, ln42, ln42p, al4, al22, al26, al28, al42, al49, al85, cf10, cf11, cf12, cf13, cf14, cf15, cf16, cf17, cf18, cf19, cf20, cf21, cf22, cf23, cf24, cf25, cf26, cf27, cf28, cf29, cf30, cf31, cf32, cf33, cf34, cf35, cf36, cf37, cf38, cf39, cf40, cf41, cf42, cf43, cf44, cf45, cf46, cf47, cf48, cf49, cf50, cf51, cf52, cf53, cf54, cf55, cf56, cf57, cf58, cf59, cf60, cf61, cf62, cf63, cf64, cf65, cf66, cf67, cf68, cf69, cf70, cf71, cf72, cf73, cf74, cf75, bd26_0_1_2_7_8_9_10_11_12_13_14_4_15, bd26_0_1_2_7_8_9_10_11_12_13_14_4_15p, bd28_, bd28_p, bd28_0, bd28_0p, bd28_0_1, bd28_0_1p, bd45_1_3_4_5_6, bd45_1_3_4_5_6p, bd49_0_1, bd49_0_1p, bd49_1, bd49_1p, bd74_0_1_2_3, bd74_0_1_2_3p, bd85_0, bd85_0p, bd85_0_1, bd85_0_1p, bd93_0_1_2, bd93_0_1_2p, bd94_0_1_2_3, bd94_0_1_2_3p, bs42_1_0, bs22_1_0, bs24_1_0, bs42_3_0_1_2, bs31_1_0, bs22_2_0_1, bs42_6_0_1_2_3_4_5, bs42_0_, eq4, eq4p, eq28, eq28p, eq42n, eq42np, eq42s, eq42sp, eq58n, eq58np, eq58s, eq58sp, eq63n, eq63np, eq63s, eq63sp, ne28, ne28p, ne45, ne45p]
    rw [← hKK]
    try simp -implicitDefEqProofs only [retK_normal, resL_nil0]
    rw [fl.all (by omega)] at o
    exact ⟨a, o, s3, d3⟩
  have hij : 2 * i + 1 < L.length := by omega
  obtain ⟨j, ej⟩ : ∃ j : Nat, j = L.length - 1 - i := ⟨_, rfl⟩
  have ejn : (L.length : Int) - 1 - (i : Int) = (j : Int) := by omega
  rw [ejn] at q3
  have hil : (i : Int) < L.length := by omega
  have hjl : (j : Int) < L.length := by omega
  obtain ⟨x, hx⟩ : ∃ x, M[i]? = some x := ⟨_, List.getElem?_eq_getElem (by rw [fl.1]; omega)⟩
  obtain ⟨y, hy⟩ : ∃ y, M[j]? = some y := ⟨_, List.getElem?_eq_getElem (by rw [fl.1]; omega)⟩
  have sv := o.sees (G := G) (by decide) (s3.in 0 rfl)
  obtain ⟨b, of, rfl, x0, x1, x2, x3, x4, x5, x6, x7, x8⟩ := Sees.job sv hx
  obtain ⟨b', of', e', y0, y1, y2, y3, y4, y5, y6, y7, y8⟩ := Sees.job sv hy
  cases e'
  obtain ⟨ob, o'⟩ := o
  cases ob with
  | none => exact absurd o'.2 (fun e => by rw [e] at hx; simp at hx)
  | some ob =>
  obtain ⟨cap', t, e9, hb, hbl⟩ := o'
  rw [fl.1] at e9
  simp only [Value.slice.injEq, Option.some.injEq, Addr.mk.injEq, and_true, true_and] at e9
  obtain ⟨⟨rfl, rfl⟩, rfl⟩ := e9
  rw [Nat.zero_add] at x0 x1 x2 x3 x4 x5 x6 x7 x8 y0 y1 y2 y3 y4 y5 y6 y7 y8
  have hb3 := s3.at 0 rfl hb
  unfold S38_l1_k2
  simp -implicitDefEqProofs (disch := first | with_reducible exact Nat.ne_of_beq_eq_false rfl | omega) only [upd_ne, q0, q3, q2, opH_su, pureW_sv, ix31p, Int.toNat_natCast, add_mk, Nat.zero_add, ld45p, Nat.add_zero, x0, Option.some.injEq, x1, x2, x3, x4, x5, x6, x7, x8, exists_eq_left', y0, y1, y2, y3, y4, y5, y6, y7, y8]
  rw [st_job (j := y) hb3 (by rw [fl.1]; omega)]
  have s4 := s3.put (o := .cells (jobC.rows (M.set i y) ++ t).toArray 45 (0, 0)) hb
  have d4 := d3.set (o := .cells (jobC.rows (M.set i y) ++ t).toArray 45 (0, 0)) (d3 _ _ hb3)
  generalize Hp.set h3 b _ = h4 at s4 d4 ⊢
  try simp -implicitDefEqProofs only [opH_sv, opH_su, pureW_sv, opH_nil, pureW_nil, pick_t, pick_f, pick_tp, pick_fp, gd_tt, gd_ft, gd_tf, gd_ff, box_new, regs0, regs1, regs2, regs3, regs4, regs5, regs6, cells_agg, cells_int, cells_bool, cells_ptr, cells_slice, cells_string, cells_func, cells_nilFunc, cells_map, retK_ret, retK_normal, resL_tmp, resL_cell, resL_nil0, resL_nil1, resL_nil2, resL_nil3, resC_ptr, ex0, ex1, ex2, ex0p, ex1p, ex2p, HL.cond_true, HL.cond_false, thenK_normal, thenK_ret, thenK_exit, blockK_normal, blockK_ret, blockK_exit, scopeK_normal, scopeK_ret, scopeK_exit, wpH_pure, bin_add, bin_sub, bin_mul, bin_lss, bin_leq, bin_gtr, bin_geq, bin_quo, bin_rem, bin_quop, bin_remp, wrap_in, bin_addp, bin_subp, bin_mulp, bin_lssp, bin_leqp, bin_gtrp, bin_geqp, un_not, un_notp, un_neg, eq_int, ne_int, eq_intp, ne_intp, callV_fn, add_mk, upd_eq, upd_ne, cell_set_self, Nat.zero_add, Nat.add_zero, Option.some.injEq, exists_eq_left', List.getElem?_cons_succ, List.getElem?_cons_zero, true_and, and_true, bne_self_eq_false, beq_self_eq_true, Bool.not_true, Bool.not_false, Bool.and_true, Bool.and_self, Bool.and_false, Bool.true_and, List.length_cons, List.length_nil, ne_eq, not_false_eq_true, Nat.reduceAdd, Nat.reduceMul, if_true, if_false, oneCell_int, oneCell_bool, oneCell_ptr, oneCell_slice, oneCell_string, oneCell_func, oneCell_map, Int.toNat_natCast, List.set_cons_zero, List.set_cons_succ, Nat.lt_irrefl, Nat.zero_lt_succ, Nat.succ_lt_succ_iff, fa26_0, fa26_0p, fa26_1, fa26_1p, fa26_10, fa26_10p, fa26_11, fa26_11p, fa26_12, fa26_12p, fa26_13, fa26_13p, fa26_14, fa26_14p, fa26_15, fa26_15p, fa26_2, fa26_2p, fa26_3, fa26_3p, fa26_4, fa26_4p, fa26_5, fa26_5p, fa26_6, fa26_6p, fa26_7, fa26_7p, fa26_8, fa26_8p, fa26_9, fa26_9p, fa28_0, fa28_0p, fa28_1, fa28_1p, fa45_0, fa45_0p, fa45_1, fa45_1p, fa45_2, fa45_2p, fa45_3, fa45_3p, fa45_4, fa45_4p, fa45_5, fa45_5p, fa45_6, fa45_6p, fa49_0, fa49_0p, fa49_1, fa49_1p, fa74_0, fa74_0p, fa74_1, fa74_1p, fa74_2, fa74_2p, fa74_3, fa74_3p, fa85_0, fa85_0p, fa85_1, fa85_1p, fa93_0, fa93_0p, fa93_1, fa93_1p, fa93_2, fa93_2p, ld3, ld3p, ld4, ld4p, ld22, ld22p, ld23, ld23p, ld24, ld24p, ld26, ld26p, ld28, ld28p, ld42, ld42p, ld45, ld45p, ld49, ld49p, ld58, ld58p, ld69, ld69p, ld72, ld72p, ld85, ld85p, st3s, st4s, st22s, st23s, st24s, st26w, st28w, st42s, st45w, st49w, st85w, ix22, ix22p, ix23, ix23p, ix24, ix24p, ix31, ix31p, ix42, ix42p, ix104, ix104p, ln22, ln22p, ln23, ln23p, ln24, ln24p, ln31, ln31p, ln42, ln42p, al4, al22, al26, al28, al42, al49, al85, cf10, cf11, cf12, cf13, cf14, cf15, cf16, cf17, cf18, cf19, cf20, cf21, cf22, cf23, cf24, cf25, cf26, cf27, cf28, cf29, cf30, cf31, cf32, cf33, cf34, cf35, cf36, cf37, cf38, cf39, cf40, cf41, cf42, cf43, cf44, cf45, cf46, cf47, cf48, cf49, cf50, cf51, cf52, cf53, cf54, cf55, cf56, cf57, cf58, cf59, cf60, cf61, cf62, cf63, cf64, cf65, cf66, cf67, cf68, cf69, cf70, cf71, cf72, cf73, cf74, cf75, bd26_0_1_2_7_8_9_10_11_12_13_14_4_15, bd26_0_1_2_7_8_9_10_11_12_13_14_4_15p, bd28_, bd28_p, bd28_0, bd28_0p, bd28_0_1, bd28_0_1p, bd45_1_3_4_5_6, bd45_1_3_4_5_6p, bd49_0_1, bd49_0_1p, bd49_1, bd49_1p, bd74_0_1_2_3, bd74_0_1_2_3p, bd85_0, bd85_0p, bd85_0_1, bd85_0_1p, bd93_0_1_2, bd93_0_1_2p, bd94_0_1_2_3, bd94_0_1_2_3p, bs42_1_0, bs22_1_0, bs24_1_0, bs42_3_0_1_2, bs31_1_0, bs22_2_0_1, bs42_6_0_1_2_3_4_5, bs42_0_, eq4, eq4p, eq28, eq28p, eq42n, eq42np, eq42s, eq42sp, eq58n, eq58np, eq58s, eq58sp, eq63n, eq63np, eq63s, eq63sp, ne28, ne28p, ne45, ne45p, q0, q3, ix31 (Int.natCast_nonneg j) hjl, Int.toNat_natCast]
  rw [st_job (j := x) (s4.at 0 rfl set_self) (by rw [List.length_set, fl.1]; omega)]
  have s5 := s4.put (o := .cells (jobC.rows ((M.set i y).set j x) ++ t).toArray 45 (0, 0)) set_self
  rw [set_set] at s5
  have d5 := d4.set (o := .cells (jobC.rows ((M.set i y).set j x) ++ t).toArray 45 (0, 0)) (d4 _ _ (s4.at 0 rfl set_self))
  generalize Hp.set h4 b _ = h5 at s5 d5 ⊢
  have fn := fl.next hij hx (by rw [← ej]; exact hy)
  rw [← ej] at fn
  unfold S38_l1_k3
  simp -implicitDefEqProofs (disch := first | with_reducible exact Nat.ne_of_beq_eq_false rfl | omega) only [upd_ne, q2, q3, thenK_normal, opH_sv, bin_sub, wrap_in, bin_add]
  refine HX (L.length - (i + 1)) _ _ (by omega) ⟨i + 1, _, _, rfl, by omega, by simp -implicitDefEqProofs (disch := first | with_reducible exact Nat.ne_of_beq_eq_false rfl | omega) only [upd_ne, q0], by simp -implicitDefEqProofs (disch := first | with_reducible exact Nat.ne_of_beq_eq_false rfl | omega) only [upd_ne, upd_eq] <;> rfl, by simp -implicitDefEqProofs (disch := first | with_reducible exact Nat.ne_of_beq_eq_false rfl | omega) only [upd_eq] <;> (congr 1; omega), ⟨some b, cap, t, by rw [fn.1], set_self, ?_⟩, fn, s5, d5⟩
  rw [← hbl, List.length_append, List.length_append, jobC.rows_length, jobC.rows_length, List.length_set, List.length_set]

end Go.Proofs.YtangejiigopdaaaDoor
end

section
/- The jobs: plain; an entry of the yard's map. -/
set_option linter.unusedSimpArgs false
set_option linter.unusedVariables false
set_option maxRecDepth 100000
namespace Go.Proofs.YtangejiigopdaaaDoor
open Go Go.HL

theorem rstacks_len {C : Conf} (w16 : wC C ≤ 16) (k16 : kC C ≤ 16) : (rstacksL C).length ≤ 1000 := by
  have := dirsL_len (D := fun y => pickFrom (fun x => stackedB C ((x : Int), (y : Int))) (fun x => (((x : Nat) : Int), ((y : Nat) : Int))) 0 (wC C)) (b := 16) (fun i => Nat.le_trans pickFrom_len w16) (k := kC C) (i := 0)
  have h2 : kC C * 16 ≤ 16 * 16 := Nat.mul_le_mul_right _ k16
  unfold rstacksL
  omega

def awayJ (f : Cell) (b : Int) (z : Cell) : Job := ⟨0, 1, 0, b, f.1, f.2, z.1, z.2, -1⟩
def againJ (f : Cell) (b : Int) (z : Cell) : Job := ⟨0, 3, 0, b, z.1, z.2, f.1, f.2, -1⟩
def fetchJ (f : Cell) (b : Int) (p : Cell) : Job := ⟨0, 2, 0, b, f.1, f.2, p.1, p.2, -1⟩
/-- The places for some bins, one behind the other. -/
def placesL (S : List Stk) (TL : List Cell) (ht : Int) (f : Cell) (cells : List Cell) : Nat → List Cell → Option (List Cell)
  | 0, GL => some GL
  | n + 1, GL => match bestL f (skipR f ht S TL GL) none cells with
    | none => none
    | some z => placesL S TL ht f cells n (GL ++ [z])
def jobsOf (f : Cell) (A : List Int) (GL : List Cell) (bin : Int) (port : Cell) (back : Bool) : List Job :=
  List.zipWith (awayJ f) A GL ++ [fetchJ f bin port] ++ (if back = true then (List.zipWith (againJ f) A GL).reverse else [])
def jobsR (C : Conf) (S : List Stk) (TL : List Cell) (bin : Int) (port : Cell) : List Job × Int :=
  if portI C port < 0 then ([], 10) else
  match findIn S bin (rstacksL C) with
  | none => ([], 9)
  | some (f, A) => if f ∈ TL then ([], 8) else match placesL S TL C.ht f (rstacksL C) A.length [] with
    | none => ([], 14)
    | some GL => (jobsOf f A GL bin port C.back, 0)

section
variable {C : Conf} {S : List Stk} {TL : List Cell} {bin : Int} {port f : Cell} {A : List Int} {GL : List Cell}
theorem jobsR_port (h1 : portI C port < 0) : jobsR C S TL bin port = ([], 10) := by unfold jobsR; rw [if_pos h1]
theorem jobsR_bin (h1 : ¬ portI C port < 0) (h2 : findIn S bin (rstacksL C) = none) : jobsR C S TL bin port = ([], 9) := by unfold jobsR; rw [if_neg h1, h2]
theorem jobsR_touched (h1 : ¬ portI C port < 0) (h2 : findIn S bin (rstacksL C) = some (f, A)) (h3 : f ∈ TL) : jobsR C S TL bin port = ([], 8) := by unfold jobsR; rw [if_neg h1, h2]; simp only [if_pos h3]
theorem jobsR_room (h1 : ¬ portI C port < 0) (h2 : findIn S bin (rstacksL C) = some (f, A)) (h3 : f ∉ TL) (h4 : placesL S TL C.ht f (rstacksL C) A.length [] = none) : jobsR C S TL bin port = ([], 14) := by unfold jobsR; rw [if_neg h1, h2]; simp only [if_neg h3, h4]
theorem jobsR_ok (h1 : ¬ portI C port < 0) (h2 : findIn S bin (rstacksL C) = some (f, A)) (h3 : f ∉ TL) (h4 : placesL S TL C.ht f (rstacksL C) A.length [] = some GL) : jobsR C S TL bin port = (jobsOf f A GL bin port C.back, 0) := by unfold jobsR; rw [if_neg h1, h2]; simp only [if_neg h3, h4]
end

theorem bestL_some {f : Cell} {sk : Cell → Bool} : ∀ {L : List Cell} {b : Option Cell} {z : Cell}, bestL f sk b L = some z → b = some z ∨ (z ∈ L ∧ sk z = false)
  | [], b, z, h => .inl h
  | c :: L, b, z, h => by
    rw [bestL] at h
    rcases bestL_some h with h | ⟨h1, h2⟩
    · split at h
      · exact .inl h
      · rename_i h3
        split at h
        · cases h
          exact .inr ⟨.head _, by simpa using h3⟩
        · exact .inl h
    · exact .inr ⟨.tail _ h1, h2⟩

theorem len_count {n : Nat} : ∀ {M GL : List Cell}, (∀ z ∈ GL, z ∈ M) → (∀ z, GL.count z ≤ n) → GL.length ≤ M.length * n
  | [], GL, h1, h2 => by
    cases GL with
    | nil => simp
    | cons x GL => exact absurd (h1 x (.head _)) (by simp)
  | m :: M, GL, h1, h2 => by
    have e := List.length_eq_countP_add_countP (fun x => x == m) (l := GL)
    have e2 : List.countP (fun x => x == m) GL ≤ n := h2 m
    have ih := len_count (n := n) (M := M) (GL := GL.filter (fun x => !(x == m))) (fun z hz => by
      rw [List.mem_filter] at hz
      rcases List.mem_cons.1 (h1 z hz.1) with rfl | h
      · simp at hz
      · exact h) (fun z => Nat.le_trans (List.filter_sublist.count_le z) (h2 z))
    rw [← List.countP_eq_length_filter] at ih
    have e3 : List.countP (fun a => decide ¬((a == m) = true)) GL = List.countP (fun x => !(x == m)) GL := List.countP_congr (fun x _ => by simp)
    rw [List.length_cons, Nat.add_mul]
    omega

/-- What was given: stack cells that had room. -/
structure Given (S : List Stk) (ht : Int) (cells GL : List Cell) : Prop where
  mem : ∀ z ∈ GL, z ∈ cells
  room : ∀ z, (GL.count z : Int) ≤ ht
theorem Given.nil {S : List Stk} {ht : Int} {cells : List Cell} (h : 0 ≤ ht) : Given S ht cells [] := ⟨fun z hz => (by cases hz), fun z => by simpa using h⟩
theorem Given.add {S : List Stk} {TL : List Cell} {ht : Int} {f z : Cell} {cells GL : List Cell} (g : Given S ht cells GL) (h : bestL f (skipR f ht S TL GL) none cells = some z) : Given S ht cells (GL ++ [z]) ∧ hgt S z + (GL.count z : Int) < ht := by
  rcases bestL_some h with h | ⟨h1, h2⟩
  · cases h
  · unfold skipR at h2
    simp only [Bool.or_eq_false_iff, decide_eq_false_iff_not] at h2
    have h3 : hgt S z + (GL.count z : Int) < ht := by omega
    have h0 : 0 ≤ hgt S z := by unfold hgt; exact Int.natCast_nonneg _
    refine ⟨⟨fun x hx => ?_, fun x => ?_⟩, h3⟩
    · rcases List.mem_append.1 hx with hx | hx
      · exact g.mem x hx
      · simp at hx; subst hx; exact h1
    · rw [List.count_append, List.count_singleton]
      have := g.room x
      by_cases hx : (z == x) = true
      · rw [if_pos hx]
        obtain rfl := eq_of_beq hx
        omega
      · rw [if_neg hx]; omega
theorem Given.len {S : List Stk} {ht : Int} {cells GL : List Cell} (g : Given S ht cells GL) (h8 : ht ≤ 8) (hc : cells.length ≤ 1000) : GL.length ≤ 8000 := by
  have h0 := g.room (0, 0)
  have := len_count (n := 8) g.mem (fun z => by have := g.room z; omega)
  have : cells.length * 8 ≤ 8000 := by omega
  omega

/-- The heights behind what was given. -/
theorem skip_given {f : Cell} {ht : Int} {S : List Stk} {hv : Cell → Int} {is : Cell → Bool} {TL GL : List Cell} (h : ∀ c, (if is c = true then hv c else 0) = hgt S c + (GL.count c : Int)) : skipB f ht hv is TL = skipR f ht S TL GL := by
  funext c
  unfold skipB skipR
  rw [h c, Bool.or_assoc]
  congr 1
  exact Bool.or_comm _ _

/-- An entry, and its stamp. -/
def MapEnt (o : Obj) (hv : Cell → Int) (is : Cell → Bool) (c : Cell) (st : Nat) : Prop := ∃ M : List (Cell × Value), KEntry (fun c : Cell => cellV c) o M c st ∧ ∀ c, kget M c = if is c = true then some (.int .i64 (hv c)) else none
theorem kget_app {M : List (Cell × Value)} {c q : Cell} {v : Value} (h : kget M c = none) : kget (M ++ [(c, v)]) q = if (c == q) = true then some v else kget M q := by
  have h2 : kput M c v = M ++ [(c, v)] := by
    unfold kput
    cases hk : kidx M c with
    | none => rfl
    | some j =>
      unfold kget at h
      rw [hk] at h
      have hj : j < M.length := by unfold kidx at hk; exact (List.findIdx?_eq_some_iff_getElem.1 hk).1
      simp [List.getElem?_eq_getElem hj] at h
  rw [← h2, kget_put]
theorem ment {G h : Hp} {mb : Nat} {o : Obj} {hv : Cell → Int} {is : Cell → Bool} {x y : Int} {K : Value → Hp → Prop} (hb : h mb = some o) (m : MapIs o hv is)
    (H : ∀ o' st, MapEnt o' (fun c => if is c = true then hv c else 0) (fun c => (x, y) == c || is c) (x, y) st → K (.tuple #[.int .i64 (if is (x, y) = true then hv (x, y) else 0), .int .i64 (st : Nat)]) (h.set mb o')) :
    wpH Tryd.prog G (Instr.mapEntry 72 (.map (some mb)) (.agg #[.int .i64 x, .int .i64 y])) h K := by
  obtain ⟨M, hm, hg⟩ := m
  refine mapentry_key (k := ((x, y) : Cell)) cell_key unm zmi hb hm fun o' st hm' => ?_
  have e0 : (kget M ((x, y) : Cell)).getD (.int .i64 0) = .int .i64 (if is (x, y) = true then hv (x, y) else 0) := by
    rw [hg]; cases is (x, y) <;> rfl
  rw [e0]
  refine H o' st ⟨_, hm', fun c => ?_⟩
  show _ = if ((((x, y) : Cell) == c) || is c) = true then some (Value.int .i64 (if is c = true then hv c else 0)) else none
  rw [hg]
  cases hi : is (x, y) with
  | true =>
    rw [if_pos rfl, if_pos (by rfl), hg]
    cases hc : is c with
    | true => rw [if_pos rfl, Bool.or_true, if_pos rfl]; simp only [hc, if_true]
    | false =>
      have : ((((x, y) : Cell) == c)) = false := by
        cases h2 : (((x, y) : Cell) == c) with
        | false => rfl
        | true => rw [eq_of_beq h2, hc] at hi; cases hi
      rw [this, Bool.or_false]
      simp
  | false =>
    simp only [Bool.false_eq_true, if_false, Option.isSome_none]
    rw [kget_app (by rw [hg, hi]; rfl), hg]
    cases h2 : (((x, y) : Cell) == c) with
    | true => rw [if_pos rfl, Bool.true_or, if_pos rfl, ← eq_of_beq h2, hi]; rfl
    | false =>
      rw [if_neg (by simp), Bool.false_or]
      cases hc : is c <;> simp [hc]
theorem mest {G h : Hp} {mb st : Nat} {o : Obj} {hv : Cell → Int} {is : Cell → Bool} {x y n : Int} {T : TypeId} {K : Unit → Hp → Prop} (hb : h mb = some o) (m : MapEnt o hv is (x, y) st)
    (H : ∀ o', MapIs o' (fun c => if ((x, y) == c) = true then n else hv c) (fun c => (x, y) == c || is c) → K () (h.set mb o')) :
    wpH Tryd.prog G (Instr.entryStore T (.map (some mb)) (.int .i64 (st : Nat)) (.int .i64 n)) h K := by
  obtain ⟨M, hm, hg⟩ := m
  refine entrystore_key hb hm fun o' hm' => H o' ⟨_, hm', fun c => ?_⟩
  rw [kget_put, hg]
  show (if (((x, y) : Cell) == c) = true then some (Value.int .i64 n) else _) = if ((((x, y) : Cell) == c) || is c) = true then some (Value.int .i64 (if (((x, y) : Cell) == c) = true then n else hv c)) else none
  cases (((x, y) : Cell) == c) <;> rfl
theorem MapEnt.is {o : Obj} {hv : Cell → Int} {is : Cell → Bool} {c : Cell} {st : Nat} (m : MapEnt o hv is c st) : MapIs o hv is := by
  obtain ⟨M, h1, h2⟩ := m
  exact ⟨M, h1.map, h2⟩

theorem pureAt_sv {G h : Hp} {s : Sem Value} {v : Value} : pureAt Tryd.prog G h (sv s) v ↔ wpH Tryd.prog G s h (fun a h' => h' = h ∧ a = v) := by
  unfold pureAt sv
  rw [wpH_bind]
  simp only [wpH, Next.value.injEq]
/-- What is read beside an entry that is made stays. -/
theorem soft_entry {G h : Hp} {mb yp xb : Nat} {o o' : Obj} {hv hv' : Cell → Int} {is is' : Cell → Bool} {z : Cell} (hb : h mb = some o) (m : MapIs o hv is) (m' : MapIs o' hv' is') (hyp : yp ≠ mb) (hxb : xb ≠ mb)
    (e : (if is z = true then hv z else 0) = (if is' z = true then hv' z else 0)) {a : Addr} (ha : a.block = yp) (hs : a.spot = none) :
    Kp Tryd.prog G h (fun s => s = sv (Instr.loadAt 72 (.pointer (some a))) ∨ s = sv (Instr.loadAt 28 (.pointer (some ⟨xb, 0, none⟩))) ∨ s = sv (Instr.lookup 72 (.map (some mb)) (.agg #[.int .i64 z.1, .int .i64 z.2]) false)) (h.set mb o') := by
  refine .inr fun s hs' v hv1 => ?_
  obtain ⟨ab, ai, asp⟩ := a
  simp only at ha hs
  subst ha hs
  rcases hs' with rfl | rfl | rfl
  · rw [pureAt_sv] at hv1 ⊢
    rw [ld72] at hv1 ⊢
    rw [cell_set_other hyp]
    obtain ⟨x, h1, _, h2⟩ := hv1
    exact ⟨x, h1, rfl, h2⟩
  · rw [pureAt_sv] at hv1 ⊢
    rw [ld28] at hv1 ⊢
    simp only [add_mk] at hv1 ⊢
    rw [cell_set_other hxb, cell_set_other hxb]
    obtain ⟨x, h1, y, h2, _, h3⟩ := hv1
    exact ⟨x, h1, y, h2, trivial, h3⟩
  · rw [pureAt_sv] at hv1 ⊢
    obtain ⟨M, hm, hg⟩ := m
    obtain ⟨M', hm', hg'⟩ := m'
    rw [lookup_key (k := z) (ke := fun c : Cell => cellV c) cell_key unm zmi (look_own hb) hm] at hv1
    rw [lookup_key (k := z) (ke := fun c : Cell => cellV c) cell_key unm zmi (look_own set_self) hm']
    refine ⟨rfl, ?_⟩
    rw [← hv1.2, hg, hg']
    cases h1 : is z <;> cases h2 : is' z <;> simp [h1, h2] at e ⊢ <;> omega

theorem YardO.put {a : Hp} {yp gp mb : Nat} {ht : Int} {tv : Value} {hv hv' : Cell → Int} {is is' : Cell → Bool} (y : YardO a yp gp mb ht tv hv is) {o' : Obj} (m : MapIs o' hv' is') : YardO (a.set mb o') yp gp mb ht tv hv' is' := by
  obtain ⟨o, C, ab, cb, ap, cp, ar, cr, az, cs, s, _⟩ := y
  refine ⟨o', C, ab, cb, ap, cp, ar, cr, az, cs, ?_, m⟩
  have s2 := (s.pick 1 rfl rfl).put (o := o') set_self
  rw [set_set] at s2
  exact s2.pick 1 rfl rfl
theorem YardO.map {a : Hp} {yp gp mb : Nat} {ht : Int} {tv : Value} {hv : Cell → Int} {is : Cell → Bool} (y : YardO a yp gp mb ht tv hv is) : ∃ o, a mb = some o ∧ MapIs o hv is ∧ yp ≠ mb := by
  obtain ⟨o, C, ab, cb, ap, cp, ar, cr, az, cs, s, m⟩ := y
  refine ⟨o, s.at 1 rfl set_self, m, fun e => ?_⟩
  subst e
  rcases s.apart (b := noHp.set yp o) (by simp) yp with k | k
  · rw [set_self] at k; cases k
  · rw [set_self] at k; cases k

end Go.Proofs.YtangejiigopdaaaDoor
end

section
/- The jobs: the walk. -/
set_option linter.unusedSimpArgs false
set_option linter.unusedVariables false
set_option maxRecDepth 100000
namespace Go.Proofs.YtangejiigopdaaaDoor
open Go Go.HL

theorem zip_step {F : Int → Cell → Job} {A : List Int} {GL : List Cell} {i : Nat} {b : Int} {z : Cell} (hA : A[i]? = some b) (hl : GL.length = i) : List.zipWith F (A.take (i + 1)) (GL ++ [z]) = List.zipWith F (A.take i) GL ++ [F b z] := by
  have hi := (List.getElem?_eq_some_iff.1 hA).1
  rw [List.take_add_one, hA]
  exact List.zipWith_append (by simp; omega)
theorem zip_len {F : Int → Cell → Job} {A : List Int} {GL : List Cell} : (List.zipWith F A GL).length ≤ GL.length := by
  rw [List.length_zipWith]
  exact Nat.min_le_right _ _
theorem above_len {B : List Int} {bin : Int} {n : Nat} (h : B.length ≤ n) : (aboveL B bin).length ≤ n := by
  unfold aboveL
  rw [List.length_reverse, List.length_drop]
  omega

def JobsPost (G h : Hp) (C : Conf) (S : List Stk) (TL : List Cell) (bin : Int) (port : Cell) (u : Value) (h' : Hp) : Prop := h.le h' ∧ Dis G h' ∧ ((MadeOk C ∧ ∃ io vv, u = .tuple #[vv, .int .i64 (jobsR C S TL bin port).2] ∧ Slc jobC 45 io vv (jobsR C S TL bin port).1 ∧ HL.Sep [io, h] h') ∨ (¬ MadeOk C ∧ u = .tuple #[.slice none 0 0, .int .i64 5]))

set_option maxHeartbeats 8000000 in
theorem jobs_spec {G h : Hp} {v sv tv : Value} {C : Conf} {S : List Stk} {TL : List Cell} {bin : Int} {port : Cell} (hv : CV G h v C) (hss : ∀ G' h', h.le h' → StS G' h' sv S) (htv : ∀ G' h', h.le h' → Sees cellC G' h' tv TL) (st : Steps G) (hp : ∀ p ∈ C.ro, PB p) (hsl : C.st.length ≤ 100000000000000) (hS : S.length ≤ 100000000000000) (hTL : TL.length ≤ 100000000000000) (hB : ∀ s ∈ S, s.2.length ≤ 17592186044320) :
    HCalls Tryd.prog G 12 #[v, sv, tv, .int .i64 bin, cellV port] h (JobsPost G h C S TL bin port) := by
  obtain ⟨ab, cb, ap, cp, ar, cr, az, cs, rfl, ca⟩ := hv
  obtain ⟨sa, sc, rfl, _⟩ := hss noHp h (Hp.le.refl h)
  obtain ⟨ta, tc, rfl⟩ := (htv noHp h (Hp.le.refl h)).len
  refine HCalls.assume fun d => enter12 (by simp) ?_
  unfold S12
  simp -implicitDefEqProofs only [regs0, regs4, regs1, regs2, retK_ret, resL_tmp, upd_ne, upd_eq, resL_nil2, opH_sv, cf33, box_new, cells_agg, ld26, add_mk, Nat.add_zero, Nat.zero_add]
  intro v0 hv0 gv0 v1 hv1 gv1
  generalize e1 : Hp.set h v0 _ = h1 at hv1 ⊢
  obtain ⟨l1, d1, b0⟩ := boxed e1 hv0 d gv0
  generalize e2 : Hp.set h1 v1 _ = h2
  obtain ⟨l2, d2, b1⟩ := boxed e2 hv1 d1 gv1
  have l02 := l1.trans l2
  have b0' := l2 _ _ b0
  have c0 : ∀ j, cellIn G h2 ⟨v0, j, none⟩ = _ := fun j => cell_of (look_own b0')
  try simp -implicitDefEqProofs only [c0, List.getElem?_cons_zero, Option.some.injEq, List.getElem?_cons_succ, exists_eq_left']
  refine (dlaid_spec (ca.up l02 d2).cv (hss G h2 l02) (htv G h2 l02) st hp hsl hS).mono ?_
  rintro _ h4 ⟨l4, d4, ⟨hm, ya, ga, yp, gp, kb, mb, is, rfl, s4, go, yo, his⟩ | ⟨hm, rfl⟩⟩
  rotate_left
  · try simp -implicitDefEqProofs only [ex1, ne_int, show ((5 : Int) != 0) = true from rfl, HL.cond_true, ex0]
    exact ⟨l02.trans l4, d4, .inr ⟨hm, rfl⟩⟩
  try simp -implicitDefEqProofs only [ex1, ne_int, bne_self_eq_false, HL.cond_false, ex0]
  unfold S12_k1
  have c1 : ∀ j, cellIn G h4 ⟨v1, j, none⟩ = _ := fun j => cell_of (look_own (l4 _ _ b1))
  have cyp : ∃ x17, ∀ (ya : Hp) (G h4 : Hp), True := ⟨0, fun _ _ _ => trivial⟩
  clear cyp
  obtain ⟨om, C', ab', cb', ap', cp', ar', cr', az', cs', ty, mi⟩ := id yo
  have cy : ∀ j, cellIn G h4 ⟨yp, j, none⟩ = _ := fun j => cell_of (look_own (s4.in 0 rfl _ _ (ty.at 0 rfl set_self)))
  try simp -implicitDefEqProofs (disch := first | with_reducible exact Nat.ne_of_beq_eq_false rfl | omega) only [upd_ne, upd_eq, retK_ret, resL_tmp, resL_nil2, pureW_sv, cf34, ld28p, add_mk, Nat.add_zero, c1, List.getElem?_cons_zero, Option.some.injEq, Nat.zero_add, List.getElem?_cons_succ, exists_eq_left', pureW_nil, fa74_1p, ld58p, cy]
  refine (port_spec (c := port) ((go.gs (G := G)).up (s4.in 1 rfl) d4) (fun x y => f3_bd hm x y)).mono ?_
  rintro _ h4 ⟨rfl, rfl⟩
  rw [port3_eq hm port]
  have ht8 : 1 ≤ C.ht ∧ C.ht ≤ 8 := by
    have := hm.ht
    unfold withinB at this
    simp at this
    exact this
  have w16 : wC C ≤ 16 := by have := hm.laid.w; unfold withinB at this; simp at this; unfold wC; omega
  have k16 : kC C ≤ 16 := by have := hm.laid.h; unfold withinB at this; simp at this; unfold kC; omega
  have hcl := rstacks_len w16 k16
  have fail : ∀ (n : Int) (hh : Hp), HL.Sep [h2] hh → Dis G hh → jobsR C S TL bin port = ([], n) → JobsPost G h C S TL bin port (.tuple #[.slice none 0 0, .int .i64 n]) hh := by
    intro n hh s dd e
    unfold JobsPost
    rw [e]
    exact ⟨l02.trans (s.in 0 rfl), dd, .inl ⟨hm, noHp, _, rfl, Slc.nil, (s.cut l02).none⟩⟩
  try simp -implicitDefEqProofs only [bin_lssp]
  refine cond_dec (fun hlt => ?_) (fun hge => ?_)
  · try simp -implicitDefEqProofs only [opH_sv, opH_su, pureW_sv, opH_nil, pureW_nil, pick_t, pick_f, pick_tp, pick_fp, gd_tt, gd_ft, gd_tf, gd_ff, box_new, regs0, regs1, regs2, regs3, regs4, regs5, regs6, cells_agg, cells_int, cells_bool, cells_ptr, cells_slice, cells_string, cells_func, cells_nilFunc, cells_map, retK_ret, retK_normal, resL_tmp, resL_cell, resL_nil0, resL_nil1, resL_nil2, resL_nil3, resC_ptr, ex0, ex1, ex2, ex0p, ex1p, ex2p, HL.cond_true, HL.cond_false, thenK_normal, thenK_ret, thenK_exit, blockK_normal, blockK_ret, blockK_exit, scopeK_normal, scopeK_ret, scopeK_exit, wpH_pure, bin_add, bin_sub, bin_mul, bin_lss, bin_leq, bin_gtr, bin_geq, bin_quo, bin_rem, bin_quop, bin_remp, wrap_in, bin_addp, bin_subp, bin_mulp, bin_lssp, bin_leqp, bin_gtrp, bin_geqp, un_not, un_notp, un_neg, eq_int, ne_int, eq_intp, ne_intp, callV_fn, add_mk, upd_eq, upd_ne, cell_set_self, Nat.zero_add, Nat.add_zero, Option.some.injEq, exists_eq_left', List.getElem?_cons_succ, List.getElem?_cons_zero, true_and, and_true, bne_self_eq_false, beq_self_eq_true, Bool.not_true, Bool.not_false, Bool.and_true, Bool.and_self, Bool.and_false, Bool.true_and, List.length_cons, List.length_nil, ne_eq, not_false_eq_true, Nat.reduceAdd, Nat.reduceMul, if_true, if_false, oneCell_int, oneCell_bool, oneCell_ptr, oneCell_slice, oneCell_string, oneCell_func, oneCell_map, Int.toNat_natCast, List.set_cons_zero, List.set_cons_succ, Nat.lt_irrefl, Nat.zero_lt_succ, Nat.succ_lt_succ_iff, fa26_0, fa26_0p, fa26_1, fa26_1p, fa26_10, fa26_10p, fa26_11, fa26_11p, fa26_12, fa26_12p, fa26_13, fa26_13p, fa26_14, fa26_14p, fa26_15, fa26_15p, fa26_2, fa26_2p, fa26_3, fa26_3p, fa26_4, fa26_4p, fa26_5, fa26_5p, fa26_6, fa26_6p, fa26_7, fa26_7p, fa26_8, fa26_8p, fa26_9, fa26_9p, fa28_0, fa28_0p, fa28_1, fa28_1p, fa45_0, fa45_0p, fa45_1, fa45_1p, fa45_2, fa45_2p, fa45_3, fa45_3p, fa45_4, fa45_4p, fa45_5, fa45_5p, fa45_6, fa45_6p, fa49_0, fa49_0p, fa49_1, fa49_1p, fa74_0, fa74_0p, fa74_1, fa74_1p, fa74_2, fa74_2p, fa74_3, fa74_3p, fa85_0, fa85_0p, fa85_1, fa85_1p, fa93_0, fa93_0p, fa93_1, fa93_1p, fa93_2, fa93_2p, ld3, ld3p, ld4, ld4p, ld22, ld22p, ld23, ld23p, ld24, ld24p, ld26, ld26p, ld28, ld28p, ld42, ld42p, ld45, ld45p, ld49, ld49p, ld58, ld58p, ld69, ld69p, ld72, ld72p, ld85, ld85p, st3s, st4s, st22s, st23s, st24s, st26w, st28w, st42s, st45w, st49w, st85w, ix22, ix22p, ix23, ix23p, ix24, ix24p, ix31, ix31p, ix42, ix42p, ix104, ix104p, ln22, ln22p, ln23, ln23p, ln24, ln24p, ln31, ln31p, ln42, ln42p, al4, al22, al26, al28, al42, al49, al85, cf10, cf11, cf12, cf13, cf14, cf15, cf16, cf17, cf18, cf19, cf20, cf21, cf22, cf23, cf24, cf25, cf26, cf27, cf28, cf29, cf30, cf31, cf32, cf33, cf34, cf35, cf36, cf37, cf38, cf39, cf40, cf41, cf42, cf43, cf44, cf45, cf46, cf47, cf48, cf49, cf50, cf51, cf52, cf53, cf54, cf55, cf56, cf57, cf58, cf59, cf60, cf61, cf62, cf63, cf64, cf65, cf66, cf67, cf68, cf69, cf70, cf71, cf72, cf73, cf74, cf75, bd26_0_1_2_7_8_9_10_11_12_13_14_4_15, bd26_0_1_2_7_8_9_10_11_12_13_14_4_15p, bd28_, bd28_p, bd28_0, bd28_0p, bd28_0_1, bd28_0_1p, bd45_1_3_4_5_6, bd45_1_3_4_5_6p, bd49_0_1, bd49_0_1p, bd49_1, bd49_1p, bd74_0_1_2_3, bd74_0_1_2_3p, bd85_0, bd85_0p, bd85_0_1, bd85_0_1p, bd93_0_1_2, bd93_0_1_2p, bd94_0_1_2_3, bd94_0_1_2_3p, bs42_1_0, bs22_1_0, bs24_1_0, bs42_3_0_1_2, bs31_1_0, bs22_2_0_1, bs42_6_0_1_2_3_4_5, bs42_0_, eq4, eq4p, eq28, eq28p, eq42n, eq42np, eq42s, eq42sp, eq58n, eq58np, eq58s, eq58sp, eq63n, eq63np, eq63s, eq63sp, ne28, ne28p, ne45, ne45p]
    exact fail 10 _ (s4.sel [2] (by decide) rfl) d4 (jobsR_port hlt)
  unfold S12_k2
  try simp -implicitDefEqProofs only [upd_ne, upd_eq, regs1, regs3, retK_ret, resL_tmp, resL_nil2, regs2, cf36, opH_sv, opH_su, al28, ld28, add_mk, Nat.add_zero, Nat.zero_add, cf35]
  refine (find_in (bin := bin) s4 yo go (fun G' => hss G' h2 l02) hS hB).mono ?_
  rw [stacks_eq hm]
  rintro _ h5 ⟨d5, ⟨e5, rfl, s5⟩ | ⟨f, io, vv, e5, hmem, rfl, ov, s5⟩⟩
  · try simp -implicitDefEqProofs only [ex2, un_not, Bool.not_false, HL.cond_true, ex1, ex0, st28w]
    intro x hx gx
    try simp -implicitDefEqProofs only [opH_sv, opH_su, pureW_sv, opH_nil, pureW_nil, pick_t, pick_f, pick_tp, pick_fp, gd_tt, gd_ft, gd_tf, gd_ff, box_new, regs0, regs1, regs2, regs3, regs4, regs5, regs6, cells_agg, cells_int, cells_bool, cells_ptr, cells_slice, cells_string, cells_func, cells_nilFunc, cells_map, retK_ret, retK_normal, resL_tmp, resL_cell, resL_nil0, resL_nil1, resL_nil2, resL_nil3, resC_ptr, ex0, ex1, ex2, ex0p, ex1p, ex2p, HL.cond_true, HL.cond_false, thenK_normal, thenK_ret, thenK_exit, blockK_normal, blockK_ret, blockK_exit, scopeK_normal, scopeK_ret, scopeK_exit, wpH_pure, bin_add, bin_sub, bin_mul, bin_lss, bin_leq, bin_gtr, bin_geq, bin_quo, bin_rem, bin_quop, bin_remp, wrap_in, bin_addp, bin_subp, bin_mulp, bin_lssp, bin_leqp, bin_gtrp, bin_geqp, un_not, un_notp, un_neg, eq_int, ne_int, eq_intp, ne_intp, callV_fn, add_mk, upd_eq, upd_ne, cell_set_self, Nat.zero_add, Nat.add_zero, Option.some.injEq, exists_eq_left', List.getElem?_cons_succ, List.getElem?_cons_zero, true_and, and_true, bne_self_eq_false, beq_self_eq_true, Bool.not_true, Bool.not_false, Bool.and_true, Bool.and_self, Bool.and_false, Bool.true_and, List.length_cons, List.length_nil, ne_eq, not_false_eq_true, Nat.reduceAdd, Nat.reduceMul, if_true, if_false, oneCell_int, oneCell_bool, oneCell_ptr, oneCell_slice, oneCell_string, oneCell_func, oneCell_map, Int.toNat_natCast, List.set_cons_zero, List.set_cons_succ, Nat.lt_irrefl, Nat.zero_lt_succ, Nat.succ_lt_succ_iff, fa26_0, fa26_0p, fa26_1, fa26_1p, fa26_10, fa26_10p, fa26_11, fa26_11p, fa26_12, fa26_12p, fa26_13, fa26_13p, fa26_14, fa26_14p, fa26_15, fa26_15p, fa26_2, fa26_2p, fa26_3, fa26_3p, fa26_4, fa26_4p, fa26_5, fa26_5p, fa26_6, fa26_6p, fa26_7, fa26_7p, fa26_8, fa26_8p, fa26_9, fa26_9p, fa28_0, fa28_0p, fa28_1, fa28_1p, fa45_0, fa45_0p, fa45_1, fa45_1p, fa45_2, fa45_2p, fa45_3, fa45_3p, fa45_4, fa45_4p, fa45_5, fa45_5p, fa45_6, fa45_6p, fa49_0, fa49_0p, fa49_1, fa49_1p, fa74_0, fa74_0p, fa74_1, fa74_1p, fa74_2, fa74_2p, fa74_3, fa74_3p, fa85_0, fa85_0p, fa85_1, fa85_1p, fa93_0, fa93_0p, fa93_1, fa93_1p, fa93_2, fa93_2p, ld3, ld3p, ld4, ld4p, ld22, ld22p, ld23, ld23p, ld24, ld24p, ld26, ld26p, ld28, ld28p, ld42, ld42p, ld45, ld45p, ld49, ld49p, ld58, ld58p, ld69, ld69p, ld72, ld72p, ld85, ld85p, st3s, st4s, st22s, st23s, st24s, st26w, st28w, st42s, st45w, st49w, st85w, ix22, ix22p, ix23, ix23p, ix24, ix24p, ix31, ix31p, ix42, ix42p, ix104, ix104p, ln22, ln22p, ln23, ln23p, ln24, ln24p, ln31, ln31p, ln42, ln42p, al4, al22, al26, al28, al42, al49, al85, cf10, cf11, cf12, cf13, cf14, cf15, cf16, cf17, cf18, cf19, cf20, cf21, cf22, cf23, cf24, cf25, cf26, cf27, cf28, cf29, cf30, cf31, cf32, cf33, cf34, cf35, cf36, cf37, cf38, cf39, cf40, cf41, cf42, cf43, cf44, cf45, cf46, cf47, cf48, cf49, cf50, cf51, cf52, cf53, cf54, cf55, cf56, cf57, cf58, cf59, cf60, cf61, cf62, cf63, cf64, cf65, cf66, cf67, cf68, cf69, cf70, cf71, cf72, cf73, cf74, cf75, bd26_0_1_2_7_8_9_10_11_12_13_14_4_15, bd26_0_1_2_7_8_9_10_11_12_13_14_4_15p, bd28_, bd28_p, bd28_0, bd28_0p, bd28_0_1, bd28_0_1p, bd45_1_3_4_5_6, bd45_1_3_4_5_6p, bd49_0_1, bd49_0_1p, bd49_1, bd49_1p, bd74_0_1_2_3, bd74_0_1_2_3p, bd85_0, bd85_0p, bd85_0_1, bd85_0_1p, bd93_0_1_2, bd93_0_1_2p, bd94_0_1_2_3, bd94_0_1_2_3p, bs42_1_0, bs22_1_0, bs24_1_0, bs42_3_0_1_2, bs31_1_0, bs22_2_0_1, bs42_6_0_1_2_3_4_5, bs42_0_, eq4, eq4p, eq28, eq28p, eq42n, eq42np, eq42s, eq42sp, eq58n, eq58np, eq58s, eq58sp, eq63n, eq63np, eq63s, eq63sp, ne28, ne28p, ne45, ne45p]
    exact fail 9 _ ((s5.sel [2] (by decide) rfl).past hx) (d5.set gx) (jobsR_bin hge e5)
  try simp -implicitDefEqProofs only [ex2, un_not, Bool.not_true, HL.cond_false, ex1, ex0, st28w, cell_set_self, List.getElem?_cons_zero, Option.some.injEq, List.getElem?_cons_succ, exists_eq_left']
  intro xf hxf gxf
  have s6 := s5.new (o := cellO f) hxf
  have d6 := d5.set (o := cellO f) gxf
  try simp -implicitDefEqProofs only [opH_sv, opH_su, pureW_sv, opH_nil, pureW_nil, pick_t, pick_f, pick_tp, pick_fp, gd_tt, gd_ft, gd_tf, gd_ff, box_new, regs0, regs1, regs2, regs3, regs4, regs5, regs6, cells_agg, cells_int, cells_bool, cells_ptr, cells_slice, cells_string, cells_func, cells_nilFunc, cells_map, retK_ret, retK_normal, resL_tmp, resL_cell, resL_nil0, resL_nil1, resL_nil2, resL_nil3, resC_ptr, ex0, ex1, ex2, ex0p, ex1p, ex2p, HL.cond_true, HL.cond_false, thenK_normal, thenK_ret, thenK_exit, blockK_normal, blockK_ret, blockK_exit, scopeK_normal, scopeK_ret, scopeK_exit, wpH_pure, bin_add, bin_sub, bin_mul, bin_lss, bin_leq, bin_gtr, bin_geq, bin_quo, bin_rem, bin_quop, bin_remp, wrap_in, bin_addp, bin_subp, bin_mulp, bin_lssp, bin_leqp, bin_gtrp, bin_geqp, un_not, un_notp, un_neg, eq_int, ne_int, eq_intp, ne_intp, callV_fn, add_mk, upd_eq, upd_ne, cell_set_self, Nat.zero_add, Nat.add_zero, Option.some.injEq, exists_eq_left', List.getElem?_cons_succ, List.getElem?_cons_zero, true_and, and_true, bne_self_eq_false, beq_self_eq_true, Bool.not_true, Bool.not_false, Bool.and_true, Bool.and_self, Bool.and_false, Bool.true_and, List.length_cons, List.length_nil, ne_eq, not_false_eq_true, Nat.reduceAdd, Nat.reduceMul, if_true, if_false, oneCell_int, oneCell_bool, oneCell_ptr, oneCell_slice, oneCell_string, oneCell_func, oneCell_map, Int.toNat_natCast, List.set_cons_zero, List.set_cons_succ, Nat.lt_irrefl, Nat.zero_lt_succ, Nat.succ_lt_succ_iff, fa26_0, fa26_0p, fa26_1, fa26_1p, fa26_10, fa26_10p, fa26_11, fa26_11p, fa26_12, fa26_12p, fa26_13, fa26_13p, fa26_14, fa26_14p, fa26_15, fa26_15p, fa26_2, fa26_2p, fa26_3, fa26_3p, fa26_4, fa26_4p, fa26_5, fa26_5p, fa26_6, fa26_6p, fa26_7, fa26_7p, fa26_8, fa26_8p, fa26_9, fa26_9p, fa28_0, fa28_0p, fa28_1, fa28_1p, fa45_0, fa45_0p, fa45_1, fa45_1p, fa45_2, fa45_2p, fa45_3, fa45_3p, fa45_4, fa45_4p, fa45_5, fa45_5p, fa45_6, fa45_6p, fa49_0, fa49_0p, fa49_1, fa49_1p, fa74_0, fa74_0p, fa74_1, fa74_1p, fa74_2, fa74_2p, fa74_3, fa74_3p, fa85_0, fa85_0p, fa85_1, fa85_1p, fa93_0, fa93_0p, fa93_1, fa93_1p, fa93_2, fa93_2p, ld3, ld3p, ld4, ld4p, ld22, ld22p, ld23, ld23p, ld24, ld24p, ld26, ld26p, ld28, ld28p, ld42, ld42p, ld45, ld45p, ld49, ld49p, ld58, ld58p, ld69, ld69p, ld72, ld72p, ld85, ld85p, st3s, st4s, st22s, st23s, st24s, st26w, st28w, st42s, st45w, st49w, st85w, ix22, ix22p, ix23, ix23p, ix24, ix24p, ix31, ix31p, ix42, ix42p, ix104, ix104p, ln22, ln22p, ln23, ln23p, ln24, ln24p, ln31, ln31p, ln42, ln42p, al4, al22, al26, al28, al42, al49, al85, cf10, cf11, cf12, cf13, cf14, cf15, cf16, cf17, cf18, cf19, cf20, cf21, cf22, cf23, cf24, cf25, cf26, cf27, cf28, cf29, cf30, cf31, cf32, cf33, cf34, cf35, cf36, cf37, cf38, cf39, cf40, cf41, cf42, cf43, cf44, cf45, cf46, cf47, cf48, cf49, cf50, cf51, cf52, cf53, cf54, cf55, cf56, cf57, cf58, cf59, cf60, cf61, cf62, cf63, cf64, cf65, cf66, cf67, cf68, cf69, cf70, cf71, cf72, cf73, cf74, cf75, bd26_0_1_2_7_8_9_10_11_12_13_14_4_15, bd26_0_1_2_7_8_9_10_11_12_13_14_4_15p, bd28_, bd28_p, bd28_0, bd28_0p, bd28_0_1, bd28_0_1p, bd45_1_3_4_5_6, bd45_1_3_4_5_6p, bd49_0_1, bd49_0_1p, bd49_1, bd49_1p, bd74_0_1_2_3, bd74_0_1_2_3p, bd85_0, bd85_0p, bd85_0_1, bd85_0_1p, bd93_0_1_2, bd93_0_1_2p, bd94_0_1_2_3, bd94_0_1_2_3p, bs42_1_0, bs22_1_0, bs24_1_0, bs42_3_0_1_2, bs31_1_0, bs22_2_0_1, bs42_6_0_1_2_3_4_5, bs42_0_, eq4, eq4p, eq28, eq28p, eq42n, eq42np, eq42s, eq42sp, eq58n, eq58np, eq58s, eq58sp, eq63n, eq63np, eq63s, eq63sp, ne28, ne28p, ne45, ne45p]
  generalize Hp.set h5 xf _ = h6 at s6 d6 ⊢
  have s6 : HL.Sep [noHp.set xf (cellO f), io, ya, ga, h2] h6 := s6
  have cf : ∀ j, cellIn G h6 ⟨xf, j, none⟩ = _ := fun j => cell_of (look_own (s6.at 0 rfl set_self))
  try simp -implicitDefEqProofs only [opH_sv, opH_su, pureW_sv, opH_nil, pureW_nil, pick_t, pick_f, pick_tp, pick_fp, gd_tt, gd_ft, gd_tf, gd_ff, box_new, regs0, regs1, regs2, regs3, regs4, regs5, regs6, cells_agg, cells_int, cells_bool, cells_ptr, cells_slice, cells_string, cells_func, cells_nilFunc, cells_map, retK_ret, retK_normal, resL_tmp, resL_cell, resL_nil0, resL_nil1, resL_nil2, resL_nil3, resC_ptr, ex0, ex1, ex2, ex0p, ex1p, ex2p, HL.cond_true, HL.cond_false, thenK_normal, thenK_ret, thenK_exit, blockK_normal, blockK_ret, blockK_exit, scopeK_normal, scopeK_ret, scopeK_exit, wpH_pure, bin_add, bin_sub, bin_mul, bin_lss, bin_leq, bin_gtr, bin_geq, bin_quo, bin_rem, bin_quop, bin_remp, wrap_in, bin_addp, bin_subp, bin_mulp, bin_lssp, bin_leqp, bin_gtrp, bin_geqp, un_not, un_notp, un_neg, eq_int, ne_int, eq_intp, ne_intp, callV_fn, add_mk, upd_eq, upd_ne, cell_set_self, Nat.zero_add, Nat.add_zero, Option.some.injEq, exists_eq_left', List.getElem?_cons_succ, List.getElem?_cons_zero, true_and, and_true, bne_self_eq_false, beq_self_eq_true, Bool.not_true, Bool.not_false, Bool.and_true, Bool.and_self, Bool.and_false, Bool.true_and, List.length_cons, List.length_nil, ne_eq, not_false_eq_true, Nat.reduceAdd, Nat.reduceMul, if_true, if_false, oneCell_int, oneCell_bool, oneCell_ptr, oneCell_slice, oneCell_string, oneCell_func, oneCell_map, Int.toNat_natCast, List.set_cons_zero, List.set_cons_succ, Nat.lt_irrefl, Nat.zero_lt_succ, Nat.succ_lt_succ_iff, fa26_0, fa26_0p, fa26_1, fa26_1p, fa26_10, fa26_10p, fa26_11, fa26_11p, fa26_12, fa26_12p, fa26_13, fa26_13p, fa26_14, fa26_14p, fa26_15, fa26_15p, fa26_2, fa26_2p, fa26_3, fa26_3p, fa26_4, fa26_4p, fa26_5, fa26_5p, fa26_6, fa26_6p, fa26_7, fa26_7p, fa26_8, fa26_8p, fa26_9, fa26_9p, fa28_0, fa28_0p, fa28_1, fa28_1p, fa45_0, fa45_0p, fa45_1, fa45_1p, fa45_2, fa45_2p, fa45_3, fa45_3p, fa45_4, fa45_4p, fa45_5, fa45_5p, fa45_6, fa45_6p, fa49_0, fa49_0p, fa49_1, fa49_1p, fa74_0, fa74_0p, fa74_1, fa74_1p, fa74_2, fa74_2p, fa74_3, fa74_3p, fa85_0, fa85_0p, fa85_1, fa85_1p, fa93_0, fa93_0p, fa93_1, fa93_1p, fa93_2, fa93_2p, ld3, ld3p, ld4, ld4p, ld22, ld22p, ld23, ld23p, ld24, ld24p, ld26, ld26p, ld28, ld28p, ld42, ld42p, ld45, ld45p, ld49, ld49p, ld58, ld58p, ld69, ld69p, ld72, ld72p, ld85, ld85p, st3s, st4s, st22s, st23s, st24s, st26w, st28w, st42s, st45w, st49w, st85w, ix22, ix22p, ix23, ix23p, ix24, ix24p, ix31, ix31p, ix42, ix42p, ix104, ix104p, ln22, ln22p, ln23, ln23p, ln24, ln24p, ln31, ln31p, ln42, ln42p, al4, al22, al26, al28, al42, al49, al85, cf10, cf11, cf12, cf13, cf14, cf15, cf16, cf17, cf18, cf19, cf20, cf21, cf22, cf23, cf24, cf25, cf26, cf27, cf28, cf29, cf30, cf31, cf32, cf33, cf34, cf35, cf36, cf37, cf38, cf39, cf40, cf41, cf42, cf43, cf44, cf45, cf46, cf47, cf48, cf49, cf50, cf51, cf52, cf53, cf54, cf55, cf56, cf57, cf58, cf59, cf60, cf61, cf62, cf63, cf64, cf65, cf66, cf67, cf68, cf69, cf70, cf71, cf72, cf73, cf74, cf75, bd26_0_1_2_7_8_9_10_11_12_13_14_4_15, bd26_0_1_2_7_8_9_10_11_12_13_14_4_15p, bd28_, bd28_p, bd28_0, bd28_0p, bd28_0_1, bd28_0_1p, bd45_1_3_4_5_6, bd45_1_3_4_5_6p, bd49_0_1, bd49_0_1p, bd49_1, bd49_1p, bd74_0_1_2_3, bd74_0_1_2_3p, bd85_0, bd85_0p, bd85_0_1, bd85_0_1p, bd93_0_1_2, bd93_0_1_2p, bd94_0_1_2_3, bd94_0_1_2_3p, bs42_1_0, bs22_1_0, bs24_1_0, bs42_3_0_1_2, bs31_1_0, bs22_2_0_1, bs42_6_0_1_2_3_4_5, bs42_0_, eq4, eq4p, eq28, eq28p, eq42n, eq42np, eq42s, eq42sp, eq58n, eq58np, eq58s, eq58sp, eq63n, eq63np, eq63s, eq63sp, ne28, ne28p, ne45, ne45p, cf]
  refine (contains_spec (c := f) ((htv G h2 l02).up (s6.in 4 rfl) d6) hTL).mono ?_
  rintro _ h6 ⟨rfl, rfl⟩
  try simp -implicitDefEqProofs only [opH_sv, opH_su, pureW_sv, opH_nil, pureW_nil, pick_t, pick_f, pick_tp, pick_fp, gd_tt, gd_ft, gd_tf, gd_ff, box_new, regs0, regs1, regs2, regs3, regs4, regs5, regs6, cells_agg, cells_int, cells_bool, cells_ptr, cells_slice, cells_string, cells_func, cells_nilFunc, cells_map, retK_ret, retK_normal, resL_tmp, resL_cell, resL_nil0, resL_nil1, resL_nil2, resL_nil3, resC_ptr, ex0, ex1, ex2, ex0p, ex1p, ex2p, HL.cond_true, HL.cond_false, thenK_normal, thenK_ret, thenK_exit, blockK_normal, blockK_ret, blockK_exit, scopeK_normal, scopeK_ret, scopeK_exit, wpH_pure, bin_add, bin_sub, bin_mul, bin_lss, bin_leq, bin_gtr, bin_geq, bin_quo, bin_rem, bin_quop, bin_remp, wrap_in, bin_addp, bin_subp, bin_mulp, bin_lssp, bin_leqp, bin_gtrp, bin_geqp, un_not, un_notp, un_neg, eq_int, ne_int, eq_intp, ne_intp, callV_fn, add_mk, upd_eq, upd_ne, cell_set_self, Nat.zero_add, Nat.add_zero, Option.some.injEq, exists_eq_left', List.getElem?_cons_succ, List.getElem?_cons_zero, true_and, and_true, bne_self_eq_false, beq_self_eq_true, Bool.not_true, Bool.not_false, Bool.and_true, Bool.and_self, Bool.and_false, Bool.true_and, List.length_cons, List.length_nil, ne_eq, not_false_eq_true, Nat.reduceAdd, Nat.reduceMul, if_true, if_false, oneCell_int, oneCell_bool, oneCell_ptr, oneCell_slice, oneCell_string, oneCell_func, oneCell_map, Int.toNat_natCast, List.set_cons_zero, List.set_cons_succ, Nat.lt_irrefl, Nat.zero_lt_succ, Nat.succ_lt_succ_iff, fa26_0, fa26_0p, fa26_1, fa26_1p, fa26_10, fa26_10p, fa26_11, fa26_11p, fa26_12, fa26_12p, fa26_13, fa26_13p, fa26_14, fa26_14p, fa26_15, fa26_15p, fa26_2, fa26_2p, fa26_3, fa26_3p, fa26_4, fa26_4p, fa26_5, fa26_5p, fa26_6, fa26_6p, fa26_7, fa26_7p, fa26_8, fa26_8p, fa26_9, fa26_9p, fa28_0, fa28_0p, fa28_1, fa28_1p, fa45_0, fa45_0p, fa45_1, fa45_1p, fa45_2, fa45_2p, fa45_3, fa45_3p, fa45_4, fa45_4p, fa45_5, fa45_5p, fa45_6, fa45_6p, fa49_0, fa49_0p, fa49_1, fa49_1p, fa74_0, fa74_0p, fa74_1, fa74_1p, fa74_2, fa74_2p, fa74_3, fa74_3p, fa85_0, fa85_0p, fa85_1, fa85_1p, fa93_0, fa93_0p, fa93_1, fa93_1p, fa93_2, fa93_2p, ld3, ld3p, ld4, ld4p, ld22, ld22p, ld23, ld23p, ld24, ld24p, ld26, ld26p, ld28, ld28p, ld42, ld42p, ld45, ld45p, ld49, ld49p, ld58, ld58p, ld69, ld69p, ld72, ld72p, ld85, ld85p, st3s, st4s, st22s, st23s, st24s, st26w, st28w, st42s, st45w, st49w, st85w, ix22, ix22p, ix23, ix23p, ix24, ix24p, ix31, ix31p, ix42, ix42p, ix104, ix104p, ln22, ln22p, ln23, ln23p, ln24, ln24p, ln31, ln31p, ln42, ln42p, al4, al22, al26, al28, al42, al49, al85, cf10, cf11, cf12, cf13, cf14, cf15, cf16, cf17, cf18, cf19, cf20, cf21, cf22, cf23, cf24, cf25, cf26, cf27, cf28, cf29, cf30, cf31, cf32, cf33, cf34, cf35, cf36, cf37, cf38, cf39, cf40, cf41, cf42, cf43, cf44, cf45, cf46, cf47, cf48, cf49, cf50, cf51, cf52, cf53, cf54, cf55, cf56, cf57, cf58, cf59, cf60, cf61, cf62, cf63, cf64, cf65, cf66, cf67, cf68, cf69, cf70, cf71, cf72, cf73, cf74, cf75, bd26_0_1_2_7_8_9_10_11_12_13_14_4_15, bd26_0_1_2_7_8_9_10_11_12_13_14_4_15p, bd28_, bd28_p, bd28_0, bd28_0p, bd28_0_1, bd28_0_1p, bd45_1_3_4_5_6, bd45_1_3_4_5_6p, bd49_0_1, bd49_0_1p, bd49_1, bd49_1p, bd74_0_1_2_3, bd74_0_1_2_3p, bd85_0, bd85_0p, bd85_0_1, bd85_0_1p, bd93_0_1_2, bd93_0_1_2p, bd94_0_1_2_3, bd94_0_1_2_3p, bs42_1_0, bs22_1_0, bs24_1_0, bs42_3_0_1_2, bs31_1_0, bs22_2_0_1, bs42_6_0_1_2_3_4_5, bs42_0_, eq4, eq4p, eq28, eq28p, eq42n, eq42np, eq42s, eq42sp, eq58n, eq58np, eq58s, eq58sp, eq63n, eq63np, eq63s, eq63sp, ne28, ne28p, ne45, ne45p]
  refine cond_dec (fun hft => ?_) (fun hft => ?_)
  · try simp -implicitDefEqProofs only [opH_sv, opH_su, pureW_sv, opH_nil, pureW_nil, pick_t, pick_f, pick_tp, pick_fp, gd_tt, gd_ft, gd_tf, gd_ff, box_new, regs0, regs1, regs2, regs3, regs4, regs5, regs6, cells_agg, cells_int, cells_bool, cells_ptr, cells_slice, cells_string, cells_func, cells_nilFunc, cells_map, retK_ret, retK_normal, resL_tmp, resL_cell, resL_nil0, resL_nil1, resL_nil2, resL_nil3, resC_ptr, ex0, ex1, ex2, ex0p, ex1p, ex2p, HL.cond_true, HL.cond_false, thenK_normal, thenK_ret, thenK_exit, blockK_normal, blockK_ret, blockK_exit, scopeK_normal, scopeK_ret, scopeK_exit, wpH_pure, bin_add, bin_sub, bin_mul, bin_lss, bin_leq, bin_gtr, bin_geq, bin_quo, bin_rem, bin_quop, bin_remp, wrap_in, bin_addp, bin_subp, bin_mulp, bin_lssp, bin_leqp, bin_gtrp, bin_geqp, un_not, un_notp, un_neg, eq_int, ne_int, eq_intp, ne_intp, callV_fn, add_mk, upd_eq, upd_ne, cell_set_self, Nat.zero_add, Nat.add_zero, Option.some.injEq, exists_eq_left', List.getElem?_cons_succ, List.getElem?_cons_zero, true_and, and_true, bne_self_eq_false, beq_self_eq_true, Bool.not_true, Bool.not_false, Bool.and_true, Bool.and_self, Bool.and_false, Bool.true_and, List.length_cons, List.length_nil, ne_eq, not_false_eq_true, Nat.reduceAdd, Nat.reduceMul, if_true, if_false, oneCell_int, oneCell_bool, oneCell_ptr, oneCell_slice, oneCell_string, oneCell_func, oneCell_map, Int.toNat_natCast, List.set_cons_zero, List.set_cons_succ, Nat.lt_irrefl, Nat.zero_lt_succ, Nat.succ_lt_succ_iff, fa26_0, fa26_0p, fa26_1, fa26_1p, fa26_10, fa26_10p, fa26_11, fa26_11p, fa26_12, fa26_12p, fa26_13, fa26_13p, fa26_14, fa26_14p, fa26_15, fa26_15p, fa26_2, fa26_2p, fa26_3, fa26_3p, fa26_4, fa26_4p, fa26_5, fa26_5p, fa26_6, fa26_6p, fa26_7, fa26_7p, fa26_8, fa26_8p, fa26_9, fa26_9p, fa28_0, fa28_0p, fa28_1, fa28_1p, fa45_0, fa45_0p, fa45_1, fa45_1p, fa45_2, fa45_2p, fa45_3, fa45_3p, fa45_4, fa45_4p, fa45_5, fa45_5p, fa45_6, fa45_6p, fa49_0, fa49_0p, fa49_1, fa49_1p, fa74_0, fa74_0p, fa74_1, fa74_1p, fa74_2, fa74_2p, fa74_3, fa74_3p, fa85_0, fa85_0p, fa85_1, fa85_1p, fa93_0, fa93_0p, fa93_1, fa93_1p, fa93_2, fa93_2p, ld3, ld3p, ld4, ld4p, ld22, ld22p, ld23, ld23p, ld24, ld24p, ld26, ld26p, ld28, ld28p, ld42, ld42p, ld45, ld45p, ld49, ld49p, ld58, ld58p, ld69, ld69p, ld72, ld72p, ld85, ld85p, st3s, st4s, st22s, st23s, st24s, st26w, st28w, st42s, st45w, st49w, st85w, ix22, ix22p, ix23, ix23p, ix24, ix24p, ix31, ix31p, ix42, ix42p, ix104, ix104p, ln22, ln22p, ln23, ln23p, ln24, ln24p, ln31, ln31p, ln42, ln42p, al4, al22, al26, al28, al42, al49, al85, cf10, cf11, cf12, cf13, cf14, cf15, cf16, cf17, cf18, cf19, cf20, cf21, cf22, cf23, cf24, cf25, cf26, cf27, cf28, cf29, cf30, cf31, cf32, cf33, cf34, cf35, cf36, cf37, cf38, cf39, cf40, cf41, cf42, cf43, cf44, cf45, cf46, cf47, cf48, cf49, cf50, cf51, cf52, cf53, cf54, cf55, cf56, cf57, cf58, cf59, cf60, cf61, cf62, cf63, cf64, cf65, cf66, cf67, cf68, cf69, cf70, cf71, cf72, cf73, cf74, cf75, bd26_0_1_2_7_8_9_10_11_12_13_14_4_15, bd26_0_1_2_7_8_9_10_11_12_13_14_4_15p, bd28_, bd28_p, bd28_0, bd28_0p, bd28_0_1, bd28_0_1p, bd45_1_3_4_5_6, bd45_1_3_4_5_6p, bd49_0_1, bd49_0_1p, bd49_1, bd49_1p, bd74_0_1_2_3, bd74_0_1_2_3p, bd85_0, bd85_0p, bd85_0_1, bd85_0_1p, bd93_0_1_2, bd93_0_1_2p, bd94_0_1_2_3, bd94_0_1_2_3p, bs42_1_0, bs22_1_0, bs24_1_0, bs42_3_0_1_2, bs31_1_0, bs22_2_0_1, bs42_6_0_1_2_3_4_5, bs42_0_, eq4, eq4p, eq28, eq28p, eq42n, eq42np, eq42s, eq42sp, eq58n, eq58np, eq58s, eq58sp, eq63n, eq63np, eq63s, eq63sp, ne28, ne28p, ne45, ne45p]
    exact fail 8 _ (s6.sel [4] (by decide) rfl) d6 (jobsR_touched hge e5 hft)
  unfold S12_k3
  have hAl : (aboveL (binsL S f) bin).length ≤ 17592186044320 := above_len (bins_le hB)
  generalize aboveL (binsL S f) bin = A at ov e5 hAl
  obtain ⟨va0, vc0, rfl, _⟩ := ov.len (by decide)
  try simp -implicitDefEqProofs (disch := first | with_reducible exact Nat.ne_of_beq_eq_false rfl | omega) only [upd_ne, upd_eq, opH_sv, ln42]
  generalize hKK : retK Tryd.prog G _ _ = KK
  refine loop_I (fun m q h7 => ∃ (i : Nat) (GL : List Cell) (aw ag ya : Hp) (va vg : Value) (hv : Cell → Int) (is : Cell → Bool), m = A.length - i ∧ i ≤ A.length ∧ GL.length = i ∧ Given S C.ht (rstacksL C) GL ∧ placesL S TL C.ht f (rstacksL C) (A.length - i) GL = placesL S TL C.ht f (rstacksL C) A.length [] ∧
      q 3 = .int .i64 bin ∧ q 5 = .pointer (some ⟨v0, 0, none⟩) ∧ q 9 = .pointer (some ⟨v1, 0, none⟩) ∧ q 12 = .pointer (some ⟨yp, 0, none⟩) ∧ q 14 = .pointer (some ⟨xf, 0, none⟩) ∧ q 17 = va ∧ q 18 = vg ∧ q 56 = .slice va0 A.length vc0 ∧ q 57 = .int .i64 A.length ∧ q 58 = .int .i64 i ∧
      YardO ya yp gp mb C.ht (.slice ta TL.length tc) hv is ∧ (∀ c, (if is c = true then hv c else 0) = hgt S c + (GL.count c : Int)) ∧ Slc jobC 45 aw va (List.zipWith (awayJ f) (A.take i) GL) ∧ Slc jobC 45 ag vg (List.zipWith (againJ f) (A.take i) GL) ∧ HL.Sep [aw, ag, noHp.set xf (cellO f), io, ya, ga, h2] h7 ∧ Dis G h7) ?_
    (m := A.length) ⟨0, [], noHp, noHp, ya, .slice none 0 0, .slice none 0 0, hgt S, is, rfl, Nat.zero_le _, rfl, Given.nil (by omega), rfl, by simp -implicitDefEqProofs (disch := first | with_reducible exact Nat.ne_of_beq_eq_false rfl | omega) only [upd_ne, regs3], by simp -implicitDefEqProofs (disch := first | with_reducible exact Nat.ne_of_beq_eq_false rfl | omega) only [upd_ne, upd_eq], by simp -implicitDefEqProofs (disch := first | with_reducible exact Nat.ne_of_beq_eq_false rfl | omega) only [upd_ne, upd_eq], by simp -implicitDefEqProofs (disch := first | with_reducible exact Nat.ne_of_beq_eq_false rfl | omega) only [upd_ne, upd_eq], by simp -implicitDefEqProofs (disch := first | with_reducible exact Nat.ne_of_beq_eq_false rfl | omega) only [upd_ne, upd_eq], by simp -implicitDefEqProofs (disch := first | with_reducible exact Nat.ne_of_beq_eq_false rfl | omega) only [upd_ne, upd_eq], by simp -implicitDefEqProofs (disch := first | with_reducible exact Nat.ne_of_beq_eq_false rfl | omega) only [upd_ne, upd_eq], by simp -implicitDefEqProofs (disch := first | with_reducible exact Nat.ne_of_beq_eq_false rfl | omega) only [upd_ne, upd_eq], by simp -implicitDefEqProofs (disch := first | with_reducible exact Nat.ne_of_beq_eq_false rfl | omega) only [upd_ne, upd_eq], by simp -implicitDefEqProofs only [upd_eq] <;> rfl, yo, (fun c => by
      cases hc : is c with
      | true => simp
      | false => rw [his c hc]; simp), Slc.nil, Slc.nil, s6.none.none, d6⟩
  clear s6 cf d6 yo ty mi om C' ab' cb' ap' cp' ar' cr' az' cs' cy his is
  rintro m q h7 ⟨i, GL, aw, ag, ya, va, vg, hv, is, rfl, hi, hgl, gv, hpl, q3, q5, q9, q12, q14, q17, q18, q56, q57, q58, yo, hgt', oa, og, s7, d7⟩ X HX
  have hgl8 := gv.len ht8.2 hcl
  unfold S12_l6
  simp -implicitDefEqProofs only [q58, q57, thenK_exit, blockK_exit, thenK_normal, if_true, opH_sv, bin_lss]
  refine cond_dec (fun hlt => ?_) (fun hge2 => ?_)
  rotate_left
  · obtain rfl : i = A.length := by omega
    rw [List.take_of_length_le (Nat.le_refl _)] at oa og
    rw [Nat.sub_self, placesL] at hpl
    have ej0 := jobsR_ok (GL := GL) hge e5 hft hpl.symm
    try simp -implicitDefEqProofs (disch := first | with_reducible exact Nat.ne_of_beq_eq_false rfl | omega) only [opH_sv, opH_su, pureW_sv, opH_nil, pureW_nil, pick_t, pick_f, pick_tp, pick_fp, gd_tt, gd_ft, gd_tf, gd_ff, box_new, regs0, regs1, regs2, regs3, regs4, regs5, regs6, cells_agg, cells_int, cells_bool, cells_ptr, cells_slice, cells_string, cells_func, cells_nilFunc, cells_map, retK_ret, retK_normal, resL_tmp, resL_cell, resL_nil0, resL_nil1, resL_nil2, resL_nil3, resC_ptr, ex0, ex1, ex2, ex0p, ex1p, ex2p, HL.cond_true, HL.cond_false, thenK_normal, thenK_ret, thenK_exit, blockK_normal, blockK_ret, blockK_exit, scopeK_normal, scopeK_ret, scopeK_exit, wpH_pure, bin_add, bin_sub, bin_mul, bin_lss, bin_leq, bin_gtr, bin_geq, bin_quo, bin_rem, bin_quop, bin_remp, wrap_in, bin_addp, bin_subp, bin_mulp, bin_lssp, bin_leqp, bin_gtrp, bin_geqp, un_not, un_notp, un_neg, eq_int, ne_int, eq_intp, ne_intp, callV_fn, add_mk, upd_eq, upd_ne, cell_set_self, Nat.zero_add, Nat.add_zero, Option.some.injEq, exists_eq_left', List.getElem?_cons_succ, List.getElem?_cons_zero, true_and, and_true, bne_self_eq_false, beq_self_eq_true, Bool.not_true, Bool.not_false, Bool.and_true, Bool.and_self, Bool.and_false, Bool.true_and, List.length_cons, List.length_nil, ne_eq, not_false_eq_true, Nat.reduceAdd, Nat.reduceMul, if_true, if_false, oneCell_int, oneCell_bool, oneCell_ptr, oneCell_slice, oneCell_string, oneCell_func, oneCell_map, Int.toNat_natCast, List.set_cons_zero, List.set_cons_succ, Nat.lt_irrefl, Nat.zero_lt_succ, Nat.succ_lt_succ_iff, fa26_0, fa26_0p, fa26_1, fa26_1p, fa26_10, fa26_10p, fa26_11, fa26_11p, fa26_12, fa26_12p, fa26_13, fa26_13p, fa26_14, fa26_14p, fa26_15, fa26_15p, fa26_2, fa26_2p, fa26_3, fa26_3p, fa26_4, fa26_4p, fa26_5, fa26_5p, fa26_6, fa26_6p, fa26_7, fa26_7p, fa26_8, fa26_8p, fa26_9, fa26_9p, fa28_0, fa28_0p, fa28_1, fa28_1p, fa45_0, fa45_0p, fa45_1, fa45_1p, fa45_2, fa45_2p, fa45_3, fa45_3p, fa45_4, fa45_4p, fa45_5, fa45_5p, fa45_6, fa45_6p, fa49_0, fa49_0p, fa49_1, fa49_1p, fa74_0, fa74_0p, fa74_1, fa74_1p, fa74_2, fa74_2p, fa74_3, fa74_3p, fa85_0, fa85_0p, fa85_1, fa85_1p, fa93_0, fa93_0p, fa93_1, fa93_1p, fa93_2, fa93_2p, ld3, ld3p, ld4, ld4p, ld22, ld22p, ld23, ld23p, ld24, ld24p, ld26, ld26p, ld28, ld28p, ld42, ld42p, ld45, ld45p, ld49, ld49p, ld58, ld58p, ld69, ld69p, ld72, ld72p, ld85, ld85p, st3s, st4s, st22s, st23s, st24s, st26w, st28w, st42s, st45w, st49w, st85w, ix22, ix22p, ix23, ix23p, ix24, ix24p, ix31, ix31p, ix42, ix42p, ix104, ix104p, ln22, ln22p, ln23, ln23p, ln24, ln24p, ln31, ln31p, ln42, ln42p, al4, al22, al26, al28, al42, al49, al85, cf10, cf11, cf12, cf13, cf14, cf15, cf16, cf17, cf18, cf19, cf20, cf21, cf22, cf23, cf24, cf25, cf26, cf27, cf28, cf29, cf30, cf31, cf32, cf33, cf34, cf35, cf36, cf37, cf38, cf39, cf40, cf41, cf42, cf43, cf44, cf45, cf46, cf47, cf48, cf49, cf50, cf51, cf52, cf53, cf54, cf55, cf56, cf57, cf58, cf59, cf60, cf61, cf62, cf63, cf64, cf65, cf66, cf67, cf68, cf69, cf70, cf71, cf72, cf73, cf74, cf75, bd26_0_1_2_7_8_9_10_11_12_13_14_4_15, bd26_0_1_2_7_8_9_10_11_12_13_14_4_15p, bd28_, bd28_p, bd28_0, bd28_0p, bd28_0_1, bd28_0_1p, bd45_1_3_4_5_6, bd45_1_3_4_5_6p, bd49_0_1, bd49_0_1p, bd49_1, bd49_1p, bd74_0_1_2_3, bd74_0_1_2_3p, bd85_0, bd85_0p, bd85_0_1, bd85_0_1p, bd93_0_1_2, bd93_0_1_2p, bd94_0_1_2_3, bd94_0_1_2_3p, bs42_1_0, bs22_1_0, bs24_1_0, bs42_3_0_1_2, bs31_1_0, bs22_2_0_1, bs42_6_0_1_2_3_4_5, bs42_0_, eq4, eq4p, eq28, eq28p, eq42n, eq42np, eq42s, eq42sp, eq58n, eq58np, eq58s, eq58sp, eq63n, eq63np, eq63s, eq63sp, ne28, ne28p, ne45, ne45p]
    unfold S12_k4
    have cf : ∀ j, cellIn G h7 ⟨xf, j, none⟩ = _ := fun j => cell_of (look_own (s7.at 2 rfl set_self))
    have c1 : ∀ j, cellIn G h7 ⟨v1, j, none⟩ = _ := fun j => cell_of (look_own (s7.in 6 rfl _ _ b1))
    try simp -implicitDefEqProofs (disch := first | with_reducible exact Nat.ne_of_beq_eq_false rfl | omega) only [upd_ne, q14, q9, q3, q17, q5, opH_sv, cf38, fa26_15, add_mk, Nat.zero_add, ld4, ld28, Nat.add_zero, cf, List.getElem?_cons_zero, Option.some.injEq, List.getElem?_cons_succ, c1, bd45_1_3_4_5_6, bs31_1_0, exists_eq_left']
    intro b hb gb
    generalize eb : Hp.set h7 b _ = h8
    obtain ⟨l8, d8, b8⟩ := boxed eb hb d7 gb
    have s8 := s7.past (o := .cells #[.int .i64 0, .int .i64 2, .int .i64 0, .int .i64 bin, .int .i64 f.1, .int .i64 f.2, .int .i64 port.1, .int .i64 port.2, .int .i64 (-1)] 45 (0, 0)) hb
    rw [eb] at s8
    have z1 := zip_len (F := awayJ f) (A := A) (GL := GL)
    have z2 := zip_len (F := againJ f) (A := A) (GL := GL)
    refine append_piece jobC (by decide) un31 eojob (by decide) (by decide) (M := [fetchJ f bin port]) s8 d8 oa (Sees.row (c := jobC) (L := [fetchJ f bin port]) b8 rfl (Nat.le_refl _)) (by simp only [List.length_cons, List.length_nil]; omega) fun v9 a9 h9 o9 s9 d9 => ?_
    have cv0 : ∀ j, cellIn G h9 ⟨v0, j, none⟩ = _ := fun j => cell_of (look_own (s9.in 6 rfl _ _ b0'))
    try simp -implicitDefEqProofs only [cv0, List.getElem?_cons_succ, List.getElem?_cons_zero, Option.some.injEq, exists_eq_left']
    refine cond_bool (fun hb => ?_) (fun hb => ?_)
    · try simp -implicitDefEqProofs only [q18]
      refine (revj_spec (s9.sel [1, 0, 6] (by decide) rfl) og (by omega)).mono ?_
      rintro _ h10 ⟨ag', og', s10, d10⟩
      try simp -implicitDefEqProofs (disch := first | with_reducible exact Nat.ne_of_beq_eq_false rfl | omega) only [opH_sv, opH_su, pureW_sv, opH_nil, pureW_nil, pick_t, pick_f, pick_tp, pick_fp, gd_tt, gd_ft, gd_tf, gd_ff, box_new, regs0, regs1, regs2, regs3, regs4, regs5, regs6, cells_agg, cells_int, cells_bool, cells_ptr, cells_slice, cells_string, cells_func, cells_nilFunc, cells_map, retK_ret, retK_normal, resL_tmp, resL_cell, resL_nil0, resL_nil1, resL_nil2, resL_nil3, resC_ptr, ex0, ex1, ex2, ex0p, ex1p, ex2p, HL.cond_true, HL.cond_false, thenK_normal, thenK_ret, thenK_exit, blockK_normal, blockK_ret, blockK_exit, scopeK_normal, scopeK_ret, scopeK_exit, wpH_pure, bin_add, bin_sub, bin_mul, bin_lss, bin_leq, bin_gtr, bin_geq, bin_quo, bin_rem, bin_quop, bin_remp, wrap_in, bin_addp, bin_subp, bin_mulp, bin_lssp, bin_leqp, bin_gtrp, bin_geqp, un_not, un_notp, un_neg, eq_int, ne_int, eq_intp, ne_intp, callV_fn, add_mk, upd_eq, upd_ne, cell_set_self, Nat.zero_add, Nat.add_zero, Option.some.injEq, exists_eq_left', List.getElem?_cons_succ, List.getElem?_cons_zero, true_and, and_true, bne_self_eq_false, beq_self_eq_true, Bool.not_true, Bool.not_false, Bool.and_true, Bool.and_self, Bool.and_false, Bool.true_and, List.length_cons, List.length_nil, ne_eq, not_false_eq_true, Nat.reduceAdd, Nat.reduceMul, if_true, if_false, oneCell_int, oneCell_bool, oneCell_ptr, oneCell_slice, oneCell_string, oneCell_func, oneCell_map, Int.toNat_natCast, List.set_cons_zero, List.set_cons_succ, Nat.lt_irrefl, Nat.zero_lt_succ, Nat.succ_lt_succ_iff, fa26_0, fa26_0p, fa26_1, fa26_1p, fa26_10, fa26_10p, fa26_11, fa26_11p, fa26_12, fa26_12p, fa26_13, fa26_13p, fa26_14, fa26_14p, fa26_15, fa26_15p, fa26_2, fa26_2p, fa26_3, fa26_3p, fa26_4, fa26_4p, fa26_5, fa26_5p, fa26_6, fa26_6p, fa26_7, fa26_7p, fa26_8, fa26_8p, fa26_9, fa26_9p, fa28_0, fa28_0p, fa28_1, fa28_1p, fa45_0, fa45_0p, fa45_1, fa45_1p, fa45_2, fa45_2p, fa45_3, fa45_3p, fa45_4, fa45_4p, fa45_5, fa45_5p, fa45_6, fa45_6p, fa49_0, fa49_0p, fa49_1, fa49_1p, fa74_0, fa74_0p, fa74_1, fa74_1p, fa74_2, fa74_2p, fa74_3, fa74_3p, fa85_0, fa85_0p, fa85_1, fa85_1p, fa93_0, fa93_0p, fa93_1, fa93_1p, fa93_2, fa93_2p, ld3, ld3p, ld4, ld4p, ld22, ld22p, ld23, ld23p, ld24, ld24p, ld26, ld26p, ld28, ld28p, ld42, ld42p, ld45, ld45p, ld49, ld49p, ld58, ld58p, ld69, ld69p, ld72, ld72p, ld85, ld85p, st3s, st4s, st22s, st23s, st24s, st26w, st28w, st42s, st45w, st49w, st85w, ix22, ix22p, ix23, ix23p, ix24, ix24p, ix31, ix31p, ix42, ix42p, ix104, ix104p, ln22, ln22p, ln23, ln23p, ln24, ln24p, ln31, ln31p, ln42, ln42p, al4, al22, al26, al28, al42, al49, al85, cf10, cf11, cf12, cf13, cf14, cf15, cf16, cf17, cf18, cf19, cf20, cf21, cf22, cf23, cf24, cf25, cf26, cf27, cf28, cf29, cf30, cf31, cf32, cf33, cf34, cf35, cf36, cf37, cf38, cf39, cf40, cf41, cf42, cf43, cf44, cf45, cf46, cf47, cf48, cf49, cf50, cf51, cf52, cf53, cf54, cf55, cf56, cf57, cf58, cf59, cf60, cf61, cf62, cf63, cf64, cf65, cf66, cf67, cf68, cf69, cf70, cf71, cf72, cf73, cf74, cf75, bd26_0_1_2_7_8_9_10_11_12_13_14_4_15, bd26_0_1_2_7_8_9_10_11_12_13_14_4_15p, bd28_, bd28_p, bd28_0, bd28_0p, bd28_0_1, bd28_0_1p, bd45_1_3_4_5_6, bd45_1_3_4_5_6p, bd49_0_1, bd49_0_1p, bd49_1, bd49_1p, bd74_0_1_2_3, bd74_0_1_2_3p, bd85_0, bd85_0p, bd85_0_1, bd85_0_1p, bd93_0_1_2, bd93_0_1_2p, bd94_0_1_2_3, bd94_0_1_2_3p, bs42_1_0, bs22_1_0, bs24_1_0, bs42_3_0_1_2, bs31_1_0, bs22_2_0_1, bs42_6_0_1_2_3_4_5, bs42_0_, eq4, eq4p, eq28, eq28p, eq42n, eq42np, eq42s, eq42sp, eq58n, eq58np, eq58s, eq58sp, eq63n, eq63np, eq63s, eq63sp, ne28, ne28p, ne45, ne45p, q18]
      refine append_piece jobC (by decide) un31 eojob (by decide) (by decide) (s10.pick 1 rfl rfl) d10 o9 (og'.sees (by decide) (s10.in 0 rfl)) (by simp only [List.length_append, List.length_reverse, List.length_cons, List.length_nil]; omega) fun v11 a11 h11 o11 s11 d11 => ?_
      try simp -implicitDefEqProofs (disch := first | with_reducible exact Nat.ne_of_beq_eq_false rfl | omega) only [opH_sv, opH_su, pureW_sv, opH_nil, pureW_nil, pick_t, pick_f, pick_tp, pick_fp, gd_tt, gd_ft, gd_tf, gd_ff, box_new, regs0, regs1, regs2, regs3, regs4, regs5, regs6, cells_agg, cells_int, cells_bool, cells_ptr, cells_slice, cells_string, cells_func, cells_nilFunc, cells_map, retK_ret, retK_normal, resL_tmp, resL_cell, resL_nil0, resL_nil1, resL_nil2, resL_nil3, resC_ptr, ex0, ex1, ex2, ex0p, ex1p, ex2p, HL.cond_true, HL.cond_false, thenK_normal, thenK_ret, thenK_exit, blockK_normal, blockK_ret, blockK_exit, scopeK_normal, scopeK_ret, scopeK_exit, wpH_pure, bin_add, bin_sub, bin_mul, bin_lss, bin_leq, bin_gtr, bin_geq, bin_quo, bin_rem, bin_quop, bin_remp, wrap_in, bin_addp, bin_subp, bin_mulp, bin_lssp, bin_leqp, bin_gtrp, bin_geqp, un_not, un_notp, un_neg, eq_int, ne_int, eq_intp, ne_intp, callV_fn, add_mk, upd_eq, upd_ne, cell_set_self, Nat.zero_add, Nat.add_zero, Option.some.injEq, exists_eq_left', List.getElem?_cons_succ, List.getElem?_cons_zero, true_and, and_true, bne_self_eq_false, beq_self_eq_true, Bool.not_true, Bool.not_false, Bool.and_true, Bool.and_self, Bool.and_false, Bool.true_and, List.length_cons, List.length_nil, ne_eq, not_false_eq_true, Nat.reduceAdd, Nat.reduceMul, if_true, if_false, oneCell_int, oneCell_bool, oneCell_ptr, oneCell_slice, oneCell_string, oneCell_func, oneCell_map, Int.toNat_natCast, List.set_cons_zero, List.set_cons_succ, Nat.lt_irrefl, Nat.zero_lt_succ, Nat.succ_lt_succ_iff, fa26_0, fa26_0p, fa26_1, fa26_1p, fa26_10, fa26_10p, fa26_11, fa26_11p, fa26_12, fa26_12p, fa26_13, fa26_13p, fa26_14, fa26_14p, fa26_15, fa26_15p, fa26_2, fa26_2p, fa26_3, fa26_3p, fa26_4, fa26_4p, fa26_5, fa26_5p, fa26_6, fa26_6p, fa26_7, fa26_7p, fa26_8, fa26_8p, fa26_9, fa26_9p, fa28_0, fa28_0p, fa28_1, fa28_1p, fa45_0, fa45_0p, fa45_1, fa45_1p, fa45_2, fa45_2p, fa45_3, fa45_3p, fa45_4, fa45_4p, fa45_5, fa45_5p, fa45_6, fa45_6p, fa49_0, fa49_0p, fa49_1, fa49_1p, fa74_0, fa74_0p, fa74_1, fa74_1p, fa74_2, fa74_2p, fa74_3, fa74_3p, fa85_0, fa85_0p, fa85_1, fa85_1p, fa93_0, fa93_0p, fa93_1, fa93_1p, fa93_2, fa93_2p, ld3, ld3p, ld4, ld4p, ld22, ld22p, ld23, ld23p, ld24, ld24p, ld26, ld26p, ld28, ld28p, ld42, ld42p, ld45, ld45p, ld49, ld49p, ld58, ld58p, ld69, ld69p, ld72, ld72p, ld85, ld85p, st3s, st4s, st22s, st23s, st24s, st26w, st28w, st42s, st45w, st49w, st85w, ix22, ix22p, ix23, ix23p, ix24, ix24p, ix31, ix31p, ix42, ix42p, ix104, ix104p, ln22, ln22p, ln23, ln23p, ln24, ln24p, ln31, ln31p, ln42, ln42p, al4, al22, al26, al28, al42, al49, al85, cf10, cf11, cf12, cf13, cf14, cf15, cf16, cf17, cf18, cf19, cf20, cf21, cf22, cf23, cf24, cf25, cf26, cf27, cf28, cf29, cf30, cf31, cf32, cf33, cf34, cf35, cf36, cf37, cf38, cf39, cf40, cf41, cf42, cf43, cf44, cf45, cf46, cf47, cf48, cf49, cf50, cf51, cf52, cf53, cf54, cf55, cf56, cf57, cf58, cf59, cf60, cf61, cf62, cf63, cf64, cf65, cf66, cf67, cf68, cf69, cf70, cf71, cf72, cf73, cf74, cf75, bd26_0_1_2_7_8_9_10_11_12_13_14_4_15, bd26_0_1_2_7_8_9_10_11_12_13_14_4_15p, bd28_, bd28_p, bd28_0, bd28_0p, bd28_0_1, bd28_0_1p, bd45_1_3_4_5_6, bd45_1_3_4_5_6p, bd49_0_1, bd49_0_1p, bd49_1, bd49_1p, bd74_0_1_2_3, bd74_0_1_2_3p, bd85_0, bd85_0p, bd85_0_1, bd85_0_1p, bd93_0_1_2, bd93_0_1_2p, bd94_0_1_2_3, bd94_0_1_2_3p, bs42_1_0, bs22_1_0, bs24_1_0, bs42_3_0_1_2, bs31_1_0, bs22_2_0_1, bs42_6_0_1_2_3_4_5, bs42_0_, eq4, eq4p, eq28, eq28p, eq42n, eq42np, eq42s, eq42sp, eq58n, eq58np, eq58s, eq58sp, eq63n, eq63np, eq63s, eq63sp, ne28, ne28p, ne45, ne45p]
      unfold S12_k5
      rw [← hKK]
      try simp -implicitDefEqProofs (disch := first | with_reducible exact Nat.ne_of_beq_eq_false rfl | omega) only [upd_eq, retK_ret, resL_tmp, upd_ne, resL_nil2]
      refine ⟨l02.trans (s11.in 2 rfl), d11, .inl ⟨hm, a11, v11, by rw [ej0], ?_, ((s11.sel [2, 0] (by decide) rfl).cut l02).sel [1, 0] (by decide) rfl⟩⟩
      rw [ej0]
      unfold jobsOf
      rw [if_pos hb]
      exact o11
    · try simp -implicitDefEqProofs only [opH_sv, opH_su, pureW_sv, opH_nil, pureW_nil, pick_t, pick_f, pick_tp, pick_fp, gd_tt, gd_ft, gd_tf, gd_ff, box_new, regs0, regs1, regs2, regs3, regs4, regs5, regs6, cells_agg, cells_int, cells_bool, cells_ptr, cells_slice, cells_string, cells_func, cells_nilFunc, cells_map, retK_ret, retK_normal, resL_tmp, resL_cell, resL_nil0, resL_nil1, resL_nil2, resL_nil3, resC_ptr, ex0, ex1, ex2, ex0p, ex1p, ex2p, HL.cond_true, HL.cond_false, thenK_normal, thenK_ret, thenK_exit, blockK_normal, blockK_ret, blockK_exit, scopeK_normal, scopeK_ret, scopeK_exit, wpH_pure, bin_add, bin_sub, bin_mul, bin_lss, bin_leq, bin_gtr, bin_geq, bin_quo, bin_rem, bin_quop, bin_remp, wrap_in, bin_addp, bin_subp, bin_mulp, bin_lssp, bin_leqp, bin_gtrp, bin_geqp, un_not, un_notp, un_neg, eq_int, ne_int, eq_intp, ne_intp, callV_fn, add_mk, upd_eq, upd_ne, cell_set_self, Nat.zero_add, Nat.add_zero, Option.some.injEq, exists_eq_left', List.getElem?_cons_succ, List.getElem?_cons_zero, true_and, and_true, bne_self_eq_false, beq_self_eq_true, Bool.not_true, Bool.not_false, Bool.and_true, Bool.and_self, Bool.and_false, Bool.true_and, List.length_cons, List.length_nil, ne_eq, not_false_eq_true, Nat.reduceAdd, Nat.reduceMul, if_true, if_false, oneCell_int, oneCell_bool, oneCell_ptr, oneCell_slice, oneCell_string, oneCell_func, oneCell_map, Int.toNat_natCast, List.set_cons_zero, List.set_cons_succ, Nat.lt_irrefl, Nat.zero_lt_succ, Nat.succ_lt_succ_iff, fa26_0, fa26_0p, fa26_1, fa26_1p, fa26_10, fa26_10p, fa26_11, fa26_11p, fa26_12, fa26_12p, fa26_13, fa26_13p, fa26_14, fa26_14p, fa26_15, fa26_15p, fa26_2, fa26_2p, fa26_3, fa26_3p, fa26_4, fa26_4p, fa26_5, fa26_5p, fa26_6, fa26_6p, fa26_7, fa26_7p, fa26_8, fa26_8p, fa26_9, fa26_9p, fa28_0, fa28_0p, fa28_1, fa28_1p, fa45_0, fa45_0p, fa45_1, fa45_1p, fa45_2, fa45_2p, fa45_3, fa45_3p, fa45_4, fa45_4p, fa45_5, fa45_5p, fa45_6, fa45_6p, fa49_0, fa49_0p, fa49_1, fa49_1p, fa74_0, fa74_0p, fa74_1, fa74_1p, fa74_2, fa74_2p, fa74_3, fa74_3p, fa85_0, fa85_0p, fa85_1, fa85_1p, fa93_0, fa93_0p, fa93_1, fa93_1p, fa93_2, fa93_2p, ld3, ld3p, ld4, ld4p, ld22, ld22p, ld23, ld23p, ld24, ld24p, ld26, ld26p, ld28, ld28p, ld42, ld42p, ld45, ld45p, ld49, ld49p, ld58, ld58p, ld69, ld69p, ld72, ld72p, ld85, ld85p, st3s, st4s, st22s, st23s, st24s, st26w, st28w, st42s, st45w, st49w, st85w, ix22, ix22p, ix23, ix23p, ix24, ix24p, ix31, ix31p, ix42, ix42p, ix104, ix104p, ln22, ln22p, ln23, ln23p, ln24, ln24p, ln31, ln31p, ln42, ln42p, al4, al22, al26, al28, al42, al49, al85, cf10, cf11, cf12, cf13, cf14, cf15, cf16, cf17, cf18, cf19, cf20, cf21, cf22, cf23, cf24, cf25, cf26, cf27, cf28, cf29, cf30, cf31, cf32, cf33, cf34, cf35, cf36, cf37, cf38, cf39, cf40, cf41, cf42, cf43, cf44, cf45, cf46, cf47, cf48, cf49, cf50, cf51, cf52, cf53, cf54, cf55, cf56, cf57, cf58, cf59, cf60, cf61, cf62, cf63, cf64, cf65, cf66, cf67, cf68, cf69, cf70, cf71, cf72, cf73, cf74, cf75, bd26_0_1_2_7_8_9_10_11_12_13_14_4_15, bd26_0_1_2_7_8_9_10_11_12_13_14_4_15p, bd28_, bd28_p, bd28_0, bd28_0p, bd28_0_1, bd28_0_1p, bd45_1_3_4_5_6, bd45_1_3_4_5_6p, bd49_0_1, bd49_0_1p, bd49_1, bd49_1p, bd74_0_1_2_3, bd74_0_1_2_3p, bd85_0, bd85_0p, bd85_0_1, bd85_0_1p, bd93_0_1_2, bd93_0_1_2p, bd94_0_1_2_3, bd94_0_1_2_3p, bs42_1_0, bs22_1_0, bs24_1_0, bs42_3_0_1_2, bs31_1_0, bs22_2_0_1, bs42_6_0_1_2_3_4_5, bs42_0_, eq4, eq4p, eq28, eq28p, eq42n, eq42np, eq42s, eq42sp, eq58n, eq58np, eq58s, eq58sp, eq63n, eq63np, eq63s, eq63sp, ne28, ne28p, ne45, ne45p]
      unfold S12_k5
      rw [← hKK]
      try simp -implicitDefEqProofs (disch := first | with_reducible exact Nat.ne_of_beq_eq_false rfl | omega) only [upd_ne, upd_eq, retK_ret, resL_tmp, resL_nil2]
      refine ⟨l02.trans (s9.in 6 rfl), d9, .inl ⟨hm, a9, v9, by rw [ej0], ?_, ((s9.sel [6, 0] (by decide) rfl).cut l02).sel [1, 0] (by decide) rfl⟩⟩
      rw [ej0]
      unfold jobsOf
      rw [if_neg (by rw [hb]; decide), List.append_nil]
      exact o9
  obtain ⟨b, hAb⟩ : ∃ b, A[i]? = some b := ⟨_, List.getElem?_eq_getElem (by omega)⟩
  obtain ⟨ba, bo, rfl, y0⟩ := Sees.num (ov.sees (G := G) (by decide) (s7.in 3 rfl)) hAb
  unfold S12_l6_k7
  have cf : ∀ j, cellIn G h7 ⟨xf, j, none⟩ = _ := fun j => cell_of (look_own (s7.at 2 rfl set_self))
  try simp -implicitDefEqProofs (disch := first | with_reducible exact Nat.ne_of_beq_eq_false rfl | omega) only [upd_ne, q56, q58, q14, q12, thenK_ret, blockK_ret, opH_sv, opH_su, al28, cf37, ld28, add_mk, Nat.add_zero, Nat.zero_add, ix42 (Int.natCast_nonneg i) hlt, Int.toNat_natCast, Nat.mul_one, ld3, y0, Option.some.injEq, cf, List.getElem?_cons_zero, List.getElem?_cons_succ, exists_eq_left']
  refine (place_walk (from_ := f) (s7.sel [4, 5, 6, 0, 1, 2, 3] (by decide) rfl) yo go (fun G' => htv G' h2 l02) hTL).mono ?_
  rintro _ h8 ⟨rfl, s8, d8⟩
  rw [skip_given hgt', stacks_eq hm]
  have epl := hpl
  rw [show A.length - i = (A.length - (i + 1)) + 1 by omega, placesL] at epl
  generalize hbb : bestL f (skipR f C.ht S TL GL) none (rstacksL C) = bb at epl
  try simp -implicitDefEqProofs only [ex1, un_not, ex0, st28w]
  intro xt hxt gxt
  cases bb with
  | none =>
    try simp -implicitDefEqProofs only [Option.isSome_none, Bool.not_false, HL.cond_true]
    rw [← hKK]
    try simp -implicitDefEqProofs (disch := first | with_reducible exact Nat.ne_of_beq_eq_false rfl | omega) only [retK_ret, resL_tmp, upd_ne, upd_eq, resL_nil2]
    exact fail 14 _ ((s8.sel [2] (by decide) rfl).past hxt) (d8.set gxt) (jobsR_room hge e5 hft epl.symm)
  | some z =>
  obtain ⟨gv2, hroom⟩ := gv.add hbb
  have s9 := s8.new (o := cellO z) hxt
  have d9 := d8.set (o := cellO z) gxt
  try simp -implicitDefEqProofs (disch := first | with_reducible exact Nat.ne_of_beq_eq_false rfl | omega) only [Option.isSome_some, Bool.not_true, HL.cond_false]
  rw [show (bCell (some z)) = z from rfl]
  generalize Hp.set h8 xt _ = h9 at s9 d9 ⊢
  have s9 : HL.Sep [noHp.set xt (cellO z), ya, ga, h2, aw, ag, noHp.set xf (cellO f), io] h9 := s9
  unfold S12_l6_k9
  obtain ⟨om, C', ab', cb', ap', cp', ar', cr', az', cs', ty, _⟩ := id yo
  obtain ⟨om', hom, mi, nym⟩ := yo.map
  have cy : ∀ j, cellIn G h9 ⟨yp, j, none⟩ = _ := fun j => cell_of (look_own (s9.in 1 rfl _ _ (ty.at 0 rfl set_self)))
  have ct : ∀ j, cellIn G h9 ⟨xt, j, none⟩ = _ := fun j => cell_of (look_own (s9.at 0 rfl set_self))
  have hmb : h9 mb = some om' := s9.in 1 rfl _ _ hom
  have nxm : xt ≠ mb := fun e => by
    rcases s9.apart (b := ya) (by simp) xt with k | k
    · rw [set_self] at k; cases k
    · rw [e, hom] at k; cases k
  obtain ⟨n0, hn0⟩ : ∃ n0, n0 = hgt S z + (GL.count z : Int) := ⟨_, rfl⟩
  have ez : (if is (z.1, z.2) = true then hv (z.1, z.2) else 0) = n0 := by rw [hn0]; exact hgt' z
  have hn1 : 0 ≤ n0 ∧ n0 < 8 := by
    have h0 : 0 ≤ hgt S z := by unfold hgt; exact Int.natCast_nonneg _
    omega
  have kp := fun (o' : Obj) (hv' : Cell → Int) (is' : Cell → Bool) (m' : MapIs o' hv' is') (e : (if is z = true then hv z else 0) = (if is' z = true then hv' z else 0)) => soft_entry (G := G) (xb := xt) (z := z) hmb mi m' nym nxm e (a := ⟨yp, 17, none⟩) rfl rfl
  obtain ⟨Rd, hRd⟩ : ∃ Rd : Sem Next → Prop, Rd = (fun s => s = sv (Instr.loadAt 72 (.pointer (some ⟨yp, 17, none⟩))) ∨ s = sv (Instr.loadAt 28 (.pointer (some ⟨xt, 0, none⟩))) ∨ s = sv (Instr.lookup 72 (.map (some mb)) (.agg #[.int .i64 z.1, .int .i64 z.2]) false)) := ⟨_, rfl⟩
  rw [← hRd] at kp
  have r1 : Rd (sv (Instr.loadAt 72 (.pointer (some ⟨yp, 17, none⟩)))) := by rw [hRd]; exact .inl rfl
  have r2 : Rd (sv (Instr.loadAt 28 (.pointer (some ⟨xt, 0, none⟩)))) := by rw [hRd]; exact .inr (.inl rfl)
  have r3 : Rd (sv (Instr.lookup 72 (.map (some mb)) (.agg #[.int .i64 z.1, .int .i64 z.2]) false)) := by rw [hRd]; exact .inr (.inr rfl)
  refine ⟨h9, Rd, Hp.le.refl _, ?_⟩
  try simp -implicitDefEqProofs (disch := first | with_reducible exact Nat.ne_of_beq_eq_false rfl | omega) only [upd_ne, q12, upd_eq, r2, opH_sv, ld28, add_mk, Nat.add_zero, Nat.zero_add, opH_su, pureW_sv, ld28p, ct, List.getElem?_cons_zero, Option.some.injEq, List.getElem?_cons_succ, exists_eq_left', true_and, pureW_nil, fa74_2p, r1, ld72p, cy, r3, lk1 (look_own hmb) mi, ez, bin_addp, wrap_in]
  refine ment hmb mi fun o' stp me => ?_
  refine ⟨kp _ _ _ me.is ?_, ?_⟩
  · have e0 : ((z.1, z.2) == z) = true := by simp
    simp only [e0, Bool.true_or, if_true]
  rw [ez]
  try simp -implicitDefEqProofs only [ex1p]
  refine mest set_self me fun o2 m2 => ?_
  rw [set_set]
  have s10 := (s9.pick 1 rfl rfl).put (o := o2) hom
  have d10 := d9.set (o := o2) (d9 _ _ hmb)
  have yo2 := yo.put m2
  generalize Hp.set h9 mb o2 = h10 at s10 d10 ⊢
  generalize Hp.set ya mb o2 = ya2 at s10 yo2
  have s10 : HL.Sep [ya2, noHp.set xt (cellO z), ga, h2, aw, ag, noHp.set xf (cellO f), io] h10 := s10
  have cf10 : ∀ j, cellIn G h10 ⟨xf, j, none⟩ = _ := fun j => cell_of (look_own (s10.at 6 rfl set_self))
  have ct10 : ∀ j, cellIn G h10 ⟨xt, j, none⟩ = _ := fun j => cell_of (look_own (s10.at 1 rfl set_self))
  try simp -implicitDefEqProofs (disch := first | with_reducible exact Nat.ne_of_beq_eq_false rfl | omega) only [q14, q17, ld28, add_mk, Nat.add_zero, Nat.zero_add, bd45_1_3_4_5_6, bs31_1_0, cf10, List.getElem?_cons_zero, Option.some.injEq, List.getElem?_cons_succ, ct10, exists_eq_left']
  intro w1 hw1 gw1
  generalize eb : Hp.set h10 w1 _ = h11
  obtain ⟨l11, d11, b11⟩ := boxed eb hw1 d10 gw1
  have s11 := (s10.sel [4, 0, 1, 2, 3, 5, 6, 7] (by decide) rfl).past (o := .cells #[.int .i64 0, .int .i64 1, .int .i64 0, .int .i64 b, .int .i64 f.1, .int .i64 f.2, .int .i64 z.1, .int .i64 z.2, .int .i64 (-1)] 45 (0, 0)) hw1
  rw [eb] at s11
  have z1 := zip_len (F := awayJ f) (A := A.take i) (GL := GL)
  have z2 := zip_len (F := againJ f) (A := A.take i) (GL := GL)
  refine append_piece jobC (by decide) un31 eojob (by decide) (by decide) (M := [awayJ f b z]) s11 d11 oa (Sees.row (c := jobC) (L := [awayJ f b z]) b11 rfl (Nat.le_refl _)) (by simp only [List.length_cons, List.length_nil]; omega) fun v12 a12 h12 o12 s12 d12 => ?_
  -- [a12, ya2, xt, ga, h2, ag, xf, io]
  have cf12 : ∀ j, cellIn G h12 ⟨xf, j, none⟩ = _ := fun j => cell_of (look_own (s12.at 6 rfl set_self))
  have ct12 : ∀ j, cellIn G h12 ⟨xt, j, none⟩ = _ := fun j => cell_of (look_own (s12.at 2 rfl set_self))
  try simp -implicitDefEqProofs (disch := first | with_reducible exact Nat.ne_of_beq_eq_false rfl | omega) only [ct12, List.getElem?_cons_zero, Option.some.injEq, List.getElem?_cons_succ, cf12, q18, exists_eq_left']
  intro w2 hw2 gw2
  generalize eb2 : Hp.set h12 w2 _ = h13
  obtain ⟨l13, d13, b13⟩ := boxed eb2 hw2 d12 gw2
  have s13 := (s12.sel [5, 0, 6, 7, 1, 3, 4] (by decide) rfl).past (o := .cells #[.int .i64 0, .int .i64 3, .int .i64 0, .int .i64 b, .int .i64 z.1, .int .i64 z.2, .int .i64 f.1, .int .i64 f.2, .int .i64 (-1)] 45 (0, 0)) hw2
  rw [eb2] at s13
  refine append_piece jobC (by decide) un31 eojob (by decide) (by decide) (M := [againJ f b z]) s13 d13 og (Sees.row (c := jobC) (L := [againJ f b z]) b13 rfl (Nat.le_refl _)) (by simp only [List.length_cons, List.length_nil]; omega) fun v14 a14 h14 o14 s14 d14 => ?_
  -- [a14, a12, xf, io, ya2, ga, h2]
  unfold S12_l6_k8
  try simp -implicitDefEqProofs (disch := first | with_reducible exact Nat.ne_of_beq_eq_false rfl | omega) only [upd_ne, q58, thenK_normal, opH_sv, bin_add, wrap_in]
  refine HX (A.length - (i + 1)) _ _ (by omega) ⟨i + 1, GL ++ [z], a12, a14, ya2, v12, v14, _, _, rfl, by omega, by simp [hgl], gv2, epl, by simp -implicitDefEqProofs (disch := first | with_reducible exact Nat.ne_of_beq_eq_false rfl | omega) only [upd_ne, q3], by simp -implicitDefEqProofs (disch := first | with_reducible exact Nat.ne_of_beq_eq_false rfl | omega) only [upd_ne, q5], by simp -implicitDefEqProofs (disch := first | with_reducible exact Nat.ne_of_beq_eq_false rfl | omega) only [upd_ne, q9], by simp -implicitDefEqProofs (disch := first | with_reducible exact Nat.ne_of_beq_eq_false rfl | omega) only [upd_ne, q12], by simp -implicitDefEqProofs (disch := first | with_reducible exact Nat.ne_of_beq_eq_false rfl | omega) only [upd_ne, q14], by simp -implicitDefEqProofs (disch := first | with_reducible exact Nat.ne_of_beq_eq_false rfl | omega) only [upd_ne, upd_eq], by simp -implicitDefEqProofs (disch := first | with_reducible exact Nat.ne_of_beq_eq_false rfl | omega) only [upd_ne, upd_eq], by simp -implicitDefEqProofs (disch := first | with_reducible exact Nat.ne_of_beq_eq_false rfl | omega) only [upd_ne, q56], by simp -implicitDefEqProofs (disch := first | with_reducible exact Nat.ne_of_beq_eq_false rfl | omega) only [upd_ne, q57], by simp -implicitDefEqProofs (disch := first | with_reducible exact Nat.ne_of_beq_eq_false rfl | omega) only [upd_eq] <;> rfl, yo2, (fun c => ?_), ?_, ?_, s14.sel [1, 0, 2, 3, 4, 5, 6] (by decide) rfl, d14⟩
  · rw [List.count_append, List.count_singleton]
    have hc := hgt' c
    by_cases hzc : (z == c) = true
    · obtain rfl := eq_of_beq hzc
      simp [← hn0]
      omega
    · have hzc' : (z == c) = false := by simpa using hzc
      have : ((z.1, z.2) == c) = false := hzc'
      simp only [this, Bool.false_or, Bool.false_eq_true, if_false, hzc']
      rw [Nat.add_zero, ← hc]
      cases is c <;> simp
  · rw [zip_step hAb hgl]; exact o12
  · rw [zip_step hAb hgl]; exact o14

end Go.Proofs.YtangejiigopdaaaDoor
end

section
/- The reference's jobs. -/
set_option linter.unusedSimpArgs false
set_option linter.unusedVariables false
set_option maxRecDepth 100000
namespace Go.Proofs.YtangejiigopdaaaDoor
open Go Go.HL

end Go.Proofs.YtangejiigopdaaaDoor
end

section
/- Rows that are the same; stacks copied; the document's example. -/
set_option linter.unusedSimpArgs false
set_option linter.unusedVariables false
set_option maxRecDepth 100000
namespace Go.Proofs.YtangejiigopdaaaDoor
open Go Go.HL

theorem StkO.st {pz : Hp} {v : Value} {S : List Stk} (o : StkO pz v S) {G h2 : Hp} (l : pz.le h2) : StS G h2 v S := by
  obtain ⟨sz, cz, e0⟩ := o.len
  obtain ⟨raws, pr', pb', o, t, e, rel⟩ := o
  subst e0
  refine ⟨sz, cz, rfl, raws, o.sees (by decide) ((t.in 0 rfl).trans l), fun i r x h1 h2 => ?_⟩
  obtain ⟨a, b, c⟩ := rel i r x h1 h2
  exact ⟨a, b, c.sees (by decide) ((t.in 1 rfl).trans l)⟩

def C1 : Conf := ⟨3, 2, 3, [], [(2, 0)], [], [], 1, 1, 1, 1, 1, 1, 1, 1, true⟩
theorem made1 : MadeOk C1 := by
  rw [made_may]
  refine ⟨rfl, by decide, by decide, by decide, fun c hc => by simp [C1] at hc, fun c hc => ?_, fun c hc => by simp [C1] at hc, fun c hc => by simp [C1] at hc, ?_⟩
  · simp [C1] at hc
    subst hc
    decide +kernel
  · exact ⟨by simp [C1], by simp [C1], by simp [C1], by simp [C1], by simp [C1], by simp [C1]⟩
theorem jobs1 : (jobsR C1 [((0, 0), [7, 8, 9])] [] 7 (2, 0)).2 = 0 ∧ (jobsR C1 [((0, 0), [7, 8, 9])] [] 7 (2, 0)).1.map (fun j => (j.kind, j.bin)) = [(1, 9), (1, 8), (2, 7), (3, 8), (3, 9)] := by decide +kernel

theorem conf1_spec {G h : Hp} : HCalls Tryd.prog G 25 #[] h (fun u h' => ∃ pb, u = confV C1 none 0 (some ⟨pb, 0, none⟩) 1 none 0 none 0 ∧ h.le h' ∧ Dis G h' ∧ h' pb = some (.cells #[.int .i64 2, .int .i64 0] 28 (0, 0))) := by
  refine HCalls.assume fun d => enter25 (by simp) ?_
  unfold S25
  simp -implicitDefEqProofs only [retK_ret, resL_cell, upd_ne, upd_eq, resL_nil1, opH_su, opH_sv, bd28_0, bs22_1_0, bd26_0_1_2_7_8_9_10_11_12_13_14_4_15, al26, resC_ptr, ld26, add_mk, Nat.add_zero, Nat.zero_add]
  intro x hx gx
  generalize e1 : Hp.set h x _ = h1
  obtain ⟨l1, d1, b1⟩ := boxed e1 hx d gx
  try simp -implicitDefEqProofs only [opH_sv, opH_su, pureW_sv, opH_nil, pureW_nil, pick_t, pick_f, pick_tp, pick_fp, gd_tt, gd_ft, gd_tf, gd_ff, box_new, regs0, regs1, regs2, regs3, regs4, regs5, regs6, cells_agg, cells_int, cells_bool, cells_ptr, cells_slice, cells_string, cells_func, cells_nilFunc, cells_map, retK_ret, retK_normal, resL_tmp, resL_cell, resL_nil0, resL_nil1, resL_nil2, resL_nil3, resC_ptr, ex0, ex1, ex2, ex0p, ex1p, ex2p, HL.cond_true, HL.cond_false, thenK_normal, thenK_ret, thenK_exit, blockK_normal, blockK_ret, blockK_exit, scopeK_normal, scopeK_ret, scopeK_exit, wpH_pure, bin_add, bin_sub, bin_mul, bin_lss, bin_leq, bin_gtr, bin_geq, bin_quo, bin_rem, bin_quop, bin_remp, wrap_in, bin_addp, bin_subp, bin_mulp, bin_lssp, bin_leqp, bin_gtrp, bin_geqp, un_not, un_notp, un_neg, eq_int, ne_int, eq_intp, ne_intp, callV_fn, add_mk, upd_eq, upd_ne, cell_set_self, Nat.zero_add, Nat.add_zero, Option.some.injEq, exists_eq_left', List.getElem?_cons_succ, List.getElem?_cons_zero, true_and, and_true, bne_self_eq_false, beq_self_eq_true, Bool.not_true, Bool.not_false, Bool.and_true, Bool.and_self, Bool.and_false, Bool.true_and, List.length_cons, List.length_nil, ne_eq, not_false_eq_true, Nat.reduceAdd, Nat.reduceMul, if_true, if_false, oneCell_int, oneCell_bool, oneCell_ptr, oneCell_slice, oneCell_string, oneCell_func, oneCell_map, Int.toNat_natCast, List.set_cons_zero, List.set_cons_succ, Nat.lt_irrefl, Nat.zero_lt_succ, Nat.succ_lt_succ_iff, fa26_0, fa26_0p, fa26_1, fa26_1p, fa26_10, fa26_10p, fa26_11, fa26_11p, fa26_12, fa26_12p, fa26_13, fa26_13p, fa26_14, fa26_14p, fa26_15, fa26_15p, fa26_2, fa26_2p, fa26_3, fa26_3p, fa26_4, fa26_4p, fa26_5, fa26_5p, fa26_6, fa26_6p, fa26_7, fa26_7p, fa26_8, fa26_8p, fa26_9, fa26_9p, fa28_0, fa28_0p, fa28_1, fa28_1p, fa45_0, fa45_0p, fa45_1, fa45_1p, fa45_2, fa45_2p, fa45_3, fa45_3p, fa45_4, fa45_4p, fa45_5, fa45_5p, fa45_6, fa45_6p, fa49_0, fa49_0p, fa49_1, fa49_1p, fa74_0, fa74_0p, fa74_1, fa74_1p, fa74_2, fa74_2p, fa74_3, fa74_3p, fa85_0, fa85_0p, fa85_1, fa85_1p, fa93_0, fa93_0p, fa93_1, fa93_1p, fa93_2, fa93_2p, ld3, ld3p, ld4, ld4p, ld22, ld22p, ld23, ld23p, ld24, ld24p, ld26, ld26p, ld28, ld28p, ld42, ld42p, ld45, ld45p, ld49, ld49p, ld58, ld58p, ld69, ld69p, ld72, ld72p, ld85, ld85p, st3s, st4s, st22s, st23s, st24s, st26w, st28w, st42s, st45w, st49w, st85w, ix22, ix22p, ix23, ix23p, ix24, ix24p, ix31, ix31p, ix42, ix42p, ix104, ix104p, ln22, ln22p, ln23, ln23p, ln24, ln24p, ln31, ln31p, ln42, ln42p, al4, al22, al26, al28, al42, al49, al85, cf10, cf11, cf12, cf13, cf14, cf15, cf16, cf17, cf18, cf19, cf20, cf21, cf22, cf23, cf24, cf25, cf26, cf27, cf28, cf29, cf30, cf31, cf32, cf33, cf34, cf35, cf36, cf37, cf38, cf39, cf40, cf41, cf42, cf43, cf44, cf45, cf46, cf47, cf48, cf49, cf50, cf51, cf52, cf53, cf54, cf55, cf56, cf57, cf58, cf59, cf60, cf61, cf62, cf63, cf64, cf65, cf66, cf67, cf68, cf69, cf70, cf71, cf72, cf73, cf74, cf75, bd26_0_1_2_7_8_9_10_11_12_13_14_4_15, bd26_0_1_2_7_8_9_10_11_12_13_14_4_15p, bd28_, bd28_p, bd28_0, bd28_0p, bd28_0_1, bd28_0_1p, bd45_1_3_4_5_6, bd45_1_3_4_5_6p, bd49_0_1, bd49_0_1p, bd49_1, bd49_1p, bd74_0_1_2_3, bd74_0_1_2_3p, bd85_0, bd85_0p, bd85_0_1, bd85_0_1p, bd93_0_1_2, bd93_0_1_2p, bd94_0_1_2_3, bd94_0_1_2_3p, bs42_1_0, bs22_1_0, bs24_1_0, bs42_3_0_1_2, bs31_1_0, bs22_2_0_1, bs42_6_0_1_2_3_4_5, bs42_0_, eq4, eq4p, eq28, eq28p, eq42n, eq42np, eq42s, eq42sp, eq58n, eq58np, eq58s, eq58sp, eq63n, eq63np, eq63s, eq63sp, ne28, ne28p, ne45, ne45p]
  intro pb hpb gpb
  generalize e2 : Hp.set h1 pb _ = h2
  obtain ⟨l2, d2, b2⟩ := boxed e2 hpb d1 gpb
  try simp -implicitDefEqProofs (disch := first | with_reducible exact Nat.ne_of_beq_eq_false rfl | omega) only [opH_sv, opH_su, pureW_sv, opH_nil, pureW_nil, pick_t, pick_f, pick_tp, pick_fp, gd_tt, gd_ft, gd_tf, gd_ff, box_new, regs0, regs1, regs2, regs3, regs4, regs5, regs6, cells_agg, cells_int, cells_bool, cells_ptr, cells_slice, cells_string, cells_func, cells_nilFunc, cells_map, retK_ret, retK_normal, resL_tmp, resL_cell, resL_nil0, resL_nil1, resL_nil2, resL_nil3, resC_ptr, ex0, ex1, ex2, ex0p, ex1p, ex2p, HL.cond_true, HL.cond_false, thenK_normal, thenK_ret, thenK_exit, blockK_normal, blockK_ret, blockK_exit, scopeK_normal, scopeK_ret, scopeK_exit, wpH_pure, bin_add, bin_sub, bin_mul, bin_lss, bin_leq, bin_gtr, bin_geq, bin_quo, bin_rem, bin_quop, bin_remp, wrap_in, bin_addp, bin_subp, bin_mulp, bin_lssp, bin_leqp, bin_gtrp, bin_geqp, un_not, un_notp, un_neg, eq_int, ne_int, eq_intp, ne_intp, callV_fn, add_mk, upd_eq, upd_ne, cell_set_self, Nat.zero_add, Nat.add_zero, Option.some.injEq, exists_eq_left', List.getElem?_cons_succ, List.getElem?_cons_zero, true_and, and_true, bne_self_eq_false, beq_self_eq_true, Bool.not_true, Bool.not_false, Bool.and_true, Bool.and_self, Bool.and_false, Bool.true_and, List.length_cons, List.length_nil, ne_eq, not_false_eq_true, Nat.reduceAdd, Nat.reduceMul, if_true, if_false, oneCell_int, oneCell_bool, oneCell_ptr, oneCell_slice, oneCell_string, oneCell_func, oneCell_map, Int.toNat_natCast, List.set_cons_zero, List.set_cons_succ, Nat.lt_irrefl, Nat.zero_lt_succ, Nat.succ_lt_succ_iff, fa26_0, fa26_0p, fa26_1, fa26_1p, fa26_10, fa26_10p, fa26_11, fa26_11p, fa26_12, fa26_12p, fa26_13, fa26_13p, fa26_14, fa26_14p, fa26_15, fa26_15p, fa26_2, fa26_2p, fa26_3, fa26_3p, fa26_4, fa26_4p, fa26_5, fa26_5p, fa26_6, fa26_6p, fa26_7, fa26_7p, fa26_8, fa26_8p, fa26_9, fa26_9p, fa28_0, fa28_0p, fa28_1, fa28_1p, fa45_0, fa45_0p, fa45_1, fa45_1p, fa45_2, fa45_2p, fa45_3, fa45_3p, fa45_4, fa45_4p, fa45_5, fa45_5p, fa45_6, fa45_6p, fa49_0, fa49_0p, fa49_1, fa49_1p, fa74_0, fa74_0p, fa74_1, fa74_1p, fa74_2, fa74_2p, fa74_3, fa74_3p, fa85_0, fa85_0p, fa85_1, fa85_1p, fa93_0, fa93_0p, fa93_1, fa93_1p, fa93_2, fa93_2p, ld3, ld3p, ld4, ld4p, ld22, ld22p, ld23, ld23p, ld24, ld24p, ld26, ld26p, ld28, ld28p, ld42, ld42p, ld45, ld45p, ld49, ld49p, ld58, ld58p, ld69, ld69p, ld72, ld72p, ld85, ld85p, st3s, st4s, st22s, st23s, st24s, st26w, st28w, st42s, st45w, st49w, st85w, ix22, ix22p, ix23, ix23p, ix24, ix24p, ix31, ix31p, ix42, ix42p, ix104, ix104p, ln22, ln22p, ln23, ln23p, ln24, ln24p, ln31, ln31p, ln42, ln42p, al4, al22, al26, al28, al42, al49, al85, cf10, cf11, cf12, cf13, cf14, cf15, cf16, cf17, cf18, cf19, cf20, cf21, cf22, cf23, cf24, cf25, cf26, cf27, cf28, cf29, cf30, cf31, cf32, cf33, cf34, cf35, cf36, cf37, cf38, cf39, cf40, cf41, cf42, cf43, cf44, cf45, cf46, cf47, cf48, cf49, cf50, cf51, cf52, cf53, cf54, cf55, cf56, cf57, cf58, cf59, cf60, cf61, cf62, cf63, cf64, cf65, cf66, cf67, cf68, cf69, cf70, cf71, cf72, cf73, cf74, cf75, bd26_0_1_2_7_8_9_10_11_12_13_14_4_15, bd26_0_1_2_7_8_9_10_11_12_13_14_4_15p, bd28_, bd28_p, bd28_0, bd28_0p, bd28_0_1, bd28_0_1p, bd45_1_3_4_5_6, bd45_1_3_4_5_6p, bd49_0_1, bd49_0_1p, bd49_1, bd49_1p, bd74_0_1_2_3, bd74_0_1_2_3p, bd85_0, bd85_0p, bd85_0_1, bd85_0_1p, bd93_0_1_2, bd93_0_1_2p, bd94_0_1_2_3, bd94_0_1_2_3p, bs42_1_0, bs22_1_0, bs24_1_0, bs42_3_0_1_2, bs31_1_0, bs22_2_0_1, bs42_6_0_1_2_3_4_5, bs42_0_, eq4, eq4p, eq28, eq28p, eq42n, eq42np, eq42s, eq42sp, eq58n, eq58np, eq58s, eq58sp, eq63n, eq63np, eq63s, eq63sp, ne28, ne28p, ne45, ne45p]
  have nx : pb ≠ x := fun e => by rw [e, b1] at hpb; cases hpb
  refine Eq.mpr (store26 (C := C1) (D := Cz) (l2 _ _ b1)) ?_
  have cx : ∀ (o : Obj) (l : List Value) (e : TypeId), o = .cells l.toArray e (0, 0) → ∀ j, cellIn G (h2.set x o) ⟨x, j, none⟩ = l[j]? := fun o l e eo j => by rw [eo]; exact cell_of (look_own set_self)
  try simp -implicitDefEqProofs (maxSteps := 2000000) (disch := first | with_reducible exact Nat.ne_of_beq_eq_false rfl | exact oneCell_int | exact oneCell_bool | omega | rfl | (simp; done) | fail) only [cx _ _ _ rfl, List.getElem?_cons_zero, Option.some.injEq, List.getElem?_cons_succ, exists_eq_left']
  refine ⟨pb, rfl, ?_, d2.set gx, by rw [set_other nx]; exact b2⟩
  have hx2 : h x = none := hx
  exact fun b o hb => by
    by_cases hbx : b = x
    · subst hbx; rw [hx] at hb; cases hb
    · rw [set_other hbx]; exact l2 _ _ (l1 _ _ hb)

set_option maxHeartbeats 4000000 in
theorem awake_spec {G h : Hp} (st : Steps G) : HCalls Tryd.prog G 10 #[] h (fun u h' => u = .bool true ∧ h' = h) := by
  refine HCalls.assume fun d => quietly (enter10 (by simp) ?_)
  unfold S10
  simp -implicitDefEqProofs only [retK_ret, resL_tmp, upd_eq, resL_nil1, opH_sv, cf12, bd28_0, bs42_3_0_1_2, bd49_1, bs24_1_0, cf25]
  refine conf1_spec.mono ?_
  rintro _ h1 ⟨pb, rfl, l1, d1, bp⟩
  try simp -implicitDefEqProofs only [opH_sv, opH_su, pureW_sv, opH_nil, pureW_nil, pick_t, pick_f, pick_tp, pick_fp, gd_tt, gd_ft, gd_tf, gd_ff, box_new, regs0, regs1, regs2, regs3, regs4, regs5, regs6, cells_agg, cells_int, cells_bool, cells_ptr, cells_slice, cells_string, cells_func, cells_nilFunc, cells_map, retK_ret, retK_normal, resL_tmp, resL_cell, resL_nil0, resL_nil1, resL_nil2, resL_nil3, resC_ptr, ex0, ex1, ex2, ex0p, ex1p, ex2p, HL.cond_true, HL.cond_false, thenK_normal, thenK_ret, thenK_exit, blockK_normal, blockK_ret, blockK_exit, scopeK_normal, scopeK_ret, scopeK_exit, wpH_pure, bin_add, bin_sub, bin_mul, bin_lss, bin_leq, bin_gtr, bin_geq, bin_quo, bin_rem, bin_quop, bin_remp, wrap_in, bin_addp, bin_subp, bin_mulp, bin_lssp, bin_leqp, bin_gtrp, bin_geqp, un_not, un_notp, un_neg, eq_int, ne_int, eq_intp, ne_intp, callV_fn, add_mk, upd_eq, upd_ne, cell_set_self, Nat.zero_add, Nat.add_zero, Option.some.injEq, exists_eq_left', List.getElem?_cons_succ, List.getElem?_cons_zero, true_and, and_true, bne_self_eq_false, beq_self_eq_true, Bool.not_true, Bool.not_false, Bool.and_true, Bool.and_self, Bool.and_false, Bool.true_and, List.length_cons, List.length_nil, ne_eq, not_false_eq_true, Nat.reduceAdd, Nat.reduceMul, if_true, if_false, oneCell_int, oneCell_bool, oneCell_ptr, oneCell_slice, oneCell_string, oneCell_func, oneCell_map, Int.toNat_natCast, List.set_cons_zero, List.set_cons_succ, Nat.lt_irrefl, Nat.zero_lt_succ, Nat.succ_lt_succ_iff, fa26_0, fa26_0p, fa26_1, fa26_1p, fa26_10, fa26_10p, fa26_11, fa26_11p, fa26_12, fa26_12p, fa26_13, fa26_13p, fa26_14, fa26_14p, fa26_15, fa26_15p, fa26_2, fa26_2p, fa26_3, fa26_3p, fa26_4, fa26_4p, fa26_5, fa26_5p, fa26_6, fa26_6p, fa26_7, fa26_7p, fa26_8, fa26_8p, fa26_9, fa26_9p, fa28_0, fa28_0p, fa28_1, fa28_1p, fa45_0, fa45_0p, fa45_1, fa45_1p, fa45_2, fa45_2p, fa45_3, fa45_3p, fa45_4, fa45_4p, fa45_5, fa45_5p, fa45_6, fa45_6p, fa49_0, fa49_0p, fa49_1, fa49_1p, fa74_0, fa74_0p, fa74_1, fa74_1p, fa74_2, fa74_2p, fa74_3, fa74_3p, fa85_0, fa85_0p, fa85_1, fa85_1p, fa93_0, fa93_0p, fa93_1, fa93_1p, fa93_2, fa93_2p, ld3, ld3p, ld4, ld4p, ld22, ld22p, ld23, ld23p, ld24, ld24p, ld26, ld26p, ld28, ld28p, ld42, ld42p, ld45, ld45p, ld49, ld49p, ld58, ld58p, ld69, ld69p, ld72, ld72p, ld85, ld85p, st3s, st4s, st22s, st23s, st24s, st26w, st28w, st42s, st45w, st49w, st85w, ix22, ix22p, ix23, ix23p, ix24, ix24p, ix31, ix31p, ix42, ix42p, ix104, ix104p, ln22, ln22p, ln23, ln23p, ln24, ln24p, ln31, ln31p, ln42, ln42p, al4, al22, al26, al28, al42, al49, al85, cf10, cf11, cf12, cf13, cf14, cf15, cf16, cf17, cf18, cf19, cf20, cf21, cf22, cf23, cf24, cf25, cf26, cf27, cf28, cf29, cf30, cf31, cf32, cf33, cf34, cf35, cf36, cf37, cf38, cf39, cf40, cf41, cf42, cf43, cf44, cf45, cf46, cf47, cf48, cf49, cf50, cf51, cf52, cf53, cf54, cf55, cf56, cf57, cf58, cf59, cf60, cf61, cf62, cf63, cf64, cf65, cf66, cf67, cf68, cf69, cf70, cf71, cf72, cf73, cf74, cf75, bd26_0_1_2_7_8_9_10_11_12_13_14_4_15, bd26_0_1_2_7_8_9_10_11_12_13_14_4_15p, bd28_, bd28_p, bd28_0, bd28_0p, bd28_0_1, bd28_0_1p, bd45_1_3_4_5_6, bd45_1_3_4_5_6p, bd49_0_1, bd49_0_1p, bd49_1, bd49_1p, bd74_0_1_2_3, bd74_0_1_2_3p, bd85_0, bd85_0p, bd85_0_1, bd85_0_1p, bd93_0_1_2, bd93_0_1_2p, bd94_0_1_2_3, bd94_0_1_2_3p, bs42_1_0, bs22_1_0, bs24_1_0, bs42_3_0_1_2, bs31_1_0, bs22_2_0_1, bs42_6_0_1_2_3_4_5, bs42_0_, eq4, eq4p, eq28, eq28p, eq42n, eq42np, eq42s, eq42sp, eq58n, eq58np, eq58s, eq58sp, eq63n, eq63np, eq63s, eq63sp, ne28, ne28p, ne45, ne45p]
  intro x hx gx
  generalize e2 : Hp.set h1 x _ = h2
  obtain ⟨l2, d2, b2⟩ := boxed e2 hx d1 gx
  try simp -implicitDefEqProofs only [opH_sv, opH_su, pureW_sv, opH_nil, pureW_nil, pick_t, pick_f, pick_tp, pick_fp, gd_tt, gd_ft, gd_tf, gd_ff, box_new, regs0, regs1, regs2, regs3, regs4, regs5, regs6, cells_agg, cells_int, cells_bool, cells_ptr, cells_slice, cells_string, cells_func, cells_nilFunc, cells_map, retK_ret, retK_normal, resL_tmp, resL_cell, resL_nil0, resL_nil1, resL_nil2, resL_nil3, resC_ptr, ex0, ex1, ex2, ex0p, ex1p, ex2p, HL.cond_true, HL.cond_false, thenK_normal, thenK_ret, thenK_exit, blockK_normal, blockK_ret, blockK_exit, scopeK_normal, scopeK_ret, scopeK_exit, wpH_pure, bin_add, bin_sub, bin_mul, bin_lss, bin_leq, bin_gtr, bin_geq, bin_quo, bin_rem, bin_quop, bin_remp, wrap_in, bin_addp, bin_subp, bin_mulp, bin_lssp, bin_leqp, bin_gtrp, bin_geqp, un_not, un_notp, un_neg, eq_int, ne_int, eq_intp, ne_intp, callV_fn, add_mk, upd_eq, upd_ne, cell_set_self, Nat.zero_add, Nat.add_zero, Option.some.injEq, exists_eq_left', List.getElem?_cons_succ, List.getElem?_cons_zero, true_and, and_true, bne_self_eq_false, beq_self_eq_true, Bool.not_true, Bool.not_false, Bool.and_true, Bool.and_self, Bool.and_false, Bool.true_and, List.length_cons, List.length_nil, ne_eq, not_false_eq_true, Nat.reduceAdd, Nat.reduceMul, if_true, if_false, oneCell_int, oneCell_bool, oneCell_ptr, oneCell_slice, oneCell_string, oneCell_func, oneCell_map, Int.toNat_natCast, List.set_cons_zero, List.set_cons_succ, Nat.lt_irrefl, Nat.zero_lt_succ, Nat.succ_lt_succ_iff, fa26_0, fa26_0p, fa26_1, fa26_1p, fa26_10, fa26_10p, fa26_11, fa26_11p, fa26_12, fa26_12p, fa26_13, fa26_13p, fa26_14, fa26_14p, fa26_15, fa26_15p, fa26_2, fa26_2p, fa26_3, fa26_3p, fa26_4, fa26_4p, fa26_5, fa26_5p, fa26_6, fa26_6p, fa26_7, fa26_7p, fa26_8, fa26_8p, fa26_9, fa26_9p, fa28_0, fa28_0p, fa28_1, fa28_1p, fa45_0, fa45_0p, fa45_1, fa45_1p, fa45_2, fa45_2p, fa45_3, fa45_3p, fa45_4, fa45_4p, fa45_5, fa45_5p, fa45_6, fa45_6p, fa49_0, fa49_0p, fa49_1, fa49_1p, fa74_0, fa74_0p, fa74_1, fa74_1p, fa74_2, fa74_2p, fa74_3, fa74_3p, fa85_0, fa85_0p, fa85_1, fa85_1p, fa93_0, fa93_0p, fa93_1, fa93_1p, fa93_2, fa93_2p, ld3, ld3p, ld4, ld4p, ld22, ld22p, ld23, ld23p, ld24, ld24p, ld26, ld26p, ld28, ld28p, ld42, ld42p, ld45, ld45p, ld49, ld49p, ld58, ld58p, ld69, ld69p, ld72, ld72p, ld85, ld85p, st3s, st4s, st22s, st23s, st24s, st26w, st28w, st42s, st45w, st49w, st85w, ix22, ix22p, ix23, ix23p, ix24, ix24p, ix31, ix31p, ix42, ix42p, ix104, ix104p, ln22, ln22p, ln23, ln23p, ln24, ln24p, ln31, ln31p, ln42, ln42p, al4, al22, al26, al28, al42, al49, al85, cf10, cf11, cf12, cf13, cf14, cf15, cf16, cf17, cf18, cf19, cf20, cf21, cf22, cf23, cf24, cf25, cf26, cf27, cf28, cf29, cf30, cf31, cf32, cf33, cf34, cf35, cf36, cf37, cf38, cf39, cf40, cf41, cf42, cf43, cf44, cf45, cf46, cf47, cf48, cf49, cf50, cf51, cf52, cf53, cf54, cf55, cf56, cf57, cf58, cf59, cf60, cf61, cf62, cf63, cf64, cf65, cf66, cf67, cf68, cf69, cf70, cf71, cf72, cf73, cf74, cf75, bd26_0_1_2_7_8_9_10_11_12_13_14_4_15, bd26_0_1_2_7_8_9_10_11_12_13_14_4_15p, bd28_, bd28_p, bd28_0, bd28_0p, bd28_0_1, bd28_0_1p, bd45_1_3_4_5_6, bd45_1_3_4_5_6p, bd49_0_1, bd49_0_1p, bd49_1, bd49_1p, bd74_0_1_2_3, bd74_0_1_2_3p, bd85_0, bd85_0p, bd85_0_1, bd85_0_1p, bd93_0_1_2, bd93_0_1_2p, bd94_0_1_2_3, bd94_0_1_2_3p, bs42_1_0, bs22_1_0, bs24_1_0, bs42_3_0_1_2, bs31_1_0, bs22_2_0_1, bs42_6_0_1_2_3_4_5, bs42_0_, eq4, eq4p, eq28, eq28p, eq42n, eq42np, eq42s, eq42sp, eq58n, eq58np, eq58s, eq58sp, eq63n, eq63np, eq63s, eq63sp, ne28, ne28p, ne45, ne45p]
  intro y hy gy
  generalize e3 : Hp.set h2 y _ = h3
  obtain ⟨l3, d3, b3⟩ := boxed e3 hy d2 gy
  try simp -implicitDefEqProofs only [opH_sv, opH_su, pureW_sv, opH_nil, pureW_nil, pick_t, pick_f, pick_tp, pick_fp, gd_tt, gd_ft, gd_tf, gd_ff, box_new, regs0, regs1, regs2, regs3, regs4, regs5, regs6, cells_agg, cells_int, cells_bool, cells_ptr, cells_slice, cells_string, cells_func, cells_nilFunc, cells_map, retK_ret, retK_normal, resL_tmp, resL_cell, resL_nil0, resL_nil1, resL_nil2, resL_nil3, resC_ptr, ex0, ex1, ex2, ex0p, ex1p, ex2p, HL.cond_true, HL.cond_false, thenK_normal, thenK_ret, thenK_exit, blockK_normal, blockK_ret, blockK_exit, scopeK_normal, scopeK_ret, scopeK_exit, wpH_pure, bin_add, bin_sub, bin_mul, bin_lss, bin_leq, bin_gtr, bin_geq, bin_quo, bin_rem, bin_quop, bin_remp, wrap_in, bin_addp, bin_subp, bin_mulp, bin_lssp, bin_leqp, bin_gtrp, bin_geqp, un_not, un_notp, un_neg, eq_int, ne_int, eq_intp, ne_intp, callV_fn, add_mk, upd_eq, upd_ne, cell_set_self, Nat.zero_add, Nat.add_zero, Option.some.injEq, exists_eq_left', List.getElem?_cons_succ, List.getElem?_cons_zero, true_and, and_true, bne_self_eq_false, beq_self_eq_true, Bool.not_true, Bool.not_false, Bool.and_true, Bool.and_self, Bool.and_false, Bool.true_and, List.length_cons, List.length_nil, ne_eq, not_false_eq_true, Nat.reduceAdd, Nat.reduceMul, if_true, if_false, oneCell_int, oneCell_bool, oneCell_ptr, oneCell_slice, oneCell_string, oneCell_func, oneCell_map, Int.toNat_natCast, List.set_cons_zero, List.set_cons_succ, Nat.lt_irrefl, Nat.zero_lt_succ, Nat.succ_lt_succ_iff, fa26_0, fa26_0p, fa26_1, fa26_1p, fa26_10, fa26_10p, fa26_11, fa26_11p, fa26_12, fa26_12p, fa26_13, fa26_13p, fa26_14, fa26_14p, fa26_15, fa26_15p, fa26_2, fa26_2p, fa26_3, fa26_3p, fa26_4, fa26_4p, fa26_5, fa26_5p, fa26_6, fa26_6p, fa26_7, fa26_7p, fa26_8, fa26_8p, fa26_9, fa26_9p, fa28_0, fa28_0p, fa28_1, fa28_1p, fa45_0, fa45_0p, fa45_1, fa45_1p, fa45_2, fa45_2p, fa45_3, fa45_3p, fa45_4, fa45_4p, fa45_5, fa45_5p, fa45_6, fa45_6p, fa49_0, fa49_0p, fa49_1, fa49_1p, fa74_0, fa74_0p, fa74_1, fa74_1p, fa74_2, fa74_2p, fa74_3, fa74_3p, fa85_0, fa85_0p, fa85_1, fa85_1p, fa93_0, fa93_0p, fa93_1, fa93_1p, fa93_2, fa93_2p, ld3, ld3p, ld4, ld4p, ld22, ld22p, ld23, ld23p, ld24, ld24p, ld26, ld26p, ld28, ld28p, ld42, ld42p, ld45, ld45p, ld49, ld49p, ld58, ld58p, ld69, ld69p, ld72, ld72p, ld85, ld85p, st3s, st4s, st22s, st23s, st24s, st26w, st28w, st42s, st45w, st49w, st85w, ix22, ix22p, ix23, ix23p, ix24, ix24p, ix31, ix31p, ix42, ix42p, ix104, ix104p, ln22, ln22p, ln23, ln23p, ln24, ln24p, ln31, ln31p, ln42, ln42p, al4, al22, al26, al28, al42, al49, al85, cf10, cf11, cf12, cf13, cf14, cf15, cf16, cf17, cf18, cf19, cf20, cf21, cf22, cf23, cf24, cf25, cf26, cf27, cf28, cf29, cf30, cf31, cf32, cf33, cf34, cf35, cf36, cf37, cf38, cf39, cf40, cf41, cf42, cf43, cf44, cf45, cf46, cf47, cf48, cf49, cf50, cf51, cf52, cf53, cf54, cf55, cf56, cf57, cf58, cf59, cf60, cf61, cf62, cf63, cf64, cf65, cf66, cf67, cf68, cf69, cf70, cf71, cf72, cf73, cf74, cf75, bd26_0_1_2_7_8_9_10_11_12_13_14_4_15, bd26_0_1_2_7_8_9_10_11_12_13_14_4_15p, bd28_, bd28_p, bd28_0, bd28_0p, bd28_0_1, bd28_0_1p, bd45_1_3_4_5_6, bd45_1_3_4_5_6p, bd49_0_1, bd49_0_1p, bd49_1, bd49_1p, bd74_0_1_2_3, bd74_0_1_2_3p, bd85_0, bd85_0p, bd85_0_1, bd85_0_1p, bd93_0_1_2, bd93_0_1_2p, bd94_0_1_2_3, bd94_0_1_2_3p, bs42_1_0, bs22_1_0, bs24_1_0, bs42_3_0_1_2, bs31_1_0, bs22_2_0_1, bs42_6_0_1_2_3_4_5, bs42_0_, eq4, eq4p, eq28, eq28p, eq42n, eq42np, eq42s, eq42sp, eq58n, eq58np, eq58s, eq58sp, eq63n, eq63np, eq63s, eq63sp, ne28, ne28p, ne45, ne45p]
  have hss : ∀ G' h', h3.le h' → StS G' h' (.slice (some ⟨y, 0, none⟩) 1 1) [((0, 0), [7, 8, 9])] := fun G' h' l => by
    refine ⟨_, 1, rfl, [⟨0, 0, some ⟨x, 0, none⟩, 3, 3⟩], Sees.row (c := rawC) (L := [⟨0, 0, some ⟨x, 0, none⟩, 3, 3⟩]) (l _ _ b3) rfl (Nat.le_refl _), fun i r s hr hs => ?_⟩
    cases i with
    | succ i => simp at hr
    | zero =>
      simp at hr hs
      subst hr hs
      exact ⟨rfl, rfl, Sees.row (c := icC) (L := [7, 8, 9]) (l _ _ (l3 _ _ b2)) rfl (Nat.le_refl _)⟩
  have ca : CA G h3 C1 none 0 (some ⟨pb, 0, none⟩) 1 none 0 none 0 := ⟨⟨none, 0, rfl, Nat.le_refl _, .inl rfl⟩, Sees.row (c := cellC) (L := [(2, 0)]) (l3 _ _ (l2 _ _ bp)) rfl (Nat.le_refl _), ⟨none, 0, rfl, Nat.le_refl _, .inl rfl⟩, [], ⟨none, 0, rfl, Nat.le_refl _, .inl rfl⟩, fun i r s hr => by simp at hr⟩
  refine (jobs_spec (bin := 7) (port := (2, 0)) (TL := []) ca.cv hss (fun _ _ _ => ⟨none, 0, rfl, Nat.le_refl _, .inl rfl⟩) st (fun p hp => by simp [C1] at hp) (by decide) (by decide) (by decide) (fun s hs => by simp at hs; subst hs; decide)).mono ?_
  rintro _ h4 ⟨l4, d4, ⟨hm, io, vv, rfl, o, s4⟩ | ⟨hm, rfl⟩⟩
  rotate_left
  · exact absurd made1 hm
  obtain ⟨j1, j2⟩ := jobs1
  rw [j1]
  generalize (jobsR C1 [((0, 0), [7, 8, 9])] [] 7 (2, 0)).1 = J at o j2
  have hJ : J.length = 5 := by simpa using congrArg List.length j2
  obtain ⟨a0, a1, a2, a3, a4, rfl⟩ : ∃ a0 a1 a2 a3 a4, J = [a0, a1, a2, a3, a4] := by
    match J, hJ with
    | [a, b, c, d, e], _ => exact ⟨a, b, c, d, e, rfl⟩
  simp only [List.map_cons, List.map_nil, List.cons.injEq, Prod.mk.injEq, and_true] at j2
  obtain ⟨⟨k0, n0⟩, ⟨k1, n1⟩, ⟨k2, n2⟩, ⟨k3, n3⟩, ⟨k4, n4⟩⟩ := j2
  obtain ⟨sa, cap, rfl, hc⟩ := o.len (by decide)
  have sv := o.sees (G := G) (by decide) (s4.in 0 rfl)
  obtain ⟨b, ofs, rfl, _, x1, _, x3, _⟩ := Sees.job (i := 0) sv rfl
  obtain ⟨b', ofs', eb, _, _, _, y3, _⟩ := Sees.job (i := 1) sv rfl
  cases eb
  obtain ⟨b', ofs', eb, _, z1, _, z3, _⟩ := Sees.job (i := 2) sv rfl
  cases eb
  obtain ⟨b', ofs', eb, _, u1, _, u3, _⟩ := Sees.job (i := 3) sv rfl
  cases eb
  obtain ⟨b', ofs', eb, _, _, _, w3, _⟩ := Sees.job (i := 4) sv rfl
  cases eb
  rw [k0] at x1
  rw [n0] at x3
  rw [n1] at y3
  rw [k2] at z1
  rw [n2] at z3
  rw [k3] at u1
  rw [n3] at u3
  rw [n4] at w3
  simp only [Nat.zero_mul, Nat.one_mul, Nat.add_zero, Nat.reduceMul] at x1 x3 y3 z1 z3 u1 u3 w3
  try simp -implicitDefEqProofs only [List.length_cons, List.length_nil, Nat.zero_add, Nat.reduceAdd, ex1, eq_int, beq_self_eq_true, pick_t, gd_tt, opH_sv, ex0, ln31, show (((5 : Nat) : Int) == 5) = true from rfl, ix31 (by decide : (0 : Int) ≤ 0) (by decide : (0 : Int) < (5 : Nat)), show Int.toNat 0 = 0 from rfl, Nat.zero_mul, add_mk, Nat.add_zero, fa45_1, ld3, x1, Option.some.injEq, exists_eq_left', fa45_3, x3, ix31 (by decide : (0 : Int) ≤ 1) (by decide : (1 : Int) < (5 : Nat)), show Int.toNat 1 = 1 from rfl, Nat.one_mul, y3, ix31 (by decide : (0 : Int) ≤ 2) (by decide : (2 : Int) < (5 : Nat)), show Int.toNat 2 = 2 from rfl, Nat.reduceMul, z1, z3, ix31 (by decide : (0 : Int) ≤ 3) (by decide : (3 : Int) < (5 : Nat)), show Int.toNat 3 = 3 from rfl, u1, u3, ix31 (by decide : (0 : Int) ≤ 4) (by decide : (4 : Int) < (5 : Nat)), show Int.toNat 4 = 4 from rfl, w3, true_and]
  first | exact l1.trans (l2.trans (l3.trans l4)) | exact ⟨rfl, l1.trans (l2.trans (l3.trans l4))⟩

end Go.Proofs.YtangejiigopdaaaDoor
end

section
/- DigPlaces: the walk. -/
set_option linter.unusedSimpArgs false
set_option linter.unusedVariables false
set_option maxRecDepth 100000
namespace Go.Proofs.YtangejiigopdaaaDoor
open Go Go.HL

end Go.Proofs.YtangejiigopdaaaDoor
end

section
/- DigJobs: the walk. -/
set_option linter.unusedSimpArgs false
set_option linter.unusedVariables false
set_option maxRecDepth 100000
namespace Go.Proofs.YtangejiigopdaaaDoor
open Go Go.HL

end Go.Proofs.YtangejiigopdaaaDoor
end

section
/- A config that comes in as an argument. -/
set_option linter.unusedSimpArgs false
set_option linter.unusedVariables false
set_option maxRecDepth 100000
namespace Go.Proofs.YtangejiigopdaaaDoor
open Go Go.HL Go.ChangeShapes Go.WideShapes Go.RowKit

theorem light_of {H : Type} {P : Program} {ts : List TypeId} {ds : List (DataW H)} (h : (DataW.weightsEach P ts ds).all (· ≤ reachBytes) = true) {j : Nat} {t : TypeId} {d : DataW H} (ht : ts[j]? = some t) (hd : ds[j]? = some d) : Light P t d := fun n hn => by
  simpa using List.all_eq_true.1 h n (DataW.weights_mem_each ht hd n hn)

theorem c4 : Tryd.prog.cellsOf 4 = 1 := by kernel_rfl
section
variable {H : Type} {enc : TypeId × Value → H} {w : World} {base : Nat} {spare : Nat → Bool} {held : Bool}

theorem len3 {α : Type} {L : List α} (h : L.length = 3) : ∃ a b c, L = [a, b, c] := by
  match L, h with
  | [a, b, c], _ => exact ⟨a, b, c, rfl⟩

theorem int_arg {r : Reach} {b0 : Nat} {v : Value} {d : DataW H} {ps : List MemPlace} (k : Value.okWide Tryd.prog w r b0 3 v) (h : DataW.Trod enc Tryd.prog w base spare held 3 v d ps) : ∃ n : Int, v = .int .i64 n ∧ Bd n := by
  obtain ⟨n, rfl, rfl, rfl, wf⟩ := open_int un3i k h
  exact ⟨n, rfl, by simpa [Lit.wf, IntKind.min, IntKind.max, IntKind.signed, IntKind.bits, Bd] using wf⟩
end
end Go.Proofs.YtangejiigopdaaaDoor
end

section
/- Cells and stacks that come in as arguments. -/
set_option linter.unusedSimpArgs false
set_option linter.unusedVariables false
set_option maxRecDepth 100000
namespace Go.Proofs.YtangejiigopdaaaDoor
open Go Go.HL Go.ChangeShapes Go.WideShapes Go.RowKit

section
variable {H : Type} {enc : TypeId × Value → H} {w : World} {base : Nat} {spare : Nat → Bool} {held : Bool}
end
end Go.Proofs.YtangejiigopdaaaDoor
end

section
/- Small configs; what the place is; the law's own bins. -/
set_option linter.unusedSimpArgs false
set_option linter.unusedVariables false
set_option maxRecDepth 100000
namespace Go.Proofs.YtangejiigopdaaaDoor
open Go Go.HL

end Go.Proofs.YtangejiigopdaaaDoor
end
