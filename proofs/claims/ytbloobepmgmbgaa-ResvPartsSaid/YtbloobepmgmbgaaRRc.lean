/- The reference: claims; a slot longer. -/
import Derived.Test.YtbloobepmgmbgaaRRb
import Derived.Test.YtbloobepmgmbgaaRF
set_option linter.unusedSimpArgs false
set_option linter.unusedVariables false
set_option maxRecDepth 100000
namespace Go.Proofs.Ytbloobepmgmbgaa
open Go Go.HL Go.Proofs.Resv

set_option maxHeartbeats 4000000 in
theorem rclaim_spec {G h a w : Hp} {R : List Hp} {tp b : Nat} {T : Tb} {r : Int} {v : Value} {l : List Want} (tb : Tab 76 a tp T) (sp : HL.Sep (a :: w :: R) h) (sv : Sees wantC G w v l) (g : GoodT T) (fw : Few T b) (hb : b + l.length ≤ 50000) :
    HCalls Try.prog G 41 #[.pointer (some ⟨tp, 0, none⟩), .int .i64 r, v] h (fun u h' => u = .int .i64 (claimT T r l).1 ∧ ∃ a', Tab 76 a' tp (claimT T r l).2 ∧ HL.Sep (a' :: w :: R) h' ∧ Dis G h') := by
  obtain ⟨sa, cap, rfl⟩ := sv.len
  refine HCalls.assume fun d => enter41 (by simp) ?_
  unfold S41
  simp -implicitDefEqProofs (maxSteps := 2000000) (disch := first | with_reducible exact Nat.ne_of_beq_eq_false rfl | exact oneCell_int | exact oneCell_bool | omega | rfl | (simp; done) | fail) only [regs1, retK_ret, resL_tmp, upd_eq, resL_nil1, opH_sv, bin_lss]
  refine cond_dec (fun hr => ?_) (fun hr => ?_)
  · try simp -implicitDefEqProofs (maxSteps := 2000000) (disch := first | with_reducible exact Nat.ne_of_beq_eq_false rfl | exact oneCell_int | exact oneCell_bool | omega | rfl | (simp; done) | fail) only [opH_sv, opH_su, pureW_sv, opH_nil, pureW_nil, pick_t, pick_f, pick_tp, pick_fp, gd_tt, gd_ft, gd_tf, gd_ff, box_new, regs0, regs1, regs2, regs3, regs4, regs5, regs6, cells_agg, cells_int, cells_bool, cells_ptr, cells_slice, cells_string, cells_func, cells_nilFunc, cells_map, retK_ret, retK_normal, resL_tmp, resL_cell, resL_nil0, resL_nil1, resL_nil2, resL_nil3, resC_ptr, ex0, ex1, ex2, ex0p, ex1p, ex2p, HL.cond_true, HL.cond_false, thenK_normal, thenK_ret, thenK_exit, blockK_normal, blockK_ret, blockK_exit, scopeK_normal, scopeK_ret, scopeK_exit, wpH_pure, bin_add, bin_sub, bin_mul, bin_lss, bin_leq, bin_gtr, bin_geq, bin_quo, bin_rem, bin_quop, bin_remp, wrap_in, bin_addp, bin_subp, bin_mulp, bin_lssp, bin_leqp, bin_gtrp, bin_geqp, un_not, un_notp, un_neg, eq_int, ne_int, eq_intp, ne_intp, callV_fn, add_mk, upd_eq, upd_ne, cell_set_self, Nat.zero_add, Nat.add_zero, Option.some.injEq, exists_eq_left', List.getElem?_cons_succ, List.getElem?_cons_zero, true_and, and_true, bne_self_eq_false, beq_self_eq_true, Bool.not_true, Bool.not_false, Bool.and_true, Bool.and_self, Bool.and_false, Bool.true_and, List.length_cons, List.length_nil, ne_eq, not_false_eq_true, Nat.reduceAdd, Nat.reduceMul, if_true, if_false, oneCell_int, oneCell_bool, oneCell_ptr, oneCell_slice, oneCell_string, oneCell_func, oneCell_map, Int.toNat_natCast, List.set_cons_zero, List.set_cons_succ, Nat.lt_irrefl, Nat.zero_lt_succ, Nat.succ_lt_succ_iff, fa30_0, fa30_0p, fa30_1, fa30_1p, fa30_2, fa30_2p, fa35_0, fa35_0p, fa35_1, fa35_1p, fa35_2, fa35_2p, fa51_0, fa51_0p, fa51_1, fa51_1p, fa51_2, fa51_2p, fa51_3, fa51_3p, fa51_4, fa51_4p, fa51_5, fa51_5p, fa68_0, fa68_0p, fa76_0, fa76_0p, fa88_0, fa88_0p, fa88_1, fa88_1p, fa88_2, fa88_2p, fa90_0, fa90_0p, fa90_1, fa90_1p, ld3, ld3p, ld22, ld22p, ld23, ld23p, ld30, ld30p, ld32, ld32p, ld35, ld35p, ld39, ld39p, ld51, ld51p, ld58, ld58p, ld66, ld66p, st3s, st30w, st32s, st35w, st39s, st51w, st58w, st88w, st90w, ix22, ix22p, ix32, ix32p, ix39, ix39p, ix46, ix46p, ix64, ix64p, ix66, ix66p, ix78, ix78p, ix81, ix81p, ln22, ln22p, ln32, ln32p, ln39, ln39p, ln46, ln46p, ln64, ln64p, ln66, ln66p, ln78, ln78p, ln81, ln81p, al30, al35, al39, al56, al58, cf12, cf13, cf14, cf15, cf16, cf17, cf18, cf19, cf20, cf21, cf22, cf23, cf24, cf25, cf26, cf27, cf28, cf29, cf30, cf31, cf32, cf33, cf34, cf35, cf36, cf37, cf38, cf39, cf40, cf41, cf42, cf43, cf44, cf45, cf46, cf47, cf48, cf49, cf50, cf51, cf52, cf53, cf54, cf55, cf56, cf57, cf58, cf60, cf61, cf62, cf63, cf64, bd30_0_1_2, bd30_0_1_2p, bd30_1, bd30_1p, bd30_1_2, bd30_1_2p, bd35_0, bd35_0p, bd35_0_1_2, bd35_0_1_2p, bd58_0_1, bd58_0_1p, bd68_0, bd68_0p, bd76_0, bd76_0p, bd88_0_1_2, bd88_0_1_2p, bd90_0_1, bd90_0_1p, bs22_1_0, bs32_1_0, bs39_1_0, bs78_1_0, bs81_1_0, eq4, eq4p, eq23n, eq23np, eq23s, eq23sp, eq37n, eq37np, eq37s, eq37sp, ne4, ne4p, ne23n, ne23np, ne23s, ne23sp, ne35, ne35p]
    have e : claimT T r l = (1, T) := by unfold claimT; rw [if_pos hr]
    rw [e]
    exact ⟨rfl, a, tb, sp, d⟩
  unfold S41_k1
  generalize hKK : retK Try.prog G _ _ = KK
  -- are they ticks?
  refine loop_I (fun m q h3 => ∃ i : Nat, m = l.length - i ∧ i ≤ l.length ∧ q 0 = .pointer (some ⟨tp, 0, none⟩) ∧ q 1 = .int .i64 r ∧ q 2 = .slice sa l.length cap ∧ q 7 = .int .i64 i ∧ HL.Sep (a :: w :: R) h3 ∧ Dis G h3 ∧ (l.take i).all (validW T.length) = true) ?_
    (m := l.length) ⟨0, rfl, Nat.zero_le _, by simp -implicitDefEqProofs (maxSteps := 2000000) (disch := first | with_reducible exact Nat.ne_of_beq_eq_false rfl | exact oneCell_int | exact oneCell_bool | omega | rfl | (simp; done) | fail) only [upd_ne, regs0], by simp -implicitDefEqProofs (maxSteps := 2000000) (disch := first | with_reducible exact Nat.ne_of_beq_eq_false rfl | exact oneCell_int | exact oneCell_bool | omega | rfl | (simp; done) | fail) only [upd_ne, regs1], by simp -implicitDefEqProofs (maxSteps := 2000000) (disch := first | with_reducible exact Nat.ne_of_beq_eq_false rfl | exact oneCell_int | exact oneCell_bool | omega | rfl | (simp; done) | fail) only [upd_ne, regs2], by simp -implicitDefEqProofs (maxSteps := 2000000) (disch := first | with_reducible exact Nat.ne_of_beq_eq_false rfl | exact oneCell_int | exact oneCell_bool | omega | rfl | (simp; done) | fail) only [upd_eq] <;> rfl, sp, d, rfl⟩
  rintro m q h3 ⟨i, rfl, hi, q0, q1, q2, q7, s3, d3, hv⟩ X HX
  unfold S41_l11
  simp -implicitDefEqProofs (maxSteps := 2000000) (disch := first | with_reducible exact Nat.ne_of_beq_eq_false rfl | exact oneCell_int | exact oneCell_bool | omega | rfl | (simp; done) | fail) only [q2, q7, thenK_exit, blockK_exit, thenK_normal, if_true, opH_sv, ln78, bin_lss]
  refine cond_dec (fun hlt => ?_) (fun hge => ?_)
  · obtain ⟨x, hx⟩ : ∃ x, l[i]? = some x := ⟨_, List.getElem?_eq_getElem (by omega)⟩
    obtain ⟨bb, of, rfl, z0, z1, z2⟩ := Sees.want (sv.up (s3.in 1 rfl) d3) hx
    unfold S41_l11_k12
    simp -implicitDefEqProofs (maxSteps := 2000000) (disch := first | with_reducible exact Nat.ne_of_beq_eq_false rfl | exact oneCell_int | exact oneCell_bool | omega | rfl | (simp; done) | fail) only [upd_ne, q2, q7, q0, thenK_ret, blockK_ret, pureW_sv, cf54, ix78p, Int.toNat_natCast, add_mk, fa88_0p, Nat.add_zero, ld3p, z0, Option.some.injEq, exists_eq_left']
    refine (there_spec (c := x.c) (tb.see (s3.in 0 rfl))).mono ?_
    rintro _ h3 ⟨rfl, rfl⟩
    have bad : ∀ r1 : Rg, r1 6 = .int .i64 1 → validW T.length x = false → KK .ret r1 h3 := fun r1 h6 hf => by
      rw [← hKK]
      have e : claimT T r l = (1, T) := by unfold claimT; rw [if_neg hr, if_neg (by rw [all_not hx hf]; decide)]
      simp -implicitDefEqProofs (maxSteps := 2000000) (disch := first | with_reducible exact Nat.ne_of_beq_eq_false rfl | exact oneCell_int | exact oneCell_bool | omega | rfl | (simp; done) | fail) only [e, retK_ret, resL_tmp, h6, resL_nil1, true_and]
      exact ⟨a, tb, s3, d3⟩
    have go : ∀ (K0 : Exit → Rg → Hp → Prop) (r1 : Rg), (∀ k, k ≤ 7 → r1 k = q k) → validW T.length x = true → S41_l11_k13 G (thenK X K0) r1 h3 := fun K0 r1 hk ht => by
      unfold S41_l11_k13
      simp -implicitDefEqProofs (maxSteps := 2000000) (disch := first | with_reducible exact Nat.ne_of_beq_eq_false rfl | exact oneCell_int | exact oneCell_bool | omega | rfl | (simp; done) | fail) only [hk 7 (by decide), q7, thenK_normal, opH_sv, bin_add, wrap_in]
      exact HX (l.length - (i + 1)) _ _ (by omega) ⟨i + 1, rfl, by omega, by simp -implicitDefEqProofs (maxSteps := 2000000) (disch := first | with_reducible exact Nat.ne_of_beq_eq_false rfl | exact oneCell_int | exact oneCell_bool | omega | rfl | (simp; done) | fail) only [upd_ne, hk 0 (by decide), q0], by simp -implicitDefEqProofs (maxSteps := 2000000) (disch := first | with_reducible exact Nat.ne_of_beq_eq_false rfl | exact oneCell_int | exact oneCell_bool | omega | rfl | (simp; done) | fail) only [upd_ne, hk 1 (by decide), q1], by simp -implicitDefEqProofs (maxSteps := 2000000) (disch := first | with_reducible exact Nat.ne_of_beq_eq_false rfl | exact oneCell_int | exact oneCell_bool | omega | rfl | (simp; done) | fail) only [upd_ne, hk 2 (by decide), q2], by simp -implicitDefEqProofs (maxSteps := 2000000) (disch := first | with_reducible exact Nat.ne_of_beq_eq_false rfl | exact oneCell_int | exact oneCell_bool | omega | rfl | (simp; done) | fail) only [upd_eq] <;> rfl, s3, d3, by rw [all_take hx, hv, ht]; rfl⟩
    cases e1 : inT T.length x.c with
    | false =>
      try simp -implicitDefEqProofs (maxSteps := 2000000) (disch := first | with_reducible exact Nat.ne_of_beq_eq_false rfl | exact oneCell_int | exact oneCell_bool | omega | rfl | (simp; done) | fail) only [un_notp, Bool.not_false, pick_tp, HL.cond_true, gd_tf]
      exact bad _ (by simp -implicitDefEqProofs (maxSteps := 2000000) (disch := first | with_reducible exact Nat.ne_of_beq_eq_false rfl | exact oneCell_int | exact oneCell_bool | omega | rfl | (simp; done) | fail) only [upd_eq]) (by unfold validW; rw [e1]; rfl)
    | true =>
    try simp -implicitDefEqProofs (maxSteps := 2000000) (disch := first | with_reducible exact Nat.ne_of_beq_eq_false rfl | exact oneCell_int | exact oneCell_bool | omega | rfl | (simp; done) | fail) only [un_notp, Bool.not_true, pick_fp, gd_ff, pureW_sv, ix78p, Int.toNat_natCast, add_mk, fa88_1p, ld3p, z1, Option.some.injEq, exists_eq_left', bin_lssp]
    by_cases e2 : x.f < 0
    · try simp -implicitDefEqProofs (maxSteps := 2000000) (disch := first | with_reducible exact Nat.ne_of_beq_eq_false rfl | exact oneCell_int | exact oneCell_bool | omega | rfl | (simp; done) | fail) only [decide_eq_true e2, pick_tp, HL.cond_true, gd_tf]
      exact bad _ (by simp -implicitDefEqProofs (maxSteps := 2000000) (disch := first | with_reducible exact Nat.ne_of_beq_eq_false rfl | exact oneCell_int | exact oneCell_bool | omega | rfl | (simp; done) | fail) only [upd_eq]) (by unfold validW; rw [decide_eq_false (show ¬ 0 ≤ x.f by omega)]; simp)
    try simp -implicitDefEqProofs (maxSteps := 2000000) (disch := first | with_reducible exact Nat.ne_of_beq_eq_false rfl | exact oneCell_int | exact oneCell_bool | omega | rfl | (simp; done) | fail) only [decide_eq_false e2, pick_fp, gd_ff, pureW_sv, ix78p, Int.toNat_natCast, add_mk, fa88_2p, ld3p, z2, Option.some.injEq, exists_eq_left', fa88_1p, z1, bin_geqp]
    by_cases e3 : x.f ≥ x.t
    · try simp -implicitDefEqProofs (maxSteps := 2000000) (disch := first | with_reducible exact Nat.ne_of_beq_eq_false rfl | exact oneCell_int | exact oneCell_bool | omega | rfl | (simp; done) | fail) only [decide_eq_true e3, pick_tp, HL.cond_true, gd_tf]
      exact bad _ (by simp -implicitDefEqProofs (maxSteps := 2000000) (disch := first | with_reducible exact Nat.ne_of_beq_eq_false rfl | exact oneCell_int | exact oneCell_bool | omega | rfl | (simp; done) | fail) only [upd_eq]) (by unfold validW; rw [decide_eq_false (show ¬ x.f < x.t by omega)]; simp)
    try simp -implicitDefEqProofs (maxSteps := 2000000) (disch := first | with_reducible exact Nat.ne_of_beq_eq_false rfl | exact oneCell_int | exact oneCell_bool | omega | rfl | (simp; done) | fail) only [decide_eq_false e3, pick_fp, gd_ff, pureW_sv, ix78p, Int.toNat_natCast, add_mk, fa88_2p, ld3p, z2, Option.some.injEq, exists_eq_left', bin_gtrp]
    refine cond_dec (fun e4 => ?_) (fun e4 => ?_)
    · exact bad _ (by simp -implicitDefEqProofs (maxSteps := 2000000) (disch := first | with_reducible exact Nat.ne_of_beq_eq_false rfl | exact oneCell_int | exact oneCell_bool | omega | rfl | (simp; done) | fail) only [upd_eq]) (by unfold validW; rw [decide_eq_false (show ¬ x.t ≤ FV by simp only [FV]; omega)]; simp)
    · exact go _ _ (fun k hk => by simp (disch := omega) only [upd_ne]) (valid_iff.2 ⟨inT_iff.1 e1, by omega, by omega, by simp only [FV]; omega⟩)
  -- are they free?
  obtain rfl : i = l.length := by omega
  rw [List.take_of_length_le (Nat.le_refl _)] at hv
  clear HX
  try simp -implicitDefEqProofs (maxSteps := 2000000) (disch := first | with_reducible exact Nat.ne_of_beq_eq_false rfl | exact oneCell_int | exact oneCell_bool | omega | rfl | (simp; done) | fail) only [opH_sv, opH_su, pureW_sv, opH_nil, pureW_nil, pick_t, pick_f, pick_tp, pick_fp, gd_tt, gd_ft, gd_tf, gd_ff, box_new, regs0, regs1, regs2, regs3, regs4, regs5, regs6, cells_agg, cells_int, cells_bool, cells_ptr, cells_slice, cells_string, cells_func, cells_nilFunc, cells_map, retK_ret, retK_normal, resL_tmp, resL_cell, resL_nil0, resL_nil1, resL_nil2, resL_nil3, resC_ptr, ex0, ex1, ex2, ex0p, ex1p, ex2p, HL.cond_true, HL.cond_false, thenK_normal, thenK_ret, thenK_exit, blockK_normal, blockK_ret, blockK_exit, scopeK_normal, scopeK_ret, scopeK_exit, wpH_pure, bin_add, bin_sub, bin_mul, bin_lss, bin_leq, bin_gtr, bin_geq, bin_quo, bin_rem, bin_quop, bin_remp, wrap_in, bin_addp, bin_subp, bin_mulp, bin_lssp, bin_leqp, bin_gtrp, bin_geqp, un_not, un_notp, un_neg, eq_int, ne_int, eq_intp, ne_intp, callV_fn, add_mk, upd_eq, upd_ne, cell_set_self, Nat.zero_add, Nat.add_zero, Option.some.injEq, exists_eq_left', List.getElem?_cons_succ, List.getElem?_cons_zero, true_and, and_true, bne_self_eq_false, beq_self_eq_true, Bool.not_true, Bool.not_false, Bool.and_true, Bool.and_self, Bool.and_false, Bool.true_and, List.length_cons, List.length_nil, ne_eq, not_false_eq_true, Nat.reduceAdd, Nat.reduceMul, if_true, if_false, oneCell_int, oneCell_bool, oneCell_ptr, oneCell_slice, oneCell_string, oneCell_func, oneCell_map, Int.toNat_natCast, List.set_cons_zero, List.set_cons_succ, Nat.lt_irrefl, Nat.zero_lt_succ, Nat.succ_lt_succ_iff, fa30_0, fa30_0p, fa30_1, fa30_1p, fa30_2, fa30_2p, fa35_0, fa35_0p, fa35_1, fa35_1p, fa35_2, fa35_2p, fa51_0, fa51_0p, fa51_1, fa51_1p, fa51_2, fa51_2p, fa51_3, fa51_3p, fa51_4, fa51_4p, fa51_5, fa51_5p, fa68_0, fa68_0p, fa76_0, fa76_0p, fa88_0, fa88_0p, fa88_1, fa88_1p, fa88_2, fa88_2p, fa90_0, fa90_0p, fa90_1, fa90_1p, ld3, ld3p, ld22, ld22p, ld23, ld23p, ld30, ld30p, ld32, ld32p, ld35, ld35p, ld39, ld39p, ld51, ld51p, ld58, ld58p, ld66, ld66p, st3s, st30w, st32s, st35w, st39s, st51w, st58w, st88w, st90w, ix22, ix22p, ix32, ix32p, ix39, ix39p, ix46, ix46p, ix64, ix64p, ix66, ix66p, ix78, ix78p, ix81, ix81p, ln22, ln22p, ln32, ln32p, ln39, ln39p, ln46, ln46p, ln64, ln64p, ln66, ln66p, ln78, ln78p, ln81, ln81p, al30, al35, al39, al56, al58, cf12, cf13, cf14, cf15, cf16, cf17, cf18, cf19, cf20, cf21, cf22, cf23, cf24, cf25, cf26, cf27, cf28, cf29, cf30, cf31, cf32, cf33, cf34, cf35, cf36, cf37, cf38, cf39, cf40, cf41, cf42, cf43, cf44, cf45, cf46, cf47, cf48, cf49, cf50, cf51, cf52, cf53, cf54, cf55, cf56, cf57, cf58, cf60, cf61, cf62, cf63, cf64, bd30_0_1_2, bd30_0_1_2p, bd30_1, bd30_1p, bd30_1_2, bd30_1_2p, bd35_0, bd35_0p, bd35_0_1_2, bd35_0_1_2p, bd58_0_1, bd58_0_1p, bd68_0, bd68_0p, bd76_0, bd76_0p, bd88_0_1_2, bd88_0_1_2p, bd90_0_1, bd90_0_1p, bs22_1_0, bs32_1_0, bs39_1_0, bs78_1_0, bs81_1_0, eq4, eq4p, eq23n, eq23np, eq23s, eq23sp, eq37n, eq37np, eq37s, eq37sp, ne4, ne4p, ne23n, ne23np, ne23s, ne23sp, ne35, ne35p]
  unfold S41_k2
  refine loop_I (fun m q' h3 => ∃ i : Nat, m = l.length - i ∧ i ≤ l.length ∧ q' 0 = .pointer (some ⟨tp, 0, none⟩) ∧ q' 1 = .int .i64 r ∧ q' 2 = .slice sa l.length cap ∧ q' 8 = .int .i64 i ∧ HL.Sep (a :: w :: R) h3 ∧ Dis G h3 ∧ (l.take i).all (freeW T r) = true) ?_
    (m := l.length) ⟨0, rfl, Nat.zero_le _, by simp -implicitDefEqProofs (maxSteps := 2000000) (disch := first | with_reducible exact Nat.ne_of_beq_eq_false rfl | exact oneCell_int | exact oneCell_bool | omega | rfl | (simp; done) | fail) only [upd_ne, q0], by simp -implicitDefEqProofs (maxSteps := 2000000) (disch := first | with_reducible exact Nat.ne_of_beq_eq_false rfl | exact oneCell_int | exact oneCell_bool | omega | rfl | (simp; done) | fail) only [upd_ne, q1], by simp -implicitDefEqProofs (maxSteps := 2000000) (disch := first | with_reducible exact Nat.ne_of_beq_eq_false rfl | exact oneCell_int | exact oneCell_bool | omega | rfl | (simp; done) | fail) only [upd_ne, q2], by simp -implicitDefEqProofs (maxSteps := 2000000) (disch := first | with_reducible exact Nat.ne_of_beq_eq_false rfl | exact oneCell_int | exact oneCell_bool | omega | rfl | (simp; done) | fail) only [upd_eq] <;> rfl, s3, d3, rfl⟩
  clear q0 q1 q2 q7 s3 d3
  clear q h3
  rintro m q h3 ⟨i, rfl, hi, q0, q1, q2, q8, s3, d3, hf⟩ X HX
  unfold S41_l8
  simp -implicitDefEqProofs (maxSteps := 2000000) (disch := first | with_reducible exact Nat.ne_of_beq_eq_false rfl | exact oneCell_int | exact oneCell_bool | omega | rfl | (simp; done) | fail) only [q2, q8, thenK_exit, blockK_exit, thenK_normal, if_true, opH_sv, ln78, bin_lss]
  refine cond_dec (fun hlt => ?_) (fun hge => ?_)
  · obtain ⟨x, hx⟩ : ∃ x, l[i]? = some x := ⟨_, List.getElem?_eq_getElem (by omega)⟩
    obtain ⟨bb, of, rfl, z0, z1, z2⟩ := Sees.want (sv.up (s3.in 1 rfl) d3) hx
    obtain ⟨⟨c0, c1⟩, f0, f1, f2⟩ := valid_iff.1 (List.all_eq_true.1 hv x (List.mem_of_getElem? hx))
    unfold S41_l8_k9
    simp -implicitDefEqProofs (maxSteps := 2000000) (disch := first | with_reducible exact Nat.ne_of_beq_eq_false rfl | exact oneCell_int | exact oneCell_bool | omega | rfl | (simp; done) | fail) only [upd_ne, q2, q8, q0, q1, thenK_ret, blockK_ret, cf56, pureW_sv, ix78p, Int.toNat_natCast, add_mk, fa88_2p, ld3p, z2, Option.some.injEq, exists_eq_left', fa88_1p, z1, fa88_0p, Nat.add_zero, z0]
    refine (met_spec (r := r) (f := x.f) (t := x.t) (tb.see (s3.in 0 rfl)) c0 (rowT_get c0 c1) (by have := rowT_few fw x.c; omega)).mono ?_
    rintro _ h3 ⟨rfl, rfl⟩
    cases e1 : freeB (rowT T x.c) r x.f x.t with
    | false =>
      try simp -implicitDefEqProofs (maxSteps := 2000000) (disch := first | with_reducible exact Nat.ne_of_beq_eq_false rfl | exact oneCell_int | exact oneCell_bool | omega | rfl | (simp; done) | fail) only [Bool.not_false, HL.cond_true]
      rw [← hKK]
      have e : claimT T r l = (18, T) := by unfold claimT; rw [if_neg hr, if_pos hv, if_neg (by rw [all_not hx (by unfold freeW; exact e1)]; decide)]
      simp -implicitDefEqProofs (maxSteps := 2000000) (disch := first | with_reducible exact Nat.ne_of_beq_eq_false rfl | exact oneCell_int | exact oneCell_bool | omega | rfl | (simp; done) | fail) only [e, retK_ret, resL_tmp, upd_eq, resL_nil1, true_and]
      exact ⟨a, tb, s3, d3⟩
    | true =>
      try simp -implicitDefEqProofs (maxSteps := 2000000) (disch := first | with_reducible exact Nat.ne_of_beq_eq_false rfl | exact oneCell_int | exact oneCell_bool | omega | rfl | (simp; done) | fail) only [Bool.not_true, HL.cond_false]
      unfold S41_l8_k10
      simp -implicitDefEqProofs (maxSteps := 2000000) (disch := first | with_reducible exact Nat.ne_of_beq_eq_false rfl | exact oneCell_int | exact oneCell_bool | omega | rfl | (simp; done) | fail) only [upd_ne, q8, thenK_normal, opH_sv, bin_add, wrap_in]
      exact HX (l.length - (i + 1)) _ _ (by omega) ⟨i + 1, rfl, by omega, by simp -implicitDefEqProofs (maxSteps := 2000000) (disch := first | with_reducible exact Nat.ne_of_beq_eq_false rfl | exact oneCell_int | exact oneCell_bool | omega | rfl | (simp; done) | fail) only [upd_ne, q0], by simp -implicitDefEqProofs (maxSteps := 2000000) (disch := first | with_reducible exact Nat.ne_of_beq_eq_false rfl | exact oneCell_int | exact oneCell_bool | omega | rfl | (simp; done) | fail) only [upd_ne, q1], by simp -implicitDefEqProofs (maxSteps := 2000000) (disch := first | with_reducible exact Nat.ne_of_beq_eq_false rfl | exact oneCell_int | exact oneCell_bool | omega | rfl | (simp; done) | fail) only [upd_ne, q2], by simp -implicitDefEqProofs (maxSteps := 2000000) (disch := first | with_reducible exact Nat.ne_of_beq_eq_false rfl | exact oneCell_int | exact oneCell_bool | omega | rfl | (simp; done) | fail) only [upd_eq] <;> rfl, s3, d3, by rw [all_take hx, hf]; unfold freeW; rw [e1]; rfl⟩
  -- they are put
  obtain rfl : i = l.length := by omega
  rw [List.take_of_length_le (Nat.le_refl _)] at hf
  clear HX
  try simp -implicitDefEqProofs (maxSteps := 2000000) (disch := first | with_reducible exact Nat.ne_of_beq_eq_false rfl | exact oneCell_int | exact oneCell_bool | omega | rfl | (simp; done) | fail) only [opH_sv, opH_su, pureW_sv, opH_nil, pureW_nil, pick_t, pick_f, pick_tp, pick_fp, gd_tt, gd_ft, gd_tf, gd_ff, box_new, regs0, regs1, regs2, regs3, regs4, regs5, regs6, cells_agg, cells_int, cells_bool, cells_ptr, cells_slice, cells_string, cells_func, cells_nilFunc, cells_map, retK_ret, retK_normal, resL_tmp, resL_cell, resL_nil0, resL_nil1, resL_nil2, resL_nil3, resC_ptr, ex0, ex1, ex2, ex0p, ex1p, ex2p, HL.cond_true, HL.cond_false, thenK_normal, thenK_ret, thenK_exit, blockK_normal, blockK_ret, blockK_exit, scopeK_normal, scopeK_ret, scopeK_exit, wpH_pure, bin_add, bin_sub, bin_mul, bin_lss, bin_leq, bin_gtr, bin_geq, bin_quo, bin_rem, bin_quop, bin_remp, wrap_in, bin_addp, bin_subp, bin_mulp, bin_lssp, bin_leqp, bin_gtrp, bin_geqp, un_not, un_notp, un_neg, eq_int, ne_int, eq_intp, ne_intp, callV_fn, add_mk, upd_eq, upd_ne, cell_set_self, Nat.zero_add, Nat.add_zero, Option.some.injEq, exists_eq_left', List.getElem?_cons_succ, List.getElem?_cons_zero, true_and, and_true, bne_self_eq_false, beq_self_eq_true, Bool.not_true, Bool.not_false, Bool.and_true, Bool.and_self, Bool.and_false, Bool.true_and, List.length_cons, List.length_nil, ne_eq, not_false_eq_true, Nat.reduceAdd, Nat.reduceMul, if_true, if_false, oneCell_int, oneCell_bool, oneCell_ptr, oneCell_slice, oneCell_string, oneCell_func, oneCell_map, Int.toNat_natCast, List.set_cons_zero, List.set_cons_succ, Nat.lt_irrefl, Nat.zero_lt_succ, Nat.succ_lt_succ_iff, fa30_0, fa30_0p, fa30_1, fa30_1p, fa30_2, fa30_2p, fa35_0, fa35_0p, fa35_1, fa35_1p, fa35_2, fa35_2p, fa51_0, fa51_0p, fa51_1, fa51_1p, fa51_2, fa51_2p, fa51_3, fa51_3p, fa51_4, fa51_4p, fa51_5, fa51_5p, fa68_0, fa68_0p, fa76_0, fa76_0p, fa88_0, fa88_0p, fa88_1, fa88_1p, fa88_2, fa88_2p, fa90_0, fa90_0p, fa90_1, fa90_1p, ld3, ld3p, ld22, ld22p, ld23, ld23p, ld30, ld30p, ld32, ld32p, ld35, ld35p, ld39, ld39p, ld51, ld51p, ld58, ld58p, ld66, ld66p, st3s, st30w, st32s, st35w, st39s, st51w, st58w, st88w, st90w, ix22, ix22p, ix32, ix32p, ix39, ix39p, ix46, ix46p, ix64, ix64p, ix66, ix66p, ix78, ix78p, ix81, ix81p, ln22, ln22p, ln32, ln32p, ln39, ln39p, ln46, ln46p, ln64, ln64p, ln66, ln66p, ln78, ln78p, ln81, ln81p, al30, al35, al39, al56, al58, cf12, cf13, cf14, cf15, cf16, cf17, cf18, cf19, cf20, cf21, cf22, cf23, cf24, cf25, cf26, cf27, cf28, cf29, cf30, cf31, cf32, cf33, cf34, cf35, cf36, cf37, cf38, cf39, cf40, cf41, cf42, cf43, cf44, cf45, cf46, cf47, cf48, cf49, cf50, cf51, cf52, cf53, cf54, cf55, cf56, cf57, cf58, cf60, cf61, cf62, cf63, cf64, bd30_0_1_2, bd30_0_1_2p, bd30_1, bd30_1p, bd30_1_2, bd30_1_2p, bd35_0, bd35_0p, bd35_0_1_2, bd35_0_1_2p, bd58_0_1, bd58_0_1p, bd68_0, bd68_0p, bd76_0, bd76_0p, bd88_0_1_2, bd88_0_1_2p, bd90_0_1, bd90_0_1p, bs22_1_0, bs32_1_0, bs39_1_0, bs78_1_0, bs81_1_0, eq4, eq4p, eq23n, eq23np, eq23s, eq23sp, eq37n, eq37np, eq37s, eq37sp, ne4, ne4p, ne23n, ne23np, ne23s, ne23sp, ne35, ne35p]
  unfold S41_k3
  refine loop_I (fun m q' h3 => ∃ (i : Nat) (a' : Hp), m = l.length - i ∧ i ≤ l.length ∧ q' 0 = .pointer (some ⟨tp, 0, none⟩) ∧ q' 1 = .int .i64 r ∧ q' 2 = .slice sa l.length cap ∧ q' 9 = .int .i64 i ∧ Tab 76 a' tp (putsT r T (l.take i)) ∧ HL.Sep (a' :: w :: R) h3 ∧ Dis G h3) ?_
    (m := l.length) ⟨0, a, rfl, Nat.zero_le _, by simp -implicitDefEqProofs (maxSteps := 2000000) (disch := first | with_reducible exact Nat.ne_of_beq_eq_false rfl | exact oneCell_int | exact oneCell_bool | omega | rfl | (simp; done) | fail) only [upd_ne, q0], by simp -implicitDefEqProofs (maxSteps := 2000000) (disch := first | with_reducible exact Nat.ne_of_beq_eq_false rfl | exact oneCell_int | exact oneCell_bool | omega | rfl | (simp; done) | fail) only [upd_ne, q1], by simp -implicitDefEqProofs (maxSteps := 2000000) (disch := first | with_reducible exact Nat.ne_of_beq_eq_false rfl | exact oneCell_int | exact oneCell_bool | omega | rfl | (simp; done) | fail) only [upd_ne, q2], by simp -implicitDefEqProofs (maxSteps := 2000000) (disch := first | with_reducible exact Nat.ne_of_beq_eq_false rfl | exact oneCell_int | exact oneCell_bool | omega | rfl | (simp; done) | fail) only [upd_eq] <;> rfl, tb, s3, d3⟩
  clear q0 q1 q2 q8 s3 d3
  clear q h3
  rintro m q h3 ⟨i, a3, rfl, hi, q0, q1, q2, q9, t3, s3, d3⟩ X HX
  unfold S41_l5
  simp -implicitDefEqProofs (maxSteps := 2000000) (disch := first | with_reducible exact Nat.ne_of_beq_eq_false rfl | exact oneCell_int | exact oneCell_bool | omega | rfl | (simp; done) | fail) only [q2, q9, thenK_exit, blockK_exit, thenK_normal, if_true, opH_sv, ln78, bin_lss]
  refine cond_dec (fun hlt => ?_) (fun hge => ?_)
  · obtain ⟨x, hx⟩ : ∃ x, l[i]? = some x := ⟨_, List.getElem?_eq_getElem (by omega)⟩
    obtain ⟨bb, of, rfl, z0, z1, z2⟩ := Sees.want (sv.up (s3.in 1 rfl) d3) hx
    obtain ⟨⟨c0, c1⟩, f0, f1, f2⟩ := valid_iff.1 (List.all_eq_true.1 hv x (List.mem_of_getElem? hx))
    have sub : ∀ u ∈ l.take i, u ∈ l := fun u hu => List.mem_of_mem_take hu
    obtain ⟨g3, fw3, l3, k3⟩ := puts_inv (by omega : 0 ≤ r) (l := l.take i) g fw (List.all_eq_true.2 fun u hu => List.all_eq_true.1 hv u (sub u hu)) (List.all_eq_true.2 fun u hu => List.all_eq_true.1 hf u (sub u hu))
    unfold S41_l5_k6
    simp -implicitDefEqProofs (maxSteps := 2000000) (disch := first | with_reducible exact Nat.ne_of_beq_eq_false rfl | exact oneCell_int | exact oneCell_bool | omega | rfl | (simp; done) | fail) only [upd_ne, q2, q9, q0, q1, cf57, pureW_sv, ix78p, Int.toNat_natCast, add_mk, fa88_2p, ld3p, z2, Option.some.injEq, exists_eq_left', fa88_1p, z1, fa88_0p, Nat.add_zero, z0]
    have hlen : (rowT (putsT r T (l.take i)) x.c).length ≤ 50000 := by
      have h5 := rowT_few fw3 x.c
      rw [List.length_take] at h5
      omega
    refine (rput_walk (r := r) t3 s3 c0 (rowT_get c0 (by rw [l3]; exact c1)) (rowT_good g3 x.c) hlen f0 f1 f2).mono ?_
    rintro _ h5 ⟨rfl, a5, t5, s5, d5⟩
    unfold S41_l5_k7
    simp -implicitDefEqProofs (maxSteps := 2000000) (disch := first | with_reducible exact Nat.ne_of_beq_eq_false rfl | exact oneCell_int | exact oneCell_bool | omega | rfl | (simp; done) | fail) only [upd_ne, q9, thenK_normal, opH_sv, bin_add, wrap_in]
    refine HX (l.length - (i + 1)) _ _ (by omega) ⟨i + 1, a5, rfl, by omega, by simp -implicitDefEqProofs (maxSteps := 2000000) (disch := first | with_reducible exact Nat.ne_of_beq_eq_false rfl | exact oneCell_int | exact oneCell_bool | omega | rfl | (simp; done) | fail) only [upd_ne, q0], by simp -implicitDefEqProofs (maxSteps := 2000000) (disch := first | with_reducible exact Nat.ne_of_beq_eq_false rfl | exact oneCell_int | exact oneCell_bool | omega | rfl | (simp; done) | fail) only [upd_ne, q1], by simp -implicitDefEqProofs (maxSteps := 2000000) (disch := first | with_reducible exact Nat.ne_of_beq_eq_false rfl | exact oneCell_int | exact oneCell_bool | omega | rfl | (simp; done) | fail) only [upd_ne, q2], by simp -implicitDefEqProofs (maxSteps := 2000000) (disch := first | with_reducible exact Nat.ne_of_beq_eq_false rfl | exact oneCell_int | exact oneCell_bool | omega | rfl | (simp; done) | fail) only [upd_eq] <;> rfl, ?_, s5, d5⟩
    rw [puts_take hx]
    exact t5
  obtain rfl : i = l.length := by omega
  rw [List.take_of_length_le (Nat.le_refl _)] at t3
  try simp -implicitDefEqProofs (maxSteps := 2000000) (disch := first | with_reducible exact Nat.ne_of_beq_eq_false rfl | exact oneCell_int | exact oneCell_bool | omega | rfl | (simp; done) | fail) only [opH_sv, opH_su, pureW_sv, opH_nil, pureW_nil, pick_t, pick_f, pick_tp, pick_fp, gd_tt, gd_ft, gd_tf, gd_ff, box_new, regs0, regs1, regs2, regs3, regs4, regs5, regs6, cells_agg, cells_int, cells_bool, cells_ptr, cells_slice, cells_string, cells_func, cells_nilFunc, cells_map, retK_ret, retK_normal, resL_tmp, resL_cell, resL_nil0, resL_nil1, resL_nil2, resL_nil3, resC_ptr, ex0, ex1, ex2, ex0p, ex1p, ex2p, HL.cond_true, HL.cond_false, thenK_normal, thenK_ret, thenK_exit, blockK_normal, blockK_ret, blockK_exit, scopeK_normal, scopeK_ret, scopeK_exit, wpH_pure, bin_add, bin_sub, bin_mul, bin_lss, bin_leq, bin_gtr, bin_geq, bin_quo, bin_rem, bin_quop, bin_remp, wrap_in, bin_addp, bin_subp, bin_mulp, bin_lssp, bin_leqp, bin_gtrp, bin_geqp, un_not, un_notp, un_neg, eq_int, ne_int, eq_intp, ne_intp, callV_fn, add_mk, upd_eq, upd_ne, cell_set_self, Nat.zero_add, Nat.add_zero, Option.some.injEq, exists_eq_left', List.getElem?_cons_succ, List.getElem?_cons_zero, true_and, and_true, bne_self_eq_false, beq_self_eq_true, Bool.not_true, Bool.not_false, Bool.and_true, Bool.and_self, Bool.and_false, Bool.true_and, List.length_cons, List.length_nil, ne_eq, not_false_eq_true, Nat.reduceAdd, Nat.reduceMul, if_true, if_false, oneCell_int, oneCell_bool, oneCell_ptr, oneCell_slice, oneCell_string, oneCell_func, oneCell_map, Int.toNat_natCast, List.set_cons_zero, List.set_cons_succ, Nat.lt_irrefl, Nat.zero_lt_succ, Nat.succ_lt_succ_iff, fa30_0, fa30_0p, fa30_1, fa30_1p, fa30_2, fa30_2p, fa35_0, fa35_0p, fa35_1, fa35_1p, fa35_2, fa35_2p, fa51_0, fa51_0p, fa51_1, fa51_1p, fa51_2, fa51_2p, fa51_3, fa51_3p, fa51_4, fa51_4p, fa51_5, fa51_5p, fa68_0, fa68_0p, fa76_0, fa76_0p, fa88_0, fa88_0p, fa88_1, fa88_1p, fa88_2, fa88_2p, fa90_0, fa90_0p, fa90_1, fa90_1p, ld3, ld3p, ld22, ld22p, ld23, ld23p, ld30, ld30p, ld32, ld32p, ld35, ld35p, ld39, ld39p, ld51, ld51p, ld58, ld58p, ld66, ld66p, st3s, st30w, st32s, st35w, st39s, st51w, st58w, st88w, st90w, ix22, ix22p, ix32, ix32p, ix39, ix39p, ix46, ix46p, ix64, ix64p, ix66, ix66p, ix78, ix78p, ix81, ix81p, ln22, ln22p, ln32, ln32p, ln39, ln39p, ln46, ln46p, ln64, ln64p, ln66, ln66p, ln78, ln78p, ln81, ln81p, al30, al35, al39, al56, al58, cf12, cf13, cf14, cf15, cf16, cf17, cf18, cf19, cf20, cf21, cf22, cf23, cf24, cf25, cf26, cf27, cf28, cf29, cf30, cf31, cf32, cf33, cf34, cf35, cf36, cf37, cf38, cf39, cf40, cf41, cf42, cf43, cf44, cf45, cf46, cf47, cf48, cf49, cf50, cf51, cf52, cf53, cf54, cf55, cf56, cf57, cf58, cf60, cf61, cf62, cf63, cf64, bd30_0_1_2, bd30_0_1_2p, bd30_1, bd30_1p, bd30_1_2, bd30_1_2p, bd35_0, bd35_0p, bd35_0_1_2, bd35_0_1_2p, bd58_0_1, bd58_0_1p, bd68_0, bd68_0p, bd76_0, bd76_0p, bd88_0_1_2, bd88_0_1_2p, bd90_0_1, bd90_0_1p, bs22_1_0, bs32_1_0, bs39_1_0, bs78_1_0, bs81_1_0, eq4, eq4p, eq23n, eq23np, eq23s, eq23sp, eq37n, eq37np, eq37s, eq37sp, ne4, ne4p, ne23n, ne23np, ne23s, ne23sp, ne35, ne35p]
  unfold S41_k4
  have e : claimT T r l = (0, putsT r T l) := by unfold claimT; rw [if_neg hr, if_pos hv, if_pos hf]
  rw [← hKK]
  simp -implicitDefEqProofs (maxSteps := 2000000) (disch := first | with_reducible exact Nat.ne_of_beq_eq_false rfl | exact oneCell_int | exact oneCell_bool | omega | rfl | (simp; done) | fail) only [e, retK_ret, resL_tmp, upd_eq, resL_nil1, true_and]
  exact ⟨a3, t3, s3, d3⟩

set_option maxHeartbeats 4000000 in
theorem rextend_spec {G h a : Hp} {R : List Hp} {tp b : Nat} {T : Tb} {r c k y : Int} (tb : Tab 76 a tp T) (sp : HL.Sep (a :: R) h) (g : GoodT T) (fw : Few T b) (hb : b ≤ 50000) :
    HCalls Try.prog G 37 #[.pointer (some ⟨tp, 0, none⟩), .int .i64 r, .int .i64 c, .int .i64 k, .int .i64 y] h (fun u h' => u = .int .i64 (extendT T r c k y).1 ∧ ∃ a', Tab 76 a' tp (extendT T r c k y).2 ∧ HL.Sep (a' :: R) h' ∧ Dis G h') := by
  refine HCalls.assume fun d => enter37 (by simp) ?_
  have da : Dis G a := fun b o e => d _ _ (sp.hd _ _ e)
  unfold S37
  simp -implicitDefEqProofs (maxSteps := 2000000) (disch := first | with_reducible exact Nat.ne_of_beq_eq_false rfl | exact oneCell_int | exact oneCell_bool | omega | rfl | (simp; done) | fail) only [regs0, regs2, retK_ret, resL_tmp, upd_eq, resL_nil1, opH_sv, cf54]
  refine (there_spec (c := c) (tb.see sp.hd)).mono ?_
  rintro _ h ⟨rfl, rfl⟩
  cases hc : inT T.length c with
  | false =>
    try simp -implicitDefEqProofs (maxSteps := 2000000) (disch := first | with_reducible exact Nat.ne_of_beq_eq_false rfl | exact oneCell_int | exact oneCell_bool | omega | rfl | (simp; done) | fail) only [un_not, Bool.not_false, HL.cond_true]
    have e : extendT T r c k y = (3, T) := by unfold extendT; rw [hc]; rfl
    rw [e]
    exact ⟨rfl, a, tb, sp, d⟩
  | true =>
  obtain ⟨c0, c1⟩ := inT_iff.1 hc
  have hL := rowT_get c0 c1
  obtain ⟨rb, e1, e2⟩ := tb.see (G := G) (Hp.le.refl a)
  obtain ⟨sa, cap, e3, e4⟩ := e2 _ _ hL
  generalize hLL : rowT T c = L at *
  have gL : Resv.Good L := by rw [← hLL]; exact rowT_good g c
  have fL : L.length ≤ 50000 := by rw [← hLL]; exact Nat.le_trans (rowT_few fw c) hb
  try simp -implicitDefEqProofs (maxSteps := 2000000) (disch := first | with_reducible exact Nat.ne_of_beq_eq_false rfl | exact oneCell_int | exact oneCell_bool | omega | rfl | (simp; done) | fail) only [un_not, Bool.not_true, HL.cond_false]
  unfold S37_k1
  generalize hKK : retK Try.prog G _ _ = KK
  refine loop_I (fun m q h3 => ∃ i : Nat, m = L.length - i ∧ i ≤ L.length ∧ q 0 = .pointer (some ⟨tp, 0, none⟩) ∧ q 1 = .int .i64 r ∧ q 2 = .int .i64 c ∧ q 3 = .int .i64 k ∧ q 4 = .int .i64 y ∧ q 11 = .int .i64 i ∧ HL.Sep (a :: R) h3 ∧ Dis G h3 ∧ ∀ x ∈ L.take i, hitB r k x = false) ?_
    (m := L.length) ⟨0, rfl, Nat.zero_le _, by simp -implicitDefEqProofs (maxSteps := 2000000) (disch := first | with_reducible exact Nat.ne_of_beq_eq_false rfl | exact oneCell_int | exact oneCell_bool | omega | rfl | (simp; done) | fail) only [upd_ne, regs0], by simp -implicitDefEqProofs (maxSteps := 2000000) (disch := first | with_reducible exact Nat.ne_of_beq_eq_false rfl | exact oneCell_int | exact oneCell_bool | omega | rfl | (simp; done) | fail) only [upd_ne, regs1], by simp -implicitDefEqProofs (maxSteps := 2000000) (disch := first | with_reducible exact Nat.ne_of_beq_eq_false rfl | exact oneCell_int | exact oneCell_bool | omega | rfl | (simp; done) | fail) only [upd_ne, regs2], by simp -implicitDefEqProofs (maxSteps := 2000000) (disch := first | with_reducible exact Nat.ne_of_beq_eq_false rfl | exact oneCell_int | exact oneCell_bool | omega | rfl | (simp; done) | fail) only [upd_ne, regs3], by simp -implicitDefEqProofs (maxSteps := 2000000) (disch := first | with_reducible exact Nat.ne_of_beq_eq_false rfl | exact oneCell_int | exact oneCell_bool | omega | rfl | (simp; done) | fail) only [upd_ne, regs4], by simp -implicitDefEqProofs (maxSteps := 2000000) (disch := first | with_reducible exact Nat.ne_of_beq_eq_false rfl | exact oneCell_int | exact oneCell_bool | omega | rfl | (simp; done) | fail) only [upd_eq] <;> rfl, sp, d, by simp⟩
  rintro m q h3 ⟨i, rfl, hi, q0, q1, q2, q3, q4, q11, s3, d3, hn⟩ X HX
  have l3 := s3.in 0 rfl
  unfold S37_l3
  simp -implicitDefEqProofs (maxSteps := 2000000) (disch := first | with_reducible exact Nat.ne_of_beq_eq_false rfl | exact oneCell_int | exact oneCell_bool | omega | rfl | (simp; done) | fail) only [q0, q2, q11, thenK_exit, blockK_exit, thenK_normal, if_true, opH_sv, opH_nil, fa76_0, add_mk, Nat.add_zero, ld66, cell_up l3 d3 e1, Option.some.injEq, exists_eq_left', ix66 c0 c1, Nat.mul_one, Nat.zero_add, ld32, cell_up l3 d3 e3, ln32, bin_lss]
  refine cond_dec (fun hlt => ?_) (fun hge => ?_)
  rotate_left
  · obtain rfl : i = L.length := by omega
    rw [List.take_of_length_le (Nat.le_refl _)] at hn
    try simp -implicitDefEqProofs (maxSteps := 2000000) (disch := first | with_reducible exact Nat.ne_of_beq_eq_false rfl | exact oneCell_int | exact oneCell_bool | omega | rfl | (simp; done) | fail) only [opH_sv, opH_su, pureW_sv, opH_nil, pureW_nil, pick_t, pick_f, pick_tp, pick_fp, gd_tt, gd_ft, gd_tf, gd_ff, box_new, regs0, regs1, regs2, regs3, regs4, regs5, regs6, cells_agg, cells_int, cells_bool, cells_ptr, cells_slice, cells_string, cells_func, cells_nilFunc, cells_map, retK_ret, retK_normal, resL_tmp, resL_cell, resL_nil0, resL_nil1, resL_nil2, resL_nil3, resC_ptr, ex0, ex1, ex2, ex0p, ex1p, ex2p, HL.cond_true, HL.cond_false, thenK_normal, thenK_ret, thenK_exit, blockK_normal, blockK_ret, blockK_exit, scopeK_normal, scopeK_ret, scopeK_exit, wpH_pure, bin_add, bin_sub, bin_mul, bin_lss, bin_leq, bin_gtr, bin_geq, bin_quo, bin_rem, bin_quop, bin_remp, wrap_in, bin_addp, bin_subp, bin_mulp, bin_lssp, bin_leqp, bin_gtrp, bin_geqp, un_not, un_notp, un_neg, eq_int, ne_int, eq_intp, ne_intp, callV_fn, add_mk, upd_eq, upd_ne, cell_set_self, Nat.zero_add, Nat.add_zero, Option.some.injEq, exists_eq_left', List.getElem?_cons_succ, List.getElem?_cons_zero, true_and, and_true, bne_self_eq_false, beq_self_eq_true, Bool.not_true, Bool.not_false, Bool.and_true, Bool.and_self, Bool.and_false, Bool.true_and, List.length_cons, List.length_nil, ne_eq, not_false_eq_true, Nat.reduceAdd, Nat.reduceMul, if_true, if_false, oneCell_int, oneCell_bool, oneCell_ptr, oneCell_slice, oneCell_string, oneCell_func, oneCell_map, Int.toNat_natCast, List.set_cons_zero, List.set_cons_succ, Nat.lt_irrefl, Nat.zero_lt_succ, Nat.succ_lt_succ_iff, fa30_0, fa30_0p, fa30_1, fa30_1p, fa30_2, fa30_2p, fa35_0, fa35_0p, fa35_1, fa35_1p, fa35_2, fa35_2p, fa51_0, fa51_0p, fa51_1, fa51_1p, fa51_2, fa51_2p, fa51_3, fa51_3p, fa51_4, fa51_4p, fa51_5, fa51_5p, fa68_0, fa68_0p, fa76_0, fa76_0p, fa88_0, fa88_0p, fa88_1, fa88_1p, fa88_2, fa88_2p, fa90_0, fa90_0p, fa90_1, fa90_1p, ld3, ld3p, ld22, ld22p, ld23, ld23p, ld30, ld30p, ld32, ld32p, ld35, ld35p, ld39, ld39p, ld51, ld51p, ld58, ld58p, ld66, ld66p, st3s, st30w, st32s, st35w, st39s, st51w, st58w, st88w, st90w, ix22, ix22p, ix32, ix32p, ix39, ix39p, ix46, ix46p, ix64, ix64p, ix66, ix66p, ix78, ix78p, ix81, ix81p, ln22, ln22p, ln32, ln32p, ln39, ln39p, ln46, ln46p, ln64, ln64p, ln66, ln66p, ln78, ln78p, ln81, ln81p, al30, al35, al39, al56, al58, cf12, cf13, cf14, cf15, cf16, cf17, cf18, cf19, cf20, cf21, cf22, cf23, cf24, cf25, cf26, cf27, cf28, cf29, cf30, cf31, cf32, cf33, cf34, cf35, cf36, cf37, cf38, cf39, cf40, cf41, cf42, cf43, cf44, cf45, cf46, cf47, cf48, cf49, cf50, cf51, cf52, cf53, cf54, cf55, cf56, cf57, cf58, cf60, cf61, cf62, cf63, cf64, bd30_0_1_2, bd30_0_1_2p, bd30_1, bd30_1p, bd30_1_2, bd30_1_2p, bd35_0, bd35_0p, bd35_0_1_2, bd35_0_1_2p, bd58_0_1, bd58_0_1p, bd68_0, bd68_0p, bd76_0, bd76_0p, bd88_0_1_2, bd88_0_1_2p, bd90_0_1, bd90_0_1p, bs22_1_0, bs32_1_0, bs39_1_0, bs78_1_0, bs81_1_0, eq4, eq4p, eq23n, eq23np, eq23s, eq23sp, eq37n, eq37np, eq37s, eq37sp, ne4, ne4p, ne23n, ne23np, ne23s, ne23sp, ne35, ne35p]
    unfold S37_k2
    have e : extendT T r c k y = (3, T) := by unfold extendT; rw [hc, hLL, List.find?_eq_none.2 (fun x hx => by simp [hn x hx])]; rfl
    rw [← hKK]
    simp -implicitDefEqProofs (maxSteps := 2000000) (disch := first | with_reducible exact Nat.ne_of_beq_eq_false rfl | exact oneCell_int | exact oneCell_bool | omega | rfl | (simp; done) | fail) only [e, retK_ret, resL_tmp, upd_eq, resL_nil1, true_and]
    exact ⟨a, tb, s3, d3⟩
  obtain ⟨s, hs⟩ : ∃ s, L[i]? = some s := ⟨_, List.getElem?_eq_getElem (by omega)⟩
  obtain ⟨b', of, rfl, z0, z1, z2⟩ := Sees.slot (e4.up l3 d3) hs
  unfold S37_l3_k4
  simp -implicitDefEqProofs (maxSteps := 2000000) (disch := first | with_reducible exact Nat.ne_of_beq_eq_false rfl | exact oneCell_int | exact oneCell_bool | omega | rfl | (simp; done) | fail) only [upd_ne, q0, q2, q11, opH_sv, opH_su, al35, fa35_2, add_mk, Nat.zero_add, ld3, opH_nil, fa76_0, Nat.add_zero, ld66, cell_up l3 d3 e1, Option.some.injEq, exists_eq_left', ix66 c0 c1, Nat.mul_one, ld32, cell_up l3 d3 e3, ix32 (Int.natCast_nonneg i) hlt, Int.toNat_natCast, ld35, z0, z1, z2, st35w, cell_set_self, List.getElem?_cons_succ, List.getElem?_cons_zero]
  intro x hx gx
  simp -implicitDefEqProofs (maxSteps := 2000000) (disch := first | with_reducible exact Nat.ne_of_beq_eq_false rfl | exact oneCell_int | exact oneCell_bool | omega | rfl | (simp; done) | fail) only [q1, ne_int]
  generalize eh : Hp.set h3 x _ = h4
  obtain ⟨l4, d4, b4⟩ := boxed eh hx d3 gx
  have s4 : HL.Sep (a :: R) h4 := by rw [← eh]; exact s3.past hx
  have cx : ∀ j, cellIn G h4 ⟨x, j, none⟩ = _ := fun j => cell_of (look_own b4)
  have go : ∀ (K0 : Exit → Rg → Hp → Prop) (r1 : Rg), (∀ k, k ≤ 11 → r1 k = q k) → hitB r k s = false → S37_l3_k5 G (thenK X K0) r1 h4 := fun K0 r1 hk ht => by
    unfold S37_l3_k5
    simp -implicitDefEqProofs (maxSteps := 2000000) (disch := first | with_reducible exact Nat.ne_of_beq_eq_false rfl | exact oneCell_int | exact oneCell_bool | omega | rfl | (simp; done) | fail) only [hk 11 (by decide), q11, thenK_normal, opH_sv, bin_add, wrap_in]
    exact HX (L.length - (i + 1)) _ _ (by omega) ⟨i + 1, rfl, by omega, by simp -implicitDefEqProofs (maxSteps := 2000000) (disch := first | with_reducible exact Nat.ne_of_beq_eq_false rfl | exact oneCell_int | exact oneCell_bool | omega | rfl | (simp; done) | fail) only [upd_ne, hk 0 (by decide), q0], by simp -implicitDefEqProofs (maxSteps := 2000000) (disch := first | with_reducible exact Nat.ne_of_beq_eq_false rfl | exact oneCell_int | exact oneCell_bool | omega | rfl | (simp; done) | fail) only [upd_ne, hk 1 (by decide), q1], by simp -implicitDefEqProofs (maxSteps := 2000000) (disch := first | with_reducible exact Nat.ne_of_beq_eq_false rfl | exact oneCell_int | exact oneCell_bool | omega | rfl | (simp; done) | fail) only [upd_ne, hk 2 (by decide), q2], by simp -implicitDefEqProofs (maxSteps := 2000000) (disch := first | with_reducible exact Nat.ne_of_beq_eq_false rfl | exact oneCell_int | exact oneCell_bool | omega | rfl | (simp; done) | fail) only [upd_ne, hk 3 (by decide), q3], by simp -implicitDefEqProofs (maxSteps := 2000000) (disch := first | with_reducible exact Nat.ne_of_beq_eq_false rfl | exact oneCell_int | exact oneCell_bool | omega | rfl | (simp; done) | fail) only [upd_ne, hk 4 (by decide), q4], by simp -implicitDefEqProofs (maxSteps := 2000000) (disch := first | with_reducible exact Nat.ne_of_beq_eq_false rfl | exact oneCell_int | exact oneCell_bool | omega | rfl | (simp; done) | fail) only [upd_eq] <;> rfl, s4, d4, fun u hu => by
      rw [List.take_add_one, hs, List.mem_append] at hu
      rcases hu with hu | hu
      · exact hn u hu
      · simp at hu; rw [hu]; exact ht⟩
  cases hb1 : (s.r != r) with
  | true =>
    try simp -implicitDefEqProofs (maxSteps := 2000000) (disch := first | with_reducible exact Nat.ne_of_beq_eq_false rfl | exact oneCell_int | exact oneCell_bool | omega | rfl | (simp; done) | fail) only [pick_t, HL.cond_true, gd_tf]
    exact go _ _ (fun k hk => by simp (disch := omega) only [upd_ne]) (by simp at hb1; unfold hitB; simp [hb1])
  | false =>
  try simp -implicitDefEqProofs (maxSteps := 2000000) (disch := first | with_reducible exact Nat.ne_of_beq_eq_false rfl | exact oneCell_int | exact oneCell_bool | omega | rfl | (simp; done) | fail) only [q3, pick_f, gd_ff, opH_sv, fa35_0, add_mk, Nat.add_zero, ld3, cx, List.getElem?_cons_zero, Option.some.injEq, exists_eq_left', bin_lss]
  by_cases hb2 : k < s.f
  · try simp -implicitDefEqProofs (maxSteps := 2000000) (disch := first | with_reducible exact Nat.ne_of_beq_eq_false rfl | exact oneCell_int | exact oneCell_bool | omega | rfl | (simp; done) | fail) only [decide_eq_true hb2, pick_t, HL.cond_true, gd_tf]
    exact go _ _ (fun k hk => by simp (disch := omega) only [upd_ne]) (by unfold hitB; rw [decide_eq_false (show ¬ s.f ≤ k by omega)]; simp)
  try simp -implicitDefEqProofs (maxSteps := 2000000) (disch := first | with_reducible exact Nat.ne_of_beq_eq_false rfl | exact oneCell_int | exact oneCell_bool | omega | rfl | (simp; done) | fail) only [decide_eq_false hb2, pick_f, gd_ff, opH_sv, fa35_1, add_mk, Nat.zero_add, ld3, cx, List.getElem?_cons_succ, List.getElem?_cons_zero, Option.some.injEq, exists_eq_left', bin_geq]
  refine cond_dec (fun hb3 => ?_) (fun hb3 => ?_)
  · exact go _ _ (fun k hk => by simp (disch := omega) only [upd_ne]) (by unfold hitB; rw [decide_eq_false (show ¬ k < s.t by omega)]; simp)
  have hhit : hitB r k s = true := hit_iff.2 ⟨by simpa using hb1, by omega, by omega⟩
  have hfind := find_take hs hn hhit
  have hmem := List.mem_of_getElem? hs
  have ok := gL.ok s hmem
  unfold S37_l3_k6
  simp -implicitDefEqProofs (maxSteps := 2000000) (disch := first | with_reducible exact Nat.ne_of_beq_eq_false rfl | exact oneCell_int | exact oneCell_bool | omega | rfl | (simp; done) | fail) only [upd_ne, upd_eq, q4, q0, q1, q2, thenK_ret, blockK_ret, cf56, opH_sv, fa35_0, add_mk, Nat.add_zero, ld3, cf55, fa35_1, Nat.zero_add, cx, List.getElem?_cons_succ, List.getElem?_cons_zero, Option.some.injEq, exists_eq_left']
  refine (rsum_spec (a := s.t) (b := y)).mono ?_
  rintro _ h4 ⟨rfl, rfl⟩
  simp -implicitDefEqProofs (maxSteps := 2000000) (disch := first | with_reducible exact Nat.ne_of_beq_eq_false rfl | exact oneCell_int | exact oneCell_bool | omega | rfl | (simp; done) | fail) only [cx, List.getElem?_cons_zero, Option.some.injEq, exists_eq_left']
  refine (met_spec (r := r) (f := s.f) (t := sumI s.t y) (tb.see (s4.in 0 rfl)) c0 hL (by omega)).mono ?_
  rintro _ h4 ⟨rfl, rfl⟩
  cases hf : freeB L r s.f (sumI s.t y) with
  | false =>
    try simp -implicitDefEqProofs (maxSteps := 2000000) (disch := first | with_reducible exact Nat.ne_of_beq_eq_false rfl | exact oneCell_int | exact oneCell_bool | omega | rfl | (simp; done) | fail) only [Bool.not_false, HL.cond_true]
    have e : extendT T r c k y = (18, T) := by unfold extendT; rw [hc, hLL, hfind]; simp [hf]
    rw [← hKK]
    simp -implicitDefEqProofs (maxSteps := 2000000) (disch := first | with_reducible exact Nat.ne_of_beq_eq_false rfl | exact oneCell_int | exact oneCell_bool | omega | rfl | (simp; done) | fail) only [e, retK_ret, resL_tmp, upd_eq, resL_nil1, true_and]
    exact ⟨a, tb, s4, d4⟩
  | true =>
  try simp -implicitDefEqProofs (maxSteps := 2000000) (disch := first | with_reducible exact Nat.ne_of_beq_eq_false rfl | exact oneCell_int | exact oneCell_bool | omega | rfl | (simp; done) | fail) only [Bool.not_true, HL.cond_false]
  unfold S37_l3_k7
  simp -implicitDefEqProofs (maxSteps := 2000000) (disch := first | with_reducible exact Nat.ne_of_beq_eq_false rfl | exact oneCell_int | exact oneCell_bool | omega | rfl | (simp; done) | fail) only [upd_ne, upd_eq, q0, q1, q2, thenK_ret, blockK_ret, cf57, opH_sv, fa35_0, add_mk, Nat.add_zero, ld3, cx, List.getElem?_cons_zero, Option.some.injEq, exists_eq_left']
  refine (rput_walk (r := r) tb s4 c0 hL gL fL ok.1 (Int.lt_of_lt_of_le ok.2.1 (sum_ge ok.2.2.1)) sum_le).mono ?_
  rintro _ h5 ⟨rfl, a5, t5, s5, d5⟩
  have e : extendT T r c k y = (0, T.set c.toNat (Resv.putL L r s.f (sumI s.t y))) := by unfold extendT; rw [hc, hLL, hfind]; simp [hf]
  rw [← hKK]
  simp -implicitDefEqProofs (maxSteps := 2000000) (disch := first | with_reducible exact Nat.ne_of_beq_eq_false rfl | exact oneCell_int | exact oneCell_bool | omega | rfl | (simp; done) | fail) only [e, retK_ret, resL_tmp, upd_eq, resL_nil1, true_and]
  exact ⟨a5, t5, s5, d5⟩

end Go.Proofs.Ytbloobepmgmbgaa
