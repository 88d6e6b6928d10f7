/- The reference: the stacks, and what may be. -/
import Derived.Test.YtnpdploihlgcgaaDoorGC
set_option linter.unusedSimpArgs false
set_option linter.unusedVariables false
set_option maxRecDepth 100000
namespace Go.Proofs.YtnpdploihlgcgaaDoor
open Go Go.HL

theorem flat_len {C : Conf} {L : List (Cell × List Int)} (h : ∀ s ∈ L, (s.2.length : Int) ≤ C.ht) (ht : C.ht ≤ 8) : (L.flatMap Prod.snd).length ≤ 8 * L.length := by
  induction L with
  | nil => simp
  | cons s L ih =>
    have h1 := h s (.head _)
    have h2 := ih fun t ht => h t (.tail _ ht)
    rw [List.flatMap_cons, List.length_append, List.length_cons]
    omega

set_option maxHeartbeats 1000000 in
theorem bins_spec {G h : Hp} {v : Value} {C : Conf} (hv : CV G h v C) (ht : C.ht ≤ 8) (hL : C.bl.length ≤ 100000000000000) (hP : C.po.length ≤ 100000000000000) (hR : C.ro.length ≤ 100000000000000) :
    HCalls Tryd.prog G 56 #[v] h (fun u h' => (∃ b, u = .bool b ∧ (b = true ↔ BinsOk C)) ∧ h' = h) := by
  obtain ⟨ab, cb, ap, cp, ar, cr, az, cs, rfl, ca⟩ := hv
  refine HCalls.assume fun d => quietly (enter56 (by simp) ?_)
  unfold S56
  simp -implicitDefEqProofs (maxSteps := 2000000) (disch := first | with_reducible exact Nat.ne_of_beq_eq_false rfl | exact oneCell_int | exact oneCell_bool | omega | rfl | (simp; done) | fail) only [regs0, opH_sv, box_new, cells_agg]
  intro x hx gx
  generalize e1 : Hp.set h x _ = h1
  obtain ⟨l1, d1, b1⟩ := boxed e1 hx d gx
  refine loop_I (fun m r h3 => ∃ (i : Nat) (lp : Hp) (v3 : Value), m = C.st.length - i ∧ i ≤ C.st.length ∧ i ≤ 257 ∧ r 1 = .pointer (some ⟨x, 0, none⟩) ∧ r 3 = v3 ∧ r 4 = .int .i64 i ∧
     (∀ s ∈ C.st.take i, stackedB C s.1 = true ∧ (s.2.length : Int) ≤ C.ht) ∧ ((C.st.take i).map Prod.fst).Nodup ∧ Slc icC 3 lp v3 ((C.st.take i).flatMap Prod.snd) ∧ Sep [lp, h1] h3 ∧ Dis G h3) ?_
    (m := C.st.length) ⟨0, noHp, _, rfl, Nat.zero_le _, Nat.zero_le _, by simp -implicitDefEqProofs (maxSteps := 2000000) (disch := first | with_reducible exact Nat.ne_of_beq_eq_false rfl | exact oneCell_int | exact oneCell_bool | omega | rfl | (simp; done) | fail) only [upd_ne, upd_eq], by simp -implicitDefEqProofs (maxSteps := 2000000) (disch := first | with_reducible exact Nat.ne_of_beq_eq_false rfl | exact oneCell_int | exact oneCell_bool | omega | rfl | (simp; done) | fail) only [upd_ne, upd_eq] <;> rfl, by simp -implicitDefEqProofs (maxSteps := 2000000) (disch := first | with_reducible exact Nat.ne_of_beq_eq_false rfl | exact oneCell_int | exact oneCell_bool | omega | rfl | (simp; done) | fail) only [upd_eq] <;> rfl, by simp, by simp, Slc.nil, Sep.one.none, d1⟩
  rintro m r h3 ⟨i, lp, v3, rfl, hi, hi2, g1, g3, g4, hok, hnd, o3, s3, d3⟩ X HX
  have l3 : h1.le h3 := s3.in 1 rfl
  have cx : ∀ k, cellIn G h3 ⟨x, k, none⟩ = _ := fun k => cell_of (look_own (l3 _ _ b1))
  have ca3 := ca.up (l1.trans l3) d3
  have hfl := flat_len (C := C) (fun s hs => (hok s hs).2) ht
  rw [List.length_take, Nat.min_eq_left hi] at hfl
  unfold S56_l11
  simp -implicitDefEqProofs (maxSteps := 2000000) (disch := first | with_reducible exact Nat.ne_of_beq_eq_false rfl | exact oneCell_int | exact oneCell_bool | omega | rfl | (simp; done) | fail) only [g1, g4, thenK_exit, blockK_exit, thenK_normal, if_true, opH_sv, fa26_6, add_mk, Nat.zero_add, ld24, cx, List.getElem?_cons_succ, List.getElem?_cons_zero, Option.some.injEq, exists_eq_left', ln24, bin_lss]
  refine cond_dec (fun hlt => ?_) (fun hge => ?_)
  rotate_left
  · obtain rfl : i = C.st.length := by omega
    rw [List.take_of_length_le (Nat.le_refl _)] at hok hnd o3 hfl
    try simp -implicitDefEqProofs (maxSteps := 2000000) (disch := first | with_reducible exact Nat.ne_of_beq_eq_false rfl | exact oneCell_int | exact oneCell_bool | omega | rfl | (simp; done) | fail) only [opH_sv, opH_su, pureW_sv, opH_nil, pureW_nil, pick_t, pick_f, pick_tp, pick_fp, gd_tt, gd_ft, gd_tf, gd_ff, box_new, regs0, regs1, regs2, regs3, regs4, regs5, regs6, cells_agg, cells_int, cells_bool, cells_ptr, cells_slice, cells_string, cells_func, cells_nilFunc, cells_map, retK_ret, retK_normal, resL_tmp, resL_cell, resL_nil0, resL_nil1, resL_nil2, resL_nil3, resC_ptr, ex0, ex1, ex2, ex0p, ex1p, ex2p, HL.cond_true, HL.cond_false, thenK_normal, thenK_ret, thenK_exit, blockK_normal, blockK_ret, blockK_exit, scopeK_normal, scopeK_ret, scopeK_exit, wpH_pure, bin_add, bin_sub, bin_mul, bin_lss, bin_leq, bin_gtr, bin_geq, bin_quo, bin_rem, bin_quop, bin_remp, wrap_in, bin_addp, bin_subp, bin_mulp, bin_lssp, bin_leqp, bin_gtrp, bin_geqp, un_not, un_notp, un_neg, eq_int, ne_int, eq_intp, ne_intp, callV_fn, add_mk, upd_eq, upd_ne, cell_set_self, Nat.zero_add, Nat.add_zero, Option.some.injEq, exists_eq_left', List.getElem?_cons_succ, List.getElem?_cons_zero, true_and, and_true, bne_self_eq_false, beq_self_eq_true, Bool.not_true, Bool.not_false, Bool.and_true, Bool.and_self, Bool.and_false, Bool.true_and, List.length_cons, List.length_nil, ne_eq, not_false_eq_true, Nat.reduceAdd, Nat.reduceMul, if_true, if_false, oneCell_int, oneCell_bool, oneCell_ptr, oneCell_slice, oneCell_string, oneCell_func, oneCell_map, Int.toNat_natCast, List.set_cons_zero, List.set_cons_succ, Nat.lt_irrefl, Nat.zero_lt_succ, Nat.succ_lt_succ_iff, fa26_0, fa26_0p, fa26_1, fa26_1p, fa26_10, fa26_10p, fa26_11, fa26_11p, fa26_12, fa26_12p, fa26_13, fa26_13p, fa26_14, fa26_14p, fa26_2, fa26_2p, fa26_3, fa26_3p, fa26_4, fa26_4p, fa26_5, fa26_5p, fa26_6, fa26_6p, fa26_7, fa26_7p, fa26_8, fa26_8p, fa26_9, fa26_9p, fa28_0, fa28_0p, fa28_1, fa28_1p, fa30_0, fa30_0p, fa30_1, fa30_1p, fa46_0, fa46_0p, fa46_1, fa46_1p, fa46_2, fa46_2p, fa46_3, fa46_3p, fa46_4, fa46_4p, fa46_5, fa46_5p, fa46_6, fa46_6p, fa86_0, fa86_0p, fa86_1, fa86_1p, fa86_2, fa86_2p, fa95_0, fa95_0p, fa95_1, fa95_1p, ld3, ld3p, ld4, ld4p, ld22, ld22p, ld23, ld23p, ld24, ld24p, ld26, ld26p, ld28, ld28p, ld30, ld30p, ld31, ld31p, ld46, ld46p, ld47, ld47p, ld52, ld52p, ld55, ld55p, ld57, ld57p, ld95, ld95p, st3s, st4s, st22s, st23s, st24s, st26w, st28w, st30w, st46w, st47s, st55s, st95w, ix22, ix22p, ix23, ix23p, ix24, ix24p, ix47, ix47p, ix56, ix56p, ix57, ix57p, ix101, ix101p, ln22, ln22p, ln23, ln23p, ln24, ln24p, ln47, ln47p, ln56, ln56p, ln57, ln57p, al22, al26, al28, al30, al46, al47, al95, cf14, cf15, cf16, cf17, cf18, cf19, cf20, cf21, cf22, cf23, cf24, cf25, cf26, cf27, cf28, cf29, cf30, cf31, cf32, cf33, cf34, cf35, cf36, cf37, cf38, cf39, cf40, cf41, cf42, cf43, cf44, cf45, cf46, cf47, cf48, cf49, cf50, cf51, cf52, cf53, cf54, cf55, cf56, cf57, cf58, cf59, cf60, cf61, cf62, cf63, cf64, cf65, cf66, cf67, cf68, cf69, cf70, cf71, cf72, cf73, cf74, cf75, cf76, cf77, cf78, cf79, cf80, bd26_0_1_2_7_8_9_10_11_12_13_14, bd26_0_1_2_7_8_9_10_11_12_13_14p, bd28_0, bd28_0p, bd28_0_1, bd28_0_1p, bd30_, bd30_p, bd30_0_1, bd30_0_1p, bd30_0, bd30_0p, bd46_0_1_2_3_4, bd46_0_1_2_3_4p, bd46_0_3_4, bd46_0_3_4p, bd86_0_1_2, bd86_0_1_2p, bd87_0_1_2_3, bd87_0_1_2_3p, bd95_0_1, bd95_0_1p, bs22_2_0_1, bs47_1_0, bs22_1_0, bs57_6_0_1_2_3_4_5, bs24_1_0, bs22_4_0_1_2_3, bs56_11_0_1_2_3_4_5_6_7_8_9_10, bs57_11_0_1_2_3_4_5_6_7_8_9_10, eq4, eq4p, eq28, eq28p, eq30, eq30p, eq31n, eq31np, eq31s, eq31sp, eq46, eq46p, eq50n, eq50np, eq50s, eq50sp, eq67n, eq67np, eq67s, eq67sp, ne4, ne4p, ne28, ne28p, ne30, ne30p, ne31n, ne31np, ne31s, ne31sp, ne46, ne46p]
    refine bins_out (v := v3) (o3.sees (by decide) s3.hd) (by omega) (fun b => b = true ↔ BinsOk C) (l1.trans l3) _ (by simp -implicitDefEqProofs (maxSteps := 2000000) (disch := first | with_reducible exact Nat.ne_of_beq_eq_false rfl | exact oneCell_int | exact oneCell_bool | omega | rfl | (simp; done) | fail) only [upd_ne, g3]) (fun h1 h2 h3 => ?_) (fun hbad => ?_)
    · exact ⟨fun _ => ⟨hi2, hok, hnd, h1, h2, h3⟩, fun _ => rfl⟩
    · refine ⟨fun e => absurd e (by decide), fun B => ?_⟩
      exfalso
      rcases hbad with hb | ⟨b, hb1, hb2⟩ | hb
      · have := B.most; omega
      · have := B.nums b hb1; rw [hb2] at this; cases this
      · exact hb B.once
  have hlt' : i < C.st.length := by omega
  obtain ⟨s, hs⟩ : ∃ x, C.st[i]? = some x := ⟨_, List.getElem?_eq_getElem hlt'⟩
  have hsm : s ∈ C.st := List.mem_of_getElem? hs
  obtain ⟨b, o, a, c, rfl, z0, z1, z2, z3⟩ := ca3.stk hs
  have no : ∀ {P : Prop}, ¬ P → (false = true ↔ P) := fun h => ⟨fun e => absurd e (by decide), fun p => (h p).elim⟩
  unfold S56_l11_k12
  by_cases h257 : i < 257
  rotate_left
  · have e : decide ((i : Int) > 256) = true := by rw [decide_eq_true_iff]; omega
    simp -implicitDefEqProofs (maxSteps := 2000000) (disch := first | with_reducible exact Nat.ne_of_beq_eq_false rfl | exact oneCell_int | exact oneCell_bool | omega | rfl | (simp; done) | fail) only [upd_ne, g4, thenK_ret, blockK_ret, retK_ret, resL_tmp, upd_eq, resL_nil1, pureW_sv, bin_gtrp, e, pick_tp, HL.cond_true, gd_tf]
    exact ⟨⟨_, rfl, no fun B => by have := B.few; omega⟩, l1.trans l3⟩
  have e : decide ((i : Int) > 256) = false := by rw [decide_eq_false_iff_not]; omega
  simp -implicitDefEqProofs (maxSteps := 2000000) (disch := first | with_reducible exact Nat.ne_of_beq_eq_false rfl | exact oneCell_int | exact oneCell_bool | omega | rfl | (simp; done) | fail) only [upd_ne, g4, g1, thenK_ret, blockK_ret, retK_ret, resL_tmp, upd_eq, resL_nil1, pureW_sv, bin_gtrp, e, pick_fp, gd_ff, cf36, fa26_6p, add_mk, Nat.zero_add, ld24p, cx, List.getElem?_cons_succ, List.getElem?_cons_zero, Option.some.injEq, exists_eq_left', ix24p (Int.natCast_nonneg i) hlt, Int.toNat_natCast, fa95_0p, Nat.add_zero, ld28p, z0, z1, ld26p]
  refine (rstacked_spec (c := s.1) ca3.cv hL hP hR).mono ?_
  rintro _ _ ⟨rfl, rfl⟩
  cases hst : stackedB C s.1 with
  | false =>
    try simp -implicitDefEqProofs (maxSteps := 2000000) (disch := first | with_reducible exact Nat.ne_of_beq_eq_false rfl | exact oneCell_int | exact oneCell_bool | omega | rfl | (simp; done) | fail) only [un_notp, Bool.not_false, pick_tp, HL.cond_true, gd_tf]
    exact ⟨⟨_, rfl, no fun B => by have := (B.each s hsm).1; rw [hst] at this; cases this⟩, l1.trans l3⟩
  | true =>
  try simp -implicitDefEqProofs (maxSteps := 2000000) (disch := first | with_reducible exact Nat.ne_of_beq_eq_false rfl | exact oneCell_int | exact oneCell_bool | omega | rfl | (simp; done) | fail) only [un_notp, Bool.not_true, pick_fp, gd_ff, pureW_sv, fa26_2p, add_mk, Nat.zero_add, ld3p, cx, List.getElem?_cons_succ, List.getElem?_cons_zero, Option.some.injEq, exists_eq_left', fa26_6p, ld24p, ix24p (Int.natCast_nonneg i) hlt, Int.toNat_natCast, fa95_1p, ld57p, z2, ln57p, bin_gtrp]
  by_cases hlen : (s.2.length : Int) ≤ C.ht
  rotate_left
  · have e : decide ((s.2.length : Int) > C.ht) = true := by rw [decide_eq_true_iff]; omega
    simp -implicitDefEqProofs (maxSteps := 2000000) (disch := first | with_reducible exact Nat.ne_of_beq_eq_false rfl | exact oneCell_int | exact oneCell_bool | omega | rfl | (simp; done) | fail) only [e, HL.cond_true]
    exact ⟨⟨_, rfl, no fun B => hlen (B.each s hsm).2⟩, l1.trans l3⟩
  have e : decide ((s.2.length : Int) > C.ht) = false := by rw [decide_eq_false_iff_not]; omega
  simp -implicitDefEqProofs (maxSteps := 2000000) (disch := first | with_reducible exact Nat.ne_of_beq_eq_false rfl | exact oneCell_int | exact oneCell_bool | omega | rfl | (simp; done) | fail) only [e, HL.cond_false]
  unfold S56_l11_k14
  refine bins_in1 ca3 cx hs (by omega) _ (by simp -implicitDefEqProofs (maxSteps := 2000000) (disch := first | with_reducible exact Nat.ne_of_beq_eq_false rfl | exact oneCell_int | exact oneCell_bool | omega | rfl | (simp; done) | fail) only [upd_ne, g1]) (by simp -implicitDefEqProofs (maxSteps := 2000000) (disch := first | with_reducible exact Nat.ne_of_beq_eq_false rfl | exact oneCell_int | exact oneCell_bool | omega | rfl | (simp; done) | fail) only [upd_ne, g4]) (by simp -implicitDefEqProofs (maxSteps := 2000000) (disch := first | with_reducible exact Nat.ne_of_beq_eq_false rfl | exact oneCell_int | exact oneCell_bool | omega | rfl | (simp; done) | fail) only [upd_eq]) (fun hn r' j1 j3 j4 => ?_) (fun hm r' j2 => ?_)
  · simp only [blockK_exit, if_true, blockK_normal, thenK_normal]
    have j1' : r' 1 = .pointer (some ⟨x, 0, none⟩) := j1.trans (by simp -implicitDefEqProofs (maxSteps := 2000000) (disch := first | with_reducible exact Nat.ne_of_beq_eq_false rfl | exact oneCell_int | exact oneCell_bool | omega | rfl | (simp; done) | fail) only [upd_ne, g1])
    have j3' : r' 3 = v3 := j3.trans (by simp -implicitDefEqProofs (maxSteps := 2000000) (disch := first | with_reducible exact Nat.ne_of_beq_eq_false rfl | exact oneCell_int | exact oneCell_bool | omega | rfl | (simp; done) | fail) only [upd_ne, g3])
    have j4' : r' 4 = .int .i64 i := j4.trans (by simp -implicitDefEqProofs (maxSteps := 2000000) (disch := first | with_reducible exact Nat.ne_of_beq_eq_false rfl | exact oneCell_int | exact oneCell_bool | omega | rfl | (simp; done) | fail) only [upd_ne, g4])
    unfold S56_l11_k15
    simp -implicitDefEqProofs (maxSteps := 2000000) (disch := first | with_reducible exact Nat.ne_of_beq_eq_false rfl | exact oneCell_int | exact oneCell_bool | omega | rfl | (simp; done) | fail) only [j1', j4', j3', opH_sv, fa26_6, add_mk, Nat.zero_add, ld24, cx, List.getElem?_cons_succ, List.getElem?_cons_zero, Option.some.injEq, exists_eq_left', ix24 (Int.natCast_nonneg i) hlt, Int.toNat_natCast, fa95_1, ld57, z2]
    refine append_piece icC (by decide) un57 eoint (by decide) (by decide) s3 d3 o3 z3 (by omega) fun v' a' h' o' s' d' => ?_
    unfold S56_l11_k13
    simp -implicitDefEqProofs (maxSteps := 2000000) (disch := first | with_reducible exact Nat.ne_of_beq_eq_false rfl | exact oneCell_int | exact oneCell_bool | omega | rfl | (simp; done) | fail) only [upd_ne, j4', thenK_normal, opH_sv, bin_add, wrap_in]
    refine HX (C.st.length - (i + 1)) _ _ (by omega) ⟨i + 1, a', v', rfl, hlt', by omega, by simp -implicitDefEqProofs (maxSteps := 2000000) (disch := first | with_reducible exact Nat.ne_of_beq_eq_false rfl | exact oneCell_int | exact oneCell_bool | omega | rfl | (simp; done) | fail) only [upd_ne, j1'], by simp -implicitDefEqProofs (maxSteps := 2000000) (disch := first | with_reducible exact Nat.ne_of_beq_eq_false rfl | exact oneCell_int | exact oneCell_bool | omega | rfl | (simp; done) | fail) only [upd_ne, upd_eq], by simp -implicitDefEqProofs (maxSteps := 2000000) (disch := first | with_reducible exact Nat.ne_of_beq_eq_false rfl | exact oneCell_int | exact oneCell_bool | omega | rfl | (simp; done) | fail) only [upd_eq] <;> rfl, ?_, ?_, ?_, s', d'⟩
    · rw [take_get hs]
      intro t ht'
      rcases List.mem_append.1 ht' with q | q
      · exact hok t q
      · simp at q; rw [q]; exact ⟨hst, hlen⟩
    · rw [take_get hs, List.map_append]
      exact List.nodup_append.2 ⟨hnd, by simp, fun p hp q hq => by simp at hq; subst hq; exact fun e => hn (e ▸ hp)⟩
    · rw [take_get hs, List.flatMap_append]
      simpa using o'
  · simp -implicitDefEqProofs (maxSteps := 2000000) (disch := first | with_reducible exact Nat.ne_of_beq_eq_false rfl | exact oneCell_int | exact oneCell_bool | omega | rfl | (simp; done) | fail) only [blockK_ret, thenK_ret, retK_ret, resL_tmp, j2, resL_nil1]
    refine ⟨⟨_, rfl, no fun B => ?_⟩, l1.trans l3⟩
    refine not_nodup (L := C.st.map Prod.fst) (i := i) (x := s.1) (by rw [List.getElem?_map, hs]; rfl) ?_ B.apart
    rw [← List.map_take]
    exact hm

end Go.Proofs.YtnpdploihlgcgaaDoor
