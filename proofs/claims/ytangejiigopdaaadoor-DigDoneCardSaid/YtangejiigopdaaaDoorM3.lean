/- Texts of the proof, one behind the other. -/
import Derived.Test.YtangejiigopdaaaDoorM2
import Derived.Test.YtangejiigopdaaaDoorH3
import Derived.Test.YtangejiigopdaaaDoorM1
section
/- The program's grid is laid: the walk. -/
set_option linter.unusedSimpArgs false
set_option linter.unusedVariables false
set_option maxRecDepth 100000
namespace Go.Proofs.YtangejiigopdaaaDoor
open Go Go.HL

theorem list_spec {G h : Hp} {v : Value} {L : List Cell} (sv : Sees cellC G h v L) (hL : L.length ≤ 1000) : HCalls Tryd.prog G 71 #[v] h (fun u h' => ∃ b, Slc cellC 28 b u L ∧ Sep [b, h] h' ∧ Dis G h') := by
  obtain ⟨sa, cap, rfl⟩ := sv.len
  refine HCalls.assume fun d => enter71 (by simp) ?_
  unfold S71
  simp -implicitDefEqProofs only [regs0, retK_ret, resL_tmp, upd_eq, resL_nil1, opH_sv, ln22, eq_int]
  by_cases hL0 : L = []
  · subst hL0
    try simp -implicitDefEqProofs only [List.length_nil, show (((0 : Nat) : Int) == 0) = true from rfl, HL.cond_true]
    exact ⟨noHp, Slc.nil, Sep.one.none, d⟩
  · have hpos := List.length_pos_iff.2 hL0
    have e : ((L.length : Int) == 0) = false := by
      have : (L.length : Int) ≠ 0 := by omega
      simpa using this
    try simp -implicitDefEqProofs only [e, HL.cond_false]
    unfold S71_k1
    try simp -implicitDefEqProofs (disch := first | with_reducible exact Nat.ne_of_beq_eq_false rfl | omega) only [upd_ne, regs0, retK_ret, resL_tmp, upd_eq, resL_nil1, opH_sv, ln22]
    rw [make_eq cellC (0, 0) (by decide) un22 eocell (by kernel_rfl) (by omega) (by omega)]
    intro x hx gx
    have d1 := d.set (o := .cells (cellC.rows (List.replicate L.length (0, 0))).toArray 28 (0, 0)) gx
    rw [copy_row cellC (by decide) un22 eocell (L := L) set_self (by simp) (sv.up (le_set hx) d1) hL0 rfl, set_set]
    try simp -implicitDefEqProofs only [opH_sv, opH_su, pureW_sv, opH_nil, pureW_nil, pick_t, pick_f, pick_tp, pick_fp, gd_tt, gd_ft, gd_tf, gd_ff, box_new, regs0, regs1, regs2, regs3, regs4, regs5, regs6, cells_agg, cells_int, cells_bool, cells_ptr, cells_slice, cells_string, cells_func, cells_nilFunc, cells_map, retK_ret, retK_normal, resL_tmp, resL_cell, resL_nil0, resL_nil1, resL_nil2, resL_nil3, resC_ptr, ex0, ex1, ex2, ex0p, ex1p, ex2p, HL.cond_true, HL.cond_false, thenK_normal, thenK_ret, thenK_exit, blockK_normal, blockK_ret, blockK_exit, scopeK_normal, scopeK_ret, scopeK_exit, wpH_pure, bin_add, bin_sub, bin_mul, bin_lss, bin_leq, bin_gtr, bin_geq, bin_quo, bin_rem, bin_quop, bin_remp, wrap_in, bin_addp, bin_subp, bin_mulp, bin_lssp, bin_leqp, bin_gtrp, bin_geqp, un_not, un_notp, un_neg, eq_int, ne_int, eq_intp, ne_intp, callV_fn, add_mk, upd_eq, upd_ne, cell_set_self, Nat.zero_add, Nat.add_zero, Option.some.injEq, exists_eq_left', List.getElem?_cons_succ, List.getElem?_cons_zero, true_and, and_true, bne_self_eq_false, beq_self_eq_true, Bool.not_true, Bool.not_false, Bool.and_true, Bool.and_self, Bool.and_false, Bool.true_and, List.length_cons, List.length_nil, ne_eq, not_false_eq_true, Nat.reduceAdd, Nat.reduceMul, if_true, if_false, oneCell_int, oneCell_bool, oneCell_ptr, oneCell_slice, oneCell_string, oneCell_func, oneCell_map, Int.toNat_natCast, List.set_cons_zero, List.set_cons_succ, Nat.lt_irrefl, Nat.zero_lt_succ, Nat.succ_lt_succ_iff, fa26_0, fa26_0p, fa26_1, fa26_1p, fa26_10, fa26_10p, fa26_11, fa26_11p, fa26_12, fa26_12p, fa26_13, fa26_13p, fa26_14, fa26_14p, fa26_15, fa26_15p, fa26_2, fa26_2p, fa26_3, fa26_3p, fa26_4, fa26_4p, fa26_5, fa26_5p, fa26_6, fa26_6p, fa26_7, fa26_7p, fa26_8, fa26_8p, fa26_9, fa26_9p, fa28_0, fa28_0p, fa28_1, fa28_1p, fa45_0, fa45_0p, fa45_1, fa45_1p, fa45_2, fa45_2p, fa45_3, fa45_3p, fa45_4, fa45_4p, fa45_5, fa45_5p, fa45_6, fa45_6p, fa49_0, fa49_0p, fa49_1, fa49_1p, fa74_0, fa74_0p, fa74_1, fa74_1p, fa74_2, fa74_2p, fa74_3, fa74_3p, fa85_0, fa85_0p, fa85_1, fa85_1p, fa93_0, fa93_0p, fa93_1, fa93_1p, fa93_2, fa93_2p, ld3, ld3p, ld4, ld4p, ld22, ld22p, ld23, ld23p, ld24, ld24p, ld26, ld26p, ld28, ld28p, ld42, ld42p, ld45, ld45p, ld49, ld49p, ld58, ld58p, ld69, ld69p, ld72, ld72p, ld85, ld85p, st3s, st4s, st22s, st23s, st24s, st26w, st28w, st42s, st45w, st49w, st85w, ix22, ix22p, ix23, ix23p, ix24, ix24p, ix31, ix31p, ix42, ix42p, ix104, ix104p, ln22, ln22p, ln23, ln23p, ln24, ln24p, ln31, ln31p, ln42, ln42p, al4, al22, al26, al28, al42, al49, al85, cf10, cf11, cf12, cf13, cf14, cf15, cf16, cf17, cf18, cf19, cf20, cf21, cf22, cf23, cf24, cf25, cf26, cf27, cf28, cf29, cf30, cf31, cf32, cf33, cf34, cf35, cf36, cf37, cf38, cf39, cf40, cf41, cf42, cf43, cf44, cf45, cf46, cf47, cf48, cf49, cf50, cf51, cf52, cf53, cf54, cf55, cf56, cf57, cf58, cf59, cf60, cf61, cf62, cf63, cf64, cf65, cf66, cf67, cf68, cf69, cf70, cf71, cf72, cf73, cf74, cf75, bd26_0_1_2_7_8_9_10_11_12_13_14_4_15, bd26_0_1_2_7_8_9_10_11_12_13_14_4_15p, bd28_, bd28_p, bd28_0, bd28_0p, bd28_0_1, bd28_0_1p, bd45_1_3_4_5_6, bd45_1_3_4_5_6p, bd49_0_1, bd49_0_1p, bd49_1, bd49_1p, bd74_0_1_2_3, bd74_0_1_2_3p, bd85_0, bd85_0p, bd85_0_1, bd85_0_1p, bd93_0_1_2, bd93_0_1_2p, bd94_0_1_2_3, bd94_0_1_2_3p, bs42_1_0, bs22_1_0, bs24_1_0, bs42_3_0_1_2, bs31_1_0, bs22_2_0_1, bs42_6_0_1_2_3_4_5, bs42_0_, eq4, eq4p, eq28, eq28p, eq42n, eq42np, eq42s, eq42sp, eq58n, eq58np, eq58s, eq58sp, eq63n, eq63np, eq63s, eq63sp, ne28, ne28p, ne45, ne45p]
    exact ⟨noHp.set x _, ⟨some x, _, [], rfl, by rw [set_self, List.append_nil], by rw [List.append_nil, cellC.rows_length]⟩, Sep.one.new hx, d.set gx⟩

structure LaidOk (C : Conf) : Prop where
  w : withinB C.w 1 16 = true
  h : withinB C.h 1 16 = true
  po8 : C.po.length ≤ 8
  few : (C.bl.length : Int) ≤ C.w * C.h
  all : ∀ c ∈ C.bl ++ C.po, inW C.w.toNat C.h.toNat c = true
  once : (C.bl ++ C.po).Nodup

theorem ix101n {G h : Hp} {mb n : Nat} {i : Nat} {K : Value → Hp → Prop} (h2 : i < n) : wpH Tryd.prog G (Instr.indexAt 104 (.slice (some ⟨mb, 0, none⟩) n n) (.int .i64 (i : Int))) h K = K (.pointer (some ⟨mb, i, none⟩)) h := by
  rw [ix104 (by omega) (by omega)]; simp only [add_mk, Nat.zero_add, Nat.mul_one, Int.toNat_natCast]
theorem ix57n {G h : Hp} {kb n : Nat} {i : Nat} {K : Value → Hp → Prop} (h2 : i < n) : wpH Tryd.prog G (Instr.indexAt 42 (.slice (some ⟨kb, 0, none⟩) n n) (.int .i64 (i : Int))) h K = K (.pointer (some ⟨kb, i, none⟩)) h := by
  rw [ix42 (by omega) (by omega)]; simp only [add_mk, Nat.zero_add, Nat.mul_one, Int.toNat_natCast]
theorem ix57np {G h : Hp} {kb n : Nat} {i : Nat} {K : Value → Prop} (h2 : i < n) : pw Tryd.prog G h (Instr.indexAt 42 (.slice (some ⟨kb, 0, none⟩) n n) (.int .i64 (i : Int))) K = K (.pointer (some ⟨kb, i, none⟩)) := by
  rw [ix42p (by omega) (by omega)]; simp only [add_mk, Nat.zero_add, Nat.mul_one, Int.toNat_natCast]

theorem mk_get {G a h : Hp} {mb w k : Nat} {f : Nat → Nat → Bool} (m : MK a mb w k f) (l : a.le h) {x y : Nat} (hx : x < w) (hy : y < k) : cellIn G h ⟨mb, y * w + x, none⟩ = some (.bool (f x y)) := by
  rw [cell_of (look_own (l _ _ m))]
  exact rows_one_get bcC rfl rfl (gridL_get hx hy)

set_option maxHeartbeats 2000000 in
theorem laid_loop {G h1 : Hp} {C : Conf} {ab : Option Addr} {cb : Nat} {x gp kb mb w k : Nat} {ip : Hp} {iv : Value} {T : List Cell} {KK : Exit → Rg → Hp → Prop}
    (cx0 : ∀ h3, h1.le h3 → Dis G h3 → cellIn G h3 ⟨x, 3, none⟩ = some (.slice ab C.bl.length cb)) (hT : T.length ≤ 1000) (hB : C.bl.length ≤ 1000) (o : Slc cellC 28 ip iv T) (hk : 1 ≤ w ∧ w ≤ 16 ∧ 1 ≤ k ∧ k ≤ 16)
    (r : Rg) (h : Hp) (ga ma : Hp) (g1 : r 1 = .pointer (some ⟨x, 0, none⟩)) (g4 : r 4 = .pointer (some ⟨gp, 0, none⟩)) (g5 : r 5 = .slice (some ⟨mb, 0, none⟩) (w * k) (w * k)) (g59 : r 59 = iv) (g60 : r 60 = .int .i64 T.length) (g61 : r 61 = .int .i64 0)
    (go : GO ga gp kb w k (kd [] C.bl.length)) (mk : MK ma mb w k (seenT [])) (s : Sep [ga, ma, ip, h1] h) (d : Dis G h)
    (H1 : (∀ c ∈ T, inW w k c = true) → T.Nodup → ∀ (r' : Rg) h' ga', r' 4 = r 4 → GO ga' gp kb w k (kd T C.bl.length) → Sep [ga', h1] h' → Dis G h' → KK (.exit 0) r' h')
    (H2 : ¬ ((∀ c ∈ T, inW w k c = true) ∧ T.Nodup) → ∀ (r' : Rg) h', r' 2 = .pointer none → r' 3 = .bool false → h1.le h' → Dis G h' → KK .ret r' h') : loopP (S67_l3 G) r h KK := by
  obtain ⟨sa, cap, rfl, hcap⟩ := o.len (by decide)
  refine loop_I (fun m r2 h3 => ∃ (i : Nat) (ga ma : Hp), m = T.length - i ∧ i ≤ T.length ∧ r2 1 = r 1 ∧ r2 4 = r 4 ∧ r2 5 = r 5 ∧ r2 59 = r 59 ∧ r2 60 = r 60 ∧ r2 61 = .int .i64 i ∧ (∀ c ∈ T.take i, inW w k c = true) ∧ (T.take i).Nodup ∧
     GO ga gp kb w k (kd (T.take i) C.bl.length) ∧ MK ma mb w k (seenT (T.take i)) ∧ Sep [ga, ma, ip, h1] h3 ∧ Dis G h3) ?_
    (m := T.length) ⟨0, ga, ma, rfl, Nat.zero_le _, rfl, rfl, rfl, rfl, rfl, by rw [g61]; rfl, by simp, by simp, by simpa using go, by simpa using mk, s, d⟩
  rintro m r2 h3 ⟨i, ga, ma, rfl, hi, q1, q4, q5, q59, q60, q61, hin, hnd, go, mk, s3, d3⟩ X HX
  rw [g1] at q1
  rw [g4] at q4
  rw [g5] at q5
  rw [g59] at q59
  rw [g60] at q60
  unfold S67_l3
  simp -implicitDefEqProofs only [q61, q60, thenK_exit, opH_sv, bin_lss]
  refine cond_dec (fun hlt => ?_) (fun hge => ?_)
  rotate_left
  · obtain rfl : i = T.length := by omega
    rw [List.take_of_length_le (Nat.le_refl _)] at hin hnd go
    exact H1 hin hnd _ _ ga (by simp -implicitDefEqProofs (disch := first | with_reducible exact Nat.ne_of_beq_eq_false rfl | omega) only [upd_ne, q4, g4]) go ((s3.pick 3 rfl rfl).swap.take 2 rfl) d3
  have hlt' : i < T.length := by omega
  obtain ⟨y, hy⟩ : ∃ x, T[i]? = some x := ⟨_, List.getElem?_eq_getElem hlt'⟩
  obtain ⟨b, ofs, rfl, z0, z1⟩ := Sees.cell (G := G) (o.sees (by decide) (s3.in 2 rfl)) hy
  unfold S67_l3_k4
  simp -implicitDefEqProofs (disch := first | with_reducible exact Nat.ne_of_beq_eq_false rfl | omega) only [upd_ne, q59, q61, thenK_ret, opH_sv, cf58, opH_su, al28, ld28, add_mk, Nat.add_zero, Nat.zero_add, ix22 (Int.natCast_nonneg i) hlt, Int.toNat_natCast, z0, Option.some.injEq, z1, exists_eq_left', st28w, cell_set_self, List.getElem?_cons_zero, List.getElem?_cons_succ]
  intro t ht gt
  have s4 := s3.past (o := .cells #[.int .i64 y.1, .int .i64 y.2] 28 (0, 0)) ht
  have d4 := d3.set (o := .cells #[.int .i64 y.1, .int .i64 y.2] 28 (0, 0)) gt
  try simp -implicitDefEqProofs only [q4]
  generalize Hp.set h3 t _ = h4 at s4 d4 ⊢
  refine (num_spec (c := y) ((go.gs (G := G)).up s4.hd d4)).mono ?_
  rintro _ h4 ⟨rfl, rfl⟩
  have hyT : y ∈ T := List.mem_of_getElem? hy
  cases hc : inW w k y with
  | false =>
    try simp -implicitDefEqProofs (disch := first | with_reducible exact Nat.ne_of_beq_eq_false rfl | omega) only [numI_out hc, bin_lss, show decide ((-1 : Int) < 0) = true from rfl, pick_t, HL.cond_true, gd_tf]
    refine H2 (fun q => ?_) _ _ (by simp -implicitDefEqProofs (disch := first | with_reducible exact Nat.ne_of_beq_eq_false rfl | omega) only [upd_ne, upd_eq]) (by simp -implicitDefEqProofs only [upd_eq]) (s4.in 3 rfl) d4
    have := q.1 y hyT
    rw [hc] at this; cases this
  | true =>
  obtain ⟨hn, hx, hyk, hlt2⟩ := numI_nat hc
  have hxy : ((y.1.toNat : Int), (y.2.toNat : Int)) = y := by
    obtain ⟨a1, a2, a3, a4⟩ := inW_iff.1 hc
    rw [Int.toNat_of_nonneg a1, Int.toNat_of_nonneg a3]
  obtain ⟨a1, a2, a3, a4⟩ := inW_iff.1 hc
  have mg := mk_get (G := G) mk (s4.in 1 rfl) hx hyk
  rw [show seenT (T.take i) y.1.toNat y.2.toNat = decide (y ∈ T.take i) by unfold seenT; rw [hxy]] at mg
  rw [hn]
  generalize hnn : y.2.toNat * w + y.1.toNat = n at hn hlt2 mg
  try simp -implicitDefEqProofs only [q5, bin_lss, show decide ((n : Int) < 0) = false from decide_eq_false (by omega), pick_f, gd_ff, opH_sv, ix101n hlt2, ld4, mg, Option.some.injEq, exists_eq_left']
  by_cases hmem : y ∈ T.take i
  · try simp -implicitDefEqProofs (disch := first | with_reducible exact Nat.ne_of_beq_eq_false rfl | omega) only [decide_eq_true hmem, HL.cond_true]
    exact H2 (fun q => not_nodup hy hmem q.2) _ _ (by simp -implicitDefEqProofs (disch := first | with_reducible exact Nat.ne_of_beq_eq_false rfl | omega) only [upd_ne, upd_eq]) (by simp -implicitDefEqProofs only [upd_eq]) (s4.in 3 rfl) d4
  try simp -implicitDefEqProofs (disch := first | with_reducible exact Nat.ne_of_beq_eq_false rfl | omega) only [decide_eq_false hmem, HL.cond_false]
  unfold S67_l3_k6
  have mb4 := s4.at 1 rfl mk
  try simp -implicitDefEqProofs (disch := first | with_reducible exact Nat.ne_of_beq_eq_false rfl | omega) only [upd_ne, q5, upd_eq, opH_su, pureW_sv, opH_sv, ix101n hlt2]
  rw [store1_eq sz4 rfl mb4 (by rw [bcC.rows_length, gridL_length]; simp [bcC]; exact hlt2)]
  have s5 := (s4.pick 1 rfl rfl).put (o := .cells ((bcC.rows (gridL w k (seenT (T.take i)))).set n (.bool true)).toArray 4 (0, 0)) mk
  have d5 : Dis G (h4.set mb (.cells ((bcC.rows (gridL w k (seenT (T.take i)))).set n (.bool true)).toArray 4 (0, 0))) := d4.set (d4 _ _ mb4)
  generalize Hp.set h4 mb _ = h5 at s5 d5 ⊢
  have g5h := s5.at 1 rfl go.hd
  have cg5 : ∀ j, cellIn G h5 ⟨gp, j, none⟩ = _ := fun j => cell_of (look_own g5h)
  try simp -implicitDefEqProofs (disch := first | with_reducible exact Nat.ne_of_beq_eq_false rfl | omega) only [q4, pureW_nil, fa93_2p, add_mk, Nat.zero_add, ld42p, opH_nil, fa93_2, ld42, cg5, List.getElem?_cons_succ, List.getElem?_cons_zero, Option.some.injEq, exists_eq_left', ix57n hlt2]
  have kb5 := s5.at 1 rfl go.row
  rw [store1_eq sz3 rfl kb5 (by rw [icC.rows_length, gridL_length]; simp [icC]; exact hlt2)]
  have go6 := go.put (v := -1) hx hyk
  rw [hnn] at go6
  have s6 := (s5.pick 1 rfl rfl).put (o := .cells ((icC.rows (gridL w k (kd (T.take i) C.bl.length))).set n (.int .i64 (-1))).toArray 3 (0, 0)) go.row
  have d6 : Dis G (h5.set kb (.cells ((icC.rows (gridL w k (kd (T.take i) C.bl.length))).set n (.int .i64 (-1))).toArray 3 (0, 0))) := d5.set (d5 _ _ kb5)
  generalize Hp.set h5 kb _ = h6 at s6 d6 ⊢
  have c3 := cx0 h6 (s6.in 3 rfl) d6
  have mk6 := mk.put (v := true) hx hyk
  rw [hnn] at mk6
  have htl : (T.take i).length = i := by rw [List.length_take]; omega
  have next : ∀ (r3 : Rg) h7 ga7, r3 1 = r2 1 → r3 4 = r2 4 → r3 5 = r2 5 → r3 59 = r2 59 → r3 60 = r2 60 → r3 61 = r2 61 → GO ga7 gp kb w k (kd (T.take (i + 1)) C.bl.length) → Sep [ga7, ma.set mb (.cells ((bcC.rows (gridL w k (seenT (T.take i)))).set n (.bool true)).toArray 4 (0, 0)), ip, h1] h7 → Dis G h7 → S67_l3_k5 G (thenK X KK) r3 h7 := by
    intro r3 h7 ga7 w1 w4 w5 w59 w60 w61 go7 s7 d7
    unfold S67_l3_k5
    have w61' := w61.trans q61
    simp -implicitDefEqProofs (disch := first | with_reducible exact Nat.ne_of_beq_eq_false rfl | omega) only [w61', thenK_normal, opH_sv, bin_add, wrap_in]
    refine HX (T.length - (i + 1)) _ _ (by omega) ⟨i + 1, ga7, _, rfl, hlt', by simp -implicitDefEqProofs (disch := first | with_reducible exact Nat.ne_of_beq_eq_false rfl | omega) only [upd_ne, w1, q1, g1], by simp -implicitDefEqProofs (disch := first | with_reducible exact Nat.ne_of_beq_eq_false rfl | omega) only [upd_ne, w4, q4, g4], by simp -implicitDefEqProofs (disch := first | with_reducible exact Nat.ne_of_beq_eq_false rfl | omega) only [upd_ne, w5, q5, g5], by simp -implicitDefEqProofs (disch := first | with_reducible exact Nat.ne_of_beq_eq_false rfl | omega) only [upd_ne, w59, q59, g59], by simp -implicitDefEqProofs (disch := first | with_reducible exact Nat.ne_of_beq_eq_false rfl | omega) only [upd_ne, w60, q60, g60], by simp -implicitDefEqProofs (disch := first | with_reducible exact Nat.ne_of_beq_eq_false rfl | omega) only [upd_eq] <;> rfl, ?_, nodup_take_succ hy hnd hmem, go7, ?_, s7, d7⟩
    · rw [take_get hy]
      intro c hc'
      rcases List.mem_append.1 hc' with q | q
      · exact hin c q
      · simp at q; rw [q]; exact hc
    · rw [take_get hy, seen_snoc a1 a3]
      exact mk6
  have kds := kd_snoc (nb := C.bl.length) hmem a1 a3
  rw [← take_get hy, htl] at kds
  try simp -implicitDefEqProofs (disch := first | with_reducible exact Nat.ne_of_beq_eq_false rfl | omega) only [q1, fa26_3p, add_mk, Nat.zero_add, ld22p, fa26_3, ld22, c3, Option.some.injEq, exists_eq_left', ln22, bin_geq, ln22p, bin_subp, wrap_in, bin_addp]
  by_cases hib : i < C.bl.length
  · have e : decide ((i : Int) ≥ (C.bl.length : Int)) = false := decide_eq_false (by omega)
    try simp -implicitDefEqProofs (disch := first | with_reducible exact Nat.ne_of_beq_eq_false rfl | omega) only [e, HL.cond_false]
    refine next _ _ _ (by simp -implicitDefEqProofs (disch := first | with_reducible exact Nat.ne_of_beq_eq_false rfl | omega) only [upd_ne, q1]) (by simp -implicitDefEqProofs (disch := first | with_reducible exact Nat.ne_of_beq_eq_false rfl | omega) only [upd_ne, q4]) (by simp -implicitDefEqProofs (disch := first | with_reducible exact Nat.ne_of_beq_eq_false rfl | omega) only [upd_ne, q5]) (by simp -implicitDefEqProofs (disch := first | with_reducible exact Nat.ne_of_beq_eq_false rfl | omega) only [upd_ne, q59]) (by simp -implicitDefEqProofs (disch := first | with_reducible exact Nat.ne_of_beq_eq_false rfl | omega) only [upd_ne, q60]) (by simp -implicitDefEqProofs (disch := first | with_reducible exact Nat.ne_of_beq_eq_false rfl | omega) only [upd_ne, q61]) ?_ (s6.swap.swap) d6
    rw [kds, if_pos hib]
    exact go6
  · have e : decide ((i : Int) ≥ (C.bl.length : Int)) = true := decide_eq_true (by omega)
    have g6h := s6.at 0 rfl go6.hd
    have cg6 : ∀ j, cellIn G h6 ⟨gp, j, none⟩ = _ := fun j => cell_of (look_own g6h)
    try simp -implicitDefEqProofs (disch := first | with_reducible exact Nat.ne_of_beq_eq_false rfl | omega) only [e, cg6, List.getElem?_cons_succ, List.getElem?_cons_zero, Option.some.injEq, exists_eq_left', ix57np hlt2, HL.cond_true]
    have kb6 := s6.at 0 rfl go6.row
    rw [store1_eq sz3 rfl kb6 (by rw [icC.rows_length, gridL_length]; simp [icC]; exact hlt2)]
    have go7 := go6.put (v := (i : Int) - C.bl.length + 1) hx hyk
    rw [hnn] at go7
    have s7 := s6.put (o := .cells ((icC.rows (gridL w k fun p q => if p = y.1.toNat ∧ q = y.2.toNat then -1 else kd (T.take i) C.bl.length p q)).set n (.int .i64 ((i : Int) - C.bl.length + 1))).toArray 3 (0, 0)) go6.row
    refine next _ _ _ (by simp -implicitDefEqProofs (disch := first | with_reducible exact Nat.ne_of_beq_eq_false rfl | omega) only [upd_ne, q1]) (by simp -implicitDefEqProofs (disch := first | with_reducible exact Nat.ne_of_beq_eq_false rfl | omega) only [upd_ne, q4]) (by simp -implicitDefEqProofs (disch := first | with_reducible exact Nat.ne_of_beq_eq_false rfl | omega) only [upd_ne, q5]) (by simp -implicitDefEqProofs (disch := first | with_reducible exact Nat.ne_of_beq_eq_false rfl | omega) only [upd_ne, q59]) (by simp -implicitDefEqProofs (disch := first | with_reducible exact Nat.ne_of_beq_eq_false rfl | omega) only [upd_ne, q60]) (by simp -implicitDefEqProofs (disch := first | with_reducible exact Nat.ne_of_beq_eq_false rfl | omega) only [upd_ne, q61]) ?_ s7 (d6.set (d6 _ _ kb6))
    rw [kds, if_neg hib]
    have e2 : (fun p q => if p = y.1.toNat ∧ q = y.2.toNat then (i : Int) - C.bl.length + 1 else if p = y.1.toNat ∧ q = y.2.toNat then -1 else kd (T.take i) C.bl.length p q) = fun p q => if p = y.1.toNat ∧ q = y.2.toNat then (i : Int) - C.bl.length + 1 else kd (T.take i) C.bl.length p q := by
      funext p q
      by_cases h : p = y.1.toNat ∧ q = y.2.toNat <;> simp [h]
    rw [← e2]
    exact go7

end Go.Proofs.YtangejiigopdaaaDoor
end

section
/- The program's grid is laid: the whole. -/
set_option linter.unusedSimpArgs false
set_option linter.unusedVariables false
set_option maxRecDepth 100000
namespace Go.Proofs.YtangejiigopdaaaDoor
open Go Go.HL

theorem gridL_const {α : Type} {w k : Nat} {d : α} : gridL w k (fun _ _ => d) = List.replicate (w * k) d := by
  apply List.ext_getElem?
  intro n
  by_cases hn : n < w * k
  · rw [gridL_at hn, List.getElem?_replicate, if_pos hn]
  · rw [List.getElem?_eq_none (by rw [gridL_length]; omega), List.getElem?_eq_none (by simp; omega)]
theorem kd_nil {nb : Nat} : kd [] nb = fun _ _ => 0 := by funext x y; simp [kd]
theorem seen_nil : seenT [] = fun _ _ => false := by funext x y; simp [seenT]

theorem eobool : ElemOk Tryd.prog 4 bcC.n 1 := ⟨by kernel_rfl, by kernel_rfl, by kernel_rfl⟩

def LaidR (G h : Hp) (C : Conf) (u : Value) (h' : Hp) : Prop := h.le h' ∧ Dis G h' ∧
     ((LaidOk C ∧ ∃ ga gp kb, u = .tuple #[.pointer (some ⟨gp, 0, none⟩), .bool true] ∧ GO ga gp kb C.w.toNat C.h.toNat (kd (C.bl ++ C.po) C.bl.length) ∧ Sep [ga, h] h') ∨ (¬ LaidOk C ∧ u = .tuple #[.pointer none, .bool false]))

set_option maxHeartbeats 2000000 in
theorem laid_spec {G h : Hp} {v : Value} {C : Conf} (hv : CV G h v C) : HCalls Tryd.prog G 67 #[v] h (LaidR G h C) := by
  obtain ⟨ab, cb, ap, cp, ar, cr, az, cs, rfl, ca⟩ := hv
  refine HCalls.assume fun d => enter67 (by simp) ?_
  unfold S67
  simp -implicitDefEqProofs only [regs0, retK_ret, resL_tmp, upd_ne, upd_eq, resL_nil2, opH_sv, cf56, box_new, cells_agg, fa26_0, add_mk, Nat.add_zero, ld3, cell_set_self, List.getElem?_cons_zero, Option.some.injEq, exists_eq_left']
  intro x hx gx
  have s1 := Sep.one.past (h := h) (o := .cells #[.int .i64 C.w, .int .i64 C.h, .int .i64 C.ht, .slice ab C.bl.length cb, .slice ap C.po.length cp, .slice ar C.ro.length cr, .slice az C.st.length cs, .int .i64 C.un, .int .i64 C.ac, .int .i64 C.sp, .int .i64 C.tu, .int .i64 C.ho, .int .i64 C.qu, .int .i64 C.re, .int .i64 C.bu, .bool C.back] 26 (0, 0)) hx
  generalize e1 : Hp.set h x _ = h1 at s1
  obtain ⟨l1, d1, b1⟩ := boxed e1 hx d gx
  have cx : ∀ j, cellIn G h1 ⟨x, j, none⟩ = _ := fun j => cell_of (look_own b1)
  try simp -implicitDefEqProofs only [opH_sv, opH_su, pureW_sv, opH_nil, pureW_nil, pick_t, pick_f, pick_tp, pick_fp, gd_tt, gd_ft, gd_tf, gd_ff, box_new, regs0, regs1, regs2, regs3, regs4, regs5, regs6, cells_agg, cells_int, cells_bool, cells_ptr, cells_slice, cells_string, cells_func, cells_nilFunc, cells_map, retK_ret, retK_normal, resL_tmp, resL_cell, resL_nil0, resL_nil1, resL_nil2, resL_nil3, resC_ptr, ex0, ex1, ex2, ex0p, ex1p, ex2p, HL.cond_true, HL.cond_false, thenK_normal, thenK_ret, thenK_exit, blockK_normal, blockK_ret, blockK_exit, scopeK_normal, scopeK_ret, scopeK_exit, wpH_pure, bin_add, bin_sub, bin_mul, bin_lss, bin_leq, bin_gtr, bin_geq, bin_quo, bin_rem, bin_quop, bin_remp, wrap_in, bin_addp, bin_subp, bin_mulp, bin_lssp, bin_leqp, bin_gtrp, bin_geqp, un_not, un_notp, un_neg, eq_int, ne_int, eq_intp, ne_intp, callV_fn, add_mk, upd_eq, upd_ne, cell_set_self, Nat.zero_add, Nat.add_zero, Option.some.injEq, exists_eq_left', List.getElem?_cons_succ, List.getElem?_cons_zero, true_and, and_true, bne_self_eq_false, beq_self_eq_true, Bool.not_true, Bool.not_false, Bool.and_true, Bool.and_self, Bool.and_false, Bool.true_and, List.length_cons, List.length_nil, ne_eq, not_false_eq_true, Nat.reduceAdd, Nat.reduceMul, if_true, if_false, oneCell_int, oneCell_bool, oneCell_ptr, oneCell_slice, oneCell_string, oneCell_func, oneCell_map, Int.toNat_natCast, List.set_cons_zero, List.set_cons_succ, Nat.lt_irrefl, Nat.zero_lt_succ, Nat.succ_lt_succ_iff, fa26_0, fa26_0p, fa26_1, fa26_1p, fa26_10, fa26_10p, fa26_11, fa26_11p, fa26_12, fa26_12p, fa26_13, fa26_13p, fa26_14, fa26_14p, fa26_15, fa26_15p, fa26_2, fa26_2p, fa26_3, fa26_3p, fa26_4, fa26_4p, fa26_5, fa26_5p, fa26_6, fa26_6p, fa26_7, fa26_7p, fa26_8, fa26_8p, fa26_9, fa26_9p, fa28_0, fa28_0p, fa28_1, fa28_1p, fa45_0, fa45_0p, fa45_1, fa45_1p, fa45_2, fa45_2p, fa45_3, fa45_3p, fa45_4, fa45_4p, fa45_5, fa45_5p, fa45_6, fa45_6p, fa49_0, fa49_0p, fa49_1, fa49_1p, fa74_0, fa74_0p, fa74_1, fa74_1p, fa74_2, fa74_2p, fa74_3, fa74_3p, fa85_0, fa85_0p, fa85_1, fa85_1p, fa93_0, fa93_0p, fa93_1, fa93_1p, fa93_2, fa93_2p, ld3, ld3p, ld4, ld4p, ld22, ld22p, ld23, ld23p, ld24, ld24p, ld26, ld26p, ld28, ld28p, ld42, ld42p, ld45, ld45p, ld49, ld49p, ld58, ld58p, ld69, ld69p, ld72, ld72p, ld85, ld85p, st3s, st4s, st22s, st23s, st24s, st26w, st28w, st42s, st45w, st49w, st85w, ix22, ix22p, ix23, ix23p, ix24, ix24p, ix31, ix31p, ix42, ix42p, ix104, ix104p, ln22, ln22p, ln23, ln23p, ln24, ln24p, ln31, ln31p, ln42, ln42p, al4, al22, al26, al28, al42, al49, al85, cf10, cf11, cf12, cf13, cf14, cf15, cf16, cf17, cf18, cf19, cf20, cf21, cf22, cf23, cf24, cf25, cf26, cf27, cf28, cf29, cf30, cf31, cf32, cf33, cf34, cf35, cf36, cf37, cf38, cf39, cf40, cf41, cf42, cf43, cf44, cf45, cf46, cf47, cf48, cf49, cf50, cf51, cf52, cf53, cf54, cf55, cf56, cf57, cf58, cf59, cf60, cf61, cf62, cf63, cf64, cf65, cf66, cf67, cf68, cf69, cf70, cf71, cf72, cf73, cf74, cf75, bd26_0_1_2_7_8_9_10_11_12_13_14_4_15, bd26_0_1_2_7_8_9_10_11_12_13_14_4_15p, bd28_, bd28_p, bd28_0, bd28_0p, bd28_0_1, bd28_0_1p, bd45_1_3_4_5_6, bd45_1_3_4_5_6p, bd49_0_1, bd49_0_1p, bd49_1, bd49_1p, bd74_0_1_2_3, bd74_0_1_2_3p, bd85_0, bd85_0p, bd85_0_1, bd85_0_1p, bd93_0_1_2, bd93_0_1_2p, bd94_0_1_2_3, bd94_0_1_2_3p, bs42_1_0, bs22_1_0, bs24_1_0, bs42_3_0_1_2, bs31_1_0, bs22_2_0_1, bs42_6_0_1_2_3_4_5, bs42_0_, eq4, eq4p, eq28, eq28p, eq42n, eq42np, eq42s, eq42sp, eq58n, eq58np, eq58s, eq58sp, eq63n, eq63np, eq63s, eq63sp, ne28, ne28p, ne45, ne45p, cx]
  refine (within_spec (n := C.w) (a := 1) (b := 16)).mono ?_
  rintro _ _ ⟨rfl, rfl⟩
  cases hw : withinB C.w 1 16 with
  | false =>
    try simp -implicitDefEqProofs only [un_not, Bool.not_false, pick_t, HL.cond_true, gd_tf]
    exact ⟨l1, d1, .inr ⟨fun q => absurd (q.w.symm.trans hw) (by decide), rfl⟩⟩
  | true =>
  try simp -implicitDefEqProofs only [un_not, Bool.not_true, pick_f, gd_ff, opH_sv, cf56, fa26_1, add_mk, Nat.zero_add, ld3, cx, List.getElem?_cons_succ, List.getElem?_cons_zero, Option.some.injEq, exists_eq_left']
  refine (within_spec (n := C.h) (a := 1) (b := 16)).mono ?_
  rintro _ h1 ⟨rfl, rfl⟩
  cases hk : withinB C.h 1 16 with
  | false =>
    try simp -implicitDefEqProofs only [un_not, Bool.not_false, pick_t, HL.cond_true, gd_tf]
    exact ⟨l1, d1, .inr ⟨fun q => absurd (q.h.symm.trans hk) (by decide), rfl⟩⟩
  | true =>
  have hw' := hw
  have hk' := hk
  unfold withinB at hw' hk'
  simp only [Bool.and_eq_true, decide_eq_true_eq] at hw' hk'
  obtain ⟨w, hwn⟩ : ∃ w : Nat, C.w = w := ⟨C.w.toNat, by omega⟩
  obtain ⟨k, hkn⟩ : ∃ k : Nat, C.h = k := ⟨C.h.toNat, by omega⟩
  try simp -implicitDefEqProofs only [un_not, Bool.not_true, pick_f, gd_ff, opH_sv, fa26_4, add_mk, Nat.zero_add, ld22, cx, List.getElem?_cons_succ, List.getElem?_cons_zero, Option.some.injEq, exists_eq_left', ln22, bin_gtr]
  by_cases hP : C.po.length ≤ 8
  rotate_left
  · try simp -implicitDefEqProofs only [show decide ((C.po.length : Int) > 8) = true from decide_eq_true (by omega), pick_t, HL.cond_true, gd_tf]
    exact ⟨l1, d1, .inr ⟨fun q => hP q.po8, rfl⟩⟩
  have hm : C.w * C.h = ((w * k : Nat) : Int) := by rw [hwn, hkn, Int.natCast_mul]
  have hm2 : w * k ≤ 16 * 16 := Nat.mul_le_mul (by omega) (by omega)
  have hwr : IntKind.i64.wrap (C.w * C.h) = ((w * k : Nat) : Int) := by rw [hm, wrap_in (by omega) (by omega)]
  try simp -implicitDefEqProofs only [show decide ((C.po.length : Int) > 8) = false from decide_eq_false (by omega), pick_f, gd_ff, opH_sv, fa26_1, add_mk, Nat.zero_add, ld3, fa26_0, Nat.add_zero, fa26_3, ld22, cx, List.getElem?_cons_succ, List.getElem?_cons_zero, Option.some.injEq, exists_eq_left', ln22, bin_mul, hwr, bin_gtr]
  by_cases hB : C.bl.length ≤ w * k
  rotate_left
  · try simp -implicitDefEqProofs only [show decide ((C.bl.length : Int) > ((w * k : Nat) : Int)) = true from decide_eq_true (by omega), HL.cond_true]
    exact ⟨l1, d1, .inr ⟨fun q => hB (by have := q.few; rw [hm] at this; omega), rfl⟩⟩
  try simp -implicitDefEqProofs only [show decide ((C.bl.length : Int) > ((w * k : Nat) : Int)) = false from decide_eq_false (by omega), HL.cond_false]
  unfold S67_k1
  refine ⟨h1, Hp.le.refl _, ?_⟩
  try simp -implicitDefEqProofs (disch := first | with_reducible exact Nat.ne_of_beq_eq_false rfl | omega) only [upd_ne, upd_eq, pureW_sv, opH_sv, fa26_4p, add_mk, Nat.zero_add, ld22p, cf71, fa26_3p, fa26_1, ld3, fa26_0, Nat.add_zero, box_new, fa26_1p, ld3p, cx, List.getElem?_cons_succ, List.getElem?_cons_zero, Option.some.injEq, exists_eq_left', fa26_0p, bin_mulp, hwr]
  rw [make_eq icC 0 (by decide) un42 eoint (by kernel_rfl) (by omega) (by omega)]
  intro kb hkb gkb
  refine ⟨le_set hkb, ?_⟩
  try simp -implicitDefEqProofs only [bd93_0_1_2p, cells_agg]
  intro gp hgp ggp
  have s2 := (Sep.one.new (o := .cells (icC.rows (List.replicate (w * k) 0)).toArray 3 (0, 0)) hkb).grow (o := .cells #[.int .i64 C.w, .int .i64 C.h, .slice (some ⟨kb, 0, none⟩) (w * k) (w * k)] 93 (0, 0)) hgp
  have d2 := (d1.set (o := .cells (icC.rows (List.replicate (w * k) 0)).toArray 3 (0, 0)) gkb).set (o := .cells #[.int .i64 C.w, .int .i64 C.h, .slice (some ⟨kb, 0, none⟩) (w * k) (w * k)] 93 (0, 0)) ggp
  have ngk : kb ≠ gp := ne_of_set hgp
  have go0 : GO ((noHp.set kb (.cells (icC.rows (List.replicate (w * k) 0)).toArray 3 (0, 0))).set gp (.cells #[.int .i64 C.w, .int .i64 C.h, .slice (some ⟨kb, 0, none⟩) (w * k) (w * k)] 93 (0, 0))) gp kb w k (kd [] C.bl.length) :=
    ⟨by rw [set_self, hwn, hkn], by rw [set_other ngk, set_self, kd_nil, gridL_const], by omega, by omega, by omega, by omega⟩
  generalize (noHp.set kb (.cells (icC.rows (List.replicate (w * k) 0)).toArray 3 (0, 0))).set gp (.cells #[.int .i64 C.w, .int .i64 C.h, .slice (some ⟨kb, 0, none⟩) (w * k) (w * k)] 93 (0, 0)) = ga at s2 go0
  generalize Hp.set (Hp.set h1 kb _) gp _ = h2 at s2 d2 ⊢
  have cx2 : ∀ j, cellIn G h2 ⟨x, j, none⟩ = _ := fun j => cell_of (look_own (s2.in 1 rfl _ _ b1))
  try simp -implicitDefEqProofs only [cx2, List.getElem?_cons_zero, Option.some.injEq, List.getElem?_cons_succ, exists_eq_left', bin_mul, hwr]
  rw [make_eq bcC false (by decide) un104 eobool (by kernel_rfl) (by omega) (by omega)]
  intro mb hmb gmb
  have s3 := s2.new (o := .cells (bcC.rows (List.replicate (w * k) false)).toArray 4 (0, 0)) hmb
  have d3 := d2.set (o := .cells (bcC.rows (List.replicate (w * k) false)).toArray 4 (0, 0)) gmb
  have mk0 : MK (noHp.set mb (.cells (bcC.rows (List.replicate (w * k) false)).toArray 4 (0, 0))) mb w k (seenT []) := by
    unfold MK; rw [set_self, seen_nil, gridL_const]
  generalize noHp.set mb (.cells (bcC.rows (List.replicate (w * k) false)).toArray 4 (0, 0)) = ma at s3 mk0
  generalize Hp.set h2 mb _ = h3 at s3 d3 ⊢
  have l3 : h1.le h3 := s3.in 2 rfl
  have cx3 : ∀ j, cellIn G h3 ⟨x, j, none⟩ = _ := fun j => cell_of (look_own (l3 _ _ b1))
  have ca3 := ca.up (l1.trans l3) d3
  refine ⟨h3, Hp.le.refl _, ?_⟩
  try simp -implicitDefEqProofs only [cx3, List.getElem?_cons_succ, List.getElem?_cons_zero, Option.some.injEq, exists_eq_left']
  refine (list_spec ca3.bl (by omega)).mono ?_
  rintro v4 h4 ⟨ip, o4, s4, d4⟩
  refine ⟨s4.in 1 rfl, ?_⟩
  try simp -implicitDefEqProofs only [opH_sv, opH_su, pureW_sv, opH_nil, pureW_nil, pick_t, pick_f, pick_tp, pick_fp, gd_tt, gd_ft, gd_tf, gd_ff, box_new, regs0, regs1, regs2, regs3, regs4, regs5, regs6, cells_agg, cells_int, cells_bool, cells_ptr, cells_slice, cells_string, cells_func, cells_nilFunc, cells_map, retK_ret, retK_normal, resL_tmp, resL_cell, resL_nil0, resL_nil1, resL_nil2, resL_nil3, resC_ptr, ex0, ex1, ex2, ex0p, ex1p, ex2p, HL.cond_true, HL.cond_false, thenK_normal, thenK_ret, thenK_exit, blockK_normal, blockK_ret, blockK_exit, scopeK_normal, scopeK_ret, scopeK_exit, wpH_pure, bin_add, bin_sub, bin_mul, bin_lss, bin_leq, bin_gtr, bin_geq, bin_quo, bin_rem, bin_quop, bin_remp, wrap_in, bin_addp, bin_subp, bin_mulp, bin_lssp, bin_leqp, bin_gtrp, bin_geqp, un_not, un_notp, un_neg, eq_int, ne_int, eq_intp, ne_intp, callV_fn, add_mk, upd_eq, upd_ne, cell_set_self, Nat.zero_add, Nat.add_zero, Option.some.injEq, exists_eq_left', List.getElem?_cons_succ, List.getElem?_cons_zero, true_and, and_true, bne_self_eq_false, beq_self_eq_true, Bool.not_true, Bool.not_false, Bool.and_true, Bool.and_self, Bool.and_false, Bool.true_and, List.length_cons, List.length_nil, ne_eq, not_false_eq_true, Nat.reduceAdd, Nat.reduceMul, if_true, if_false, oneCell_int, oneCell_bool, oneCell_ptr, oneCell_slice, oneCell_string, oneCell_func, oneCell_map, Int.toNat_natCast, List.set_cons_zero, List.set_cons_succ, Nat.lt_irrefl, Nat.zero_lt_succ, Nat.succ_lt_succ_iff, fa26_0, fa26_0p, fa26_1, fa26_1p, fa26_10, fa26_10p, fa26_11, fa26_11p, fa26_12, fa26_12p, fa26_13, fa26_13p, fa26_14, fa26_14p, fa26_15, fa26_15p, fa26_2, fa26_2p, fa26_3, fa26_3p, fa26_4, fa26_4p, fa26_5, fa26_5p, fa26_6, fa26_6p, fa26_7, fa26_7p, fa26_8, fa26_8p, fa26_9, fa26_9p, fa28_0, fa28_0p, fa28_1, fa28_1p, fa45_0, fa45_0p, fa45_1, fa45_1p, fa45_2, fa45_2p, fa45_3, fa45_3p, fa45_4, fa45_4p, fa45_5, fa45_5p, fa45_6, fa45_6p, fa49_0, fa49_0p, fa49_1, fa49_1p, fa74_0, fa74_0p, fa74_1, fa74_1p, fa74_2, fa74_2p, fa74_3, fa74_3p, fa85_0, fa85_0p, fa85_1, fa85_1p, fa93_0, fa93_0p, fa93_1, fa93_1p, fa93_2, fa93_2p, ld3, ld3p, ld4, ld4p, ld22, ld22p, ld23, ld23p, ld24, ld24p, ld26, ld26p, ld28, ld28p, ld42, ld42p, ld45, ld45p, ld49, ld49p, ld58, ld58p, ld69, ld69p, ld72, ld72p, ld85, ld85p, st3s, st4s, st22s, st23s, st24s, st26w, st28w, st42s, st45w, st49w, st85w, ix22, ix22p, ix23, ix23p, ix24, ix24p, ix31, ix31p, ix42, ix42p, ix104, ix104p, ln22, ln22p, ln23, ln23p, ln24, ln24p, ln31, ln31p, ln42, ln42p, al4, al22, al26, al28, al42, al49, al85, cf10, cf11, cf12, cf13, cf14, cf15, cf16, cf17, cf18, cf19, cf20, cf21, cf22, cf23, cf24, cf25, cf26, cf27, cf28, cf29, cf30, cf31, cf32, cf33, cf34, cf35, cf36, cf37, cf38, cf39, cf40, cf41, cf42, cf43, cf44, cf45, cf46, cf47, cf48, cf49, cf50, cf51, cf52, cf53, cf54, cf55, cf56, cf57, cf58, cf59, cf60, cf61, cf62, cf63, cf64, cf65, cf66, cf67, cf68, cf69, cf70, cf71, cf72, cf73, cf74, cf75, bd26_0_1_2_7_8_9_10_11_12_13_14_4_15, bd26_0_1_2_7_8_9_10_11_12_13_14_4_15p, bd28_, bd28_p, bd28_0, bd28_0p, bd28_0_1, bd28_0_1p, bd45_1_3_4_5_6, bd45_1_3_4_5_6p, bd49_0_1, bd49_0_1p, bd49_1, bd49_1p, bd74_0_1_2_3, bd74_0_1_2_3p, bd85_0, bd85_0p, bd85_0_1, bd85_0_1p, bd93_0_1_2, bd93_0_1_2p, bd94_0_1_2_3, bd94_0_1_2_3p, bs42_1_0, bs22_1_0, bs24_1_0, bs42_3_0_1_2, bs31_1_0, bs22_2_0_1, bs42_6_0_1_2_3_4_5, bs42_0_, eq4, eq4p, eq28, eq28p, eq42n, eq42np, eq42s, eq42sp, eq58n, eq58np, eq58s, eq58sp, eq63n, eq63np, eq63s, eq63sp, ne28, ne28p, ne45, ne45p, cx3]
  refine append_piece cellC (by decide) un22 eocell (by decide) (by decide) s4 d4 o4 (ca3.po.up (s4.in 1 rfl) d4) (by omega) fun v5 ip5 h5 o5 s5 d5 => ?_
  have s6 := (s5.split s3).pick 2 rfl rfl
  have s7 : Sep [ga, ma, ip5, h1] h5 := s6.pick 2 rfl rfl |>.swap
  obtain ⟨sa5, cp5, rfl, _⟩ := o5.len (by decide)
  try simp -implicitDefEqProofs (disch := first | with_reducible exact Nat.ne_of_beq_eq_false rfl | omega) only [ln22p]
  refine laid_loop (C := C) (ab := ab) (cb := cb) (x := x) (T := C.bl ++ C.po) (fun h6 l6 d6 => by rw [cell_of (look_own (l6 _ _ b1))]; rfl) (by rw [List.length_append]; omega) (by omega) o5 ⟨by omega, by omega, by omega, by omega⟩ _ _ ga ma
    (by simp -implicitDefEqProofs (disch := first | with_reducible exact Nat.ne_of_beq_eq_false rfl | omega) only [upd_ne, upd_eq]) (by simp -implicitDefEqProofs (disch := first | with_reducible exact Nat.ne_of_beq_eq_false rfl | omega) only [upd_ne, upd_eq]) (by simp -implicitDefEqProofs (disch := first | with_reducible exact Nat.ne_of_beq_eq_false rfl | omega) only [upd_ne, upd_eq]) (by simp -implicitDefEqProofs (disch := first | with_reducible exact Nat.ne_of_beq_eq_false rfl | omega) only [upd_ne, upd_eq]) (by simp -implicitDefEqProofs (disch := first | with_reducible exact Nat.ne_of_beq_eq_false rfl | omega) only [upd_ne, upd_eq]) (by simp -implicitDefEqProofs (disch := first | with_reducible exact Nat.ne_of_beq_eq_false rfl | omega) only [upd_eq]) go0 mk0 s7 d5 (fun hin hnd r' h' ga' j4 go' s' d' => ?_) (fun hbad r' h' j2 j3 l' d' => ?_)
  · simp only [blockK_exit, if_true, thenK_normal]
    have j4' : r' 4 = .pointer (some ⟨gp, 0, none⟩) := j4.trans (by simp -implicitDefEqProofs (disch := first | with_reducible exact Nat.ne_of_beq_eq_false rfl | omega) only [upd_ne, upd_eq])
    unfold S67_k2
    simp -implicitDefEqProofs only [j4', retK_ret, resL_tmp, upd_ne, upd_eq, resL_nil2]
    refine ⟨l1.trans (s'.in 1 rfl), d', .inl ⟨⟨hw, hk, hP, by rw [hm]; omega, by rw [hwn, hkn]; exact hin, hnd⟩, ga', gp, kb, rfl, by rw [hwn, hkn]; exact go', ?_⟩⟩
    exact (s'.swap.cut l1).swap
  · simp -implicitDefEqProofs only [blockK_ret, thenK_ret, retK_ret, resL_tmp, j2, j3, resL_nil2]
    exact ⟨l1.trans l', d', .inr ⟨fun q => hbad ⟨by have := q.all; rw [hwn, hkn] at this; exact this, q.once⟩, rfl⟩⟩

end Go.Proofs.YtangejiigopdaaaDoor
end

section
/- The robots of a grid: where nothing fits no bins are stacked. -/
set_option linter.unusedSimpArgs false
set_option linter.unusedVariables false
set_option maxRecDepth 100000
namespace Go.Proofs.YtangejiigopdaaaDoor
open Go Go.HL

theorem gridL_congr {α : Type} {w k : Nat} {f f' : Nat → Nat → α} (h : ∀ x y, x < w → y < k → f x y = f' x y) : gridL w k f = gridL w k f' := by
  apply List.ext_getElem?
  intro n
  by_cases hn : n < w * k
  · rw [gridL_at hn, gridL_at hn, h]
    · exact Nat.mod_lt _ (by
        rcases Nat.eq_zero_or_pos w with e | e
        · rw [e] at hn; simp at hn
        · exact e)
    · exact Nat.div_lt_of_lt_mul hn
  · rw [List.getElem?_eq_none (by rw [gridL_length]; omega), List.getElem?_eq_none (by rw [gridL_length]; omega)]
theorem GO.congr {a : Hp} {gp kb w k : Nat} {f f' : Nat → Nat → Int} (g : GO a gp kb w k f) (h : ∀ x y, x < w → y < k → f x y = f' x y) : GO a gp kb w k f' :=
  ⟨g.hd, by rw [← gridL_congr h]; exact g.row, g.w1, g.w2, g.k1, g.k2⟩

theorem openW_congr {w k : Nat} {f f' : Nat → Nat → Int} (h : ∀ x y, x < w → y < k → (f x y = -1 ↔ f' x y = -1)) (c : Cell) : openW w k f c = openW w k f' c := by
  unfold openW
  cases hc : inW w k c with
  | false => rfl
  | true =>
    obtain ⟨a1, a2, a3, a4⟩ := inW_iff.1 hc
    have := h c.1.toNat c.2.toNat (by omega) (by omega)
    simp only [Bool.true_and, fAt]
    congr 1
    rw [Bool.eq_iff_iff]
    simpa using this
theorem fitsW_congr {w k : Nat} {f f' : Nat → Nat → Int} (h : ∀ x y, x < w → y < k → (f x y = -1 ↔ f' x y = -1)) (p : Pose) : fitsW w k f p = fitsW w k f' p := by
  unfold fitsW; rw [openW_congr h, openW_congr h]

/-- Does a cell keep its kind? -/
def keepB (w k : Nat) (f : Nat → Nat → Int) (x y : Nat) : Bool := (f x y == -1) || (fitsW w k f ⟨x, y, false⟩ || fitsW w k f ⟨x, y, true⟩)
def f1 (w k : Nat) (f : Nat → Nat → Int) (x y : Nat) : Int := if keepB w k f x y = true then f x y else -2
def fN (w k : Nat) (f : Nat → Nat → Int) (n x y : Nat) : Int := if y * w + x < n then f1 w k f x y else f x y

theorem f1_open {w k : Nat} {f : Nat → Nat → Int} (x y : Nat) : f1 w k f x y = -1 ↔ f x y = -1 := by
  unfold f1
  by_cases h : keepB w k f x y = true
  · rw [if_pos h]
  · rw [if_neg h]
    constructor
    · intro e; omega
    · intro e
      exfalso
      apply h
      unfold keepB
      simp [e]
theorem fN_open {w k : Nat} {f : Nat → Nat → Int} {n : Nat} (x y : Nat) : fN w k f n x y = -1 ↔ f x y = -1 := by
  unfold fN
  split
  · exact f1_open x y
  · exact Iff.rfl

theorem cellN {w n x y : Nat} (hw : 0 < w) (hx : x < w) : y * w + x = n ↔ x = n % w ∧ y = n / w := by
  constructor
  · intro e
    subst e
    rw [Nat.mul_comm y w, Nat.mul_add_mod, Nat.mod_eq_of_lt hx, Nat.mul_add_div hw, Nat.div_eq_of_lt hx]
    simp
  · rintro ⟨rfl, rfl⟩
    rw [Nat.mul_comm]
    exact Nat.div_add_mod n w

set_option maxHeartbeats 2000000 in
theorem robots1 {G : Hp} {gp kb w k : Nat} {f : Nat → Nat → Int} {KK : Exit → Rg → Hp → Prop} (st : Steps G) (r : Rg) (h : Hp) (g0 : r 0 = .pointer (some ⟨gp, 0, none⟩)) (g20 : r 20 = .int .i64 ((w * k : Nat) : Int)) (g21 : r 21 = .int .i64 0)
    (go : GO h gp kb w k f) (d : Dis G h)
    (H1 : (∀ x y, x < w → y < k → keepB w k f x y = false → f x y ≤ 0) → ∀ (r' : Rg) h', r' 0 = r 0 → r' 1 = r 1 → GO h' gp kb w k (f1 w k f) → Dis G h' → KK (.exit 0) r' h')
    (H2 : (∃ x y, x < w ∧ y < k ∧ keepB w k f x y = false ∧ 0 < f x y) → ∀ (r' : Rg) h', r' 4 = .bool false → Dis G h' → KK .ret r' h') : loopP (S68_l12 G) r h KK := by
  refine loop_I (fun m r2 h3 => ∃ n : Nat, m = w * k - n ∧ n ≤ w * k ∧ r2 0 = r 0 ∧ r2 1 = r 1 ∧ r2 20 = r 20 ∧ r2 21 = .int .i64 n ∧ (∀ x y, x < w → y < k → y * w + x < n → keepB w k f x y = false → f x y ≤ 0) ∧ GO h3 gp kb w k (fN w k f n) ∧ Dis G h3) ?_
    (m := w * k) ⟨0, rfl, Nat.zero_le _, rfl, rfl, rfl, by rw [g21]; rfl, fun x y _ _ h => absurd h (by omega), go.congr fun x y _ _ => by simp [fN], d⟩
  rintro m r2 h3 ⟨n, rfl, hn, q0, q1, q20, q21, hok, go, d3⟩ X HX
  rw [g0] at q0
  rw [g20] at q20
  have hw0 : 0 < w := go.w1
  have hw2 := go.w2
  have hk2 := go.k2
  have hm2 : w * k ≤ 16 * 16 := Nat.mul_le_mul go.w2 go.k2
  unfold S68_l12
  simp -implicitDefEqProofs only [q21, q20, thenK_exit, opH_sv, bin_lss]
  refine cond_dec (fun hlt => ?_) (fun hge => ?_)
  rotate_left
  · obtain rfl : n = w * k := by omega
    refine H1 (fun x y hx hy => hok x y hx hy ?_) _ _ (by simp -implicitDefEqProofs (disch := first | with_reducible exact Nat.ne_of_beq_eq_false rfl | omega) only [upd_ne, q0, g0]) (by simp -implicitDefEqProofs (disch := first | with_reducible exact Nat.ne_of_beq_eq_false rfl | omega) only [upd_ne, q1]) (go.congr fun x y hx hy => ?_) d3
    · have := (gridL_get (f := f) hx hy); have := (List.getElem?_eq_some_iff.1 this).1; rwa [gridL_length] at this
    · unfold fN
      rw [if_pos]
      have := (gridL_get (f := f) hx hy); have := (List.getElem?_eq_some_iff.1 this).1; rwa [gridL_length] at this
  have hlt' : n < w * k := by omega
  have hx : n % w < w := Nat.mod_lt _ hw0
  have hy : n / w < k := Nat.div_lt_of_lt_mul hlt'
  have hnn : n / w * w + n % w = n := by rw [Nat.mul_comm]; exact Nat.div_add_mod n w
  have cg : ∀ j, cellIn G h3 ⟨gp, j, none⟩ = _ := fun j => cell_of (look_own go.hd)
  have kn : cellIn G h3 ⟨kb, n, none⟩ = some (.int .i64 (f (n % w) (n / w))) := by
    rw [cell_of (look_own go.row)]
    refine rows_one_get icC rfl rfl ?_
    rw [gridL_at hlt']
    unfold fN
    rw [hnn, if_neg (by omega)]
  have tm : (n : Int).tmod (w : Int) = ((n % w : Nat) : Int) := rfl
  have td : (n : Int).tdiv (w : Int) = ((n / w : Nat) : Int) := rfl
  have hcell : ∀ x y, x < w → (y * w + x = n ↔ x = n % w ∧ y = n / w) := fun x y h => cellN hw0 h
  generalize n % w = cx at *
  generalize n / w = cy at *
  unfold S68_l12_k13
  simp -implicitDefEqProofs (disch := first | with_reducible exact Nat.ne_of_beq_eq_false rfl | omega) only [upd_ne, q0, q21, opH_sv, opH_nil, fa93_2, add_mk, Nat.zero_add, ld42, opH_su, al85, pureW_sv, pureW_nil, fa93_0p, Nat.add_zero, ld3p, cg, List.getElem?_cons_zero, Option.some.injEq, exists_eq_left', bin_quop, td, wrap_in, bin_remp, tm, bd28_0_1p, bd85_0p, st85w]
  intro t ht gt
  try rw [st85w]
  have go4 : GO (h3.set t (.cells #[.int .i64 cx, .int .i64 cy, .bool false] 85 (0, 0))) gp kb w k (fN w k f n) := go.le (le_set ht)
  have d4 := d3.set (o := .cells #[.int .i64 cx, .int .i64 cy, .bool false] 85 (0, 0)) gt
  have bt : (h3.set t (.cells #[.int .i64 cx, .int .i64 cy, .bool false] 85 (0, 0))) t = some (.cells #[.int .i64 cx, .int .i64 cy, .bool false] 85 (0, 0)) := set_self
  have kn4 := cell_up (le_set (o := .cells #[.int .i64 cx, .int .i64 cy, .bool false] 85 (0, 0)) ht) d4 kn
  generalize h3.set t (.cells #[.int .i64 cx, .int .i64 cy, .bool false] 85 (0, 0)) = h4 at *
  have cg4 : ∀ j, cellIn G h4 ⟨gp, j, none⟩ = _ := fun j => cell_of (look_own go4.hd)
  have ct : ∀ j, cellIn G h4 ⟨t, j, none⟩ = _ := fun j => cell_of (look_own bt)
  try simp -implicitDefEqProofs only [cg4, List.getElem?_cons_succ, List.getElem?_cons_zero, Option.some.injEq, exists_eq_left', ix57n hlt', ld3, kn4, eq_int]
  have next : ∀ (r3 : Rg) h5, r3 0 = r2 0 → r3 1 = r2 1 → r3 20 = r2 20 → r3 21 = r2 21 → (keepB w k f cx cy = false → f cx cy ≤ 0) → GO h5 gp kb w k (fN w k f (n + 1)) → Dis G h5 → S68_l12_k14 G (thenK X KK) r3 h5 := by
    intro r3 h5 w0 w1 w20 w21 hk go5 d5
    unfold S68_l12_k14
    have w21' := w21.trans q21
    simp -implicitDefEqProofs (disch := first | with_reducible exact Nat.ne_of_beq_eq_false rfl | omega) only [w21', thenK_normal, opH_sv, bin_add, wrap_in]
    refine HX (w * k - (n + 1)) _ _ (by omega) ⟨n + 1, rfl, hlt', by simp -implicitDefEqProofs (disch := first | with_reducible exact Nat.ne_of_beq_eq_false rfl | omega) only [upd_ne, w0, q0, g0], by simp -implicitDefEqProofs (disch := first | with_reducible exact Nat.ne_of_beq_eq_false rfl | omega) only [upd_ne, w1, q1], by simp -implicitDefEqProofs (disch := first | with_reducible exact Nat.ne_of_beq_eq_false rfl | omega) only [upd_ne, w20, q20, g20], by simp -implicitDefEqProofs (disch := first | with_reducible exact Nat.ne_of_beq_eq_false rfl | omega) only [upd_eq] <;> rfl, fun x y hx' hy' hlt2 hkp => ?_, go5, d5⟩
    by_cases e : y * w + x = n
    · obtain ⟨rfl, rfl⟩ := (hcell x y hx').1 e
      exact hk hkp
    · exact hok x y hx' hy' (by omega) hkp
  have keeps : keepB w k f cx cy = true → GO h4 gp kb w k (fN w k f (n + 1)) := fun hkp => go4.congr fun x y hx' hy' => by
    unfold fN
    by_cases e : y * w + x = n
    · obtain ⟨rfl, rfl⟩ := (hcell x y hx').1 e
      rw [e, if_neg (by omega), if_pos (by omega)]
      unfold f1
      rw [if_pos hkp]
    · by_cases e2 : y * w + x < n
      · rw [if_pos e2, if_pos (by omega)]
      · rw [if_neg e2, if_neg (by omega)]
  have fcong : ∀ p, fitsW w k (fN w k f n) p = fitsW w k f p := fitsW_congr fun x y _ _ => fN_open x y
  have hfp : ∀ b, PB ⟨(cx : Int), (cy : Int), b⟩ := fun b => ⟨⟨by show -9223372036854775808 ≤ (cx : Int); omega, by show (cx : Int) ≤ 9223372036854775807; omega⟩, ⟨by show -9223372036854775808 ≤ (cy : Int); omega, by show (cy : Int) ≤ 9223372036854775807; omega⟩⟩
  have kcase : keepB w k f cx cy = ((f cx cy == -1) || (fitsW w k f ⟨cx, cy, false⟩ || fitsW w k f ⟨cx, cy, true⟩)) := rfl
  cases hb : (f cx cy == -1) with
  | true =>
    try simp -implicitDefEqProofs (disch := first | with_reducible exact Nat.ne_of_beq_eq_false rfl | omega) only [pick_t, HL.cond_true, gd_tf]
    exact next _ _ (by simp -implicitDefEqProofs (disch := first | with_reducible exact Nat.ne_of_beq_eq_false rfl | omega) only [upd_ne, q0]) (by simp -implicitDefEqProofs (disch := first | with_reducible exact Nat.ne_of_beq_eq_false rfl | omega) only [upd_ne, q1]) (by simp -implicitDefEqProofs (disch := first | with_reducible exact Nat.ne_of_beq_eq_false rfl | omega) only [upd_ne, q20]) (by simp -implicitDefEqProofs (disch := first | with_reducible exact Nat.ne_of_beq_eq_false rfl | omega) only [upd_ne, q21]) (fun h => by rw [kcase, hb] at h; simp at h) (keeps (by rw [kcase, hb]; rfl)) d4
  | false =>
  try simp -implicitDefEqProofs only [pick_f, gd_ff, cf72, opH_sv, ld85, add_mk, Nat.add_zero, Nat.zero_add, ct, List.getElem?_cons_zero, Option.some.injEq, List.getElem?_cons_succ, exists_eq_left']
  refine (fits_spec (p := ⟨(cx : Int), (cy : Int), false⟩) (go4.gs (G := G)) st (hfp _)).mono ?_
  rintro _ h4 ⟨rfl, rfl⟩
  rw [fcong]
  cases hf1 : fitsW w k f ⟨(cx : Int), (cy : Int), false⟩ with
  | true =>
    try simp -implicitDefEqProofs (disch := first | with_reducible exact Nat.ne_of_beq_eq_false rfl | omega) only [pick_t, HL.cond_true, gd_tf]
    exact next _ _ (by simp -implicitDefEqProofs (disch := first | with_reducible exact Nat.ne_of_beq_eq_false rfl | omega) only [upd_ne, q0]) (by simp -implicitDefEqProofs (disch := first | with_reducible exact Nat.ne_of_beq_eq_false rfl | omega) only [upd_ne, q1]) (by simp -implicitDefEqProofs (disch := first | with_reducible exact Nat.ne_of_beq_eq_false rfl | omega) only [upd_ne, q20]) (by simp -implicitDefEqProofs (disch := first | with_reducible exact Nat.ne_of_beq_eq_false rfl | omega) only [upd_ne, q21]) (fun h => by rw [kcase, hb, hf1] at h; simp at h) (keeps (by rw [kcase, hb, hf1]; rfl)) d4
  | false =>
  try simp -implicitDefEqProofs only [pick_f, gd_ff, cf72, opH_sv, fa85_0, add_mk, Nat.add_zero, ld28, Nat.zero_add, bd85_0_1, ct, List.getElem?_cons_zero, Option.some.injEq, List.getElem?_cons_succ, exists_eq_left']
  refine (fits_spec (p := ⟨(cx : Int), (cy : Int), true⟩) (go4.gs (G := G)) st (hfp _)).mono ?_
  rintro _ h4 ⟨rfl, rfl⟩
  rw [fcong]
  cases hf2 : fitsW w k f ⟨(cx : Int), (cy : Int), true⟩ with
  | true =>
    try simp -implicitDefEqProofs (disch := first | with_reducible exact Nat.ne_of_beq_eq_false rfl | omega) only [HL.cond_true]
    exact next _ _ (by simp -implicitDefEqProofs (disch := first | with_reducible exact Nat.ne_of_beq_eq_false rfl | omega) only [upd_ne, q0]) (by simp -implicitDefEqProofs (disch := first | with_reducible exact Nat.ne_of_beq_eq_false rfl | omega) only [upd_ne, q1]) (by simp -implicitDefEqProofs (disch := first | with_reducible exact Nat.ne_of_beq_eq_false rfl | omega) only [upd_ne, q20]) (by simp -implicitDefEqProofs (maxSteps := 2000000) (disch := first | with_reducible exact Nat.ne_of_beq_eq_false rfl | exact oneCell_int | exact oneCell_bool | omega | rfl | (simp; done) | fail) only [upd_ne, q21]) (fun h => by rw [kcase, hb, hf1, hf2] at h; simp at h) (keeps (by rw [kcase, hb, hf1, hf2]; rfl)) d4
  | false =>
  have hkf : keepB w k f cx cy = false := by rw [kcase, hb, hf1, hf2]; rfl
  try simp -implicitDefEqProofs (disch := first | with_reducible exact Nat.ne_of_beq_eq_false rfl | omega) only [HL.cond_false]
  unfold S68_l12_k15
  try simp -implicitDefEqProofs (maxSteps := 2000000) (disch := first | with_reducible exact Nat.ne_of_beq_eq_false rfl | exact oneCell_int | exact oneCell_bool | omega | rfl | (simp; done) | fail) only [upd_ne, q0, upd_eq, thenK_ret, opH_sv, opH_nil, fa93_2, add_mk, Nat.zero_add, ld42, cg4, List.getElem?_cons_succ, List.getElem?_cons_zero, Option.some.injEq, exists_eq_left', ix57n hlt', ld3, kn4, bin_gtr]
  by_cases hpos : f cx cy > 0
  · try simp -implicitDefEqProofs (maxSteps := 2000000) (disch := first | with_reducible exact Nat.ne_of_beq_eq_false rfl | exact oneCell_int | exact oneCell_bool | omega | rfl | (simp; done) | fail) only [decide_eq_true hpos, HL.cond_true]
    exact H2 ⟨cx, cy, hx, hy, hkf, hpos⟩ _ _ (by simp -implicitDefEqProofs (maxSteps := 2000000) (disch := first | with_reducible exact Nat.ne_of_beq_eq_false rfl | exact oneCell_int | exact oneCell_bool | omega | rfl | (simp; done) | fail) only [upd_eq]) d4
  try simp -implicitDefEqProofs (maxSteps := 2000000) (disch := first | with_reducible exact Nat.ne_of_beq_eq_false rfl | exact oneCell_int | exact oneCell_bool | omega | rfl | (simp; done) | fail) only [decide_eq_false hpos, HL.cond_false]
  unfold S68_l12_k16
  try simp -implicitDefEqProofs (maxSteps := 2000000) (disch := first | with_reducible exact Nat.ne_of_beq_eq_false rfl | exact oneCell_int | exact oneCell_bool | omega | rfl | (simp; done) | fail) only [upd_ne, q0, upd_eq, opH_su, opH_sv, opH_nil, fa93_2, add_mk, Nat.zero_add, ld42, cg4, List.getElem?_cons_succ, List.getElem?_cons_zero, Option.some.injEq, exists_eq_left', ix57n hlt']
  have kb4 := go4.row
  rw [store1_eq sz3 rfl kb4 (by rw [icC.rows_length, gridL_length]; simp [icC]; exact hlt')]
  have go5 := go4.put (v := -2) hx hy
  rw [hnn] at go5
  refine next _ _ (by simp -implicitDefEqProofs (disch := first | with_reducible exact Nat.ne_of_beq_eq_false rfl | omega) only [upd_ne, q0]) (by simp -implicitDefEqProofs (disch := first | with_reducible exact Nat.ne_of_beq_eq_false rfl | omega) only [upd_ne, q1]) (by simp -implicitDefEqProofs (disch := first | with_reducible exact Nat.ne_of_beq_eq_false rfl | omega) only [upd_ne, q20]) (by simp -implicitDefEqProofs (disch := first | with_reducible exact Nat.ne_of_beq_eq_false rfl | omega) only [upd_ne, q21]) (fun _ => by omega) (go5.congr fun x y hx' hy' => ?_) (d4.set (d4 _ _ kb4))
  unfold fN
  by_cases e : y * w + x = n
  · obtain ⟨rfl, rfl⟩ := (hcell x y hx').1 e
    rw [if_pos ⟨rfl, rfl⟩, if_pos (by omega)]
    unfold f1
    rw [hkf]
    rfl
  · rw [if_neg (fun q => e ((hcell x y hx').2 q))]
    by_cases e2 : y * w + x < n
    · rw [if_pos e2, if_pos (by omega)]
    · rw [if_neg e2, if_neg (by omega)]

end Go.Proofs.YtangejiigopdaaaDoor
end

section
/- The robots of a grid: their cells. -/
set_option linter.unusedSimpArgs false
set_option linter.unusedVariables false
set_option maxRecDepth 100000
namespace Go.Proofs.YtangejiigopdaaaDoor
open Go Go.HL

def f2 (w k : Nat) (f : Nat → Nat → Int) (T : List Cell) (x y : Nat) : Int := if ((x : Int), (y : Int)) ∈ T then -2 else f1 w k f x y

theorem f2_open {w k : Nat} {f : Nat → Nat → Int} {T : List Cell} (hT : ∀ c ∈ T, fAt f c ≠ -1) (x y : Nat) : f2 w k f T x y = -1 ↔ f x y = -1 := by
  unfold f2
  split
  · rename_i h
    have := hT _ h
    simp only [fAt, Int.toNat_natCast] at this
    constructor
    · intro e; omega
    · intro e; exact absurd e this
  · exact f1_open x y

theorem f2_snoc {w k : Nat} {f : Nat → Nat → Int} {T : List Cell} {c : Cell} (h1 : 0 ≤ c.1) (h2 : 0 ≤ c.2) : f2 w k f (T ++ [c]) = fun p q => if p = c.1.toNat ∧ q = c.2.toNat then -2 else f2 w k f T p q := by
  funext p q
  unfold f2
  by_cases hpq : p = c.1.toNat ∧ q = c.2.toNat
  · have e : ((p : Int), (q : Int)) = c := by rw [hpq.1, hpq.2, Int.toNat_of_nonneg h1, Int.toNat_of_nonneg h2]
    rw [if_pos hpq, e, if_pos (by simp)]
  · have e : ((p : Int), (q : Int)) ≠ c := fun e => hpq (by rw [← e]; simp)
    rw [if_neg hpq]
    by_cases hm : ((p : Int), (q : Int)) ∈ T
    · rw [if_pos (by simp [hm]), if_pos hm]
    · rw [if_neg (by simp [hm, e]), if_neg hm]

theorem GO.other {h : Hp} {gp kb w k : Nat} {f : Nat → Nat → Int} (g : GO h gp kb w k f) {b : Nat} {cs : Array Value} {e : TypeId} {o : Obj} (hb : h b = some (.cells cs e (0, 0))) (h1 : e ≠ 93) (h2 : e ≠ 3) : GO (h.set b o) gp kb w k f := by
  have n1 : gp ≠ b := fun q => by have := g.hd; rw [q, hb] at this; simp at this; exact h1 this.2
  have n2 : kb ≠ b := fun q => by have := g.row; rw [q, hb] at this; simp at this; exact h2 this.2
  exact ⟨by rw [set_other n1]; exact g.hd, by rw [set_other n2]; exact g.row, g.w1, g.w2, g.k1, g.k2⟩
theorem MK.other {h : Hp} {mb w k : Nat} {f : Nat → Nat → Bool} (g : MK h mb w k f) {b : Nat} {cs : Array Value} {e : TypeId} {o : Obj} (hb : h b = some (.cells cs e (0, 0))) (h1 : e ≠ 4) : MK (h.set b o) mb w k f := by
  unfold MK at *
  have n1 : mb ≠ b := fun q => by rw [q, hb] at g; simp at g; exact h1 g.2
  rw [set_other n1]; exact g
theorem MK.le {a h : Hp} {mb w k : Nat} {f : Nat → Nat → Bool} (g : MK a mb w k f) (l : a.le h) : MK h mb w k f := l _ _ g

set_option maxHeartbeats 2000000 in
theorem robots_in {G : Hp} {gp kb mb w k : Nat} {f : Nat → Nat → Int} {KK : Exit → Rg → Hp → Prop} {cs T0 : List Cell} {cb : Nat} {p : Pose} (r : Rg) (h : Hp) (hcs : cs = cellsP p) (hin : ∀ c ∈ cs, inW w k c = true)
    (hc : h cb = some (.cells #[.int .i64 p.x, .int .i64 p.y, .int .i64 (east p).1, .int .i64 (east p).2] 28 (0, 0))) (g0 : r 0 = .pointer (some ⟨gp, 0, none⟩)) (g7 : r 7 = .slice (some ⟨mb, 0, none⟩) (w * k) (w * k)) (g91 : r 91 = .slice (some ⟨cb, 0, none⟩) 2 2) (g92 : r 92 = .int .i64 2) (g93 : r 93 = .int .i64 0)
    (go : GO h gp kb w k (f2 w k f T0)) (mk : MK h mb w k (seenT T0)) (d : Dis G h) (hnd0 : T0.Nodup)
    (H1 : (∀ c ∈ cs, fAt (f1 w k f) c ≤ 0) → (T0 ++ cs).Nodup → ∀ (r' : Rg) h', r' 0 = r 0 → r' 7 = r 7 → r' 79 = r 79 → r' 80 = r 80 → r' 81 = r 81 → GO h' gp kb w k (f2 w k f (T0 ++ cs)) → MK h' mb w k (seenT (T0 ++ cs)) → Dis G h' → KK (.exit 4) r' h')
    (H2 : ¬ ((∀ c ∈ cs, fAt (f1 w k f) c ≤ 0) ∧ (T0 ++ cs).Nodup) → ∀ (r' : Rg) h', r' 4 = .bool false → Dis G h' → KK .ret r' h') : loopP (S68_l4_l8 G) r h KK := by
  have hlen : cs.length = 2 := by rw [hcs]; rfl
  refine loop_I (fun m r2 h3 => ∃ j : Nat, m = 2 - j ∧ j ≤ 2 ∧ r2 0 = r 0 ∧ r2 7 = r 7 ∧ r2 79 = r 79 ∧ r2 80 = r 80 ∧ r2 81 = r 81 ∧ r2 91 = r 91 ∧ r2 92 = r 92 ∧ r2 93 = .int .i64 j ∧ (∀ c ∈ cs.take j, fAt (f1 w k f) c ≤ 0) ∧ (T0 ++ cs.take j).Nodup ∧
     GO h3 gp kb w k (f2 w k f (T0 ++ cs.take j)) ∧ MK h3 mb w k (seenT (T0 ++ cs.take j)) ∧ h3 cb = some (.cells #[.int .i64 p.x, .int .i64 p.y, .int .i64 (east p).1, .int .i64 (east p).2] 28 (0, 0)) ∧ Dis G h3) ?_
    (m := 2) ⟨0, rfl, Nat.zero_le _, rfl, rfl, rfl, rfl, rfl, rfl, rfl, by rw [g93]; rfl, by simp, by simpa using hnd0, by simpa using go, by simpa using mk, hc, d⟩
  rintro m r2 h3 ⟨j, rfl, hj, q0, q7, q79, q80, q81, q91, q92, q93, hok, hnd, go, mk, hc3, d3⟩ X HX
  rw [g0] at q0
  rw [g7] at q7
  rw [g91] at q91
  rw [g92] at q92
  unfold S68_l4_l8
  simp -implicitDefEqProofs only [q93, q92, thenK_exit, opH_sv, bin_lss]
  refine cond_dec (fun hlt => ?_) (fun hge => ?_)
  rotate_left
  · obtain rfl : j = 2 := by omega
    rw [List.take_of_length_le (by omega)] at hok hnd go mk
    exact H1 hok hnd _ _ (by simp -implicitDefEqProofs (disch := first | with_reducible exact Nat.ne_of_beq_eq_false rfl | omega) only [upd_ne, q0, g0]) (by simp -implicitDefEqProofs (disch := first | with_reducible exact Nat.ne_of_beq_eq_false rfl | omega) only [upd_ne, q7, g7]) (by simp -implicitDefEqProofs (disch := first | with_reducible exact Nat.ne_of_beq_eq_false rfl | omega) only [upd_ne, q79]) (by simp -implicitDefEqProofs (disch := first | with_reducible exact Nat.ne_of_beq_eq_false rfl | omega) only [upd_ne, q80]) (by simp -implicitDefEqProofs (disch := first | with_reducible exact Nat.ne_of_beq_eq_false rfl | omega) only [upd_ne, q81]) go mk d3
  have hlt' : j < 2 := by omega
  obtain ⟨y, hy⟩ : ∃ x, cs[j]? = some x := ⟨_, List.getElem?_eq_getElem (by omega)⟩
  have hym : y ∈ cs := List.mem_of_getElem? hy
  have sv : Sees cellC G h3 (.slice (some ⟨cb, 0, none⟩) cs.length 2) cs := by rw [hcs]; exact Sees.row hc3 rfl (Nat.le_refl _)
  obtain ⟨b, ofs, eb, z0, z1⟩ := Sees.cell sv hy
  cases eb
  rw [Nat.zero_add] at z0 z1
  unfold S68_l4_l8_k9
  simp -implicitDefEqProofs (disch := first | with_reducible exact Nat.ne_of_beq_eq_false rfl | omega) only [upd_ne, q91, q93, thenK_ret, opH_sv, cf58, opH_su, al28, ld28, add_mk, Nat.add_zero, Nat.zero_add, ix22 (Int.natCast_nonneg j) (show (j : Int) < (2 : Nat) by omega), Int.toNat_natCast, z0, Option.some.injEq, z1, exists_eq_left', st28w, cell_set_self, List.getElem?_cons_zero, List.getElem?_cons_succ]
  intro t ht gt
  have go4 : GO (h3.set t (.cells #[.int .i64 y.1, .int .i64 y.2] 28 (0, 0))) gp kb w k (f2 w k f (T0 ++ cs.take j)) := go.le (le_set ht)
  have mk4 : MK (h3.set t (.cells #[.int .i64 y.1, .int .i64 y.2] 28 (0, 0))) mb w k (seenT (T0 ++ cs.take j)) := mk.le (le_set ht)
  have hc4 := le_set (o := .cells #[.int .i64 y.1, .int .i64 y.2] 28 (0, 0)) ht _ _ hc3
  have d4 := d3.set (o := .cells #[.int .i64 y.1, .int .i64 y.2] 28 (0, 0)) gt
  try simp -implicitDefEqProofs only [q0]
  generalize h3.set t (.cells #[.int .i64 y.1, .int .i64 y.2] 28 (0, 0)) = h4 at *
  refine (num_spec (c := y) (go4.gs (G := G))).mono ?_
  rintro _ h4 ⟨rfl, rfl⟩
  have hc' := hin y hym
  obtain ⟨hn, hx, hyk, hlt2⟩ := numI_nat hc'
  obtain ⟨a1, a2, a3, a4⟩ := inW_iff.1 hc'
  have hxy : ((y.1.toNat : Int), (y.2.toNat : Int)) = y := by rw [Int.toNat_of_nonneg a1, Int.toNat_of_nonneg a3]
  have mg := mk_get (G := G) mk4 (Hp.le.refl _) hx hyk
  rw [show seenT (T0 ++ cs.take j) y.1.toNat y.2.toNat = decide (y ∈ T0 ++ cs.take j) by unfold seenT; rw [hxy]] at mg
  have kn : cellIn G h4 ⟨kb, y.2.toNat * w + y.1.toNat, none⟩ = some (.int .i64 (f2 w k f (T0 ++ cs.take j) y.1.toNat y.2.toNat)) := by
    rw [cell_of (look_own go4.row)]
    exact rows_one_get icC rfl rfl (gridL_get hx hyk)
  have cg4 : ∀ j, cellIn G h4 ⟨gp, j, none⟩ = _ := fun j => cell_of (look_own go4.hd)
  have g5 := go4.put (v := -2) hx hyk
  have m5 := mk4.put (v := true) hx hyk
  rw [hn]
  generalize hnn : y.2.toNat * w + y.1.toNat = n at hn hlt2 mg kn g5 m5
  have htk : T0 ++ cs.take (j + 1) = (T0 ++ cs.take j) ++ [y] := by rw [take_get hy, List.append_assoc]
  have bad : y ∈ T0 ++ cs.take j ∨ fAt (f1 w k f) y > 0 → ¬ ((∀ c ∈ cs, fAt (f1 w k f) c ≤ 0) ∧ (T0 ++ cs).Nodup) := by
    rintro (hm | hp) ⟨h1, h2⟩
    · refine not_nodup (L := T0 ++ cs) (i := T0.length + j) (x := y) (by rw [List.getElem?_append_right (by omega), Nat.add_sub_cancel_left]; exact hy) ?_ h2
      rw [List.take_append, List.take_of_length_le (by omega), Nat.add_sub_cancel_left]
      exact hm
    · have := h1 y hym; omega
  try simp -implicitDefEqProofs only [q7, ix101n hlt2, ld4, mg, Option.some.injEq, exists_eq_left']
  by_cases hmem : y ∈ T0 ++ cs.take j
  · try simp -implicitDefEqProofs only [decide_eq_true hmem, pick_t, HL.cond_true, gd_tf]
    exact H2 (bad (.inl hmem)) _ _ (by simp -implicitDefEqProofs only [upd_eq]) d4
  have hf2 : f2 w k f (T0 ++ cs.take j) y.1.toNat y.2.toNat = fAt (f1 w k f) y := by
    unfold f2
    rw [hxy, if_neg hmem]
    rfl
  rw [hf2] at kn
  try simp -implicitDefEqProofs only [decide_eq_false hmem, pick_f, gd_ff, opH_sv, opH_nil, fa93_2, add_mk, Nat.zero_add, ld42, cg4, List.getElem?_cons_succ, List.getElem?_cons_zero, Option.some.injEq, exists_eq_left', ix57n hlt2, ld3, kn, bin_gtr]
  by_cases hpos : fAt (f1 w k f) y > 0
  · try simp -implicitDefEqProofs only [decide_eq_true hpos, HL.cond_true]
    exact H2 (bad (.inr hpos)) _ _ (by simp -implicitDefEqProofs only [upd_eq]) d4
  try simp -implicitDefEqProofs (disch := first | with_reducible exact Nat.ne_of_beq_eq_false rfl | omega) only [decide_eq_false hpos, HL.cond_false]
  unfold S68_l4_l8_k11
  try simp -implicitDefEqProofs (disch := first | with_reducible exact Nat.ne_of_beq_eq_false rfl | omega) only [upd_ne, q7, upd_eq, opH_su, opH_sv, ix101n hlt2]
  rw [store1_eq sz4 rfl mk4 (by rw [bcC.rows_length, gridL_length]; simp [bcC]; exact hlt2)]
  have go6 := go4.other (o := .cells ((bcC.rows (gridL w k (seenT (T0 ++ cs.take j)))).set n (.bool true)).toArray 4 (0, 0)) mk4 (by decide) (by decide)
  have hc6 : (h4.set mb (.cells ((bcC.rows (gridL w k (seenT (T0 ++ cs.take j)))).set n (.bool true)).toArray 4 (0, 0))) cb = _ := (set_other (fun q => by unfold MK at mk4; rw [← q, hc4] at mk4; simp at mk4)).trans hc4
  have d6 : Dis G (h4.set mb (.cells ((bcC.rows (gridL w k (seenT (T0 ++ cs.take j)))).set n (.bool true)).toArray 4 (0, 0))) := d4.set (d4 _ _ mk4)
  generalize h4.set mb (.cells ((bcC.rows (gridL w k (seenT (T0 ++ cs.take j)))).set n (.bool true)).toArray 4 (0, 0)) = h6 at *
  have cg6 : ∀ j, cellIn G h6 ⟨gp, j, none⟩ = _ := fun j => cell_of (look_own go6.hd)
  try simp -implicitDefEqProofs (disch := first | with_reducible exact Nat.ne_of_beq_eq_false rfl | omega) only [q0, opH_nil, fa93_2, add_mk, Nat.zero_add, ld42, cg6, List.getElem?_cons_succ, List.getElem?_cons_zero, Option.some.injEq, exists_eq_left', ix57n hlt2]
  rw [store1_eq sz3 rfl go6.row (by rw [icC.rows_length, gridL_length]; simp [icC]; exact hlt2)]
  have go7 := go6.put (v := -2) hx hyk
  rw [hnn, ← f2_snoc a1 a3, ← htk] at go7
  have mk7 := m5.other (o := .cells ((icC.rows (gridL w k (f2 w k f (T0 ++ cs.take j)))).set n (.int .i64 (-2))).toArray 3 (0, 0)) go6.row (by decide)
  rw [← seen_snoc a1 a3, ← htk] at mk7
  have nkc : cb ≠ kb := fun q => by have := go6.row; rw [← q, hc6] at this; simp at this
  unfold S68_l4_l8_k10
  simp -implicitDefEqProofs (disch := first | with_reducible exact Nat.ne_of_beq_eq_false rfl | omega) only [upd_ne, q93, thenK_normal, opH_sv, bin_add, wrap_in]
  refine HX (2 - (j + 1)) _ _ (by omega) ⟨j + 1, rfl, hlt', by simp -implicitDefEqProofs (disch := first | with_reducible exact Nat.ne_of_beq_eq_false rfl | omega) only [upd_ne, q0, g0], by simp -implicitDefEqProofs (disch := first | with_reducible exact Nat.ne_of_beq_eq_false rfl | omega) only [upd_ne, q7, g7], by simp -implicitDefEqProofs (disch := first | with_reducible exact Nat.ne_of_beq_eq_false rfl | omega) only [upd_ne, q79], by simp -implicitDefEqProofs (disch := first | with_reducible exact Nat.ne_of_beq_eq_false rfl | omega) only [upd_ne, q80], by simp -implicitDefEqProofs (disch := first | with_reducible exact Nat.ne_of_beq_eq_false rfl | omega) only [upd_ne, q81], by simp -implicitDefEqProofs (disch := first | with_reducible exact Nat.ne_of_beq_eq_false rfl | omega) only [upd_ne, q91, g91], by simp -implicitDefEqProofs (disch := first | with_reducible exact Nat.ne_of_beq_eq_false rfl | omega) only [upd_ne, q92, g92], by simp -implicitDefEqProofs (disch := first | with_reducible exact Nat.ne_of_beq_eq_false rfl | omega) only [upd_eq] <;> rfl, ?_, ?_, go7, mk7, (set_other nkc).trans hc6, d6.set (d6 _ _ go6.row)⟩
  · rw [take_get hy]
    intro c hc
    rcases List.mem_append.1 hc with q | q
    · exact hok c q
    · simp at q; rw [q]; omega
  · rw [htk]
    exact List.nodup_append.2 ⟨hnd, by simp, fun a ha b hb => by simp at hb; subst hb; exact fun e => hmem (e ▸ ha)⟩

structure RobotsOk (w k : Nat) (f : Nat → Nat → Int) (ro : List Pose) : Prop where
  r8 : ro.length ≤ 8
  plain : ∀ x y, x < w → y < k → keepB w k f x y = false → f x y ≤ 0
  fit : ∀ p ∈ ro, fitsW w k f p = true
  low : ∀ c ∈ ro.flatMap cellsP, fAt (f1 w k f) c ≤ 0
  once : (ro.flatMap cellsP).Nodup

theorem fits_cells {w k : Nat} {f : Nat → Nat → Int} {p : Pose} (h : fitsW w k f p = true) : ∀ c ∈ cellsP p, inW w k c = true ∧ fAt f c ≠ -1 := by
  unfold fitsW openW at h
  simp only [Bool.and_eq_true] at h
  intro c hc
  unfold cellsP at hc
  simp only [List.mem_cons, List.not_mem_nil, or_false] at hc
  rcases hc with rfl | rfl
  · exact ⟨h.1.1, by have := h.1.2; simpa using this⟩
  · exact ⟨h.2.1, by have := h.2.2; simpa using this⟩

def RobR (w k gp kb : Nat) (f : Nat → Nat → Int) (ro : List Pose) (u : Value) (h' : Hp) : Prop :=
  (RobotsOk w k f ro ∧ u = .bool true ∧ GO h' gp kb w k (f2 w k f (ro.flatMap cellsP))) ∨ (¬ RobotsOk w k f ro ∧ u = .bool false)

set_option maxHeartbeats 2000000 in
theorem robots_spec {G h : Hp} {gp kb w k : Nat} {f : Nat → Nat → Int} {ro : List Pose} {rv : Value} (go : GO h gp kb w k f) (st : Steps G) (sv : GSees poseC G rv ro) (hp : ∀ p ∈ ro, PB p) :
    HCalls Tryd.prog G 68 #[.pointer (some ⟨gp, 0, none⟩), rv] h (RobR w k gp kb f ro) := by
  refine HCalls.assume fun d => enter68 (by simp) ?_
  obtain ⟨sa, cap, hrv⟩ := (sv h d).len
  have hm2 : w * k ≤ 16 * 16 := Nat.mul_le_mul go.w2 go.k2
  unfold S68
  simp -implicitDefEqProofs only [hrv, regs1, retK_ret, resL_tmp, upd_eq, resL_nil1, opH_sv, ln23, bin_gtr]
  by_cases h8 : ro.length ≤ 8
  rotate_left
  · try simp -implicitDefEqProofs only [show decide ((ro.length : Int) > 8) = true from decide_eq_true (by omega), HL.cond_true]
    exact .inr ⟨fun q => h8 q.r8, rfl⟩
  try simp -implicitDefEqProofs only [show decide ((ro.length : Int) > 8) = false from decide_eq_false (by omega), HL.cond_false]
  unfold S68_k1
  have cg : ∀ j, cellIn G h ⟨gp, j, none⟩ = _ := fun j => cell_of (look_own go.hd)
  try simp -implicitDefEqProofs (maxSteps := 2000000) (disch := first | with_reducible exact Nat.ne_of_beq_eq_false rfl | exact oneCell_int | exact oneCell_bool | omega | rfl | (simp; done) | fail) only [upd_ne, regs0, opH_sv, opH_nil, fa93_2, add_mk, Nat.zero_add, ld42, cg, List.getElem?_cons_succ, List.getElem?_cons_zero, Option.some.injEq, exists_eq_left', ln42]
  refine robots1 st _ h (by simp -implicitDefEqProofs (maxSteps := 2000000) (disch := first | with_reducible exact Nat.ne_of_beq_eq_false rfl | exact oneCell_int | exact oneCell_bool | omega | rfl | (simp; done) | fail) only [upd_ne, regs0]) (by simp -implicitDefEqProofs (maxSteps := 2000000) (disch := first | with_reducible exact Nat.ne_of_beq_eq_false rfl | exact oneCell_int | exact oneCell_bool | omega | rfl | (simp; done) | fail) only [upd_ne, upd_eq]) (by simp -implicitDefEqProofs (maxSteps := 2000000) (disch := first | with_reducible exact Nat.ne_of_beq_eq_false rfl | exact oneCell_int | exact oneCell_bool | omega | rfl | (simp; done) | fail) only [upd_eq]) go d (fun hpl r2 h2 q0 q1 go2 d2 => ?_) (fun ⟨x, y, hx, hy, hk, hpos⟩ r2 h2 q4 d2 => ?_)
  rotate_left
  · simp -implicitDefEqProofs (disch := first | with_reducible exact Nat.ne_of_beq_eq_false rfl | omega) only [blockK_ret, thenK_ret, retK_ret, resL_tmp, q4, resL_nil1]
    exact .inr ⟨fun q => by have := q.plain x y hx hy hk; omega, rfl⟩
  simp only [blockK_exit, if_true, thenK_normal]
  have q0' : r2 0 = .pointer (some ⟨gp, 0, none⟩) := q0.trans (by simp -implicitDefEqProofs (disch := first | with_reducible exact Nat.ne_of_beq_eq_false rfl | omega) only [upd_ne, regs0])
  have q1' : r2 1 = rv := q1.trans (by simp -implicitDefEqProofs (disch := first | with_reducible exact Nat.ne_of_beq_eq_false rfl | omega) only [upd_ne, regs1, hrv])
  have cg2 : ∀ j, cellIn G h2 ⟨gp, j, none⟩ = _ := fun j => cell_of (look_own go2.hd)
  unfold S68_k2
  try simp -implicitDefEqProofs (disch := first | with_reducible exact Nat.ne_of_beq_eq_false rfl | omega) only [q0', opH_sv, opH_nil, fa93_2, add_mk, Nat.zero_add, ld42, cg2, List.getElem?_cons_succ, List.getElem?_cons_zero, Option.some.injEq, exists_eq_left', ln42]
  rw [make_eq bcC false (by decide) un104 eobool (by kernel_rfl) (by omega) (by omega)]
  intro mb hmb gmb
  have go3 : GO (h2.set mb (.cells (bcC.rows (List.replicate (w * k) false)).toArray 4 (0, 0))) gp kb w k (f2 w k f []) := (go2.le (le_set hmb)).congr fun x y _ _ => by simp [f2]
  have mk3 : MK (h2.set mb (.cells (bcC.rows (List.replicate (w * k) false)).toArray 4 (0, 0))) mb w k (seenT []) := by unfold MK; rw [set_self, seen_nil, gridL_const]
  have d3 := d2.set (o := .cells (bcC.rows (List.replicate (w * k) false)).toArray 4 (0, 0)) gmb
  generalize h2.set mb (.cells (bcC.rows (List.replicate (w * k) false)).toArray 4 (0, 0)) = h3 at *
  try simp -implicitDefEqProofs (disch := first | with_reducible exact Nat.ne_of_beq_eq_false rfl | omega) only [q1', hrv, ln23]
  have no : ¬ RobotsOk w k f ro → ∀ hh, RobR w k gp kb f ro (.bool false) hh := fun q hh => .inr ⟨q, rfl⟩
  refine loop_I (fun m r4 h4 => ∃ i : Nat, m = ro.length - i ∧ i ≤ ro.length ∧ r4 0 = .pointer (some ⟨gp, 0, none⟩) ∧ r4 7 = .slice (some ⟨mb, 0, none⟩) (w * k) (w * k) ∧ r4 79 = rv ∧ r4 80 = .int .i64 ro.length ∧ r4 81 = .int .i64 i ∧
     (∀ p ∈ ro.take i, fitsW w k f p = true) ∧ (∀ c ∈ (ro.take i).flatMap cellsP, fAt (f1 w k f) c ≤ 0) ∧ ((ro.take i).flatMap cellsP).Nodup ∧
     GO h4 gp kb w k (f2 w k f ((ro.take i).flatMap cellsP)) ∧ MK h4 mb w k (seenT ((ro.take i).flatMap cellsP)) ∧ Dis G h4) ?_
    (m := ro.length) ⟨0, rfl, Nat.zero_le _, by simp -implicitDefEqProofs (disch := first | with_reducible exact Nat.ne_of_beq_eq_false rfl | omega) only [upd_ne, q0'], by simp -implicitDefEqProofs (disch := first | with_reducible exact Nat.ne_of_beq_eq_false rfl | omega) only [upd_ne, upd_eq], by simp -implicitDefEqProofs (disch := first | with_reducible exact Nat.ne_of_beq_eq_false rfl | omega) only [upd_ne, upd_eq, hrv], by simp -implicitDefEqProofs (disch := first | with_reducible exact Nat.ne_of_beq_eq_false rfl | omega) only [upd_ne, upd_eq], by simp -implicitDefEqProofs only [upd_eq] <;> rfl, by simp, by simp, by simp, by simpa using go3, by simpa using mk3, d3⟩
  rintro m r4 h4 ⟨i, rfl, hi, k0, k7, k79, k80, k81, hfit, hlow, hnd, go4, mk4, d4⟩ X HX
  unfold S68_l4
  simp -implicitDefEqProofs only [k81, k80, thenK_exit, blockK_exit, thenK_normal, if_true, opH_sv, bin_lss]
  refine cond_dec (fun hlt => ?_) (fun hge => ?_)
  rotate_left
  · obtain rfl : i = ro.length := by omega
    rw [List.take_of_length_le (Nat.le_refl _)] at hfit hlow hnd go4
    try simp -implicitDefEqProofs (disch := first | with_reducible exact Nat.ne_of_beq_eq_false rfl | omega) only [opH_sv, opH_su, pureW_sv, opH_nil, pureW_nil, pick_t, pick_f, pick_tp, pick_fp, gd_tt, gd_ft, gd_tf, gd_ff, box_new, regs0, regs1, regs2, regs3, regs4, regs5, regs6, cells_agg, cells_int, cells_bool, cells_ptr, cells_slice, cells_string, cells_func, cells_nilFunc, cells_map, retK_ret, retK_normal, resL_tmp, resL_cell, resL_nil0, resL_nil1, resL_nil2, resL_nil3, resC_ptr, ex0, ex1, ex2, ex0p, ex1p, ex2p, HL.cond_true, HL.cond_false, thenK_normal, thenK_ret, thenK_exit, blockK_normal, blockK_ret, blockK_exit, scopeK_normal, scopeK_ret, scopeK_exit, wpH_pure, bin_add, bin_sub, bin_mul, bin_lss, bin_leq, bin_gtr, bin_geq, bin_quo, bin_rem, bin_quop, bin_remp, wrap_in, bin_addp, bin_subp, bin_mulp, bin_lssp, bin_leqp, bin_gtrp, bin_geqp, un_not, un_notp, un_neg, eq_int, ne_int, eq_intp, ne_intp, callV_fn, add_mk, upd_eq, upd_ne, cell_set_self, Nat.zero_add, Nat.add_zero, Option.some.injEq, exists_eq_left', List.getElem?_cons_succ, List.getElem?_cons_zero, true_and, and_true, bne_self_eq_false, beq_self_eq_true, Bool.not_true, Bool.not_false, Bool.and_true, Bool.and_self, Bool.and_false, Bool.true_and, List.length_cons, List.length_nil, ne_eq, not_false_eq_true, Nat.reduceAdd, Nat.reduceMul, if_true, if_false, oneCell_int, oneCell_bool, oneCell_ptr, oneCell_slice, oneCell_string, oneCell_func, oneCell_map, Int.toNat_natCast, List.set_cons_zero, List.set_cons_succ, Nat.lt_irrefl, Nat.zero_lt_succ, Nat.succ_lt_succ_iff, fa26_0, fa26_0p, fa26_1, fa26_1p, fa26_10, fa26_10p, fa26_11, fa26_11p, fa26_12, fa26_12p, fa26_13, fa26_13p, fa26_14, fa26_14p, fa26_15, fa26_15p, fa26_2, fa26_2p, fa26_3, fa26_3p, fa26_4, fa26_4p, fa26_5, fa26_5p, fa26_6, fa26_6p, fa26_7, fa26_7p, fa26_8, fa26_8p, fa26_9, fa26_9p, fa28_0, fa28_0p, fa28_1, fa28_1p, fa45_0, fa45_0p, fa45_1, fa45_1p, fa45_2, fa45_2p, fa45_3, fa45_3p, fa45_4, fa45_4p, fa45_5, fa45_5p, fa45_6, fa45_6p, fa49_0, fa49_0p, fa49_1, fa49_1p, fa74_0, fa74_0p, fa74_1, fa74_1p, fa74_2, fa74_2p, fa74_3, fa74_3p, fa85_0, fa85_0p, fa85_1, fa85_1p, fa93_0, fa93_0p, fa93_1, fa93_1p, fa93_2, fa93_2p, ld3, ld3p, ld4, ld4p, ld22, ld22p, ld23, ld23p, ld24, ld24p, ld26, ld26p, ld28, ld28p, ld42, ld42p, ld45, ld45p, ld49, ld49p, ld58, ld58p, ld69, ld69p, ld72, ld72p, ld85, ld85p, st3s, st4s, st22s, st23s, st24s, st26w, st28w, st42s, st45w, st49w, st85w, ix22, ix22p, ix23, ix23p, ix24, ix24p, ix31, ix31p, ix42, ix42p, ix104, ix104p, ln22, ln22p, ln23, ln23p, ln24, ln24p, ln31, ln31p, ln42, ln42p, al4, al22, al26, al28, al42, al49, al85, cf10, cf11, cf12, cf13, cf14, cf15, cf16, cf17, cf18, cf19, cf20, cf21, cf22, cf23, cf24, cf25, cf26, cf27, cf28, cf29, cf30, cf31, cf32, cf33, cf34, cf35, cf36, cf37, cf38, cf39, cf40, cf41, cf42, cf43, cf44, cf45, cf46, cf47, cf48, cf49, cf50, cf51, cf52, cf53, cf54, cf55, cf56, cf57, cf58, cf59, cf60, cf61, cf62, cf63, cf64, cf65, cf66, cf67, cf68, cf69, cf70, cf71, cf72, cf73, cf74, cf75, bd26_0_1_2_7_8_9_10_11_12_13_14_4_15, bd26_0_1_2_7_8_9_10_11_12_13_14_4_15p, bd28_, bd28_p, bd28_0, bd28_0p, bd28_0_1, bd28_0_1p, bd45_1_3_4_5_6, bd45_1_3_4_5_6p, bd49_0_1, bd49_0_1p, bd49_1, bd49_1p, bd74_0_1_2_3, bd74_0_1_2_3p, bd85_0, bd85_0p, bd85_0_1, bd85_0_1p, bd93_0_1_2, bd93_0_1_2p, bd94_0_1_2_3, bd94_0_1_2_3p, bs42_1_0, bs22_1_0, bs24_1_0, bs42_3_0_1_2, bs31_1_0, bs22_2_0_1, bs42_6_0_1_2_3_4_5, bs42_0_, eq4, eq4p, eq28, eq28p, eq42n, eq42np, eq42s, eq42sp, eq58n, eq58np, eq58s, eq58sp, eq63n, eq63np, eq63s, eq63sp, ne28, ne28p, ne45, ne45p]
    unfold S68_k3
    simp -implicitDefEqProofs (disch := first | with_reducible exact Nat.ne_of_beq_eq_false rfl | omega) only [retK_ret, resL_tmp, upd_eq, resL_nil1]
    exact .inl ⟨⟨h8, hpl, hfit, hlow, hnd⟩, rfl, go4⟩
  have hlt' : i < ro.length := by omega
  obtain ⟨y, hy⟩ : ∃ x, ro[i]? = some x := ⟨_, List.getElem?_eq_getElem hlt'⟩
  have hym : y ∈ ro := List.mem_of_getElem? hy
  have sv4 := sv h4 d4
  rw [hrv] at sv4
  obtain ⟨b, ofs, eb, z0, z1, z2⟩ := Sees.pose sv4 hy
  subst eb
  unfold S68_l4_k5
  simp -implicitDefEqProofs (disch := first | with_reducible exact Nat.ne_of_beq_eq_false rfl | omega) only [upd_ne, k79, hrv, k81, thenK_ret, blockK_ret, retK_ret, resL_tmp, upd_eq, resL_nil1, opH_sv, cf72, opH_su, al85, ld85, add_mk, Nat.add_zero, Nat.zero_add, ix23 (Int.natCast_nonneg i) hlt, Int.toNat_natCast, z0, Option.some.injEq, z1, z2, exists_eq_left', st85w, cell_set_self, List.getElem?_cons_zero, List.getElem?_cons_succ]
  intro t ht gt
  try rw [st85w]
  have go5 : GO (h4.set t (.cells #[.int .i64 y.x, .int .i64 y.y, .bool y.d] 85 (0, 0))) gp kb w k (f2 w k f ((ro.take i).flatMap cellsP)) := go4.le (le_set ht)
  have mk5 : MK (h4.set t (.cells #[.int .i64 y.x, .int .i64 y.y, .bool y.d] 85 (0, 0))) mb w k (seenT ((ro.take i).flatMap cellsP)) := mk4.le (le_set ht)
  have bt : (h4.set t (.cells #[.int .i64 y.x, .int .i64 y.y, .bool y.d] 85 (0, 0))) t = some (.cells #[.int .i64 y.x, .int .i64 y.y, .bool y.d] 85 (0, 0)) := set_self
  have d5 := d4.set (o := .cells #[.int .i64 y.x, .int .i64 y.y, .bool y.d] 85 (0, 0)) gt
  generalize h4.set t (.cells #[.int .i64 y.x, .int .i64 y.y, .bool y.d] 85 (0, 0)) = h5 at *
  have ct : ∀ j, cellIn G h5 ⟨t, j, none⟩ = _ := fun j => cell_of (look_own bt)
  try simp -implicitDefEqProofs (disch := first | with_reducible exact Nat.ne_of_beq_eq_false rfl | omega) only [k0]
  refine (fits_spec (p := y) (go5.gs (G := G)) st (hp y hym)).mono ?_
  rintro _ h5 ⟨rfl, rfl⟩
  have hop : ∀ c ∈ (ro.take i).flatMap cellsP, fAt f c ≠ -1 := by
    intro c hc
    obtain ⟨p, hp1, hp2⟩ := List.mem_flatMap.1 hc
    exact (fits_cells (hfit p hp1) c hp2).2
  rw [fitsW_congr (f' := f) (fun x y _ _ => f2_open hop x y)]
  cases hf : fitsW w k f y with
  | false =>
    try simp -implicitDefEqProofs (maxSteps := 2000000) (disch := first | with_reducible exact Nat.ne_of_beq_eq_false rfl | exact oneCell_int | exact oneCell_bool | omega | rfl | (simp; done) | fail) only [un_not, Bool.not_false, HL.cond_true]
    exact no (fun q => by have := q.fit y hym; rw [hf] at this; cases this) _
  | true =>
  try simp -implicitDefEqProofs (maxSteps := 2000000) (disch := first | with_reducible exact Nat.ne_of_beq_eq_false rfl | exact oneCell_int | exact oneCell_bool | omega | rfl | (simp; done) | fail) only [un_not, Bool.not_true, HL.cond_false]
  unfold S68_l4_k7
  try simp -implicitDefEqProofs (maxSteps := 2000000) (disch := first | with_reducible exact Nat.ne_of_beq_eq_false rfl | exact oneCell_int | exact oneCell_bool | omega | rfl | (simp; done) | fail) only [upd_ne, upd_eq, k0, opH_sv, cf73, ld85, add_mk, Nat.add_zero, ct, List.getElem?_cons_zero, Option.some.injEq, Nat.zero_add, List.getElem?_cons_succ, exists_eq_left']
  refine (cells_spec (p := y) st (hp y hym)).mono ?_
  rintro _ _ ⟨cb, rfl, hcb, gcb, rfl⟩
  have go6 : GO (h5.set cb (.cells #[.int .i64 y.x, .int .i64 y.y, .int .i64 (east y).1, .int .i64 (east y).2] 28 (0, 0))) gp kb w k (f2 w k f ((ro.take i).flatMap cellsP)) := go5.le (le_set hcb)
  have mk6 : MK (h5.set cb (.cells #[.int .i64 y.x, .int .i64 y.y, .int .i64 (east y).1, .int .i64 (east y).2] 28 (0, 0))) mb w k (seenT ((ro.take i).flatMap cellsP)) := mk5.le (le_set hcb)
  have hcs : (h5.set cb (.cells #[.int .i64 y.x, .int .i64 y.y, .int .i64 (east y).1, .int .i64 (east y).2] 28 (0, 0))) cb = _ := set_self
  have d6 := d5.set (o := .cells #[.int .i64 y.x, .int .i64 y.y, .int .i64 (east y).1, .int .i64 (east y).2] 28 (0, 0)) gcb
  generalize h5.set cb (.cells #[.int .i64 y.x, .int .i64 y.y, .int .i64 (east y).1, .int .i64 (east y).2] 28 (0, 0)) = h6 at *
  try simp -implicitDefEqProofs (disch := first | with_reducible exact Nat.ne_of_beq_eq_false rfl | omega) only [ln22]
  have htk : (ro.take (i + 1)).flatMap cellsP = (ro.take i).flatMap cellsP ++ cellsP y := by rw [take_get hy, List.flatMap_append]; simp
  refine robots_in (cs := cellsP y) (p := y) _ h6 rfl (fun c hc => (fits_cells hf c hc).1) hcs (by simp -implicitDefEqProofs (disch := first | with_reducible exact Nat.ne_of_beq_eq_false rfl | omega) only [upd_ne, k0]) (by simp -implicitDefEqProofs (disch := first | with_reducible exact Nat.ne_of_beq_eq_false rfl | omega) only [upd_ne, k7]) (by simp -implicitDefEqProofs (disch := first | with_reducible exact Nat.ne_of_beq_eq_false rfl | omega) only [upd_ne, upd_eq]) (by simp -implicitDefEqProofs (disch := first | with_reducible exact Nat.ne_of_beq_eq_false rfl | omega) only [upd_ne, upd_eq] <;> rfl) (by simp -implicitDefEqProofs (disch := first | with_reducible exact Nat.ne_of_beq_eq_false rfl | omega) only [upd_eq]) go6 mk6 d6 hnd (fun hlw hnd2 r7 h7 j0 j7 j79 j80 j81 go7 mk7 d7 => ?_) (fun hbad r7 h7 j4 d7 => ?_)
  · simp only [blockK_exit, if_true, blockK_normal, thenK_normal]
    unfold S68_l4_k6
    have j81' : r7 81 = .int .i64 i := j81.trans (by simp -implicitDefEqProofs (disch := first | with_reducible exact Nat.ne_of_beq_eq_false rfl | omega) only [upd_ne, k81])
    simp -implicitDefEqProofs (disch := first | with_reducible exact Nat.ne_of_beq_eq_false rfl | omega) only [j81', thenK_normal, opH_sv, bin_add, wrap_in]
    refine HX (ro.length - (i + 1)) _ _ (by omega) ⟨i + 1, rfl, hlt', by simp -implicitDefEqProofs (disch := first | with_reducible exact Nat.ne_of_beq_eq_false rfl | omega) only [upd_ne, j0, k0], by simp -implicitDefEqProofs (disch := first | with_reducible exact Nat.ne_of_beq_eq_false rfl | omega) only [upd_ne, j7, k7], by simp -implicitDefEqProofs (disch := first | with_reducible exact Nat.ne_of_beq_eq_false rfl | omega) only [upd_ne, j79, k79], by simp -implicitDefEqProofs (disch := first | with_reducible exact Nat.ne_of_beq_eq_false rfl | omega) only [upd_ne, j80, k80], by simp -implicitDefEqProofs (disch := first | with_reducible exact Nat.ne_of_beq_eq_false rfl | omega) only [upd_eq] <;> rfl, ?_, ?_, ?_, ?_, ?_, d7⟩
    · rw [take_get hy]
      intro c hc
      rcases List.mem_append.1 hc with q | q
      · exact hfit c q
      · simp at q; rw [q]; exact hf
    · rw [htk]
      intro c hc
      rcases List.mem_append.1 hc with q | q
      · exact hlow c q
      · exact hlw c q
    · rw [htk]; exact hnd2
    · rw [htk]; exact go7
    · rw [htk]; exact mk7
  · simp -implicitDefEqProofs only [blockK_ret, thenK_ret, retK_ret, resL_tmp, j4, resL_nil1]
    refine no (fun q => hbad ⟨fun c hc => q.low c (List.mem_flatMap.2 ⟨y, hym, hc⟩), ?_⟩) _
    have hsub : ((ro.take (i + 1)).flatMap cellsP).Nodup := by
      have e : ro.flatMap cellsP = (ro.take (i + 1)).flatMap cellsP ++ (ro.drop (i + 1)).flatMap cellsP := by rw [← List.flatMap_append, List.take_append_drop]
      have := q.once
      rw [e] at this
      exact (List.nodup_append.1 this).1
    rwa [htk] at hsub

end Go.Proofs.YtangejiigopdaaaDoor
end

section
/- The stacks of a grid. -/
set_option linter.unusedSimpArgs false
set_option linter.unusedVariables false
set_option maxRecDepth 100000
namespace Go.Proofs.YtangejiigopdaaaDoor
open Go Go.HL

theorem un102 : Tryd.prog.underlying 107 = some (.map 3 3) := by kernel_rfl
theorem un3 : Tryd.prog.underlying 3 = some (.int .i64) := by kernel_rfl
theorem zero3 : zeroOf Tryd.prog 3 = some (.int .i64 0) := by kernel_rfl
theorem mm102 {G h : Hp} {K : Value → Hp → Prop} : wpH Tryd.prog G (Instr.makeMap 107 none) h K = ∀ r, h r = none → G r = none → K (.map (some r)) (h.set r (.map #[] 0)) := by kernel_rfl

/-- The stacks, seen whatever is owned beside them. -/
def GStk (G : Hp) (v : Value) (st : List (Cell × List Int)) : Prop := ∃ raw : List Raw, GSees rawC G v raw ∧ raw.length = st.length ∧
  ∀ (i : Nat) (r : Raw) (s : Cell × List Int), raw[i]? = some r → st[i]? = some s → (r.x, r.y) = s.1 ∧ r.n = s.2.length ∧ GSees icC G (.slice r.a s.2.length r.c) s.2

theorem GStk.len {G : Hp} {v : Value} {st : List (Cell × List Int)} (g : GStk G v st) {h : Hp} (d : Dis G h) : ∃ sa cap, v = .slice sa st.length cap := by
  obtain ⟨raw, h1, h2, _⟩ := g
  obtain ⟨sa, cap, e⟩ := (h1 h d).len
  exact ⟨sa, cap, by rw [e, h2]⟩
theorem GStk.get {G : Hp} {sa : Option Addr} {n cap : Nat} {st : List (Cell × List Int)} (g : GStk G (.slice sa n cap) st) {h : Hp} (d : Dis G h) {i : Nat} {s : Cell × List Int} (hs : st[i]? = some s) :
    ∃ b o a c, sa = some ⟨b, o, none⟩ ∧ cellIn G h ⟨b, o + i * 3, none⟩ = some (.int .i64 s.1.1) ∧ cellIn G h ⟨b, o + i * 3 + 1, none⟩ = some (.int .i64 s.1.2) ∧ cellIn G h ⟨b, o + i * 3 + 2, none⟩ = some (.slice a s.2.length c) ∧ GSees icC G (.slice a s.2.length c) s.2 := by
  obtain ⟨raw, h1, hl, h2⟩ := g
  have hi : i < raw.length := by rw [hl]; exact (List.getElem?_eq_some_iff.1 hs).1
  have hr : raw[i]? = some raw[i] := List.getElem?_eq_getElem hi
  obtain ⟨k1, k2, k3⟩ := h2 i _ s hr hs
  obtain ⟨b, o, c, e1, e2⟩ := (h1 h d).get hr
  simp only [Value.slice.injEq] at e1
  have z0 := e2 0 (by decide)
  have z1 := e2 1 (by decide)
  have z2 := e2 2 (by decide)
  simp only [rawC, Nat.add_zero, List.getElem?_cons_zero, List.getElem?_cons_succ] at z0 z1 z2
  refine ⟨b, o, _, _, e1.1, ?_, ?_, ?_, k3⟩
  · rw [z0, ← k1]
  · rw [z1, ← k1]
  · rw [z2, k2]

theorem GO.past {h : Hp} {gp kb w k : Nat} {f : Nat → Nat → Int} (g : GO h gp kb w k f) {b : Nat} {p o : Obj} (hb : h b = some p) (hp : isCells p = false) : GO (h.set b o) gp kb w k f := by
  have n1 : gp ≠ b := fun q => by have := g.hd; rw [q, hb] at this; cases this; cases hp
  have n2 : kb ≠ b := fun q => by have := g.row; rw [q, hb] at this; cases this; cases hp
  exact ⟨by rw [set_other n1]; exact g.hd, by rw [set_other n2]; exact g.row, g.w1, g.w2, g.k1, g.k2⟩
theorem MK.past {h : Hp} {mb w k : Nat} {f : Nat → Nat → Bool} (g : MK h mb w k f) {b : Nat} {p o : Obj} (hb : h b = some p) (hp : isCells p = false) : MK (h.set b o) mb w k f := by
  unfold MK at *
  have n1 : mb ≠ b := fun q => by rw [q, hb] at g; cases g; cases hp
  rw [set_other n1]; exact g

/-- Some of the numbers, each told once, by a map. -/
structure NM (h : Hp) (mp : Nat) (B : List Int) : Prop where
  ex : ∃ o L, h mp = some o ∧ MapO o L ∧ L.map (·.1) = B ∧ ∀ p ∈ L, p.2 = .int .i64 1

theorem mget_in {L : List (Int × Value)} (h : ∀ p ∈ L, p.2 = .int .i64 1) {b : Int} : (mget L b).getD (.int .i64 0) = .int .i64 (if b ∈ L.map (·.1) then 1 else 0) := by
  induction L with
  | nil => rfl
  | cons p L ih =>
    rw [mget_cons]
    by_cases e : p.1 = b
    · rw [if_pos e, if_pos (by rw [List.map_cons, e]; exact .head _)]
      exact h p (.head _)
    · rw [if_neg e, ih fun q hq => h q (.tail _ hq)]
      congr 1
      simp only [List.map_cons, List.mem_cons]
      by_cases hm : b ∈ L.map (·.1)
      · simp [hm]
      · have e2 : ¬ b = p.1 := fun q => e q.symm
        simp [hm, e2]

theorem NM.put {G h : Hp} {mp : Nat} {B : List Int} (n : NM h mp B) {b : Int} (hb : b ∉ B) {K : Unit → Hp → Prop} (H : ∀ o', NM (h.set mp o') mp (B ++ [b]) → K () (h.set mp o')) :
    wpH Tryd.prog G (Instr.mapUpdate 107 (.map (some mp)) (.int .i64 b) (.int .i64 1)) h K := by
  obtain ⟨o, L, h1, h2, h3, h4⟩ := n
  refine mapput_int un102 un3 h1 h2 fun o' m' => H o' ⟨o', _, set_self, m', ?_, ?_⟩
  · rw [mput_keys, h3, if_neg hb]
  · have : midx L b = none := by
      unfold midx
      rw [List.findIdx?_eq_none_iff]
      intro p hp
      have : p.1 ≠ b := fun e => hb (by rw [← h3, ← e]; exact List.mem_map_of_mem (f := (·.1)) hp)
      simpa using this
    unfold mput
    rw [this]
    intro p hp
    rcases List.mem_append.1 hp with q | q
    · exact h4 p q
    · simp at q; rw [q]

set_option maxHeartbeats 2000000 in
theorem stacks_in {G : Hp} {gp kb mb mp w k : Nat} {f : Nat → Nat → Int} {mf : Nat → Nat → Bool} {KK : Exit → Rg → Hp → Prop} {L B0 : List Int} {v : Value} (r : Rg) (h : Hp) (sv : GSees icC G v L) (hL : L.length ≤ 100000) (hB0 : B0.length ≤ 512)
    (g8 : r 8 = .map (some mp)) (g54 : r 54 = v) (g55 : r 55 = .int .i64 L.length) (g56 : r 56 = .int .i64 0)
    (go : GO h gp kb w k f) (mk : MK h mb w k mf) (nm : NM h mp B0) (d : Dis G h) (hnd0 : B0.Nodup)
    (H1 : (∀ b ∈ L, withinB b 1 1000000000 = true) → (B0 ++ L).Nodup → (B0 ++ L).length ≤ 512 → ∀ (r' : Rg) h', r' 0 = r 0 → r' 2 = r 2 → r' 7 = r 7 → r' 8 = r 8 → r' 20 = r 20 → r' 21 = r 21 → r' 22 = r 22 → GO h' gp kb w k f → MK h' mb w k mf → NM h' mp (B0 ++ L) → Dis G h' → KK (.exit 2) r' h')
    (H2 : ¬ ((∀ b ∈ L, withinB b 1 1000000000 = true) ∧ (B0 ++ L).Nodup ∧ (B0 ++ L).length ≤ 512) → ∀ (r' : Rg) h', r' 6 = .bool false → Dis G h' → KK .ret r' h') : loopP (S69_l2_l6 G) r h KK := by
  obtain ⟨sa, cap, hve⟩ := (sv h d).len
  refine loop_I (fun m r2 h3 => ∃ j : Nat, m = L.length - j ∧ j ≤ L.length ∧ r2 0 = r 0 ∧ r2 2 = r 2 ∧ r2 7 = r 7 ∧ r2 8 = r 8 ∧ r2 20 = r 20 ∧ r2 21 = r 21 ∧ r2 22 = r 22 ∧ r2 54 = r 54 ∧ r2 55 = r 55 ∧ r2 56 = .int .i64 j ∧ (∀ b ∈ L.take j, withinB b 1 1000000000 = true) ∧ (B0 ++ L.take j).Nodup ∧ (B0 ++ L.take j).length ≤ 512 ∧
     GO h3 gp kb w k f ∧ MK h3 mb w k mf ∧ NM h3 mp (B0 ++ L.take j) ∧ Dis G h3) ?_
    (m := L.length) ⟨0, rfl, Nat.zero_le _, rfl, rfl, rfl, rfl, rfl, rfl, rfl, rfl, rfl, by rw [g56]; rfl, by simp, by simpa using hnd0, by simpa using hB0, go, mk, by simpa using nm, d⟩
  rintro m r2 h3 ⟨j, rfl, hj, q0, q2, q7, q8, q20, q21, q22, q54, q55, q56, hok, hnd, hle, go, mk, nm, d3⟩ X HX
  rw [g8] at q8
  rw [g54, hve] at q54
  rw [g55] at q55
  unfold S69_l2_l6
  simp -implicitDefEqProofs only [q56, q55, thenK_exit, opH_sv, bin_lss]
  refine cond_dec (fun hlt => ?_) (fun hge => ?_)
  rotate_left
  · obtain rfl : j = L.length := by omega
    rw [List.take_of_length_le (Nat.le_refl _)] at hok hnd hle nm
    exact H1 hok hnd hle _ _ (by simp -implicitDefEqProofs (disch := first | with_reducible exact Nat.ne_of_beq_eq_false rfl | omega) only [upd_ne, q0]) (by simp -implicitDefEqProofs (disch := first | with_reducible exact Nat.ne_of_beq_eq_false rfl | omega) only [upd_ne, q2]) (by simp -implicitDefEqProofs (disch := first | with_reducible exact Nat.ne_of_beq_eq_false rfl | omega) only [upd_ne, q7]) (by simp -implicitDefEqProofs (disch := first | with_reducible exact Nat.ne_of_beq_eq_false rfl | omega) only [upd_ne, q8, g8]) (by simp -implicitDefEqProofs (disch := first | with_reducible exact Nat.ne_of_beq_eq_false rfl | omega) only [upd_ne, q20]) (by simp -implicitDefEqProofs (disch := first | with_reducible exact Nat.ne_of_beq_eq_false rfl | omega) only [upd_ne, q21]) (by simp -implicitDefEqProofs (disch := first | with_reducible exact Nat.ne_of_beq_eq_false rfl | omega) only [upd_ne, q22]) go mk nm d3
  have hlt' : j < L.length := by omega
  obtain ⟨y, hy⟩ : ∃ x, L[j]? = some x := ⟨_, List.getElem?_eq_getElem hlt'⟩
  have hym : y ∈ L := List.mem_of_getElem? hy
  have sv3 := sv h3 d3
  rw [hve] at sv3
  obtain ⟨b, ofs, eb, z0⟩ := Sees.int sv3 hy
  subst eb
  have htk : B0 ++ L.take (j + 1) = (B0 ++ L.take j) ++ [y] := by rw [take_get hy, List.append_assoc]
  have hpre : ∀ {P : Prop}, (((B0 ++ L.take (j + 1)).Nodup ∧ (B0 ++ L.take (j + 1)).length ≤ 512 → P) → ((B0 ++ L).Nodup ∧ (B0 ++ L).length ≤ 512 → P)) := by
    intro P h q
    have e : B0 ++ L = (B0 ++ L.take (j + 1)) ++ L.drop (j + 1) := by rw [List.append_assoc, List.take_append_drop]
    rw [e] at q
    refine h ⟨(List.nodup_append.1 q.1).1, ?_⟩
    have := q.2
    rw [List.length_append] at this; omega
  obtain ⟨o, ML, n1, n2, n3, n4⟩ := id nm.ex
  have nlk : HL.look G h3 mp = some o := look_own n1
  unfold S69_l2_l6_k7
  simp -implicitDefEqProofs (disch := first | with_reducible exact Nat.ne_of_beq_eq_false rfl | omega) only [upd_ne, q54, q56, thenK_ret, opH_sv, cf56, ix42 (Int.natCast_nonneg j) hlt, Int.toNat_natCast, Nat.mul_one, add_mk, ld3, z0, Option.some.injEq, exists_eq_left']
  refine (within_spec (n := y) (a := 1) (b := 1000000000)).mono ?_
  rintro _ h3 ⟨rfl, rfl⟩
  cases hw : withinB y 1 1000000000 with
  | false =>
    try simp -implicitDefEqProofs only [un_not, Bool.not_false, pick_t, HL.cond_true, gd_tf]
    exact H2 (fun q => by have := q.1 y hym; rw [hw] at this; cases this) _ _ (by simp -implicitDefEqProofs only [upd_eq]) d3
  | true =>
  try simp -implicitDefEqProofs only [q8, un_not, Bool.not_true, pick_f, gd_ff, opH_sv, lookup_int un102 un3 zero3 nlk n2, mget_in n4, n3, bin_gtr]
  by_cases hm : y ∈ B0 ++ L.take j
  · try simp -implicitDefEqProofs only [if_pos hm, show decide ((1 : Int) > 0) = true from rfl, pick_t, HL.cond_true, gd_tf]
    refine H2 (fun q => hpre (P := False) (fun ⟨q1, _⟩ => ?_) q.2) _ _ (by simp -implicitDefEqProofs only [upd_eq]) d3
    rw [htk] at q1
    exact (List.nodup_append.1 q1).2.2 y hm y (by simp) rfl
  try simp -implicitDefEqProofs only [if_neg hm, show decide ((0 : Int) > 0) = false from rfl, pick_f, gd_ff, opH_sv, maplen_eq un102 nlk n2, eq_int]
  have hll : ML.length = (B0 ++ L.take j).length := by rw [← n3, List.length_map]
  by_cases h512 : (B0 ++ L.take j).length = 512
  · try simp -implicitDefEqProofs only [hll, h512, show (((512 : Nat) : Int) == 512) = true from rfl, HL.cond_true]
    refine H2 (fun q => hpre (P := False) (fun ⟨_, q1⟩ => ?_) q.2) _ _ (by simp -implicitDefEqProofs only [upd_eq]) d3
    rw [htk, List.length_append, h512] at q1
    simp at q1
  have e512 : (((B0 ++ L.take j).length : Int) == 512) = false := by
    have : ((B0 ++ L.take j).length : Int) ≠ 512 := by omega
    simpa using this
  try simp -implicitDefEqProofs (disch := first | with_reducible exact Nat.ne_of_beq_eq_false rfl | omega) only [hll, e512, HL.cond_false]
  unfold S69_l2_l6_k9
  try simp -implicitDefEqProofs (maxSteps := 2000000) (disch := first | with_reducible exact Nat.ne_of_beq_eq_false rfl | exact oneCell_int | exact oneCell_bool | omega | rfl | (simp; done) | fail) only [upd_ne, q8, upd_eq, opH_su]
  refine NM.put nm hm fun o' nm' => ?_
  unfold S69_l2_l6_k8
  try simp -implicitDefEqProofs (disch := first | with_reducible exact Nat.ne_of_beq_eq_false rfl | omega) only [upd_ne, q56, thenK_normal, opH_sv, bin_add, wrap_in]
  refine HX (L.length - (j + 1)) _ _ (by omega) ⟨j + 1, rfl, hlt', by simp -implicitDefEqProofs (disch := first | with_reducible exact Nat.ne_of_beq_eq_false rfl | omega) only [upd_ne, q0], by simp -implicitDefEqProofs (disch := first | with_reducible exact Nat.ne_of_beq_eq_false rfl | omega) only [upd_ne, q2], by simp -implicitDefEqProofs (disch := first | with_reducible exact Nat.ne_of_beq_eq_false rfl | omega) only [upd_ne, q7], by simp -implicitDefEqProofs (disch := first | with_reducible exact Nat.ne_of_beq_eq_false rfl | omega) only [upd_ne, q8, g8], by simp -implicitDefEqProofs (disch := first | with_reducible exact Nat.ne_of_beq_eq_false rfl | omega) only [upd_ne, q20], by simp -implicitDefEqProofs (disch := first | with_reducible exact Nat.ne_of_beq_eq_false rfl | omega) only [upd_ne, q21], by simp -implicitDefEqProofs (disch := first | with_reducible exact Nat.ne_of_beq_eq_false rfl | omega) only [upd_ne, q22], by simp -implicitDefEqProofs (disch := first | with_reducible exact Nat.ne_of_beq_eq_false rfl | omega) only [upd_ne, q54, g54, hve], by simp -implicitDefEqProofs (disch := first | with_reducible exact Nat.ne_of_beq_eq_false rfl | omega) only [upd_ne, q55, g55], by simp -implicitDefEqProofs (disch := first | with_reducible exact Nat.ne_of_beq_eq_false rfl | omega) only [upd_eq] <;> rfl, ?_, ?_, ?_, go.past n1 n2.cells, mk.past n1 n2.cells, by rw [htk]; exact nm', d3.set (d3 _ _ n1)⟩
  · rw [take_get hy]
    intro c hc
    rcases List.mem_append.1 hc with q | q
    · exact hok c q
    · simp at q; rw [q]; exact hw
  · rw [htk]
    exact List.nodup_append.2 ⟨hnd, by simp, fun a ha b hb => by simp at hb; subst hb; exact fun e => hm (e ▸ ha)⟩
  · rw [htk, List.length_append]
    simp only [List.length_cons, List.length_nil]
    omega

structure StacksOk (w k : Nat) (f : Nat → Nat → Int) (ht : Int) (st : List (Cell × List Int)) : Prop where
  each : ∀ s ∈ st, inW w k s.1 = true ∧ fAt f s.1 = 0 ∧ (s.2.length : Int) ≤ ht
  apart : (st.map Prod.fst).Nodup
  nums : ∀ b ∈ st.flatMap Prod.snd, withinB b 1 1000000000 = true
  once : (st.flatMap Prod.snd).Nodup
  most : (st.flatMap Prod.snd).length ≤ 512

def StR (w k gp kb : Nat) (f : Nat → Nat → Int) (ht : Int) (st : List (Cell × List Int)) (u : Value) (h' : Hp) : Prop :=
  (StacksOk w k f ht st ∧ u = .bool true ∧ GO h' gp kb w k f) ∨ (¬ StacksOk w k f ht st ∧ u = .bool false)

set_option maxHeartbeats 2000000 in
theorem stacks_spec {G h : Hp} {gp kb w k : Nat} {f : Nat → Nat → Int} {ht : Int} {st : List (Cell × List Int)} {sv : Value} (go : GO h gp kb w k f) (gs : GStk G sv st) (hht : ht ≤ 8) (hsl : st.length ≤ 100000000000000) :
    HCalls Tryd.prog G 69 #[.pointer (some ⟨gp, 0, none⟩), sv, .int .i64 ht] h (StR w k gp kb f ht st) := by
  refine HCalls.assume fun d => enter69 (by simp) ?_
  obtain ⟨sa, cap, hsv⟩ := gs.len d
  have hm2 : w * k ≤ 16 * 16 := Nat.mul_le_mul go.w2 go.k2
  have cg : ∀ j, cellIn G h ⟨gp, j, none⟩ = _ := fun j => cell_of (look_own go.hd)
  unfold S69
  simp -implicitDefEqProofs only [hsv, regs0, regs1, opH_sv, ln24, opH_nil, fa93_2, add_mk, Nat.zero_add, ld42, cg, List.getElem?_cons_succ, List.getElem?_cons_zero, Option.some.injEq, exists_eq_left', ln42]
  rw [make_eq bcC false (by decide) un104 eobool (by kernel_rfl) (by omega) (by omega)]
  intro mb hmb gmb
  have go1 : GO (h.set mb (.cells (bcC.rows (List.replicate (w * k) false)).toArray 4 (0, 0))) gp kb w k f := go.le (le_set hmb)
  have mk1 : MK (h.set mb (.cells (bcC.rows (List.replicate (w * k) false)).toArray 4 (0, 0))) mb w k (seenT []) := by unfold MK; rw [set_self, seen_nil, gridL_const]
  have d1 := d.set (o := .cells (bcC.rows (List.replicate (w * k) false)).toArray 4 (0, 0)) gmb
  generalize h.set mb (.cells (bcC.rows (List.replicate (w * k) false)).toArray 4 (0, 0)) = h1 at *
  try simp -implicitDefEqProofs only [mm102]
  intro mp hmp gmp
  have go2 : GO (h1.set mp (.map #[] 0)) gp kb w k f := go1.le (le_set hmp)
  have mk2 : MK (h1.set mp (.map #[] 0)) mb w k (seenT []) := mk1.le (le_set hmp)
  have nm2 : NM (h1.set mp (.map #[] 0)) mp [] := ⟨_, [], set_self, ⟨#[], 0, rfl, rfl⟩, rfl, fun p hp => by cases hp⟩
  have d2 := d1.set (o := .map #[] 0) gmp
  generalize h1.set mp (.map #[] 0) = h2 at *
  try simp -implicitDefEqProofs only [opH_sv, opH_su, pureW_sv, opH_nil, pureW_nil, pick_t, pick_f, pick_tp, pick_fp, gd_tt, gd_ft, gd_tf, gd_ff, box_new, regs0, regs1, regs2, regs3, regs4, regs5, regs6, cells_agg, cells_int, cells_bool, cells_ptr, cells_slice, cells_string, cells_func, cells_nilFunc, cells_map, retK_ret, retK_normal, resL_tmp, resL_cell, resL_nil0, resL_nil1, resL_nil2, resL_nil3, resC_ptr, ex0, ex1, ex2, ex0p, ex1p, ex2p, HL.cond_true, HL.cond_false, thenK_normal, thenK_ret, thenK_exit, blockK_normal, blockK_ret, blockK_exit, scopeK_normal, scopeK_ret, scopeK_exit, wpH_pure, bin_add, bin_sub, bin_mul, bin_lss, bin_leq, bin_gtr, bin_geq, bin_quo, bin_rem, bin_quop, bin_remp, wrap_in, bin_addp, bin_subp, bin_mulp, bin_lssp, bin_leqp, bin_gtrp, bin_geqp, un_not, un_notp, un_neg, eq_int, ne_int, eq_intp, ne_intp, callV_fn, add_mk, upd_eq, upd_ne, cell_set_self, Nat.zero_add, Nat.add_zero, Option.some.injEq, exists_eq_left', List.getElem?_cons_succ, List.getElem?_cons_zero, true_and, and_true, bne_self_eq_false, beq_self_eq_true, Bool.not_true, Bool.not_false, Bool.and_true, Bool.and_self, Bool.and_false, Bool.true_and, List.length_cons, List.length_nil, ne_eq, not_false_eq_true, Nat.reduceAdd, Nat.reduceMul, if_true, if_false, oneCell_int, oneCell_bool, oneCell_ptr, oneCell_slice, oneCell_string, oneCell_func, oneCell_map, Int.toNat_natCast, List.set_cons_zero, List.set_cons_succ, Nat.lt_irrefl, Nat.zero_lt_succ, Nat.succ_lt_succ_iff, fa26_0, fa26_0p, fa26_1, fa26_1p, fa26_10, fa26_10p, fa26_11, fa26_11p, fa26_12, fa26_12p, fa26_13, fa26_13p, fa26_14, fa26_14p, fa26_15, fa26_15p, fa26_2, fa26_2p, fa26_3, fa26_3p, fa26_4, fa26_4p, fa26_5, fa26_5p, fa26_6, fa26_6p, fa26_7, fa26_7p, fa26_8, fa26_8p, fa26_9, fa26_9p, fa28_0, fa28_0p, fa28_1, fa28_1p, fa45_0, fa45_0p, fa45_1, fa45_1p, fa45_2, fa45_2p, fa45_3, fa45_3p, fa45_4, fa45_4p, fa45_5, fa45_5p, fa45_6, fa45_6p, fa49_0, fa49_0p, fa49_1, fa49_1p, fa74_0, fa74_0p, fa74_1, fa74_1p, fa74_2, fa74_2p, fa74_3, fa74_3p, fa85_0, fa85_0p, fa85_1, fa85_1p, fa93_0, fa93_0p, fa93_1, fa93_1p, fa93_2, fa93_2p, ld3, ld3p, ld4, ld4p, ld22, ld22p, ld23, ld23p, ld24, ld24p, ld26, ld26p, ld28, ld28p, ld42, ld42p, ld45, ld45p, ld49, ld49p, ld58, ld58p, ld69, ld69p, ld72, ld72p, ld85, ld85p, st3s, st4s, st22s, st23s, st24s, st26w, st28w, st42s, st45w, st49w, st85w, ix22, ix22p, ix23, ix23p, ix24, ix24p, ix31, ix31p, ix42, ix42p, ix104, ix104p, ln22, ln22p, ln23, ln23p, ln24, ln24p, ln31, ln31p, ln42, ln42p, al4, al22, al26, al28, al42, al49, al85, cf10, cf11, cf12, cf13, cf14, cf15, cf16, cf17, cf18, cf19, cf20, cf21, cf22, cf23, cf24, cf25, cf26, cf27, cf28, cf29, cf30, cf31, cf32, cf33, cf34, cf35, cf36, cf37, cf38, cf39, cf40, cf41, cf42, cf43, cf44, cf45, cf46, cf47, cf48, cf49, cf50, cf51, cf52, cf53, cf54, cf55, cf56, cf57, cf58, cf59, cf60, cf61, cf62, cf63, cf64, cf65, cf66, cf67, cf68, cf69, cf70, cf71, cf72, cf73, cf74, cf75, bd26_0_1_2_7_8_9_10_11_12_13_14_4_15, bd26_0_1_2_7_8_9_10_11_12_13_14_4_15p, bd28_, bd28_p, bd28_0, bd28_0p, bd28_0_1, bd28_0_1p, bd45_1_3_4_5_6, bd45_1_3_4_5_6p, bd49_0_1, bd49_0_1p, bd49_1, bd49_1p, bd74_0_1_2_3, bd74_0_1_2_3p, bd85_0, bd85_0p, bd85_0_1, bd85_0_1p, bd93_0_1_2, bd93_0_1_2p, bd94_0_1_2_3, bd94_0_1_2_3p, bs42_1_0, bs22_1_0, bs24_1_0, bs42_3_0_1_2, bs31_1_0, bs22_2_0_1, bs42_6_0_1_2_3_4_5, bs42_0_, eq4, eq4p, eq28, eq28p, eq42n, eq42np, eq42s, eq42sp, eq58n, eq58np, eq58s, eq58sp, eq63n, eq63np, eq63s, eq63sp, ne28, ne28p, ne45, ne45p]
  have no : ¬ StacksOk w k f ht st → ∀ hh, StR w k gp kb f ht st (.bool false) hh := fun q hh => .inr ⟨q, rfl⟩
  refine loop_I (fun m r4 h4 => ∃ i : Nat, m = st.length - i ∧ i ≤ st.length ∧ r4 0 = .pointer (some ⟨gp, 0, none⟩) ∧ r4 2 = .int .i64 ht ∧ r4 7 = .slice (some ⟨mb, 0, none⟩) (w * k) (w * k) ∧ r4 8 = .map (some mp) ∧ r4 20 = sv ∧ r4 21 = .int .i64 st.length ∧ r4 22 = .int .i64 i ∧
     (∀ s ∈ st.take i, inW w k s.1 = true ∧ fAt f s.1 = 0 ∧ (s.2.length : Int) ≤ ht) ∧ ((st.take i).map Prod.fst).Nodup ∧ (∀ b ∈ (st.take i).flatMap Prod.snd, withinB b 1 1000000000 = true) ∧ ((st.take i).flatMap Prod.snd).Nodup ∧ ((st.take i).flatMap Prod.snd).length ≤ 512 ∧
     GO h4 gp kb w k f ∧ MK h4 mb w k (seenT ((st.take i).map Prod.fst)) ∧ NM h4 mp ((st.take i).flatMap Prod.snd) ∧ Dis G h4) ?_
    (m := st.length) ⟨0, rfl, Nat.zero_le _, by simp -implicitDefEqProofs (disch := first | with_reducible exact Nat.ne_of_beq_eq_false rfl | omega) only [upd_ne, regs0], by simp -implicitDefEqProofs (disch := first | with_reducible exact Nat.ne_of_beq_eq_false rfl | omega) only [upd_ne, regs2], by simp -implicitDefEqProofs (disch := first | with_reducible exact Nat.ne_of_beq_eq_false rfl | omega) only [upd_ne, upd_eq], by simp -implicitDefEqProofs (disch := first | with_reducible exact Nat.ne_of_beq_eq_false rfl | omega) only [upd_ne, upd_eq], by simp -implicitDefEqProofs (disch := first | with_reducible exact Nat.ne_of_beq_eq_false rfl | omega) only [upd_ne, upd_eq, hsv], by simp -implicitDefEqProofs (disch := first | with_reducible exact Nat.ne_of_beq_eq_false rfl | omega) only [upd_ne, upd_eq], by simp -implicitDefEqProofs only [upd_eq] <;> rfl, by simp, by simp, by simp, by simp, by simp, go2, by simpa using mk2, by simpa using nm2, d2⟩
  rintro m r4 h4 ⟨i, rfl, hi, k0, k2, k7, k8, k20, k21, k22, hea, hap, hnu, hon, hmo, go4, mk4, nm4, d4⟩ X HX
  unfold S69_l2
  simp -implicitDefEqProofs only [k22, k21, thenK_exit, blockK_exit, thenK_normal, if_true, opH_sv, bin_lss]
  refine cond_dec (fun hlt => ?_) (fun hge => ?_)
  rotate_left
  · obtain rfl : i = st.length := by omega
    rw [List.take_of_length_le (Nat.le_refl _)] at hea hap hnu hon hmo
    try simp -implicitDefEqProofs only [opH_sv, opH_su, pureW_sv, opH_nil, pureW_nil, pick_t, pick_f, pick_tp, pick_fp, gd_tt, gd_ft, gd_tf, gd_ff, box_new, regs0, regs1, regs2, regs3, regs4, regs5, regs6, cells_agg, cells_int, cells_bool, cells_ptr, cells_slice, cells_string, cells_func, cells_nilFunc, cells_map, retK_ret, retK_normal, resL_tmp, resL_cell, resL_nil0, resL_nil1, resL_nil2, resL_nil3, resC_ptr, ex0, ex1, ex2, ex0p, ex1p, ex2p, HL.cond_true, HL.cond_false, thenK_normal, thenK_ret, thenK_exit, blockK_normal, blockK_ret, blockK_exit, scopeK_normal, scopeK_ret, scopeK_exit, wpH_pure, bin_add, bin_sub, bin_mul, bin_lss, bin_leq, bin_gtr, bin_geq, bin_quo, bin_rem, bin_quop, bin_remp, wrap_in, bin_addp, bin_subp, bin_mulp, bin_lssp, bin_leqp, bin_gtrp, bin_geqp, un_not, un_notp, un_neg, eq_int, ne_int, eq_intp, ne_intp, callV_fn, add_mk, upd_eq, upd_ne, cell_set_self, Nat.zero_add, Nat.add_zero, Option.some.injEq, exists_eq_left', List.getElem?_cons_succ, List.getElem?_cons_zero, true_and, and_true, bne_self_eq_false, beq_self_eq_true, Bool.not_true, Bool.not_false, Bool.and_true, Bool.and_self, Bool.and_false, Bool.true_and, List.length_cons, List.length_nil, ne_eq, not_false_eq_true, Nat.reduceAdd, Nat.reduceMul, if_true, if_false, oneCell_int, oneCell_bool, oneCell_ptr, oneCell_slice, oneCell_string, oneCell_func, oneCell_map, Int.toNat_natCast, List.set_cons_zero, List.set_cons_succ, Nat.lt_irrefl, Nat.zero_lt_succ, Nat.succ_lt_succ_iff, fa26_0, fa26_0p, fa26_1, fa26_1p, fa26_10, fa26_10p, fa26_11, fa26_11p, fa26_12, fa26_12p, fa26_13, fa26_13p, fa26_14, fa26_14p, fa26_15, fa26_15p, fa26_2, fa26_2p, fa26_3, fa26_3p, fa26_4, fa26_4p, fa26_5, fa26_5p, fa26_6, fa26_6p, fa26_7, fa26_7p, fa26_8, fa26_8p, fa26_9, fa26_9p, fa28_0, fa28_0p, fa28_1, fa28_1p, fa45_0, fa45_0p, fa45_1, fa45_1p, fa45_2, fa45_2p, fa45_3, fa45_3p, fa45_4, fa45_4p, fa45_5, fa45_5p, fa45_6, fa45_6p, fa49_0, fa49_0p, fa49_1, fa49_1p, fa74_0, fa74_0p, fa74_1, fa74_1p, fa74_2, fa74_2p, fa74_3, fa74_3p, fa85_0, fa85_0p, fa85_1, fa85_1p, fa93_0, fa93_0p, fa93_1, fa93_1p, fa93_2, fa93_2p, ld3, ld3p, ld4, ld4p, ld22, ld22p, ld23, ld23p, ld24, ld24p, ld26, ld26p, ld28, ld28p, ld42, ld42p, ld45, ld45p, ld49, ld49p, ld58, ld58p, ld69, ld69p, ld72, ld72p, ld85, ld85p, st3s, st4s, st22s, st23s, st24s, st26w, st28w, st42s, st45w, st49w, st85w, ix22, ix22p, ix23, ix23p, ix24, ix24p, ix31, ix31p, ix42, ix42p, ix104, ix104p, ln22, ln22p, ln23, ln23p, ln24, ln24p, ln31, ln31p, ln42, ln42p, al4, al22, al26, al28, al42, al49, al85, cf10, cf11, cf12, cf13, cf14, cf15, cf16, cf17, cf18, cf19, cf20, cf21, cf22, cf23, cf24, cf25, cf26, cf27, cf28, cf29, cf30, cf31, cf32, cf33, cf34, cf35, cf36, cf37, cf38, cf39, cf40, cf41, cf42, cf43, cf44, cf45, cf46, cf47, cf48, cf49, cf50, cf51, cf52, cf53, cf54, cf55, cf56, cf57, cf58, cf59, cf60, cf61, cf62, cf63, cf64, cf65, cf66, cf67, cf68, cf69, cf70, cf71, cf72, cf73, cf74, cf75, bd26_0_1_2_7_8_9_10_11_12_13_14_4_15, bd26_0_1_2_7_8_9_10_11_12_13_14_4_15p, bd28_, bd28_p, bd28_0, bd28_0p, bd28_0_1, bd28_0_1p, bd45_1_3_4_5_6, bd45_1_3_4_5_6p, bd49_0_1, bd49_0_1p, bd49_1, bd49_1p, bd74_0_1_2_3, bd74_0_1_2_3p, bd85_0, bd85_0p, bd85_0_1, bd85_0_1p, bd93_0_1_2, bd93_0_1_2p, bd94_0_1_2_3, bd94_0_1_2_3p, bs42_1_0, bs22_1_0, bs24_1_0, bs42_3_0_1_2, bs31_1_0, bs22_2_0_1, bs42_6_0_1_2_3_4_5, bs42_0_, eq4, eq4p, eq28, eq28p, eq42n, eq42np, eq42s, eq42sp, eq58n, eq58np, eq58s, eq58sp, eq63n, eq63np, eq63s, eq63sp, ne28, ne28p, ne45, ne45p]
    unfold S69_k1
    simp -implicitDefEqProofs only [retK_ret, resL_tmp, upd_eq, resL_nil1]
    exact .inl ⟨⟨hea, hap, hnu, hon, hmo⟩, rfl, go4⟩
  have hlt' : i < st.length := by omega
  obtain ⟨y, hy⟩ : ∃ x, st[i]? = some x := ⟨_, List.getElem?_eq_getElem hlt'⟩
  have hym : y ∈ st := List.mem_of_getElem? hy
  have gs4 := gs
  rw [hsv] at gs4
  obtain ⟨b, ofs, a, c, eb, z0, z1, z2, z3⟩ := gs4.get d4 hy
  subst eb
  unfold S69_l2_k3
  simp -implicitDefEqProofs (disch := first | with_reducible exact Nat.ne_of_beq_eq_false rfl | omega) only [upd_ne, k20, hsv, k22, thenK_ret, blockK_ret, retK_ret, resL_tmp, upd_eq, resL_nil1, opH_sv, cf74, opH_su, al49, fa49_0, add_mk, Nat.add_zero, ld28, Nat.zero_add, ix24 (Int.natCast_nonneg i) hlt, Int.toNat_natCast, ld49, z0, Option.some.injEq, z1, z2, exists_eq_left', st49w, cell_set_self, List.getElem?_cons_zero, List.getElem?_cons_succ]
  intro t ht' gt
  try rw [st49w]
  have go5 : GO (h4.set t (.cells #[.int .i64 y.1.1, .int .i64 y.1.2, .slice a y.2.length c] 49 (0, 0))) gp kb w k f := go4.le (le_set ht')
  have mk5 : MK (h4.set t (.cells #[.int .i64 y.1.1, .int .i64 y.1.2, .slice a y.2.length c] 49 (0, 0))) mb w k (seenT ((st.take i).map Prod.fst)) := mk4.le (le_set ht')
  have nm5 : NM (h4.set t (.cells #[.int .i64 y.1.1, .int .i64 y.1.2, .slice a y.2.length c] 49 (0, 0))) mp ((st.take i).flatMap Prod.snd) := by
    obtain ⟨o, L, n1, n2⟩ := nm4
    exact ⟨o, L, le_set ht' _ _ n1, n2⟩
  have bt : (h4.set t (.cells #[.int .i64 y.1.1, .int .i64 y.1.2, .slice a y.2.length c] 49 (0, 0))) t = some (.cells #[.int .i64 y.1.1, .int .i64 y.1.2, .slice a y.2.length c] 49 (0, 0)) := set_self
  have d5 := d4.set (o := .cells #[.int .i64 y.1.1, .int .i64 y.1.2, .slice a y.2.length c] 49 (0, 0)) gt
  generalize h4.set t (.cells #[.int .i64 y.1.1, .int .i64 y.1.2, .slice a y.2.length c] 49 (0, 0)) = h5 at *
  have ct : ∀ j, cellIn G h5 ⟨t, j, none⟩ = _ := fun j => cell_of (look_own bt)
  try simp -implicitDefEqProofs only [k0]
  refine (stacked_spec (c := y.1) (go5.gs (G := G))).mono ?_
  rintro _ h5 ⟨rfl, rfl⟩
  cases hst : (inW w k y.1 && (fAt f y.1 == 0)) with
  | false =>
    try simp -implicitDefEqProofs only [un_not, Bool.not_false, pick_t, HL.cond_true, gd_tf]
    refine no (fun q => ?_) _
    obtain ⟨q1, q2, _⟩ := q.each y hym
    rw [q1, q2] at hst
    cases hst
  | true =>
  have hst' := hst
  simp only [Bool.and_eq_true, beq_iff_eq] at hst'
  obtain ⟨hc', hf0⟩ := hst'
  try simp -implicitDefEqProofs only [k7, un_not, Bool.not_true, pick_f, gd_ff, opH_sv, cf58, fa49_0, add_mk, Nat.add_zero, ld28, Nat.zero_add, ct, List.getElem?_cons_zero, Option.some.injEq, List.getElem?_cons_succ, exists_eq_left']
  refine (num_spec (c := y.1) (go5.gs (G := G))).mono ?_
  rintro _ h5 ⟨rfl, rfl⟩
  obtain ⟨hn, hx, hyk, hlt2⟩ := numI_nat hc'
  obtain ⟨a1, a2, a3, a4⟩ := inW_iff.1 hc'
  have hxy : ((y.1.1.toNat : Int), (y.1.2.toNat : Int)) = y.1 := by rw [Int.toNat_of_nonneg a1, Int.toNat_of_nonneg a3]
  have mg := mk_get (G := G) mk5 (Hp.le.refl _) hx hyk
  rw [show seenT ((st.take i).map Prod.fst) y.1.1.toNat y.1.2.toNat = decide (y.1 ∈ (st.take i).map Prod.fst) by unfold seenT; rw [hxy]] at mg
  have m6 := mk5.put (v := true) hx hyk
  have hn0 := hn
  rw [hn]
  generalize hnn : y.1.2.toNat * w + y.1.1.toNat = n at hn hlt2 mg m6
  try simp -implicitDefEqProofs only [ix101n hlt2, ld4, mg, Option.some.injEq, exists_eq_left']
  by_cases hmem : y.1 ∈ (st.take i).map Prod.fst
  · try simp -implicitDefEqProofs only [decide_eq_true hmem, pick_t, HL.cond_true, gd_tf]
    refine no (fun q => not_nodup (L := st.map Prod.fst) (i := i) (x := y.1) (by rw [List.getElem?_map, hy]; rfl) ?_ q.apart) _
    rw [← List.map_take]; exact hmem
  try simp -implicitDefEqProofs only [decide_eq_false hmem, k2, pick_f, gd_ff, opH_sv, fa49_1, add_mk, Nat.zero_add, ld42, ct, List.getElem?_cons_succ, List.getElem?_cons_zero, Option.some.injEq, exists_eq_left', ln42, bin_gtr]
  by_cases hlen : (y.2.length : Int) ≤ ht
  rotate_left
  · try simp -implicitDefEqProofs only [show decide ((y.2.length : Int) > ht) = true from decide_eq_true (by omega), HL.cond_true]
    exact no (fun q => hlen (q.each y hym).2.2) _
  try simp -implicitDefEqProofs (disch := first | with_reducible exact Nat.ne_of_beq_eq_false rfl | omega) only [show decide ((y.2.length : Int) > ht) = false from decide_eq_false (by omega), HL.cond_false]
  unfold S69_l2_k5
  try simp -implicitDefEqProofs (disch := first | with_reducible exact Nat.ne_of_beq_eq_false rfl | omega) only [upd_ne, upd_eq, k0, opH_sv, fa49_1, add_mk, Nat.zero_add, ld42, opH_su, cf58, fa49_0, Nat.add_zero, ld28, ct, List.getElem?_cons_zero, Option.some.injEq, List.getElem?_cons_succ, exists_eq_left']
  refine (num_spec (c := y.1) (go5.gs (G := G))).mono ?_
  rintro _ h5 ⟨rfl, rfl⟩
  rw [hn]
  try simp -implicitDefEqProofs (disch := first | with_reducible exact Nat.ne_of_beq_eq_false rfl | omega) only [k7, ix101n hlt2]
  rw [store1_eq sz4 rfl mk5 (by rw [bcC.rows_length, gridL_length]; simp [bcC]; exact hlt2)]
  have go6 := go5.other (o := .cells ((bcC.rows (gridL w k (seenT ((st.take i).map Prod.fst)))).set n (.bool true)).toArray 4 (0, 0)) mk5 (by decide) (by decide)
  have nm6 : NM (h5.set mb (.cells ((bcC.rows (gridL w k (seenT ((st.take i).map Prod.fst)))).set n (.bool true)).toArray 4 (0, 0))) mp ((st.take i).flatMap Prod.snd) := by
    obtain ⟨o, L, n1, n2, n3⟩ := nm5
    exact ⟨o, L, by rw [set_other (fun q => by unfold MK at mk5; rw [← q, n1] at mk5; cases mk5; exact absurd n2.cells (by simp [isCells]))]; exact n1, n2, n3⟩
  have bt6 : (h5.set mb (.cells ((bcC.rows (gridL w k (seenT ((st.take i).map Prod.fst)))).set n (.bool true)).toArray 4 (0, 0))) t = _ := (set_other (fun q => by unfold MK at mk5; rw [← q, bt] at mk5; simp at mk5)).trans bt
  have d6 : Dis G (h5.set mb (.cells ((bcC.rows (gridL w k (seenT ((st.take i).map Prod.fst)))).set n (.bool true)).toArray 4 (0, 0))) := d5.set (d5 _ _ mk5)
  generalize h5.set mb (.cells ((bcC.rows (gridL w k (seenT ((st.take i).map Prod.fst)))).set n (.bool true)).toArray 4 (0, 0)) = h6 at *
  have ct6 : ∀ j, cellIn G h6 ⟨t, j, none⟩ = _ := fun j => cell_of (look_own bt6)
  try simp -implicitDefEqProofs (disch := first | with_reducible exact Nat.ne_of_beq_eq_false rfl | omega) only [ct6, List.getElem?_cons_succ, List.getElem?_cons_zero, Option.some.injEq, exists_eq_left', ln42]
  have mk7 : MK h6 mb w k (seenT ((st.take (i + 1)).map Prod.fst)) := by
    rw [take_get hy, List.map_append, List.map_singleton, seen_snoc a1 a3]
    exact m6
  have hft : (st.take (i + 1)).flatMap Prod.snd = (st.take i).flatMap Prod.snd ++ y.2 := by rw [take_get hy, List.flatMap_append]; simp
  refine stacks_in (L := y.2) (B0 := (st.take i).flatMap Prod.snd) _ h6 z3 (by omega) hmo (by simp -implicitDefEqProofs (disch := first | with_reducible exact Nat.ne_of_beq_eq_false rfl | omega) only [upd_ne, k8]) (by simp -implicitDefEqProofs (disch := first | with_reducible exact Nat.ne_of_beq_eq_false rfl | omega) only [upd_ne, upd_eq]) (by simp -implicitDefEqProofs (disch := first | with_reducible exact Nat.ne_of_beq_eq_false rfl | omega) only [upd_ne, upd_eq]) (by simp -implicitDefEqProofs (disch := first | with_reducible exact Nat.ne_of_beq_eq_false rfl | omega) only [upd_eq]) go6 mk7 nm6 d6 hon (fun hw2 hnd2 hl2 r7 h7 j0 j2 j7 j8 j20 j21 j22 go7 mk8 nm8 d7 => ?_) (fun hbad r7 h7 j6 d7 => ?_)
  · simp only [blockK_exit, if_true, blockK_normal, thenK_normal]
    unfold S69_l2_k4
    have j22' : r7 22 = .int .i64 i := j22.trans (by simp -implicitDefEqProofs (disch := first | with_reducible exact Nat.ne_of_beq_eq_false rfl | omega) only [upd_ne, k22])
    simp -implicitDefEqProofs (disch := first | with_reducible exact Nat.ne_of_beq_eq_false rfl | omega) only [j22', thenK_normal, opH_sv, bin_add, wrap_in]
    refine HX (st.length - (i + 1)) _ _ (by omega) ⟨i + 1, rfl, hlt', by simp -implicitDefEqProofs (disch := first | with_reducible exact Nat.ne_of_beq_eq_false rfl | omega) only [upd_ne, j0, k0], by simp -implicitDefEqProofs (disch := first | with_reducible exact Nat.ne_of_beq_eq_false rfl | omega) only [upd_ne, j2, k2], by simp -implicitDefEqProofs (disch := first | with_reducible exact Nat.ne_of_beq_eq_false rfl | omega) only [upd_ne, j7, k7], by simp -implicitDefEqProofs (disch := first | with_reducible exact Nat.ne_of_beq_eq_false rfl | omega) only [upd_ne, j8, k8], by simp -implicitDefEqProofs (disch := first | with_reducible exact Nat.ne_of_beq_eq_false rfl | omega) only [upd_ne, j20, k20], by simp -implicitDefEqProofs (disch := first | with_reducible exact Nat.ne_of_beq_eq_false rfl | omega) only [upd_ne, j21, k21], by simp -implicitDefEqProofs (disch := first | with_reducible exact Nat.ne_of_beq_eq_false rfl | omega) only [upd_eq] <;> rfl, ?_, ?_, ?_, ?_, ?_, go7, mk8, by rw [hft]; exact nm8, d7⟩
    · rw [take_get hy]
      intro s hs
      rcases List.mem_append.1 hs with q | q
      · exact hea s q
      · simp at q; rw [q]; exact ⟨hc', hf0, hlen⟩
    · rw [take_get hy, List.map_append]
      exact List.nodup_append.2 ⟨hap, by simp, fun p hp q hq => by simp at hq; subst hq; exact fun e => hmem (e ▸ hp)⟩
    · rw [hft]
      intro c hc
      rcases List.mem_append.1 hc with q | q
      · exact hnu c q
      · exact hw2 c q
    · rw [hft]; exact hnd2
    · rw [hft]; exact hl2
  · simp -implicitDefEqProofs only [blockK_ret, thenK_ret, retK_ret, resL_tmp, j6, resL_nil1]
    have e : st.flatMap Prod.snd = ((st.take i).flatMap Prod.snd ++ y.2) ++ (st.drop (i + 1)).flatMap Prod.snd := by rw [← hft, ← List.flatMap_append, List.take_append_drop]
    refine no (fun q => hbad ⟨fun c hc => q.nums c (List.mem_flatMap.2 ⟨y, hym, hc⟩), ?_, ?_⟩) _
    · have := q.once
      rw [e] at this
      exact (List.nodup_append.1 this).1
    · have := q.most
      rw [e, List.length_append] at this
      omega

end Go.Proofs.YtangejiigopdaaaDoor
end

section
/- The program's grid of a config. -/
set_option linter.unusedSimpArgs false
set_option linter.unusedVariables false
set_option maxRecDepth 100000
namespace Go.Proofs.YtangejiigopdaaaDoor
open Go Go.HL

def wC (C : Conf) : Nat := C.w.toNat
def kC (C : Conf) : Nat := C.h.toNat
def f0C (C : Conf) : Nat → Nat → Int := kd (C.bl ++ C.po) C.bl.length
def f3C (C : Conf) : Nat → Nat → Int := f2 (wC C) (kC C) (f0C C) (C.ro.flatMap cellsP)

structure MadeOk (C : Conf) : Prop where
  six : ∀ n ∈ [C.un, C.ac, C.sp, C.tu, C.ho, C.re], withinB n 1 1000 = true
  ht : withinB C.ht 1 8 = true
  qu : withinB C.qu 1 16 = true
  bu : withinB C.bu 1 1048576 = true
  laid : LaidOk C
  rob : RobotsOk (wC C) (kC C) (f0C C) C.ro
  sta : StacksOk (wC C) (kC C) (f3C C) C.ht C.st

def MadeR (G h : Hp) (C : Conf) (u : Value) (h' : Hp) : Prop := h.le h' ∧ Dis G h' ∧
  ((MadeOk C ∧ ∃ ga gp kb, u = .pointer (some ⟨gp, 0, none⟩) ∧ GO ga gp kb (wC C) (kC C) (f3C C) ∧ Sep [ga, h] h') ∨ (¬ MadeOk C ∧ u = .pointer none))

theorem CA.gstk {G h h0 a : Hp} {C : Conf} {ab : Option Addr} {cb : Nat} {ap : Option Addr} {cp : Nat} {ar : Option Addr} {cr : Nat} {az : Option Addr} {cs : Nat} (ca : CA G h0 C ab cb ap cp ar cr az cs) (s : Sep [a, h0] h) (d : Dis G h) : GStk (under G h a) (.slice az C.st.length cs) C.st := by
  obtain ⟨raw, h1, h2⟩ := ca.st
  refine ⟨raw, h1.gnd s d, ?_, fun i r t hr ht => ?_⟩
  · obtain ⟨sa, c, e⟩ := h1.len
    simp only [Value.slice.injEq] at e
    exact e.2.1.symm
  · obtain ⟨k1, k2, k3⟩ := h2 i r t hr ht
    exact ⟨k1, k2, k3.gnd s d⟩

set_option maxHeartbeats 2000000 in
theorem made_spec {G h : Hp} {v : Value} {C : Conf} (hv : CV G h v C) (st : Steps G) (hp : ∀ p ∈ C.ro, PB p) (hsl : C.st.length ≤ 100000000000000) : HCalls Tryd.prog G 53 #[v] h (MadeR G h C) := by
  obtain ⟨ab, cb, ap, cp, ar, cr, az, cs, rfl, ca⟩ := hv
  refine HCalls.assume fun d => enter53 (by simp) ?_
  unfold S53
  simp -implicitDefEqProofs only [regs0, opH_sv, box_new, cells_agg, fa26_13, add_mk, Nat.zero_add, ld3, fa26_11, fa26_10, fa26_9, fa26_8, fa26_7, cell_set_self, List.getElem?_cons_succ, List.getElem?_cons_zero, Option.some.injEq, exists_eq_left', bs42_6_0_1_2_3_4_5, ln42]
  intro x hx gx
  generalize e1 : Hp.set h x _ = h1
  obtain ⟨l1, d1, b1⟩ := boxed e1 hx d gx
  have cx : ∀ j, cellIn G h1 ⟨x, j, none⟩ = _ := fun j => cell_of (look_own b1)
  try simp -implicitDefEqProofs only [opH_sv, opH_su, pureW_sv, opH_nil, pureW_nil, pick_t, pick_f, pick_tp, pick_fp, gd_tt, gd_ft, gd_tf, gd_ff, box_new, regs0, regs1, regs2, regs3, regs4, regs5, regs6, cells_agg, cells_int, cells_bool, cells_ptr, cells_slice, cells_string, cells_func, cells_nilFunc, cells_map, retK_ret, retK_normal, resL_tmp, resL_cell, resL_nil0, resL_nil1, resL_nil2, resL_nil3, resC_ptr, ex0, ex1, ex2, ex0p, ex1p, ex2p, HL.cond_true, HL.cond_false, thenK_normal, thenK_ret, thenK_exit, blockK_normal, blockK_ret, blockK_exit, scopeK_normal, scopeK_ret, scopeK_exit, wpH_pure, bin_add, bin_sub, bin_mul, bin_lss, bin_leq, bin_gtr, bin_geq, bin_quo, bin_rem, bin_quop, bin_remp, wrap_in, bin_addp, bin_subp, bin_mulp, bin_lssp, bin_leqp, bin_gtrp, bin_geqp, un_not, un_notp, un_neg, eq_int, ne_int, eq_intp, ne_intp, callV_fn, add_mk, upd_eq, upd_ne, cell_set_self, Nat.zero_add, Nat.add_zero, Option.some.injEq, exists_eq_left', List.getElem?_cons_succ, List.getElem?_cons_zero, true_and, and_true, bne_self_eq_false, beq_self_eq_true, Bool.not_true, Bool.not_false, Bool.and_true, Bool.and_self, Bool.and_false, Bool.true_and, List.length_cons, List.length_nil, ne_eq, not_false_eq_true, Nat.reduceAdd, Nat.reduceMul, if_true, if_false, oneCell_int, oneCell_bool, oneCell_ptr, oneCell_slice, oneCell_string, oneCell_func, oneCell_map, Int.toNat_natCast, List.set_cons_zero, List.set_cons_succ, Nat.lt_irrefl, Nat.zero_lt_succ, Nat.succ_lt_succ_iff, fa26_0, fa26_0p, fa26_1, fa26_1p, fa26_10, fa26_10p, fa26_11, fa26_11p, fa26_12, fa26_12p, fa26_13, fa26_13p, fa26_14, fa26_14p, fa26_15, fa26_15p, fa26_2, fa26_2p, fa26_3, fa26_3p, fa26_4, fa26_4p, fa26_5, fa26_5p, fa26_6, fa26_6p, fa26_7, fa26_7p, fa26_8, fa26_8p, fa26_9, fa26_9p, fa28_0, fa28_0p, fa28_1, fa28_1p, fa45_0, fa45_0p, fa45_1, fa45_1p, fa45_2, fa45_2p, fa45_3, fa45_3p, fa45_4, fa45_4p, fa45_5, fa45_5p, fa45_6, fa45_6p, fa49_0, fa49_0p, fa49_1, fa49_1p, fa74_0, fa74_0p, fa74_1, fa74_1p, fa74_2, fa74_2p, fa74_3, fa74_3p, fa85_0, fa85_0p, fa85_1, fa85_1p, fa93_0, fa93_0p, fa93_1, fa93_1p, fa93_2, fa93_2p, ld3, ld3p, ld4, ld4p, ld22, ld22p, ld23, ld23p, ld24, ld24p, ld26, ld26p, ld28, ld28p, ld42, ld42p, ld45, ld45p, ld49, ld49p, ld58, ld58p, ld69, ld69p, ld72, ld72p, ld85, ld85p, st3s, st4s, st22s, st23s, st24s, st26w, st28w, st42s, st45w, st49w, st85w, ix22, ix22p, ix23, ix23p, ix24, ix24p, ix31, ix31p, ix42, ix42p, ix104, ix104p, ln22, ln22p, ln23, ln23p, ln24, ln24p, ln31, ln31p, ln42, ln42p, al4, al22, al26, al28, al42, al49, al85, cf10, cf11, cf12, cf13, cf14, cf15, cf16, cf17, cf18, cf19, cf20, cf21, cf22, cf23, cf24, cf25, cf26, cf27, cf28, cf29, cf30, cf31, cf32, cf33, cf34, cf35, cf36, cf37, cf38, cf39, cf40, cf41, cf42, cf43, cf44, cf45, cf46, cf47, cf48, cf49, cf50, cf51, cf52, cf53, cf54, cf55, cf56, cf57, cf58, cf59, cf60, cf61, cf62, cf63, cf64, cf65, cf66, cf67, cf68, cf69, cf70, cf71, cf72, cf73, cf74, cf75, bd26_0_1_2_7_8_9_10_11_12_13_14_4_15, bd26_0_1_2_7_8_9_10_11_12_13_14_4_15p, bd28_, bd28_p, bd28_0, bd28_0p, bd28_0_1, bd28_0_1p, bd45_1_3_4_5_6, bd45_1_3_4_5_6p, bd49_0_1, bd49_0_1p, bd49_1, bd49_1p, bd74_0_1_2_3, bd74_0_1_2_3p, bd85_0, bd85_0p, bd85_0_1, bd85_0_1p, bd93_0_1_2, bd93_0_1_2p, bd94_0_1_2_3, bd94_0_1_2_3p, bs42_1_0, bs22_1_0, bs24_1_0, bs42_3_0_1_2, bs31_1_0, bs22_2_0_1, bs42_6_0_1_2_3_4_5, bs42_0_, eq4, eq4p, eq28, eq28p, eq42n, eq42np, eq42s, eq42sp, eq58n, eq58np, eq58s, eq58sp, eq63n, eq63np, eq63s, eq63sp, ne28, ne28p, ne45, ne45p, cx]
  intro nb hnb gnb
  generalize e2 : Hp.set h1 nb _ = h2
  obtain ⟨l2, d2, b2⟩ := boxed e2 hnb d1 gnb
  have L2 := l1.trans l2
  have cx2 : ∀ j, cellIn G h2 ⟨x, j, none⟩ = _ := fun j => cell_of (look_own (l2 _ _ b1))
  have sv : Sees icC G h2 (.slice (some ⟨nb, 0, none⟩) 6 6) [C.un, C.ac, C.sp, C.tu, C.ho, C.re] := Sees.row (c := icC) (L := [C.un, C.ac, C.sp, C.tu, C.ho, C.re]) b2 rfl (Nat.le_refl _)
  have no : ∀ {hh : Hp}, ¬ MadeOk C → h.le hh → Dis G hh → MadeR G h C (.pointer none) hh := fun q l d => ⟨l, d, .inr ⟨q, rfl⟩⟩
  try simp -implicitDefEqProofs only [opH_sv, opH_su, pureW_sv, opH_nil, pureW_nil, pick_t, pick_f, pick_tp, pick_fp, gd_tt, gd_ft, gd_tf, gd_ff, box_new, regs0, regs1, regs2, regs3, regs4, regs5, regs6, cells_agg, cells_int, cells_bool, cells_ptr, cells_slice, cells_string, cells_func, cells_nilFunc, cells_map, retK_ret, retK_normal, resL_tmp, resL_cell, resL_nil0, resL_nil1, resL_nil2, resL_nil3, resC_ptr, ex0, ex1, ex2, ex0p, ex1p, ex2p, HL.cond_true, HL.cond_false, thenK_normal, thenK_ret, thenK_exit, blockK_normal, blockK_ret, blockK_exit, scopeK_normal, scopeK_ret, scopeK_exit, wpH_pure, bin_add, bin_sub, bin_mul, bin_lss, bin_leq, bin_gtr, bin_geq, bin_quo, bin_rem, bin_quop, bin_remp, wrap_in, bin_addp, bin_subp, bin_mulp, bin_lssp, bin_leqp, bin_gtrp, bin_geqp, un_not, un_notp, un_neg, eq_int, ne_int, eq_intp, ne_intp, callV_fn, add_mk, upd_eq, upd_ne, cell_set_self, Nat.zero_add, Nat.add_zero, Option.some.injEq, exists_eq_left', List.getElem?_cons_succ, List.getElem?_cons_zero, true_and, and_true, bne_self_eq_false, beq_self_eq_true, Bool.not_true, Bool.not_false, Bool.and_true, Bool.and_self, Bool.and_false, Bool.true_and, List.length_cons, List.length_nil, ne_eq, not_false_eq_true, Nat.reduceAdd, Nat.reduceMul, if_true, if_false, oneCell_int, oneCell_bool, oneCell_ptr, oneCell_slice, oneCell_string, oneCell_func, oneCell_map, Int.toNat_natCast, List.set_cons_zero, List.set_cons_succ, Nat.lt_irrefl, Nat.zero_lt_succ, Nat.succ_lt_succ_iff, fa26_0, fa26_0p, fa26_1, fa26_1p, fa26_10, fa26_10p, fa26_11, fa26_11p, fa26_12, fa26_12p, fa26_13, fa26_13p, fa26_14, fa26_14p, fa26_15, fa26_15p, fa26_2, fa26_2p, fa26_3, fa26_3p, fa26_4, fa26_4p, fa26_5, fa26_5p, fa26_6, fa26_6p, fa26_7, fa26_7p, fa26_8, fa26_8p, fa26_9, fa26_9p, fa28_0, fa28_0p, fa28_1, fa28_1p, fa45_0, fa45_0p, fa45_1, fa45_1p, fa45_2, fa45_2p, fa45_3, fa45_3p, fa45_4, fa45_4p, fa45_5, fa45_5p, fa45_6, fa45_6p, fa49_0, fa49_0p, fa49_1, fa49_1p, fa74_0, fa74_0p, fa74_1, fa74_1p, fa74_2, fa74_2p, fa74_3, fa74_3p, fa85_0, fa85_0p, fa85_1, fa85_1p, fa93_0, fa93_0p, fa93_1, fa93_1p, fa93_2, fa93_2p, ld3, ld3p, ld4, ld4p, ld22, ld22p, ld23, ld23p, ld24, ld24p, ld26, ld26p, ld28, ld28p, ld42, ld42p, ld45, ld45p, ld49, ld49p, ld58, ld58p, ld69, ld69p, ld72, ld72p, ld85, ld85p, st3s, st4s, st22s, st23s, st24s, st26w, st28w, st42s, st45w, st49w, st85w, ix22, ix22p, ix23, ix23p, ix24, ix24p, ix31, ix31p, ix42, ix42p, ix104, ix104p, ln22, ln22p, ln23, ln23p, ln24, ln24p, ln31, ln31p, ln42, ln42p, al4, al22, al26, al28, al42, al49, al85, cf10, cf11, cf12, cf13, cf14, cf15, cf16, cf17, cf18, cf19, cf20, cf21, cf22, cf23, cf24, cf25, cf26, cf27, cf28, cf29, cf30, cf31, cf32, cf33, cf34, cf35, cf36, cf37, cf38, cf39, cf40, cf41, cf42, cf43, cf44, cf45, cf46, cf47, cf48, cf49, cf50, cf51, cf52, cf53, cf54, cf55, cf56, cf57, cf58, cf59, cf60, cf61, cf62, cf63, cf64, cf65, cf66, cf67, cf68, cf69, cf70, cf71, cf72, cf73, cf74, cf75, bd26_0_1_2_7_8_9_10_11_12_13_14_4_15, bd26_0_1_2_7_8_9_10_11_12_13_14_4_15p, bd28_, bd28_p, bd28_0, bd28_0p, bd28_0_1, bd28_0_1p, bd45_1_3_4_5_6, bd45_1_3_4_5_6p, bd49_0_1, bd49_0_1p, bd49_1, bd49_1p, bd74_0_1_2_3, bd74_0_1_2_3p, bd85_0, bd85_0p, bd85_0_1, bd85_0_1p, bd93_0_1_2, bd93_0_1_2p, bd94_0_1_2_3, bd94_0_1_2_3p, bs42_1_0, bs22_1_0, bs24_1_0, bs42_3_0_1_2, bs31_1_0, bs22_2_0_1, bs42_6_0_1_2_3_4_5, bs42_0_, eq4, eq4p, eq28, eq28p, eq42n, eq42np, eq42s, eq42sp, eq58n, eq58np, eq58s, eq58sp, eq63n, eq63np, eq63s, eq63sp, ne28, ne28p, ne45, ne45p]
  refine loop_I (fun m r h3 => ∃ j : Nat, m = 6 - j ∧ j ≤ 6 ∧ r 1 = .pointer (some ⟨x, 0, none⟩) ∧ r 19 = .slice (some ⟨nb, 0, none⟩) 6 6 ∧ r 20 = .int .i64 6 ∧ r 21 = .int .i64 j ∧ h3 = h2 ∧ ∀ n ∈ [C.un, C.ac, C.sp, C.tu, C.ho, C.re].take j, withinB n 1 1000 = true) ?_
    (m := 6) ⟨0, rfl, by decide, by simp -implicitDefEqProofs (disch := first | with_reducible exact Nat.ne_of_beq_eq_false rfl | omega) only [upd_ne, upd_eq], by simp -implicitDefEqProofs (disch := first | with_reducible exact Nat.ne_of_beq_eq_false rfl | omega) only [upd_ne, upd_eq], by simp -implicitDefEqProofs (disch := first | with_reducible exact Nat.ne_of_beq_eq_false rfl | omega) only [upd_ne, upd_eq] <;> rfl, by simp -implicitDefEqProofs only [upd_eq] <;> rfl, rfl, by simp⟩
  rintro m r h3 ⟨j, rfl, hj, g1, g19, g20, g21, rfl, hw⟩ X HX
  unfold S53_l4
  simp -implicitDefEqProofs only [g21, g20, thenK_exit, blockK_exit, thenK_normal, if_true, opH_sv, bin_lss]
  refine cond_dec (fun hlt => ?_) (fun hge => ?_)
  · have hlt' : j < 6 := by omega
    obtain ⟨y, hy⟩ : ∃ n, [C.un, C.ac, C.sp, C.tu, C.ho, C.re][j]? = some n := ⟨_, List.getElem?_eq_getElem (by simpa using hlt')⟩
    obtain ⟨b, o, eb, z0⟩ := Sees.int sv hy
    cases eb
    rw [Nat.zero_add] at z0
    unfold S53_l4_k5
    simp -implicitDefEqProofs (disch := first | with_reducible exact Nat.ne_of_beq_eq_false rfl | omega) only [upd_ne, g19, g21, thenK_ret, blockK_ret, retK_ret, resL_tmp, upd_eq, resL_nil1, opH_sv, cf56, ix42 (Int.natCast_nonneg j) (show (j : Int) < (6 : Nat) by omega), Int.toNat_natCast, Nat.mul_one, add_mk, Nat.zero_add, ld3, z0, Option.some.injEq, exists_eq_left']
    refine (within_spec (n := y) (a := 1) (b := 1000)).mono ?_
    rintro _ h3 ⟨rfl, rfl⟩
    cases hb : withinB y 1 1000 with
    | false =>
      try simp -implicitDefEqProofs only [un_not, Bool.not_false, HL.cond_true]
      exact no (fun q => by have := q.six y (List.mem_of_getElem? hy); rw [hb] at this; cases this) L2 d2
    | true =>
      try simp -implicitDefEqProofs only [un_not, Bool.not_true, HL.cond_false]
      unfold S53_l4_k6
      simp -implicitDefEqProofs (disch := first | with_reducible exact Nat.ne_of_beq_eq_false rfl | omega) only [upd_ne, g21, thenK_normal, opH_sv, bin_add, wrap_in]
      refine HX (6 - (j + 1)) _ _ (by omega) ⟨j + 1, rfl, hlt', by simp -implicitDefEqProofs (disch := first | with_reducible exact Nat.ne_of_beq_eq_false rfl | omega) only [upd_ne, g1], by simp -implicitDefEqProofs (disch := first | with_reducible exact Nat.ne_of_beq_eq_false rfl | omega) only [upd_ne, g19], by simp -implicitDefEqProofs (disch := first | with_reducible exact Nat.ne_of_beq_eq_false rfl | omega) only [upd_ne, g20], by simp -implicitDefEqProofs (disch := first | with_reducible exact Nat.ne_of_beq_eq_false rfl | omega) only [upd_eq] <;> rfl, rfl, ?_⟩
      rw [take_get hy]
      intro c hc
      rcases List.mem_append.1 hc with q | q
      · exact hw c q
      · simp at q; rw [q]; exact hb
  obtain rfl : j = 6 := by omega
  rw [List.take_of_length_le (by simp)] at hw
  try simp -implicitDefEqProofs only [opH_sv, opH_su, pureW_sv, opH_nil, pureW_nil, pick_t, pick_f, pick_tp, pick_fp, gd_tt, gd_ft, gd_tf, gd_ff, box_new, regs0, regs1, regs2, regs3, regs4, regs5, regs6, cells_agg, cells_int, cells_bool, cells_ptr, cells_slice, cells_string, cells_func, cells_nilFunc, cells_map, retK_ret, retK_normal, resL_tmp, resL_cell, resL_nil0, resL_nil1, resL_nil2, resL_nil3, resC_ptr, ex0, ex1, ex2, ex0p, ex1p, ex2p, HL.cond_true, HL.cond_false, thenK_normal, thenK_ret, thenK_exit, blockK_normal, blockK_ret, blockK_exit, scopeK_normal, scopeK_ret, scopeK_exit, wpH_pure, bin_add, bin_sub, bin_mul, bin_lss, bin_leq, bin_gtr, bin_geq, bin_quo, bin_rem, bin_quop, bin_remp, wrap_in, bin_addp, bin_subp, bin_mulp, bin_lssp, bin_leqp, bin_gtrp, bin_geqp, un_not, un_notp, un_neg, eq_int, ne_int, eq_intp, ne_intp, callV_fn, add_mk, upd_eq, upd_ne, cell_set_self, Nat.zero_add, Nat.add_zero, Option.some.injEq, exists_eq_left', List.getElem?_cons_succ, List.getElem?_cons_zero, true_and, and_true, bne_self_eq_false, beq_self_eq_true, Bool.not_true, Bool.not_false, Bool.and_true, Bool.and_self, Bool.and_false, Bool.true_and, List.length_cons, List.length_nil, ne_eq, not_false_eq_true, Nat.reduceAdd, Nat.reduceMul, if_true, if_false, oneCell_int, oneCell_bool, oneCell_ptr, oneCell_slice, oneCell_string, oneCell_func, oneCell_map, Int.toNat_natCast, List.set_cons_zero, List.set_cons_succ, Nat.lt_irrefl, Nat.zero_lt_succ, Nat.succ_lt_succ_iff, fa26_0, fa26_0p, fa26_1, fa26_1p, fa26_10, fa26_10p, fa26_11, fa26_11p, fa26_12, fa26_12p, fa26_13, fa26_13p, fa26_14, fa26_14p, fa26_15, fa26_15p, fa26_2, fa26_2p, fa26_3, fa26_3p, fa26_4, fa26_4p, fa26_5, fa26_5p, fa26_6, fa26_6p, fa26_7, fa26_7p, fa26_8, fa26_8p, fa26_9, fa26_9p, fa28_0, fa28_0p, fa28_1, fa28_1p, fa45_0, fa45_0p, fa45_1, fa45_1p, fa45_2, fa45_2p, fa45_3, fa45_3p, fa45_4, fa45_4p, fa45_5, fa45_5p, fa45_6, fa45_6p, fa49_0, fa49_0p, fa49_1, fa49_1p, fa74_0, fa74_0p, fa74_1, fa74_1p, fa74_2, fa74_2p, fa74_3, fa74_3p, fa85_0, fa85_0p, fa85_1, fa85_1p, fa93_0, fa93_0p, fa93_1, fa93_1p, fa93_2, fa93_2p, ld3, ld3p, ld4, ld4p, ld22, ld22p, ld23, ld23p, ld24, ld24p, ld26, ld26p, ld28, ld28p, ld42, ld42p, ld45, ld45p, ld49, ld49p, ld58, ld58p, ld69, ld69p, ld72, ld72p, ld85, ld85p, st3s, st4s, st22s, st23s, st24s, st26w, st28w, st42s, st45w, st49w, st85w, ix22, ix22p, ix23, ix23p, ix24, ix24p, ix31, ix31p, ix42, ix42p, ix104, ix104p, ln22, ln22p, ln23, ln23p, ln24, ln24p, ln31, ln31p, ln42, ln42p, al4, al22, al26, al28, al42, al49, al85, cf10, cf11, cf12, cf13, cf14, cf15, cf16, cf17, cf18, cf19, cf20, cf21, cf22, cf23, cf24, cf25, cf26, cf27, cf28, cf29, cf30, cf31, cf32, cf33, cf34, cf35, cf36, cf37, cf38, cf39, cf40, cf41, cf42, cf43, cf44, cf45, cf46, cf47, cf48, cf49, cf50, cf51, cf52, cf53, cf54, cf55, cf56, cf57, cf58, cf59, cf60, cf61, cf62, cf63, cf64, cf65, cf66, cf67, cf68, cf69, cf70, cf71, cf72, cf73, cf74, cf75, bd26_0_1_2_7_8_9_10_11_12_13_14_4_15, bd26_0_1_2_7_8_9_10_11_12_13_14_4_15p, bd28_, bd28_p, bd28_0, bd28_0p, bd28_0_1, bd28_0_1p, bd45_1_3_4_5_6, bd45_1_3_4_5_6p, bd49_0_1, bd49_0_1p, bd49_1, bd49_1p, bd74_0_1_2_3, bd74_0_1_2_3p, bd85_0, bd85_0p, bd85_0_1, bd85_0_1p, bd93_0_1_2, bd93_0_1_2p, bd94_0_1_2_3, bd94_0_1_2_3p, bs42_1_0, bs22_1_0, bs24_1_0, bs42_3_0_1_2, bs31_1_0, bs22_2_0_1, bs42_6_0_1_2_3_4_5, bs42_0_, eq4, eq4p, eq28, eq28p, eq42n, eq42np, eq42s, eq42sp, eq58n, eq58np, eq58s, eq58sp, eq63n, eq63np, eq63s, eq63sp, ne28, ne28p, ne45, ne45p]
  unfold S53_k1
  try simp -implicitDefEqProofs (disch := first | with_reducible exact Nat.ne_of_beq_eq_false rfl | omega) only [upd_ne, g1, retK_ret, resL_tmp, upd_eq, resL_nil1, opH_sv, cf56, fa26_2, add_mk, Nat.zero_add, ld3, cx2, List.getElem?_cons_succ, List.getElem?_cons_zero, Option.some.injEq, exists_eq_left']
  refine (within_spec (n := C.ht) (a := 1) (b := 8)).mono ?_
  rintro _ h3 ⟨rfl, rfl⟩
  cases hht : withinB C.ht 1 8 with
  | false => try simp -implicitDefEqProofs only [un_not, Bool.not_false, pick_t, HL.cond_true, gd_tf]; exact no (fun q => absurd (q.ht.symm.trans hht) (by decide)) L2 d2
  | true =>
  try simp -implicitDefEqProofs only [un_not, Bool.not_true, pick_f, gd_ff, opH_sv, cf56, fa26_12, add_mk, Nat.zero_add, ld3, cx2, List.getElem?_cons_succ, List.getElem?_cons_zero, Option.some.injEq, exists_eq_left']
  refine (within_spec (n := C.qu) (a := 1) (b := 16)).mono ?_
  rintro _ h3 ⟨rfl, rfl⟩
  cases hqu : withinB C.qu 1 16 with
  | false => try simp -implicitDefEqProofs only [un_not, Bool.not_false, pick_t, HL.cond_true, gd_tf]; exact no (fun q => absurd (q.qu.symm.trans hqu) (by decide)) L2 d2
  | true =>
  try simp -implicitDefEqProofs only [un_not, Bool.not_true, pick_f, gd_ff, opH_sv, cf56, fa26_14, add_mk, Nat.zero_add, ld3, cx2, List.getElem?_cons_succ, List.getElem?_cons_zero, Option.some.injEq, exists_eq_left']
  refine (within_spec (n := C.bu) (a := 1) (b := 1048576)).mono ?_
  rintro _ h3 ⟨rfl, rfl⟩
  cases hbu : withinB C.bu 1 1048576 with
  | false => try simp -implicitDefEqProofs only [un_not, Bool.not_false, HL.cond_true]; exact no (fun q => absurd (q.bu.symm.trans hbu) (by decide)) L2 d2
  | true =>
  try simp -implicitDefEqProofs (disch := first | with_reducible exact Nat.ne_of_beq_eq_false rfl | omega) only [un_not, Bool.not_true, HL.cond_false]
  unfold S53_k2
  try simp -implicitDefEqProofs (disch := first | with_reducible exact Nat.ne_of_beq_eq_false rfl | omega) only [upd_ne, g1, retK_ret, resL_tmp, upd_eq, resL_nil1, opH_sv, cf67, ld26, add_mk, Nat.add_zero, cx2, List.getElem?_cons_zero, Option.some.injEq, Nat.zero_add, List.getElem?_cons_succ, exists_eq_left']
  have ca2 := ca.up L2 d2
  refine (laid_spec ca2.cv).mono ?_
  rintro _ h4 ⟨l4, d4, ⟨hl, ga, gp, kb, rfl, go, s4⟩ | ⟨hl, rfl⟩⟩
  rotate_left
  · try simp -implicitDefEqProofs only [ex1, un_not, Bool.not_false, pick_t, HL.cond_true, gd_tf, ex0]
    exact no (fun q => hl q.laid) (L2.trans l4) d4
  have cx4 : ∀ j, cellIn G h4 ⟨x, j, none⟩ = _ := fun j => cell_of (look_own (l4 _ _ (l2 _ _ b1)))
  try simp -implicitDefEqProofs only [ex1, un_not, Bool.not_true, pick_f, gd_ff, opH_sv, cf68, fa26_5, add_mk, Nat.zero_add, ld23, ex0, cx4, List.getElem?_cons_succ, List.getElem?_cons_zero, Option.some.injEq, exists_eq_left']
  refine (s4.on (robots_spec (w := wC C) (k := kC C) (f := f0C C) go (st.under d4 s4.hd) (ca2.ro.gnd s4 d4) hp)).mono ?_
  rintro _ h5 ⟨ga5, ⟨hr, rfl, go5⟩ | ⟨hr, rfl⟩, s5, d5⟩
  rotate_left
  · try simp -implicitDefEqProofs only [un_not, Bool.not_false, pick_t, HL.cond_true, gd_tf]
    exact no (fun q => hr q.rob) (L2.trans (s5.in 1 rfl)) d5
  have cx5 : ∀ j, cellIn G h5 ⟨x, j, none⟩ = _ := fun j => cell_of (look_own (s5.in 1 rfl _ _ (l2 _ _ b1)))
  try simp -implicitDefEqProofs only [un_not, Bool.not_true, pick_f, gd_ff, opH_sv, cf69, fa26_2, add_mk, Nat.zero_add, ld3, fa26_6, ld24, cx5, List.getElem?_cons_succ, List.getElem?_cons_zero, Option.some.injEq, exists_eq_left']
  have hht8 : C.ht ≤ 8 := by unfold withinB at hht; simp only [Bool.and_eq_true, decide_eq_true_eq] at hht; exact hht.2
  refine (s5.on (stacks_spec (st := C.st) go5 (ca2.gstk s5 d5) hht8 hsl)).mono ?_
  rintro _ h6 ⟨ga6, ⟨hs, rfl, go6⟩ | ⟨hs, rfl⟩, s6, d6⟩
  rotate_left
  · try simp -implicitDefEqProofs only [un_not, Bool.not_false, HL.cond_true]
    exact no (fun q => hs q.sta) (L2.trans (s6.in 1 rfl)) d6
  try simp -implicitDefEqProofs only [un_not, Bool.not_true, HL.cond_false]
  unfold S53_k3
  try simp -implicitDefEqProofs only [upd_ne, upd_eq, retK_ret, resL_tmp, resL_nil1]
  exact ⟨L2.trans (s6.in 1 rfl), d6, .inl ⟨⟨hw, hht, hqu, hbu, hl, hr, hs⟩, ga6, gp, kb, rfl, go6, (s6.swap.cut L2).swap⟩⟩

end Go.Proofs.YtangejiigopdaaaDoor
end

section
/- New and May of the program's grid. -/
set_option linter.unusedSimpArgs false
set_option linter.unusedVariables false
set_option maxRecDepth 100000
namespace Go.Proofs.YtangejiigopdaaaDoor
open Go Go.HL

def NewR (G h : Hp) (C : Conf) (u : Value) (h' : Hp) : Prop := h.le h' ∧ Dis G h' ∧
  ((MadeOk C ∧ ∃ ga gp kb, u = .tuple #[.pointer (some ⟨gp, 0, none⟩), .int .i64 0] ∧ GO ga gp kb (wC C) (kC C) (f3C C) ∧ Sep [ga, h] h') ∨ (¬ MadeOk C ∧ u = .tuple #[.pointer none, .int .i64 5]))

theorem new_spec {G h : Hp} {v : Value} {C : Conf} (hv : CV G h v C) (st : Steps G) (hp : ∀ p ∈ C.ro, PB p) (hsl : C.st.length ≤ 100000000000000) : HCalls Tryd.prog G 28 #[v] h (NewR G h C) := by
  have hv0 := hv
  obtain ⟨ab, cb, ap, cp, ar, cr, az, cs, rfl, ca⟩ := hv
  refine HCalls.assume fun d => enter28 (by simp) ?_
  unfold S28
  simp -implicitDefEqProofs only [regs0, retK_ret, resL_tmp, upd_ne, upd_eq, resL_nil2, cf53, opH_sv, box_new, cells_agg, ld26, add_mk, Nat.add_zero, cell_set_self, List.getElem?_cons_zero, Option.some.injEq, Nat.zero_add, List.getElem?_cons_succ, exists_eq_left']
  intro x hx gx
  generalize e1 : Hp.set h x _ = h1
  obtain ⟨l1, d1, b1⟩ := boxed e1 hx d gx
  have cx : ∀ j, cellIn G h1 ⟨x, j, none⟩ = _ := fun j => cell_of (look_own b1)
  try simp -implicitDefEqProofs only [opH_sv, opH_su, pureW_sv, opH_nil, pureW_nil, pick_t, pick_f, pick_tp, pick_fp, gd_tt, gd_ft, gd_tf, gd_ff, box_new, regs0, regs1, regs2, regs3, regs4, regs5, regs6, cells_agg, cells_int, cells_bool, cells_ptr, cells_slice, cells_string, cells_func, cells_nilFunc, cells_map, retK_ret, retK_normal, resL_tmp, resL_cell, resL_nil0, resL_nil1, resL_nil2, resL_nil3, resC_ptr, ex0, ex1, ex2, ex0p, ex1p, ex2p, HL.cond_true, HL.cond_false, thenK_normal, thenK_ret, thenK_exit, blockK_normal, blockK_ret, blockK_exit, scopeK_normal, scopeK_ret, scopeK_exit, wpH_pure, bin_add, bin_sub, bin_mul, bin_lss, bin_leq, bin_gtr, bin_geq, bin_quo, bin_rem, bin_quop, bin_remp, wrap_in, bin_addp, bin_subp, bin_mulp, bin_lssp, bin_leqp, bin_gtrp, bin_geqp, un_not, un_notp, un_neg, eq_int, ne_int, eq_intp, ne_intp, callV_fn, add_mk, upd_eq, upd_ne, cell_set_self, Nat.zero_add, Nat.add_zero, Option.some.injEq, exists_eq_left', List.getElem?_cons_succ, List.getElem?_cons_zero, true_and, and_true, bne_self_eq_false, beq_self_eq_true, Bool.not_true, Bool.not_false, Bool.and_true, Bool.and_self, Bool.and_false, Bool.true_and, List.length_cons, List.length_nil, ne_eq, not_false_eq_true, Nat.reduceAdd, Nat.reduceMul, if_true, if_false, oneCell_int, oneCell_bool, oneCell_ptr, oneCell_slice, oneCell_string, oneCell_func, oneCell_map, Int.toNat_natCast, List.set_cons_zero, List.set_cons_succ, Nat.lt_irrefl, Nat.zero_lt_succ, Nat.succ_lt_succ_iff, fa26_0, fa26_0p, fa26_1, fa26_1p, fa26_10, fa26_10p, fa26_11, fa26_11p, fa26_12, fa26_12p, fa26_13, fa26_13p, fa26_14, fa26_14p, fa26_15, fa26_15p, fa26_2, fa26_2p, fa26_3, fa26_3p, fa26_4, fa26_4p, fa26_5, fa26_5p, fa26_6, fa26_6p, fa26_7, fa26_7p, fa26_8, fa26_8p, fa26_9, fa26_9p, fa28_0, fa28_0p, fa28_1, fa28_1p, fa45_0, fa45_0p, fa45_1, fa45_1p, fa45_2, fa45_2p, fa45_3, fa45_3p, fa45_4, fa45_4p, fa45_5, fa45_5p, fa45_6, fa45_6p, fa49_0, fa49_0p, fa49_1, fa49_1p, fa74_0, fa74_0p, fa74_1, fa74_1p, fa74_2, fa74_2p, fa74_3, fa74_3p, fa85_0, fa85_0p, fa85_1, fa85_1p, fa93_0, fa93_0p, fa93_1, fa93_1p, fa93_2, fa93_2p, ld3, ld3p, ld4, ld4p, ld22, ld22p, ld23, ld23p, ld24, ld24p, ld26, ld26p, ld28, ld28p, ld42, ld42p, ld45, ld45p, ld49, ld49p, ld58, ld58p, ld69, ld69p, ld72, ld72p, ld85, ld85p, st3s, st4s, st22s, st23s, st24s, st26w, st28w, st42s, st45w, st49w, st85w, ix22, ix22p, ix23, ix23p, ix24, ix24p, ix31, ix31p, ix42, ix42p, ix104, ix104p, ln22, ln22p, ln23, ln23p, ln24, ln24p, ln31, ln31p, ln42, ln42p, al4, al22, al26, al28, al42, al49, al85, cf10, cf11, cf12, cf13, cf14, cf15, cf16, cf17, cf18, cf19, cf20, cf21, cf22, cf23, cf24, cf25, cf26, cf27, cf28, cf29, cf30, cf31, cf32, cf33, cf34, cf35, cf36, cf37, cf38, cf39, cf40, cf41, cf42, cf43, cf44, cf45, cf46, cf47, cf48, cf49, cf50, cf51, cf52, cf53, cf54, cf55, cf56, cf57, cf58, cf59, cf60, cf61, cf62, cf63, cf64, cf65, cf66, cf67, cf68, cf69, cf70, cf71, cf72, cf73, cf74, cf75, bd26_0_1_2_7_8_9_10_11_12_13_14_4_15, bd26_0_1_2_7_8_9_10_11_12_13_14_4_15p, bd28_, bd28_p, bd28_0, bd28_0p, bd28_0_1, bd28_0_1p, bd45_1_3_4_5_6, bd45_1_3_4_5_6p, bd49_0_1, bd49_0_1p, bd49_1, bd49_1p, bd74_0_1_2_3, bd74_0_1_2_3p, bd85_0, bd85_0p, bd85_0_1, bd85_0_1p, bd93_0_1_2, bd93_0_1_2p, bd94_0_1_2_3, bd94_0_1_2_3p, bs42_1_0, bs22_1_0, bs24_1_0, bs42_3_0_1_2, bs31_1_0, bs22_2_0_1, bs42_6_0_1_2_3_4_5, bs42_0_, eq4, eq4p, eq28, eq28p, eq42n, eq42np, eq42s, eq42sp, eq58n, eq58np, eq58s, eq58sp, eq63n, eq63np, eq63s, eq63sp, ne28, ne28p, ne45, ne45p, cx]
  refine (made_spec (ca.up l1 d1).cv st hp hsl).mono ?_
  rintro _ h2 ⟨l2, d2, ⟨hm, ga, gp, kb, rfl, go, s2⟩ | ⟨hm, rfl⟩⟩
  · try simp -implicitDefEqProofs only [eq58s, HL.cond_false]
    unfold S28_k1
    try simp -implicitDefEqProofs only [upd_ne, upd_eq, retK_ret, resL_tmp, resL_nil2]
    exact ⟨l1.trans l2, d2, .inl ⟨hm, ga, gp, kb, rfl, go, (s2.swap.cut l1).swap⟩⟩
  · try simp -implicitDefEqProofs only [eq58n, HL.cond_true]
    exact ⟨l1.trans l2, d2, .inr ⟨hm, rfl⟩⟩

end Go.Proofs.YtangejiigopdaaaDoor
end

section
/- A text of the proofs. -/
set_option linter.unusedVariables false
set_option maxRecDepth 100000
namespace Go.Proofs.YtangejiigopdaaaDoor
open Go Go.HL
end Go.Proofs.YtangejiigopdaaaDoor
end

section
/- A text of the proofs. -/
set_option linter.unusedVariables false
set_option maxRecDepth 100000
namespace Go.Proofs.YtangejiigopdaaaDoor
open Go Go.HL
def md13 : Nat → Hint
  | _ => ⟨false, [], [], [], [], false⟩
def S13 (G : Hp) (K : Exit → Rg → Hp → Prop) (r : Rg) (h : Hp) : Prop :=
  opH Tryd.prog G (sv (Instr.box 26 (r 0))) h fun v0 h0 =>
  opH Tryd.prog G (sv (Instr.alloc 26 true (.tuple #[]))) h0 fun v1 h1 =>
  opH Tryd.prog G (sv (Instr.fieldAt 26 v0 3)) h1 fun v2 h2 =>
  opH Tryd.prog G (sv (Instr.loadAt 22 v2)) h2 fun v3 h3 =>
  opH Tryd.prog G (sv (Builtin.append_ #[22, 22] 22 #[(.slice none 0 0), v3])) h3 fun v4 h4 =>
  opH Tryd.prog G (sv (Instr.fieldAt 26 v0 3)) h4 fun v5 h5 =>
  opH Tryd.prog G (su (Instr.storeAt 22 v5 v4)) h5 fun v6 h6 =>
  opH Tryd.prog G (sv (Instr.fieldAt 26 v0 4)) h6 fun v7 h7 =>
  opH Tryd.prog G (sv (Instr.loadAt 22 v7)) h7 fun v8 h8 =>
  opH Tryd.prog G (sv (Builtin.append_ #[22, 22] 22 #[(.slice none 0 0), v8])) h8 fun v9 h9 =>
  opH Tryd.prog G (sv (Instr.fieldAt 26 v0 4)) h9 fun v10 h10 =>
  opH Tryd.prog G (su (Instr.storeAt 22 v10 v9)) h10 fun v11 h11 =>
  opH Tryd.prog G (sv (Instr.fieldAt 26 v0 5)) h11 fun v12 h12 =>
  opH Tryd.prog G (sv (Instr.loadAt 23 v12)) h12 fun v13 h13 =>
  opH Tryd.prog G (sv (Builtin.append_ #[23, 23] 23 #[(.slice none 0 0), v13])) h13 fun v14 h14 =>
  opH Tryd.prog G (sv (Instr.fieldAt 26 v0 5)) h14 fun v15 h15 =>
  opH Tryd.prog G (su (Instr.storeAt 23 v15 v14)) h15 fun v16 h16 =>
  opH Tryd.prog G (sv (Instr.fieldAt 26 v0 6)) h16 fun v17 h17 =>
  opH Tryd.prog G (sv (Instr.loadAt 24 v17)) h17 fun v18 h18 =>
  opH Tryd.prog G (callFunc 11 #[v18]) h18 fun v19 h19 =>
  opH Tryd.prog G (sv (Instr.fieldAt 26 v0 6)) h19 fun v20 h20 =>
  opH Tryd.prog G (su (Instr.storeAt 24 v20 v19)) h20 fun v21 h21 =>
  opH Tryd.prog G (sv (Instr.loadAt 26 v0)) h21 fun v22 h22 =>
  opH Tryd.prog G (su (Instr.storeAt 26 v1 v22)) h22 fun v23 h23 =>
  K .ret (upd (upd (upd (upd (upd (upd (upd (upd (upd (upd (upd (upd (upd (upd (upd (upd (upd (upd (upd r 1 v0) 2 v1) 3 v2) 4 v3) 5 v4) 6 v5) 7 v7) 8 v8) 9 v9) 10 v10) 11 v12) 12 v13) 13 v14) 14 v15) 15 v17) 16 v18) 17 v19) 18 v20) 19 v22) h23
theorem S13_eq (G : Hp) (K : Exit → Rg → Hp → Prop) (r : Rg) (h : Hp) : wpC Tryd.prog G 20 md13 true (Tryd.f13.body.getD .skip) r h K = S13 G K r h := by kernel_rfl
theorem enter13 {G : Hp} {h : Hp} {args : Array Value} {R : Value → Hp → Prop} (hn : args.size ≤ 20) (H : S13 G (retK Tryd.prog G [.cell 2 26] R) (regs args) h) : HCalls Tryd.prog G 13 args h R :=
  HCalls.enter (md := md13) mixed Tryd.func13 rfl hn (by rw [← S13_eq] at H; exact H)

def md11 : Nat → Hint
  | 5 => ⟨false, [0, 0, 0, 6, 14, 30, 0, 0, 192, 448, 960, 1984, 4094, 8190, 16383, 32767], [.pureN, .pureN, .pureN, .pureN, .pureN, .pureM, .pureN, .pureN, .pureN, .pureN, .pureM, .eff, .pureN, .alloc, .eff, .pureN], [.pureN, .pureN, .pureN, .pureN, .pureN, .pureM, .pureN, .pureN, .pureN, .pureN, .pureM, .eff, .pureN, .alloc, .eff, .pureN], [false, false, false, false, false, false, false, false, false, false, false, true, false, false, false, false], true⟩
  | _ => ⟨false, [], [], [], [], false⟩
def S11_k1 (G : Hp) (K : Exit → Rg → Hp → Prop) (r : Rg) (h : Hp) : Prop :=
  K .ret (upd (upd r 26 (r 3)) 2 (r 3)) h
def S11_l2_k4 (G : Hp) (K : Exit → Rg → Hp → Prop) (r : Rg) (h : Hp) : Prop :=
  opH Tryd.prog G (sv (binOp .add 3 (r 4) (.int .i64 1))) h fun v2 h2 =>
  K .normal (upd (upd (upd r 9 (r 4)) 10 v2) 4 v2) h2
def S11_l2_k3 (G : Hp) (K : Exit → Rg → Hp → Prop) (r : Rg) (h : Hp) : Prop :=
  ∃ q3 : Hp, q3.le h ∧
  pureW Tryd.prog noHp noHp (sv (Instr.indexAt 24 (r 0) (r 4))) h fun v4 h4 =>
  pureW Tryd.prog noHp noHp (sv (Instr.fieldAt 49 v4 0)) h4 fun v5 h5 =>
  pureW Tryd.prog G q3 (sv (Instr.loadAt 28 v5)) h5 fun v6 h6 =>
  pureW Tryd.prog noHp noHp (sv (Instr.indexAt 24 (r 0) (r 4))) h6 fun v7 h7 =>
  pureW Tryd.prog noHp noHp (sv (Instr.fieldAt 49 v7 1)) h7 fun v8 h8 =>
  pureW Tryd.prog G q3 (sv (Instr.loadAt 42 v8)) h8 fun v9 h9 =>
  opH Tryd.prog G (callFunc 32 #[v9]) h9 fun v10 h10 => q3.le h10 ∧
  pureW Tryd.prog noHp noHp (sv (Instr.build 49 #[(0, v6), (1, v10)])) h10 fun v11 h11 =>
  opH Tryd.prog G (sv (Instr.buildSlice 24 1 #[(0, v11)])) h11 fun v12 h12 =>
  opH Tryd.prog G (sv (Builtin.append_ #[24, 24] 24 #[(r 3), v12])) h12 fun v13 h13 =>
  S11_l2_k4 G K (upd (upd (upd (upd (upd (upd (upd (upd (upd (upd (upd (upd (upd (upd (upd (upd r 11 (r 3)) 12 (r 0)) 13 (r 4)) 14 v4) 15 v5) 16 v6) 17 (r 0)) 18 (r 4)) 19 v7) 20 v8) 21 v9) 22 v10) 23 v11) 24 v12) 25 v13) 3 v13) h13
def S11_l2 (G : Hp) (r : Rg) (h : Hp) (K : Exit → Rg → Hp → Prop) : Prop :=
  opH Tryd.prog G (sv (Builtin.len_ #[24] 3 #[(r 0)])) h fun v0 h0 =>
  opH Tryd.prog G (sv (binOp .lss 3 (r 4) v0)) h0 fun v1 h1 =>
  cond v1
  (S11_l2_k3 G K (upd (upd (upd (upd r 5 (r 4)) 6 (r 0)) 7 v0) 8 v1) h1)
  (K (.exit 0) (upd (upd (upd (upd r 5 (r 4)) 6 (r 0)) 7 v0) 8 v1) h1)
def S11 (G : Hp) (K : Exit → Rg → Hp → Prop) (r : Rg) (h : Hp) : Prop :=
  loopP (S11_l2 G) (upd (upd (upd r 2 (.slice none 0 0)) 3 (.slice none 0 0)) 4 (.int .i64 0)) h (blockK 0 (thenK (S11_k1 G K) K))
theorem S11_eq (G : Hp) (K : Exit → Rg → Hp → Prop) (r : Rg) (h : Hp) : wpC Tryd.prog G 27 md11 true (Tryd.f11.body.getD .skip) r h K = S11 G K r h := by kernel_rfl
theorem enter11 {G : Hp} {h : Hp} {args : Array Value} {R : Value → Hp → Prop} (hn : args.size ≤ 27) (H : S11 G (retK Tryd.prog G [.tmp 2] R) (regs args) h) : HCalls Tryd.prog G 11 args h R :=
  HCalls.enter (md := md11) mixed Tryd.func11 rfl hn (by rw [← S11_eq] at H; exact H)

def md32 : Nat → Hint
  | _ => ⟨false, [], [], [], [], false⟩
def S32 (G : Hp) (K : Exit → Rg → Hp → Prop) (r : Rg) (h : Hp) : Prop :=
  opH Tryd.prog G (sv (Builtin.append_ #[42, 42] 42 #[(.slice none 0 0), (r 0)])) h fun v0 h0 =>
  K .ret (upd (upd (upd (upd r 2 (.slice none 0 0)) 3 (r 0)) 4 v0) 2 v0) h0
theorem S32_eq (G : Hp) (K : Exit → Rg → Hp → Prop) (r : Rg) (h : Hp) : wpC Tryd.prog G 5 md32 true (Tryd.f32.body.getD .skip) r h K = S32 G K r h := by kernel_rfl
theorem enter32 {G : Hp} {h : Hp} {args : Array Value} {R : Value → Hp → Prop} (hn : args.size ≤ 5) (H : S32 G (retK Tryd.prog G [.tmp 2] R) (regs args) h) : HCalls Tryd.prog G 32 args h R :=
  HCalls.enter (md := md32) mixed Tryd.func32 rfl hn (by rw [← S32_eq] at H; exact H)

end Go.Proofs.YtangejiigopdaaaDoor
end

section
/- A pose shifted; a move; a cell's number by the reference; rows of cells held against each other. -/
set_option linter.unusedSimpArgs false
set_option linter.unusedVariables false
set_option maxRecDepth 100000
namespace Go.Proofs.YtangejiigopdaaaDoor
open Go Go.HL

def dxI (d : Int) : Int := if d = 1 then 1 else if d = 3 then -1 else 0
def dyI (d : Int) : Int := if d = 0 then -1 else if d = 2 then 1 else 0
def okS (d n : Int) : Bool := withinB n 0 16 && withinB d 0 3
def shiftP (p : Pose) (d n : Int) : Pose := ⟨wr (p.x + n * dxI d), wr (p.y + n * dyI d), p.d⟩
theorem withinB_iff {n a b : Int} : withinB n a b = true ↔ a ≤ n ∧ n ≤ b := by
  unfold withinB
  simp only [Bool.and_eq_true, decide_eq_true_eq]
  try exact Iff.rfl

theorem Steps.ne {G : Hp} (s : Steps G) {x : Nat} (gx : G x = none) : 0 ≠ x := fun e => by
  obtain ⟨a, b, s⟩ := s
  subst e
  rw [gx] at s
  cases s

end Go.Proofs.YtangejiigopdaaaDoor
end

section
/- The reference's shift and number; rows of cells held against each other; a place. -/
set_option linter.unusedSimpArgs false
set_option linter.unusedVariables false
set_option maxRecDepth 100000
namespace Go.Proofs.YtangejiigopdaaaDoor
open Go Go.HL

theorem place_spec {G h : Hp} {a n : Int} (ha : Bd a) (hn : 0 < n) (hn2 : n ≤ 1000000) : HCalls Tryd.prog G 20 #[.int .i64 a, .int .i64 n] h (fun v h' => v = .int .i64 (a % n) ∧ h' = h) := by
  refine quietly (enter20 (by simp) ?_)
  obtain ⟨ha1, ha2⟩ := ha
  unfold S20
  have e1 : a.tmod n = if 0 ≤ a ∨ a % n = 0 then a % n else a % n - n := by
    rw [Int.tmod_eq_emod]
    have : (n.natAbs : Int) = n := by omega
    by_cases h0 : 0 ≤ a
    · simp [h0]
    · simp [h0, this, Int.dvd_iff_emod_eq_zero]
      split <;> omega
  have hb := Int.emod_nonneg a (show n ≠ 0 by omega)
  have hb2 := Int.emod_lt_of_pos a hn
  simp -implicitDefEqProofs (disch := first | with_reducible exact Nat.ne_of_beq_eq_false rfl | omega) only [regs0, regs1, opH_sv, bin_rem, bin_add, wrap_in, bin_lss]
  by_cases hc : 0 ≤ a ∨ a % n = 0
  · rw [if_pos hc] at e1
    rw [e1, dec_f (show ¬ a % n < 0 by omega)]
    simp -implicitDefEqProofs only [HL.cond_false]
    unfold S20_k1
    simp -implicitDefEqProofs (disch := first | with_reducible exact Nat.ne_of_beq_eq_false rfl | omega) only [upd_ne, upd_eq, retK_ret, resL_tmp, resL_nil1, true_and]
    exact Hp.le.refl h
  · rw [if_neg hc] at e1
    have : a % n ≠ 0 := fun e => hc (.inr e)
    rw [e1, dec_t (show a % n - n < 0 by omega)]
    simp -implicitDefEqProofs only [HL.cond_true]
    unfold S20_k1
    simp -implicitDefEqProofs only [upd_eq, retK_ret, resL_tmp, resL_nil1]
    exact ⟨by congr 1; omega, Hp.le.refl h⟩

end Go.Proofs.YtangejiigopdaaaDoor
end

section
/- What a pose's iterator of runs tells, to any yield. -/
set_option linter.unusedSimpArgs false
set_option linter.unusedVariables false
set_option maxRecDepth 100000
namespace Go.Proofs.YtangejiigopdaaaDoor
open Go Go.HL

structure Move where
  k : Int
  d : Int
  n : Int
  f : Pose
  t : Pose
  a : Int
  e : Int
  deriving DecidableEq
/-- A yield: Y between two calls, Z behind the one that stopped; c: does it go on? Any piece that it does not own stays. -/
def Yl {α : Type} (enc : α → Value) (G : Hp) (y : Value) (Y Z : List α → Hp → Prop) (c : List α → Bool) : Prop :=
  ∀ (L : List α) (m : α) (a q h : Hp), Y L a → Sep [a, q] h → Dis G h →
    opH Tryd.prog G (xCallV y #[enc m]) h (fun v h' => ∃ a', v = .bool (c (L ++ [m])) ∧ Sep [a', q] h' ∧ Dis G h' ∧ (if c (L ++ [m]) = true then Y (L ++ [m]) a' else Z (L ++ [m]) a'))

/-- What is told of M behind L. -/
def feed {α : Type} (c : List α → Bool) : List α → List α → List α × Bool
  | L, [] => (L, true)
  | L, m :: M => if c (L ++ [m]) = true then feed c (L ++ [m]) M else (L ++ [m], false)
theorem feed_t {α : Type} {c : List α → Bool} {L M : List α} {m : α} (h : c (L ++ [m]) = true) : feed c L (m :: M) = feed c (L ++ [m]) M := by rw [feed, if_pos h]
theorem feed_f {α : Type} {c : List α → Bool} {L M : List α} {m : α} (h : c (L ++ [m]) = false) : feed c L (m :: M) = (L ++ [m], false) := by rw [feed, if_neg (by simp [h])]
def Fin {α : Type} (T : List α × Bool) (Y Z : List α → Hp → Prop) (a : Hp) : Prop := if T.2 = true then Y T.1 a else Z T.1 a

def dirsL {α : Type} (D : Nat → List α) : Nat → Nat → List α
  | _, 0 => []
  | i, k + 1 => D i ++ dirsL D (i + 1) k

def RunsR (G q : Hp) (Y Z : List Move → Hp → Prop) (T : List Move × Bool) (h' : Hp) : Prop := ∃ a', Sep [a', q] h' ∧ Dis G h' ∧ Fin T Y Z a'

theorem RunsR.go {G q a h' : Hp} {Y Z : List Move → Hp → Prop} {T : List Move × Bool} {L : List Move} {c : List Move → Bool} (s : Sep [a, q] h') (d : Dis G h') (y : Y L a) (e : feed c L [] = T) : RunsR G q Y Z T h' := by
  subst e
  exact ⟨a, s, d, y⟩

end Go.Proofs.YtangejiigopdaaaDoor
end

section
/- The way of a move: is it legal, which cells. -/
set_option linter.unusedSimpArgs false
set_option linter.unusedVariables false
set_option maxRecDepth 100000
namespace Go.Proofs.YtangejiigopdaaaDoor
open Go Go.HL

def squareL (c : Cell) : List Cell := [(c.1, c.2), (wr (c.1 + 1), c.2), (c.1, wr (c.2 + 1)), (wr (c.1 + 1), wr (c.2 + 1))]

def stepB (w k : Nat) (f : Nat → Nat → Int) (m : Move) (i : Nat) : Bool := okS m.d i && fitsW w k f (shiftP m.f m.d i)
def turnP (p : Pose) : Pose := ⟨p.x, p.y, !p.d⟩
def wayB (w k : Nat) (f : Nat → Nat → Int) (m : Move) : Bool := fitsW w k f m.f &&
  (if m.k = 1 then decide (1 ≤ m.n) && ((List.range (m.n.toNat + 1)).all (stepB w k f m) && decide (m.t = shiftP m.f m.d m.n))
   else decide (m.d = 0 ∧ m.n = 0) && (if m.k = 2 then (squareL (m.f.x, m.f.y)).all (openW w k f) && decide (m.t = turnP m.f) else decide (m.k = 3 ∨ m.k = 4) && decide (m.t = m.f)))
def wayL (m : Move) : List Cell := if m.k = 1 then (List.range (m.n.toNat + 1)).flatMap (fun (i : Nat) => cellsP (shiftP m.f m.d i)) else if m.k = 2 then squareL (m.f.x, m.f.y) else cellsP m.f

def WayR (G h : Hp) (w k : Nat) (f : Nat → Nat → Int) (m : Move) (u : Value) (h' : Hp) : Prop :=
  ∃ ip v L, u = .tuple #[v, .bool (wayB w k f m)] ∧ Slc cellC 28 ip v L ∧ Sep [ip, h] h' ∧ Dis G h' ∧ (wayB w k f m = true → L = wayL m)

theorem WayR.no {G h h' : Hp} {w k : Nat} {f : Nat → Nat → Int} {m : Move} (l : h.le h') (d : Dis G h') (e : wayB w k f m = false) : WayR G h w k f m (.tuple #[.slice none 0 0, .bool false]) h' :=
  ⟨noHp, _, [], by rw [e], Slc.nil, (Sep.one.le l).none, d, fun q => by rw [e] at q; cases q⟩

theorem WayR.less {G h0 h h' : Hp} {w k : Nat} {f : Nat → Nat → Int} {m : Move} {u : Value} (l : h0.le h) (x : WayR G h w k f m u h') : WayR G h0 w k f m u h' := by
  obtain ⟨ip, v, L, e1, e2, s, d, e3⟩ := x
  exact ⟨ip, v, L, e1, e2, (s.swap.cut l).swap, d, e3⟩

end Go.Proofs.YtangejiigopdaaaDoor
end

section
/- A pose's moves, told to any yield; gathered in a row. -/
set_option linter.unusedSimpArgs false
set_option linter.unusedVariables false
set_option maxRecDepth 100000
namespace Go.Proofs.YtangejiigopdaaaDoor
open Go Go.HL

theorem _root_.Go.HL.Sep.pack2 {x y h : Hp} {R : List Hp} (s : Sep (x :: y :: R) h) : ∃ b, Sep (b :: R) h ∧ Sep [x, y] b := by
  obtain ⟨s1, ap⟩ := s.join
  exact ⟨_, s1, ⟨fun a ha => by
    simp only [List.mem_cons, List.not_mem_nil, or_false] at ha
    rcases ha with rfl | rfl
    · exact Hp.le_join
    · exact Hp.le_join2 ap, by simp [ap]⟩⟩
theorem _root_.Go.HL.Sep.pack3 {x y z h : Hp} {R : List Hp} (s : Sep (x :: y :: z :: R) h) : ∃ b, Sep (b :: R) h ∧ Sep [x, y, z] b := by
  have s1 : Sep (y :: z :: x :: R) h := s.rot.rot
  obtain ⟨s2, a2⟩ := s1.join
  obtain ⟨s3, a3⟩ := s2.swap.join
  refine ⟨_, s3, fun a ha => ?_, (List.pairwise_append (l₁ := [x, y, z]) (l₂ := R)).1 s.2 |>.1⟩
  simp only [List.mem_cons, List.not_mem_nil, or_false] at ha
  rcases ha with rfl | rfl | rfl
  · exact Hp.le_join
  · exact Hp.le_join.trans (Hp.le_join2 a3)
  · exact (Hp.le_join2 a2).trans (Hp.le_join2 a3)

theorem setR1 {n d : Nat} {v : Value} {r : Rg} (hd : d < n) : setR n #[d] #[v] r = upd r d v := by
  unfold setR
  simp [putR, hd]

end Go.Proofs.YtangejiigopdaaaDoor
end

section
/- A pose's moves gathered in a row. -/
set_option linter.unusedSimpArgs false
set_option linter.unusedVariables false
set_option maxRecDepth 100000
namespace Go.Proofs.YtangejiigopdaaaDoor
open Go Go.HL

def moveC : Cod Move := ⟨11, fun m => [.int .i64 m.k, .int .i64 m.d, .int .i64 m.n, .int .i64 m.f.x, .int .i64 m.f.y, .bool m.f.d, .int .i64 m.t.x, .int .i64 m.t.y, .bool m.t.d, .int .i64 m.a, .int .i64 m.e], fun _ => rfl, fun _ v hv => by simp at hv; rcases hv with rfl | rfl | rfl | rfl | rfl | rfl | rfl | rfl | rfl | rfl | rfl <;> rfl⟩
end Go.Proofs.YtangejiigopdaaaDoor
end

section
/- The plain law: the program's grid and the reference let in the same configs, and their kinds of cells agree. -/
set_option linter.unusedSimpArgs false
set_option linter.unusedVariables false
namespace Go.Proofs.YtangejiigopdaaaDoor
open Go Go.HL

theorem few_below : ∀ (n : Nat) (L : List Nat), L.Nodup → (∀ x ∈ L, x < n) → L.length ≤ n
  | 0, L, _, h => by
    cases L with
    | nil => simp
    | cons x L => exact absurd (h x (.head _)) (by omega)
  | n + 1, L, hn, h => by
    by_cases hm : n ∈ L
    · have h1 := few_below n (L.erase n) (hn.erase n) (fun x hx => by
        have h2 := h x (List.mem_of_mem_erase hx)
        have h3 : x ≠ n := (List.Nodup.mem_erase_iff hn).1 hx |>.1
        omega)
      rw [List.length_erase_of_mem hm] at h1
      have := List.length_pos_of_mem hm
      omega
    · have := few_below n L hn (fun x hx => by
        have h2 := h x hx
        have h3 : x ≠ n := fun e => hm (e ▸ hx)
        omega)
      omega

theorem few_cells {w k : Nat} {L : List Cell} (hn : L.Nodup) (h : ∀ c ∈ L, inW w k c = true) : L.length ≤ w * k := by
  have h1 := few_below (w * k) (L.map fun c => c.2.toNat * w + c.1.toNat) ?_ ?_
  · simpa using h1
  · rw [List.nodup_iff_pairwise_ne, List.pairwise_map]
    rw [List.nodup_iff_pairwise_ne] at hn
    refine List.Pairwise.imp_of_mem ?_ hn
    intro a b ha hb hab e
    apply hab
    obtain ⟨a1, a2, a3, a4⟩ := inW_iff.1 (h a ha)
    obtain ⟨b1, b2, b3, b4⟩ := inW_iff.1 (h b hb)
    have hw : 0 < w := by omega
    obtain ⟨x1, y1⟩ := (cellN (n := b.2.toNat * w + b.1.toNat) hw (show a.1.toNat < w by omega)).1 e
    obtain ⟨x2, y2⟩ := (cellN (n := b.2.toNat * w + b.1.toNat) hw (show b.1.toNat < w by omega)).1 rfl
    have e1 : a.1.toNat = b.1.toNat := by rw [x1, ← x2]
    have e2 : a.2.toNat = b.2.toNat := by rw [y1, ← y2]
    exact Prod.ext (by omega) (by omega)
  · intro x hx
    obtain ⟨c, hc, rfl⟩ := List.mem_map.1 hx
    exact (numI_nat (h c hc)).2.2.2

section
variable {C : Conf}

theorem within_wk (hw : withinB C.w 1 16 = true) (hk : withinB C.h 1 16 = true) : C.w = (wC C : Int) ∧ C.h = (kC C : Int) ∧ 1 ≤ wC C ∧ wC C ≤ 16 ∧ 1 ≤ kC C ∧ kC C ≤ 16 := by
  unfold withinB at hw hk
  simp only [Bool.and_eq_true, decide_eq_true_eq] at hw hk
  unfold wC kC
  omega

theorem inW_inB (hw : withinB C.w 1 16 = true) (hk : withinB C.h 1 16 = true) (c : Cell) : inW (wC C) (kC C) c = inB C c := by
  obtain ⟨e1, e2, _⟩ := within_wk hw hk
  rw [Bool.eq_iff_iff, inW_iff]
  unfold inB
  simp only [Bool.and_eq_true, decide_eq_true_eq]
  rw [e1, e2]
  constructor
  · rintro ⟨a, b, c, d⟩; exact ⟨a, c, b, d⟩
  · rintro ⟨a, b, c, d⟩; exact ⟨a, c, b, d⟩

/-- What was laid at a cell of the hive. -/
theorem f0_at {c : Cell} (h1 : 0 ≤ c.1) (h2 : 0 ≤ c.2) : fAt (f0C C) c = if c ∈ C.bl then -1 else if c ∈ C.po then (C.po.idxOf c : Int) + 1 else 0 := by
  have e : ((c.1.toNat : Int), (c.2.toNat : Int)) = c := by rw [Int.toNat_of_nonneg h1, Int.toNat_of_nonneg h2]
  unfold fAt f0C kd
  rw [e]
  by_cases hb : c ∈ C.bl
  · rw [if_pos (List.mem_append_left _ hb), if_pos hb, List.idxOf_append, if_pos hb, if_pos (List.idxOf_lt_length_of_mem hb)]
  · rw [if_neg hb]
    by_cases hp : c ∈ C.po
    · rw [if_pos (List.mem_append_right _ hp), if_pos hp, List.idxOf_append, if_neg hb, if_neg (by omega)]
      omega
    · rw [if_neg (by simp [hb, hp]), if_neg hp]

theorem open_eq (hw : withinB C.w 1 16 = true) (hk : withinB C.h 1 16 = true) (c : Cell) : openW (wC C) (kC C) (f0C C) c = openB C c := by
  unfold openW openB
  rw [inW_inB hw hk]
  cases hc : inB C c with
  | false => rfl
  | true =>
    have hc' := hc
    rw [← inW_inB hw hk] at hc'
    obtain ⟨a1, a2, a3, a4⟩ := inW_iff.1 hc'
    rw [f0_at a1 a3]
    simp only [Bool.true_and]
    rw [Bool.eq_iff_iff]
    by_cases hb : c ∈ C.bl
    · simp [hb, List.count_eq_zero]
    · have : List.count c C.bl = 0 := List.count_eq_zero.2 hb
      rw [if_neg hb]
      simp only [this, beq_self_eq_true, iff_true]
      split
      · simp; omega
      · simp

theorem fits_eq (hw : withinB C.w 1 16 = true) (hk : withinB C.h 1 16 = true) (p : Pose) : fitsW (wC C) (kC C) (f0C C) p = fitsB C p := by
  unfold fitsW fitsB
  rw [open_eq hw hk, open_eq hw hk]

/-- Which cells of the hive keep their kind. -/
theorem keep_eq (hw : withinB C.w 1 16 = true) (hk : withinB C.h 1 16 = true) {c : Cell} (hc : inB C c = true) : keepB (wC C) (kC C) (f0C C) c.1.toNat c.2.toNat = (decide (c ∈ C.bl) || besideB C c) := by
  have hc' := hc
  rw [← inW_inB hw hk] at hc'
  obtain ⟨a1, a2, a3, a4⟩ := inW_iff.1 hc'
  have e1 : (c.1.toNat : Int) = c.1 := Int.toNat_of_nonneg a1
  have e2 : (c.2.toNat : Int) = c.2 := Int.toNat_of_nonneg a3
  have hf := f0_at (C := C) a1 a3
  unfold keepB
  rw [fits_eq hw hk, fits_eq hw hk]
  rw [show f0C C c.1.toNat c.2.toNat = fAt (f0C C) c from rfl, hf]
  unfold fitsB east besideB
  simp only [e1, e2]
  by_cases hb : c ∈ C.bl
  · simp [hb]
  · have ho : openB C (c.1, c.2) = true := by
      unfold openB
      rw [show ((c.1, c.2) : Cell) = c from rfl, hc]
      simp [List.count_eq_zero.2 hb]
    rw [if_neg hb, ho]
    have hne : ((if c ∈ C.po then (C.po.idxOf c : Int) + 1 else 0) == -1) = false := by
      split
      · simp; omega
      · rfl
    rw [hne]
    simp [hb]

theorem home_iff {c : Cell} : homeB C c = true ↔ c ∈ C.ro.flatMap cellsP := by
  unfold homeB
  rw [List.any_eq_true, List.mem_flatMap]
  refine exists_congr fun p => and_congr_right fun _ => ?_
  rw [decide_eq_true_eq, ← List.count_pos_iff]
  omega

theorem port_iff {c : Cell} : portI C c < 0 ↔ c ∉ C.po := by
  unfold portI
  split
  · rename_i h; simp [h] <;> omega
  · rename_i h; simp [h]

theorem f1_at (hw : withinB C.w 1 16 = true) (hk : withinB C.h 1 16 = true) {c : Cell} (hc : inB C c = true) : fAt (f1 (wC C) (kC C) (f0C C)) c = if c ∈ C.bl then -1 else if besideB C c = true then (if c ∈ C.po then (C.po.idxOf c : Int) + 1 else 0) else -2 := by
  have hc' := hc
  rw [← inW_inB hw hk] at hc'
  obtain ⟨a1, a2, a3, a4⟩ := inW_iff.1 hc'
  unfold fAt f1
  rw [keep_eq hw hk hc, show f0C C c.1.toNat c.2.toNat = fAt (f0C C) c from rfl, f0_at a1 a3]
  by_cases hb : c ∈ C.bl
  · simp [hb]
  · by_cases hs : besideB C c = true
    · simp [hb, hs]
    · simp [hb, hs]

theorem f3_at (hw : withinB C.w 1 16 = true) (hk : withinB C.h 1 16 = true) {c : Cell} (hc : inB C c = true) : fAt (f3C C) c = if homeB C c = true then -2 else if c ∈ C.bl then -1 else if besideB C c = true then (if c ∈ C.po then (C.po.idxOf c : Int) + 1 else 0) else -2 := by
  have hc' := hc
  rw [← inW_inB hw hk] at hc'
  obtain ⟨a1, a2, a3, a4⟩ := inW_iff.1 hc'
  have e : ((c.1.toNat : Int), (c.2.toNat : Int)) = c := by rw [Int.toNat_of_nonneg a1, Int.toNat_of_nonneg a3]
  have h1 := f1_at hw hk hc
  unfold f3C fAt f2
  rw [e]
  by_cases hh : c ∈ C.ro.flatMap cellsP
  · rw [if_pos hh, if_pos (home_iff.2 hh)]
  · rw [if_neg hh, if_neg (fun q => hh (home_iff.1 q))]
    exact h1

theorem stacked_eq (hw : withinB C.w 1 16 = true) (hk : withinB C.h 1 16 = true) (c : Cell) : (inW (wC C) (kC C) c = true ∧ fAt (f3C C) c = 0) ↔ stackedB C c = true := by
  rw [inW_inB hw hk]
  unfold stackedB openB
  cases hc : inB C c with
  | false => simp
  | true =>
    rw [f3_at hw hk hc]
    simp only [Bool.true_and, true_and, Bool.and_eq_true, decide_eq_true_eq, beq_iff_eq, Bool.not_eq_true', port_iff, List.count_eq_zero]
    by_cases hh : homeB C c = true
    · simp [hh]
    · have hh' : homeB C c = false := by simpa using hh
      by_cases hb : c ∈ C.bl
      · simp [hh', hb]
      · by_cases hs : besideB C c = true
        · by_cases hp : c ∈ C.po
          · simp [hh', hb, hs, hp]; omega
          · simp [hh', hb, hs, hp]
        · have hs' : besideB C c = false := by simpa using hs
          simp [hh', hb, hs']

theorem six_iff : (∀ n ∈ [C.un, C.ac, C.sp, C.tu, C.ho, C.re], withinB n 1 1000 = true) ↔ withinB C.un 1 1000 = true ∧ withinB C.ac 1 1000 = true ∧ withinB C.sp 1 1000 = true ∧ withinB C.tu 1 1000 = true ∧ withinB C.ho 1 1000 = true ∧ withinB C.re 1 1000 = true := by
  simp only [List.mem_cons, List.not_mem_nil, or_false, forall_eq_or_imp, forall_eq]

theorem made_may : MadeOk C ↔ MayOk C := by
  constructor
  · intro M
    have hw := M.laid.w
    have hk := M.laid.h
    obtain ⟨e1, e2, w1, w2, k1, k2⟩ := within_wk hw hk
    have hm : wC C * kC C ≤ 16 * 16 := Nat.mul_le_mul w2 k2
    obtain ⟨s1, s2, s3, s4, s5, s6⟩ := six_iff.1 M.six
    have hnd := List.nodup_append.1 M.laid.once
    have hall := M.laid.all
    have hin : ∀ c ∈ C.bl ++ C.po, inB C c = true := fun c hc => by rw [← inW_inB hw hk]; exact hall c hc
    have hpb : ∀ c ∈ C.po, besideB C c = true := fun c hc => by
      have hcin := hin c (List.mem_append_right _ hc)
      have hcw := hall c (List.mem_append_right _ hc)
      obtain ⟨a1, a2, a3, a4⟩ := inW_iff.1 hcw
      have hnb : c ∉ C.bl := fun hb => hnd.2.2 c hb c hc rfl
      have hkeep := keep_eq hw hk hcin
      cases hs : besideB C c with
      | true => rfl
      | false =>
        exfalso
        have := M.rob.plain c.1.toNat c.2.toNat (by omega) (by omega) (by rw [hkeep, hs]; simp [hnb])
        rw [show f0C C c.1.toNat c.2.toNat = fAt (f0C C) c from rfl, f0_at a1 a3, if_neg hnb, if_pos hc] at this
        omega
    refine ⟨?_, M.laid.po8, M.rob.r8, ?_, fun c hc => ⟨hin c (List.mem_append_left _ hc), List.nodup_iff_count.1 hnd.1 c, List.count_eq_zero.2 fun hp => hnd.2.2 c hc c hp rfl⟩,
      fun c hc => ⟨hin c (List.mem_append_right _ hc), List.nodup_iff_count.1 hnd.2.1 c, ?_, hpb c hc⟩, fun p hp => by rw [← fits_eq hw hk]; exact M.rob.fit p hp, fun c _ => List.nodup_iff_count.1 M.rob.once c, ?_⟩
    · unfold numbersB
      simp [hw, hk, M.ht, M.qu, M.bu, s1, s2, s3, s4, s5, s6]
    · have := few_cells (w := wC C) (k := kC C) hnd.1 (fun c hc => hall c (List.mem_append_left _ hc))
      omega
    · cases hh : homeB C c with
      | false => rfl
      | true =>
        exfalso
        have := M.rob.low c (home_iff.1 hh)
        rw [f1_at hw hk (hin c (List.mem_append_right _ hc)), if_neg (fun hb => hnd.2.2 c hb c hc rfl), if_pos (hpb c hc), if_pos hc] at this
        omega
    · refine ⟨?_, fun s hs => ?_, M.sta.apart, M.sta.most, M.sta.nums, M.sta.once⟩
      · have := few_cells (w := wC C) (k := kC C) M.sta.apart (fun c hc => by
          obtain ⟨s, hs, rfl⟩ := List.mem_map.1 hc
          exact (M.sta.each s hs).1)
        rw [List.length_map] at this
        omega
      · obtain ⟨q1, q2, q3⟩ := M.sta.each s hs
        exact ⟨(stacked_eq hw hk s.1).1 ⟨q1, q2⟩, q3⟩
  · intro M
    have hn := M.nums
    unfold numbersB at hn
    simp only [Bool.and_eq_true] at hn
    obtain ⟨hw, hk, hht, s1, s2, s3, s4, s5, s6, hqu, hbu⟩ := hn
    obtain ⟨e1, e2, w1, w2, k1, k2⟩ := within_wk hw hk
    have hin : ∀ c ∈ C.bl ++ C.po, inW (wC C) (kC C) c = true := fun c hc => by
      rw [inW_inB hw hk]
      rcases List.mem_append.1 hc with h | h
      · exact (M.blk c h).1
      · exact (M.prt c h).1
    have hnb : C.bl.Nodup := List.nodup_iff_count.2 fun c => by
      by_cases hc : c ∈ C.bl
      · exact (M.blk c hc).2.1
      · rw [List.count_eq_zero.2 hc]; omega
    have hnp : C.po.Nodup := List.nodup_iff_count.2 fun c => by
      by_cases hc : c ∈ C.po
      · exact (M.prt c hc).2.1
      · rw [List.count_eq_zero.2 hc]; omega
    have hdis : ∀ a ∈ C.bl, ∀ b ∈ C.po, a ≠ b := fun a ha b hb e => by
      have := (M.blk a ha).2.2
      rw [List.count_eq_zero] at this
      exact this (e ▸ hb)
    have hnd : (C.bl ++ C.po).Nodup := List.nodup_append.2 ⟨hnb, hnp, hdis⟩
    have hlaid : LaidOk C := ⟨hw, hk, M.po8, by
      have := few_cells (w := wC C) (k := kC C) hnb (fun c hc => hin c (List.mem_append_left _ hc))
      rw [e1, e2, ← Int.natCast_mul]; omega, hin, hnd⟩
    have hro : ∀ c ∈ C.ro.flatMap cellsP, inB C c = true ∧ c ∉ C.bl := fun c hc => by
      obtain ⟨p, hp, hcp⟩ := List.mem_flatMap.1 hc
      have hf := M.fit p hp
      rw [← fits_eq hw hk] at hf
      obtain ⟨q1, q2⟩ := fits_cells hf c hcp
      obtain ⟨a1, a2, a3, a4⟩ := inW_iff.1 q1
      refine ⟨by rw [← inW_inB hw hk]; exact q1, fun hb => q2 ?_⟩
      rw [f0_at a1 a3, if_pos hb]
    refine ⟨six_iff.2 ⟨s1, s2, s3, s4, s5, s6⟩, hht, hqu, hbu, hlaid, ⟨M.ro8, fun x y hx hy hkp => ?_, fun p hp => by rw [fits_eq hw hk]; exact M.fit p hp, fun c hc => ?_, ?_⟩, ⟨fun s hs => ?_, M.bins.apart, M.bins.nums, M.bins.once, M.bins.most⟩⟩
    · have hcw : inW (wC C) (kC C) ((x : Int), (y : Int)) = true := inW_iff.2 ⟨by simp, by simpa using hx, by simp, by simpa using hy⟩
      have hcb := hcw
      rw [inW_inB hw hk] at hcb
      have hkeep := keep_eq hw hk hcb
      simp only [Int.toNat_natCast] at hkeep
      rw [hkp] at hkeep
      have h0 := f0_at (C := C) (c := ((x : Int), (y : Int))) (by simp) (by simp)
      unfold fAt at h0
      simp only [Int.toNat_natCast] at h0
      rw [h0]
      by_cases hp : ((x : Int), (y : Int)) ∈ C.po
      · have := (M.prt _ hp).2.2.2
        rw [this] at hkeep
        simp at hkeep
      · rw [if_neg hp]
        split <;> omega
    · obtain ⟨q1, q2⟩ := hro c hc
      rw [f1_at hw hk q1, if_neg q2]
      split
      · have hnp' : c ∉ C.po := fun hp => by
          have := (M.prt c hp).2.2.1
          rw [home_iff.2 hc] at this
          cases this
        rw [if_neg hnp']
        exact Int.le_refl _
      · omega
    · exact List.nodup_iff_count.2 fun c => by
        by_cases hc : c ∈ C.ro.flatMap cellsP
        · exact M.once c hc
        · rw [List.count_eq_zero.2 hc]; omega
    · obtain ⟨q1, q2⟩ := M.bins.each s hs
      obtain ⟨q3, q4⟩ := (stacked_eq hw hk s.1).2 q1
      exact ⟨q3, q4, q2⟩
end
end Go.Proofs.YtangejiigopdaaaDoor
end

section
/- The document's example is awake. -/
set_option linter.unusedSimpArgs false
set_option linter.unusedVariables false
set_option maxRecDepth 100000
namespace Go.Proofs.YtangejiigopdaaaDoor
open Go Go.HL

theorem Sees.move {G h : Hp} {sa : Option Addr} {cap n : Nat} {L : List Move} (s : Sees moveC G h (.slice sa n cap) L) {i : Nat} {x : Move} (hx : L[i]? = some x) :
    ∃ b o, sa = some ⟨b, o, none⟩ ∧ ∀ j, j < 11 → cellIn G h ⟨b, o + i * 11 + j, none⟩ = (moveC.enc x)[j]? := by
  obtain ⟨b, o, c, e1, e2⟩ := s.get hx
  simp only [Value.slice.injEq] at e1
  exact ⟨b, o, e1.1, e2⟩

end Go.Proofs.YtangejiigopdaaaDoor
end
