/- The program's grid is laid: the walk. -/
import Derived.Test.YtnpdploihlgcgaaDoorGG
import Derived.Test.YtnpdploihlgcgaaDoorH3
set_option linter.unusedSimpArgs false
set_option linter.unusedVariables false
set_option maxRecDepth 100000
namespace Go.Proofs.YtnpdploihlgcgaaDoor
open Go Go.HL

theorem list_spec {G h : Hp} {v : Value} {L : List Cell} (sv : Sees cellC G h v L) (hL : L.length ≤ 1000) : HCalls Tryd.prog G 80 #[v] h (fun u h' => ∃ b, Slc cellC 28 b u L ∧ Sep [b, h] h' ∧ Dis G h') := by
  obtain ⟨sa, cap, rfl⟩ := sv.len
  refine HCalls.assume fun d => enter80 (by simp) ?_
  unfold S80
  simp -implicitDefEqProofs (maxSteps := 2000000) (disch := first | with_reducible exact Nat.ne_of_beq_eq_false rfl | exact oneCell_int | exact oneCell_bool | omega | rfl | (simp; done) | fail) only [regs0, retK_ret, resL_tmp, upd_eq, resL_nil1, opH_sv, ln22, eq_int]
  by_cases hL0 : L = []
  · subst hL0
    try simp -implicitDefEqProofs (maxSteps := 2000000) (disch := first | with_reducible exact Nat.ne_of_beq_eq_false rfl | exact oneCell_int | exact oneCell_bool | omega | rfl | (simp; done) | fail) only [List.length_nil, show (((0 : Nat) : Int) == 0) = true from rfl, HL.cond_true]
    exact ⟨noHp, Slc.nil, Sep.one.none, d⟩
  · have hpos := List.length_pos_iff.2 hL0
    have e : ((L.length : Int) == 0) = false := by
      have : (L.length : Int) ≠ 0 := by omega
      simpa using this
    try simp -implicitDefEqProofs (maxSteps := 2000000) (disch := first | with_reducible exact Nat.ne_of_beq_eq_false rfl | exact oneCell_int | exact oneCell_bool | omega | rfl | (simp; done) | fail) only [e, HL.cond_false]
    unfold S80_k1
    try simp -implicitDefEqProofs (maxSteps := 2000000) (disch := first | with_reducible exact Nat.ne_of_beq_eq_false rfl | exact oneCell_int | exact oneCell_bool | omega | rfl | (simp; done) | fail) only [upd_ne, regs0, retK_ret, resL_tmp, upd_eq, resL_nil1, opH_sv, ln22]
    rw [make_eq cellC (0, 0) (by decide) un22 eocell (by kernel_rfl) (by omega) (by omega)]
    intro x hx gx
    have d1 := d.set (o := .cells (cellC.rows (List.replicate L.length (0, 0))).toArray 28 (0, 0)) gx
    rw [copy_row cellC (by decide) un22 eocell (L := L) set_self (by simp) (sv.up (le_set hx) d1) hL0 rfl, set_set]
    try simp -implicitDefEqProofs (maxSteps := 2000000) (disch := first | with_reducible exact Nat.ne_of_beq_eq_false rfl | exact oneCell_int | exact oneCell_bool | omega | rfl | (simp; done) | fail) only [opH_sv, opH_su, pureW_sv, opH_nil, pureW_nil, pick_t, pick_f, pick_tp, pick_fp, gd_tt, gd_ft, gd_tf, gd_ff, box_new, regs0, regs1, regs2, regs3, regs4, regs5, regs6, cells_agg, cells_int, cells_bool, cells_ptr, cells_slice, cells_string, cells_func, cells_nilFunc, cells_map, retK_ret, retK_normal, resL_tmp, resL_cell, resL_nil0, resL_nil1, resL_nil2, resL_nil3, resC_ptr, ex0, ex1, ex2, ex0p, ex1p, ex2p, HL.cond_true, HL.cond_false, thenK_normal, thenK_ret, thenK_exit, blockK_normal, blockK_ret, blockK_exit, scopeK_normal, scopeK_ret, scopeK_exit, wpH_pure, bin_add, bin_sub, bin_mul, bin_lss, bin_leq, bin_gtr, bin_geq, bin_quo, bin_rem, bin_quop, bin_remp, wrap_in, bin_addp, bin_subp, bin_mulp, bin_lssp, bin_leqp, bin_gtrp, bin_geqp, un_not, un_notp, un_neg, eq_int, ne_int, eq_intp, ne_intp, callV_fn, add_mk, upd_eq, upd_ne, cell_set_self, Nat.zero_add, Nat.add_zero, Option.some.injEq, exists_eq_left', List.getElem?_cons_succ, List.getElem?_cons_zero, true_and, and_true, bne_self_eq_false, beq_self_eq_true, Bool.not_true, Bool.not_false, Bool.and_true, Bool.and_self, Bool.and_false, Bool.true_and, List.length_cons, List.length_nil, ne_eq, not_false_eq_true, Nat.reduceAdd, Nat.reduceMul, if_true, if_false, oneCell_int, oneCell_bool, oneCell_ptr, oneCell_slice, oneCell_string, oneCell_func, oneCell_map, Int.toNat_natCast, List.set_cons_zero, List.set_cons_succ, Nat.lt_irrefl, Nat.zero_lt_succ, Nat.succ_lt_succ_iff, fa26_0, fa26_0p, fa26_1, fa26_1p, fa26_10, fa26_10p, fa26_11, fa26_11p, fa26_12, fa26_12p, fa26_13, fa26_13p, fa26_14, fa26_14p, fa26_2, fa26_2p, fa26_3, fa26_3p, fa26_4, fa26_4p, fa26_5, fa26_5p, fa26_6, fa26_6p, fa26_7, fa26_7p, fa26_8, fa26_8p, fa26_9, fa26_9p, fa28_0, fa28_0p, fa28_1, fa28_1p, fa30_0, fa30_0p, fa30_1, fa30_1p, fa46_0, fa46_0p, fa46_1, fa46_1p, fa46_2, fa46_2p, fa46_3, fa46_3p, fa46_4, fa46_4p, fa46_5, fa46_5p, fa46_6, fa46_6p, fa86_0, fa86_0p, fa86_1, fa86_1p, fa86_2, fa86_2p, fa95_0, fa95_0p, fa95_1, fa95_1p, ld3, ld3p, ld4, ld4p, ld22, ld22p, ld23, ld23p, ld24, ld24p, ld26, ld26p, ld28, ld28p, ld30, ld30p, ld31, ld31p, ld46, ld46p, ld47, ld47p, ld52, ld52p, ld55, ld55p, ld57, ld57p, ld95, ld95p, st3s, st4s, st22s, st23s, st24s, st26w, st28w, st30w, st46w, st47s, st55s, st95w, ix22, ix22p, ix23, ix23p, ix24, ix24p, ix47, ix47p, ix56, ix56p, ix57, ix57p, ix101, ix101p, ln22, ln22p, ln23, ln23p, ln24, ln24p, ln47, ln47p, ln56, ln56p, ln57, ln57p, al22, al26, al28, al30, al46, al47, al95, cf14, cf15, cf16, cf17, cf18, cf19, cf20, cf21, cf22, cf23, cf24, cf25, cf26, cf27, cf28, cf29, cf30, cf31, cf32, cf33, cf34, cf35, cf36, cf37, cf38, cf39, cf40, cf41, cf42, cf43, cf44, cf45, cf46, cf47, cf48, cf49, cf50, cf51, cf52, cf53, cf54, cf55, cf56, cf57, cf58, cf59, cf60, cf61, cf62, cf63, cf64, cf65, cf66, cf67, cf68, cf69, cf70, cf71, cf72, cf73, cf74, cf75, cf76, cf77, cf78, cf79, cf80, bd26_0_1_2_7_8_9_10_11_12_13_14, bd26_0_1_2_7_8_9_10_11_12_13_14p, bd28_0, bd28_0p, bd28_0_1, bd28_0_1p, bd30_, bd30_p, bd30_0_1, bd30_0_1p, bd30_0, bd30_0p, bd46_0_1_2_3_4, bd46_0_1_2_3_4p, bd46_0_3_4, bd46_0_3_4p, bd86_0_1_2, bd86_0_1_2p, bd87_0_1_2_3, bd87_0_1_2_3p, bd95_0_1, bd95_0_1p, bs22_2_0_1, bs47_1_0, bs22_1_0, bs57_6_0_1_2_3_4_5, bs24_1_0, bs22_4_0_1_2_3, bs56_11_0_1_2_3_4_5_6_7_8_9_10, bs57_11_0_1_2_3_4_5_6_7_8_9_10, eq4, eq4p, eq28, eq28p, eq30, eq30p, eq31n, eq31np, eq31s, eq31sp, eq46, eq46p, eq50n, eq50np, eq50s, eq50sp, eq67n, eq67np, eq67s, eq67sp, ne4, ne4p, ne28, ne28p, ne30, ne30p, ne31n, ne31np, ne31s, ne31sp, ne46, ne46p]
    exact ⟨noHp.set x _, ⟨some x, _, [], rfl, by rw [set_self, List.append_nil], by rw [List.append_nil, cellC.rows_length]⟩, Sep.one.new hx, d.set gx⟩

structure LaidOk (C : Conf) : Prop where
  w : withinB C.w 1 16 = true
  h : withinB C.h 1 16 = true
  po8 : C.po.length ≤ 8
  few : (C.bl.length : Int) ≤ C.w * C.h
  all : ∀ c ∈ C.bl ++ C.po, inW C.w.toNat C.h.toNat c = true
  once : (C.bl ++ C.po).Nodup

theorem ix101n {G h : Hp} {mb n : Nat} {i : Nat} {K : Value → Hp → Prop} (h2 : i < n) : wpH Tryd.prog G (Instr.indexAt 101 (.slice (some ⟨mb, 0, none⟩) n n) (.int .i64 (i : Int))) h K = K (.pointer (some ⟨mb, i, none⟩)) h := by
  rw [ix101 (by omega) (by omega)]; simp only [add_mk, Nat.zero_add, Nat.mul_one, Int.toNat_natCast]
theorem ix57n {G h : Hp} {kb n : Nat} {i : Nat} {K : Value → Hp → Prop} (h2 : i < n) : wpH Tryd.prog G (Instr.indexAt 57 (.slice (some ⟨kb, 0, none⟩) n n) (.int .i64 (i : Int))) h K = K (.pointer (some ⟨kb, i, none⟩)) h := by
  rw [ix57 (by omega) (by omega)]; simp only [add_mk, Nat.zero_add, Nat.mul_one, Int.toNat_natCast]
theorem ix57np {G h : Hp} {kb n : Nat} {i : Nat} {K : Value → Prop} (h2 : i < n) : pw Tryd.prog G h (Instr.indexAt 57 (.slice (some ⟨kb, 0, none⟩) n n) (.int .i64 (i : Int))) K = K (.pointer (some ⟨kb, i, none⟩)) := by
  rw [ix57p (by omega) (by omega)]; simp only [add_mk, Nat.zero_add, Nat.mul_one, Int.toNat_natCast]

theorem mk_get {G a h : Hp} {mb w k : Nat} {f : Nat → Nat → Bool} (m : MK a mb w k f) (l : a.le h) {x y : Nat} (hx : x < w) (hy : y < k) : cellIn G h ⟨mb, y * w + x, none⟩ = some (.bool (f x y)) := by
  rw [cell_of (look_own (l _ _ m))]
  exact rows_one_get bcC rfl rfl (gridL_get hx hy)

set_option maxHeartbeats 2000000 in
theorem laid_loop {G h1 : Hp} {C : Conf} {ab : Option Addr} {cb : Nat} {x gp kb mb w k : Nat} {ip : Hp} {iv : Value} {T : List Cell} {KK : Exit → Rg → Hp → Prop}
    (cx0 : ∀ h3, h1.le h3 → Dis G h3 → cellIn G h3 ⟨x, 3, none⟩ = some (.slice ab C.bl.length cb)) (hT : T.length ≤ 1000) (hB : C.bl.length ≤ 1000) (o : Slc cellC 28 ip iv T) (hk : 1 ≤ w ∧ w ≤ 16 ∧ 1 ≤ k ∧ k ≤ 16)
    (r : Rg) (h : Hp) (ga ma : Hp) (g1 : r 1 = .pointer (some ⟨x, 0, none⟩)) (g4 : r 4 = .pointer (some ⟨gp, 0, none⟩)) (g5 : r 5 = .slice (some ⟨mb, 0, none⟩) (w * k) (w * k)) (g59 : r 59 = iv) (g60 : r 60 = .int .i64 T.length) (g61 : r 61 = .int .i64 0)
    (go : GO ga gp kb w k (kd [] C.bl.length)) (mk : MK ma mb w k (seenT [])) (s : Sep [ga, ma, ip, h1] h) (d : Dis G h)
    (H1 : (∀ c ∈ T, inW w k c = true) → T.Nodup → ∀ (r' : Rg) h' ga', r' 4 = r 4 → GO ga' gp kb w k (kd T C.bl.length) → Sep [ga', h1] h' → Dis G h' → KK (.exit 0) r' h')
    (H2 : ¬ ((∀ c ∈ T, inW w k c = true) ∧ T.Nodup) → ∀ (r' : Rg) h', r' 2 = .pointer none → r' 3 = .bool false → h1.le h' → Dis G h' → KK .ret r' h') : loopP (S72_l3 G) r h KK := by
  obtain ⟨sa, cap, rfl, hcap⟩ := o.len (by decide)
  refine loop_I (fun m r2 h3 => ∃ (i : Nat) (ga ma : Hp), m = T.length - i ∧ i ≤ T.length ∧ r2 1 = r 1 ∧ r2 4 = r 4 ∧ r2 5 = r 5 ∧ r2 59 = r 59 ∧ r2 60 = r 60 ∧ r2 61 = .int .i64 i ∧ (∀ c ∈ T.take i, inW w k c = true) ∧ (T.take i).Nodup ∧
     GO ga gp kb w k (kd (T.take i) C.bl.length) ∧ MK ma mb w k (seenT (T.take i)) ∧ Sep [ga, ma, ip, h1] h3 ∧ Dis G h3) ?_
    (m := T.length) ⟨0, ga, ma, rfl, Nat.zero_le _, rfl, rfl, rfl, rfl, rfl, by rw [g61]; rfl, by simp, by simp, by simpa using go, by simpa using mk, s, d⟩
  rintro m r2 h3 ⟨i, ga, ma, rfl, hi, q1, q4, q5, q59, q60, q61, hin, hnd, go, mk, s3, d3⟩ X HX
  rw [g1] at q1
  rw [g4] at q4
  rw [g5] at q5
  rw [g59] at q59
  rw [g60] at q60
  unfold S72_l3
  simp -implicitDefEqProofs (maxSteps := 2000000) (disch := first | with_reducible exact Nat.ne_of_beq_eq_false rfl | exact oneCell_int | exact oneCell_bool | omega | rfl | (simp; done) | fail) only [q61, q60, thenK_exit, opH_sv, bin_lss]
  refine cond_dec (fun hlt => ?_) (fun hge => ?_)
  rotate_left
  · obtain rfl : i = T.length := by omega
    rw [List.take_of_length_le (Nat.le_refl _)] at hin hnd go
    exact H1 hin hnd _ _ ga (by simp -implicitDefEqProofs (maxSteps := 2000000) (disch := first | with_reducible exact Nat.ne_of_beq_eq_false rfl | exact oneCell_int | exact oneCell_bool | omega | rfl | (simp; done) | fail) only [upd_ne, q4, g4]) go ((s3.pick 3 rfl rfl).swap.take 2 rfl) d3
  have hlt' : i < T.length := by omega
  obtain ⟨y, hy⟩ : ∃ x, T[i]? = some x := ⟨_, List.getElem?_eq_getElem hlt'⟩
  obtain ⟨b, ofs, rfl, z0, z1⟩ := Sees.cell (G := G) (o.sees (by decide) (s3.in 2 rfl)) hy
  unfold S72_l3_k4
  simp -implicitDefEqProofs (maxSteps := 2000000) (disch := first | with_reducible exact Nat.ne_of_beq_eq_false rfl | exact oneCell_int | exact oneCell_bool | omega | rfl | (simp; done) | fail) only [upd_ne, q59, q61, thenK_ret, opH_sv, cf37, opH_su, al28, ld28, add_mk, Nat.add_zero, Nat.zero_add, ix22 (Int.natCast_nonneg i) hlt, Int.toNat_natCast, z0, Option.some.injEq, z1, exists_eq_left', st28w, cell_set_self, List.getElem?_cons_zero, List.getElem?_cons_succ]
  intro t ht gt
  have s4 := s3.past (o := .cells #[.int .i64 y.1, .int .i64 y.2] 28 (0, 0)) ht
  have d4 := d3.set (o := .cells #[.int .i64 y.1, .int .i64 y.2] 28 (0, 0)) gt
  try simp -implicitDefEqProofs (maxSteps := 2000000) (disch := first | with_reducible exact Nat.ne_of_beq_eq_false rfl | exact oneCell_int | exact oneCell_bool | omega | rfl | (simp; done) | fail) only [q4]
  generalize Hp.set h3 t _ = h4 at s4 d4 ⊢
  refine (num_spec (c := y) ((go.gs (G := G)).up s4.hd d4)).mono ?_
  rintro _ h4 ⟨rfl, rfl⟩
  have hyT : y ∈ T := List.mem_of_getElem? hy
  cases hc : inW w k y with
  | false =>
    try simp -implicitDefEqProofs (maxSteps := 2000000) (disch := first | with_reducible exact Nat.ne_of_beq_eq_false rfl | exact oneCell_int | exact oneCell_bool | omega | rfl | (simp; done) | fail) only [numI_out hc, bin_lss, show decide ((-1 : Int) < 0) = true from rfl, pick_t, HL.cond_true, gd_tf]
    refine H2 (fun q => ?_) _ _ (by simp -implicitDefEqProofs (maxSteps := 2000000) (disch := first | with_reducible exact Nat.ne_of_beq_eq_false rfl | exact oneCell_int | exact oneCell_bool | omega | rfl | (simp; done) | fail) only [upd_ne, upd_eq]) (by simp -implicitDefEqProofs (maxSteps := 2000000) (disch := first | with_reducible exact Nat.ne_of_beq_eq_false rfl | exact oneCell_int | exact oneCell_bool | omega | rfl | (simp; done) | fail) only [upd_eq]) (s4.in 3 rfl) d4
    have := q.1 y hyT
    rw [hc] at this; cases this
  | true =>
  obtain ⟨hn, hx, hyk, hlt2⟩ := numI_nat hc
  have hxy : ((y.1.toNat : Int), (y.2.toNat : Int)) = y := by
    obtain ⟨a1, a2, a3, a4⟩ := inW_iff.1 hc
    rw [Int.toNat_of_nonneg a1, Int.toNat_of_nonneg a3]
  obtain ⟨a1, a2, a3, a4⟩ := inW_iff.1 hc
  have mg := mk_get (G := G) mk (s4.in 1 rfl) hx hyk
  rw [show seenT (T.take i) y.1.toNat y.2.toNat = decide (y ∈ T.take i) by unfold seenT; rw [hxy]] at mg
  rw [hn]
  generalize hnn : y.2.toNat * w + y.1.toNat = n at hn hlt2 mg
  try simp -implicitDefEqProofs (maxSteps := 2000000) (disch := first | with_reducible exact Nat.ne_of_beq_eq_false rfl | exact oneCell_int | exact oneCell_bool | omega | rfl | (simp; done) | fail) only [q5, bin_lss, show decide ((n : Int) < 0) = false from decide_eq_false (by omega), pick_f, gd_ff, opH_sv, ix101n hlt2, ld4, mg, Option.some.injEq, exists_eq_left']
  by_cases hmem : y ∈ T.take i
  · try simp -implicitDefEqProofs (maxSteps := 2000000) (disch := first | with_reducible exact Nat.ne_of_beq_eq_false rfl | exact oneCell_int | exact oneCell_bool | omega | rfl | (simp; done) | fail) only [decide_eq_true hmem, HL.cond_true]
    exact H2 (fun q => not_nodup hy hmem q.2) _ _ (by simp -implicitDefEqProofs (maxSteps := 2000000) (disch := first | with_reducible exact Nat.ne_of_beq_eq_false rfl | exact oneCell_int | exact oneCell_bool | omega | rfl | (simp; done) | fail) only [upd_ne, upd_eq]) (by simp -implicitDefEqProofs (maxSteps := 2000000) (disch := first | with_reducible exact Nat.ne_of_beq_eq_false rfl | exact oneCell_int | exact oneCell_bool | omega | rfl | (simp; done) | fail) only [upd_eq]) (s4.in 3 rfl) d4
  try simp -implicitDefEqProofs (maxSteps := 2000000) (disch := first | with_reducible exact Nat.ne_of_beq_eq_false rfl | exact oneCell_int | exact oneCell_bool | omega | rfl | (simp; done) | fail) only [decide_eq_false hmem, HL.cond_false]
  unfold S72_l3_k6
  have mb4 := s4.at 1 rfl mk
  try simp -implicitDefEqProofs (maxSteps := 2000000) (disch := first | with_reducible exact Nat.ne_of_beq_eq_false rfl | exact oneCell_int | exact oneCell_bool | omega | rfl | (simp; done) | fail) only [upd_ne, q5, upd_eq, opH_su, pureW_sv, opH_sv, ix101n hlt2]
  rw [store1_eq sz4 rfl mb4 (by rw [bcC.rows_length, gridL_length]; simp [bcC]; exact hlt2)]
  have s5 := (s4.pick 1 rfl rfl).put (o := .cells ((bcC.rows (gridL w k (seenT (T.take i)))).set n (.bool true)).toArray 4 (0, 0)) mk
  have d5 : Dis G (h4.set mb (.cells ((bcC.rows (gridL w k (seenT (T.take i)))).set n (.bool true)).toArray 4 (0, 0))) := d4.set (d4 _ _ mb4)
  generalize Hp.set h4 mb _ = h5 at s5 d5 ⊢
  have g5h := s5.at 1 rfl go.hd
  have cg5 : ∀ j, cellIn G h5 ⟨gp, j, none⟩ = _ := fun j => cell_of (look_own g5h)
  try simp -implicitDefEqProofs (maxSteps := 2000000) (disch := first | with_reducible exact Nat.ne_of_beq_eq_false rfl | exact oneCell_int | exact oneCell_bool | omega | rfl | (simp; done) | fail) only [q4, pureW_nil, fa86_2p, add_mk, Nat.zero_add, ld57p, opH_nil, fa86_2, ld57, cg5, List.getElem?_cons_succ, List.getElem?_cons_zero, Option.some.injEq, exists_eq_left', ix57n hlt2]
  have kb5 := s5.at 1 rfl go.row
  rw [store1_eq sz3 rfl kb5 (by rw [icC.rows_length, gridL_length]; simp [icC]; exact hlt2)]
  have go6 := go.put (v := -1) hx hyk
  rw [hnn] at go6
  have s6 := (s5.pick 1 rfl rfl).put (o := .cells ((icC.rows (gridL w k (kd (T.take i) C.bl.length))).set n (.int .i64 (-1))).toArray 3 (0, 0)) go.row
  have d6 : Dis G (h5.set kb (.cells ((icC.rows (gridL w k (kd (T.take i) C.bl.length))).set n (.int .i64 (-1))).toArray 3 (0, 0))) := d5.set (d5 _ _ kb5)
  generalize Hp.set h5 kb _ = h6 at s6 d6 ⊢
  have c3 := cx0 h6 (s6.in 3 rfl) d6
  have mk6 := mk.put (v := true) hx hyk
  rw [hnn] at mk6
  have htl : (T.take i).length = i := by rw [List.length_take]; omega
  have next : ∀ (r3 : Rg) h7 ga7, r3 1 = r2 1 → r3 4 = r2 4 → r3 5 = r2 5 → r3 59 = r2 59 → r3 60 = r2 60 → r3 61 = r2 61 → GO ga7 gp kb w k (kd (T.take (i + 1)) C.bl.length) → Sep [ga7, ma.set mb (.cells ((bcC.rows (gridL w k (seenT (T.take i)))).set n (.bool true)).toArray 4 (0, 0)), ip, h1] h7 → Dis G h7 → S72_l3_k5 G (thenK X KK) r3 h7 := by
    intro r3 h7 ga7 w1 w4 w5 w59 w60 w61 go7 s7 d7
    unfold S72_l3_k5
    have w61' := w61.trans q61
    simp -implicitDefEqProofs (maxSteps := 2000000) (disch := first | with_reducible exact Nat.ne_of_beq_eq_false rfl | exact oneCell_int | exact oneCell_bool | omega | rfl | (simp; done) | fail) only [w61', thenK_normal, opH_sv, bin_add, wrap_in]
    refine HX (T.length - (i + 1)) _ _ (by omega) ⟨i + 1, ga7, _, rfl, hlt', by simp -implicitDefEqProofs (maxSteps := 2000000) (disch := first | with_reducible exact Nat.ne_of_beq_eq_false rfl | exact oneCell_int | exact oneCell_bool | omega | rfl | (simp; done) | fail) only [upd_ne, w1, q1, g1], by simp -implicitDefEqProofs (maxSteps := 2000000) (disch := first | with_reducible exact Nat.ne_of_beq_eq_false rfl | exact oneCell_int | exact oneCell_bool | omega | rfl | (simp; done) | fail) only [upd_ne, w4, q4, g4], by simp -implicitDefEqProofs (maxSteps := 2000000) (disch := first | with_reducible exact Nat.ne_of_beq_eq_false rfl | exact oneCell_int | exact oneCell_bool | omega | rfl | (simp; done) | fail) only [upd_ne, w5, q5, g5], by simp -implicitDefEqProofs (maxSteps := 2000000) (disch := first | with_reducible exact Nat.ne_of_beq_eq_false rfl | exact oneCell_int | exact oneCell_bool | omega | rfl | (simp; done) | fail) only [upd_ne, w59, q59, g59], by simp -implicitDefEqProofs (maxSteps := 2000000) (disch := first | with_reducible exact Nat.ne_of_beq_eq_false rfl | exact oneCell_int | exact oneCell_bool | omega | rfl | (simp; done) | fail) only [upd_ne, w60, q60, g60], by simp -implicitDefEqProofs (maxSteps := 2000000) (disch := first | with_reducible exact Nat.ne_of_beq_eq_false rfl | exact oneCell_int | exact oneCell_bool | omega | rfl | (simp; done) | fail) only [upd_eq] <;> rfl, ?_, nodup_take_succ hy hnd hmem, go7, ?_, s7, d7⟩
    · rw [take_get hy]
      intro c hc'
      rcases List.mem_append.1 hc' with q | q
      · exact hin c q
      · simp at q; rw [q]; exact hc
    · rw [take_get hy, seen_snoc a1 a3]
      exact mk6
  have kds := kd_snoc (nb := C.bl.length) hmem a1 a3
  rw [← take_get hy, htl] at kds
  try simp -implicitDefEqProofs (maxSteps := 2000000) (disch := first | with_reducible exact Nat.ne_of_beq_eq_false rfl | exact oneCell_int | exact oneCell_bool | omega | rfl | (simp; done) | fail) only [q1, fa26_3p, add_mk, Nat.zero_add, ld22p, fa26_3, ld22, c3, Option.some.injEq, exists_eq_left', ln22, bin_geq, ln22p, bin_subp, wrap_in, bin_addp]
  by_cases hib : i < C.bl.length
  · have e : decide ((i : Int) ≥ (C.bl.length : Int)) = false := decide_eq_false (by omega)
    try simp -implicitDefEqProofs (maxSteps := 2000000) (disch := first | with_reducible exact Nat.ne_of_beq_eq_false rfl | exact oneCell_int | exact oneCell_bool | omega | rfl | (simp; done) | fail) only [e, HL.cond_false]
    refine next _ _ _ (by simp -implicitDefEqProofs (maxSteps := 2000000) (disch := first | with_reducible exact Nat.ne_of_beq_eq_false rfl | exact oneCell_int | exact oneCell_bool | omega | rfl | (simp; done) | fail) only [upd_ne, q1]) (by simp -implicitDefEqProofs (maxSteps := 2000000) (disch := first | with_reducible exact Nat.ne_of_beq_eq_false rfl | exact oneCell_int | exact oneCell_bool | omega | rfl | (simp; done) | fail) only [upd_ne, q4]) (by simp -implicitDefEqProofs (maxSteps := 2000000) (disch := first | with_reducible exact Nat.ne_of_beq_eq_false rfl | exact oneCell_int | exact oneCell_bool | omega | rfl | (simp; done) | fail) only [upd_ne, q5]) (by simp -implicitDefEqProofs (maxSteps := 2000000) (disch := first | with_reducible exact Nat.ne_of_beq_eq_false rfl | exact oneCell_int | exact oneCell_bool | omega | rfl | (simp; done) | fail) only [upd_ne, q59]) (by simp -implicitDefEqProofs (maxSteps := 2000000) (disch := first | with_reducible exact Nat.ne_of_beq_eq_false rfl | exact oneCell_int | exact oneCell_bool | omega | rfl | (simp; done) | fail) only [upd_ne, q60]) (by simp -implicitDefEqProofs (maxSteps := 2000000) (disch := first | with_reducible exact Nat.ne_of_beq_eq_false rfl | exact oneCell_int | exact oneCell_bool | omega | rfl | (simp; done) | fail) only [upd_ne, q61]) ?_ (s6.swap.swap) d6
    rw [kds, if_pos hib]
    exact go6
  · have e : decide ((i : Int) ≥ (C.bl.length : Int)) = true := decide_eq_true (by omega)
    have g6h := s6.at 0 rfl go6.hd
    have cg6 : ∀ j, cellIn G h6 ⟨gp, j, none⟩ = _ := fun j => cell_of (look_own g6h)
    try simp -implicitDefEqProofs (maxSteps := 2000000) (disch := first | with_reducible exact Nat.ne_of_beq_eq_false rfl | exact oneCell_int | exact oneCell_bool | omega | rfl | (simp; done) | fail) only [e, cg6, List.getElem?_cons_succ, List.getElem?_cons_zero, Option.some.injEq, exists_eq_left', ix57np hlt2, HL.cond_true]
    have kb6 := s6.at 0 rfl go6.row
    rw [store1_eq sz3 rfl kb6 (by rw [icC.rows_length, gridL_length]; simp [icC]; exact hlt2)]
    have go7 := go6.put (v := (i : Int) - C.bl.length + 1) hx hyk
    rw [hnn] at go7
    have s7 := s6.put (o := .cells ((icC.rows (gridL w k fun p q => if p = y.1.toNat ∧ q = y.2.toNat then -1 else kd (T.take i) C.bl.length p q)).set n (.int .i64 ((i : Int) - C.bl.length + 1))).toArray 3 (0, 0)) go6.row
    refine next _ _ _ (by simp -implicitDefEqProofs (maxSteps := 2000000) (disch := first | with_reducible exact Nat.ne_of_beq_eq_false rfl | exact oneCell_int | exact oneCell_bool | omega | rfl | (simp; done) | fail) only [upd_ne, q1]) (by simp -implicitDefEqProofs (maxSteps := 2000000) (disch := first | with_reducible exact Nat.ne_of_beq_eq_false rfl | exact oneCell_int | exact oneCell_bool | omega | rfl | (simp; done) | fail) only [upd_ne, q4]) (by simp -implicitDefEqProofs (maxSteps := 2000000) (disch := first | with_reducible exact Nat.ne_of_beq_eq_false rfl | exact oneCell_int | exact oneCell_bool | omega | rfl | (simp; done) | fail) only [upd_ne, q5]) (by simp -implicitDefEqProofs (maxSteps := 2000000) (disch := first | with_reducible exact Nat.ne_of_beq_eq_false rfl | exact oneCell_int | exact oneCell_bool | omega | rfl | (simp; done) | fail) only [upd_ne, q59]) (by simp -implicitDefEqProofs (maxSteps := 2000000) (disch := first | with_reducible exact Nat.ne_of_beq_eq_false rfl | exact oneCell_int | exact oneCell_bool | omega | rfl | (simp; done) | fail) only [upd_ne, q60]) (by simp -implicitDefEqProofs (maxSteps := 2000000) (disch := first | with_reducible exact Nat.ne_of_beq_eq_false rfl | exact oneCell_int | exact oneCell_bool | omega | rfl | (simp; done) | fail) only [upd_ne, q61]) ?_ s7 (d6.set (d6 _ _ kb6))
    rw [kds, if_neg hib]
    have e2 : (fun p q => if p = y.1.toNat ∧ q = y.2.toNat then (i : Int) - C.bl.length + 1 else if p = y.1.toNat ∧ q = y.2.toNat then -1 else kd (T.take i) C.bl.length p q) = fun p q => if p = y.1.toNat ∧ q = y.2.toNat then (i : Int) - C.bl.length + 1 else kd (T.take i) C.bl.length p q := by
      funext p q
      by_cases h : p = y.1.toNat ∧ q = y.2.toNat <;> simp [h]
    rw [← e2]
    exact go7

end Go.Proofs.YtnpdploihlgcgaaDoor
