/- Texts of the proof, one behind the other. -/
import Derived.Test.YtnpdploihlgcgaaDoorM5
import Derived.Test.YtnpdploihlgcgaaDoorH3
import Derived.Test.YtnpdploihlgcgaaDoorH2
import Derived.Test.YtnpdploihlgcgaaDoorRows
import Derived.Test.YtnpdploihlgcgaaDoorTie
import Derived.JoinedOf
import Derived.Handed
import Derived.LaidMore
import Derived.LaidHandle
import Derived.LaidLaws
import Derived.MakeChecks
section
/- The cells that a move sweeps, as the reference tells them. -/
set_option linter.unusedSimpArgs false
set_option linter.unusedVariables false
set_option maxRecDepth 100000
namespace Go.Proofs.YtnpdploihlgcgaaDoor
open Go Go.HL

def rwayL (m : Move) : List Cell := if m.k = 1 then (List.range (m.n.toNat + 1)).flatMap (fun (i : Nat) => cellsP (shiftR m.f m.d i)) else if m.k = 2 then squareL (m.f.x, m.f.y) else cellsP m.f
def rsweptM (C : Conf) (m : Move) : List Cell := if legalR C m = true then sweptL (wC C) (kC C) (rwayL m) else []

theorem swept_len {w k : Nat} {W : List Cell} (hw : w ≤ 16) (hk : k ≤ 16) : (sweptL w k W).length ≤ 256 := by
  have := dirsL_len (D := fun y => pickFrom (fun x => decide ((((x : Nat) : Int), ((y : Nat) : Int)) ∈ W)) (fun x => (((x : Nat) : Int), ((y : Nat) : Int))) 0 w) (b := 16) (fun i => Nat.le_trans pickFrom_len hw) (k := k) (i := 0)
  have h2 : k * 16 ≤ 16 * 16 := Nat.mul_le_mul_right _ hk
  unfold sweptL
  omega

/-- The last part: through all cells. -/
theorem rswept_end {G h hb : Hp} {C : Conf} {x : Nat} {av : Value} {A : List Cell} {r : Rg} {KK : Exit → Rg → Hp → Prop} (d : Dis G h)
    (hx : ∀ hh, h.le hh → Dis G hh → cellIn G hh ⟨x, 0, none⟩ = some (.int .i64 C.w) ∧ cellIn G hh ⟨x, 1, none⟩ = some (.int .i64 C.h)) (ha : Sees cellC G h av A) (hA : A.length ≤ 100000) (ew : C.w = (wC C : Int)) (ek : C.h = (kC C : Int)) (w16 : wC C ≤ 16) (k16 : kC C ≤ 16)
    (g2 : r 2 = .pointer (some ⟨x, 0, none⟩)) (g5 : r 5 = av)
    (H : ∀ (r' : Rg) (hh ip : Hp) (u : Value), Slc cellC 28 ip u (sweptL (wC C) (kC C) A) → HL.Sep [ip, h] hh → Dis G hh → r' 7 = u → S48_k3 G KK r' hh) : S48_k2 G KK r h := by
  generalize hT : sweptL (wC C) (kC C) A = T at H
  have hlenT : T.length ≤ 256 := by rw [← hT]; exact swept_len w16 k16
  unfold sweptL at hT
  unfold S48_k2
  refine loop_I (fun m r h3 => ∃ (i : Nat) (ip : Hp) (u : Value) (M : List Cell), m = kC C - i ∧ i ≤ kC C ∧ r 2 = .pointer (some ⟨x, 0, none⟩) ∧ r 5 = av ∧ r 7 = u ∧ r 8 = .int .i64 i ∧ Slc cellC 28 ip u M ∧ M ++ dirsL (fun y => pickFrom (fun x => decide ((((x : Nat) : Int), ((y : Nat) : Int)) ∈ A)) (fun x => (((x : Nat) : Int), ((y : Nat) : Int))) 0 (wC C)) i (kC C - i) = T ∧ HL.Sep [ip, h] h3 ∧ Dis G h3) ?_
    (m := kC C) ⟨0, noHp, .slice none 0 0, [], rfl, Nat.zero_le _, by simp -implicitDefEqProofs (disch := first | with_reducible exact Nat.ne_of_beq_eq_false rfl | omega) only [upd_ne, g2], by simp -implicitDefEqProofs (disch := first | with_reducible exact Nat.ne_of_beq_eq_false rfl | omega) only [upd_ne, g5], by simp -implicitDefEqProofs (disch := first | with_reducible exact Nat.ne_of_beq_eq_false rfl | omega) only [upd_ne, upd_eq], by simp -implicitDefEqProofs only [upd_eq] <;> rfl, Slc.nil, hT, Sep.one.none, d⟩
  rintro m r h3 ⟨i, ip, u, M, rfl, hi, q2, q5, q7, q8, o, hM, s3, d3⟩ X HX
  have cx0 := (hx h3 (s3.in 1 rfl) d3).1
  have cx1 := (hx h3 (s3.in 1 rfl) d3).2
  unfold S48_l4
  simp -implicitDefEqProofs only [q2, q8, thenK_exit, blockK_exit, thenK_normal, if_true, opH_sv, fa26_1, add_mk, Nat.zero_add, ld3, cx1, ek, Option.some.injEq, exists_eq_left', bin_lss]
  refine cond_dec (fun hlt => ?_) (fun hge => ?_)
  rotate_left
  · obtain rfl : i = kC C := by omega
    rw [Nat.sub_self] at hM
    unfold dirsL at hM
    rw [List.append_nil] at hM
    subst hM
    try simp -implicitDefEqProofs only [opH_sv, opH_su, pureW_sv, opH_nil, pureW_nil, pick_t, pick_f, pick_tp, pick_fp, gd_tt, gd_ft, gd_tf, gd_ff, box_new, regs0, regs1, regs2, regs3, regs4, regs5, regs6, cells_agg, cells_int, cells_bool, cells_ptr, cells_slice, cells_string, cells_func, cells_nilFunc, cells_map, retK_ret, retK_normal, resL_tmp, resL_cell, resL_nil0, resL_nil1, resL_nil2, resL_nil3, resC_ptr, ex0, ex1, ex2, ex0p, ex1p, ex2p, HL.cond_true, HL.cond_false, thenK_normal, thenK_ret, thenK_exit, blockK_normal, blockK_ret, blockK_exit, scopeK_normal, scopeK_ret, scopeK_exit, wpH_pure, bin_add, bin_sub, bin_mul, bin_lss, bin_leq, bin_gtr, bin_geq, bin_quo, bin_rem, bin_quop, bin_remp, wrap_in, bin_addp, bin_subp, bin_mulp, bin_lssp, bin_leqp, bin_gtrp, bin_geqp, un_not, un_notp, un_neg, eq_int, ne_int, eq_intp, ne_intp, callV_fn, add_mk, upd_eq, upd_ne, cell_set_self, Nat.zero_add, Nat.add_zero, Option.some.injEq, exists_eq_left', List.getElem?_cons_succ, List.getElem?_cons_zero, true_and, and_true, bne_self_eq_false, beq_self_eq_true, Bool.not_true, Bool.not_false, Bool.and_true, Bool.and_self, Bool.and_false, Bool.true_and, List.length_cons, List.length_nil, ne_eq, not_false_eq_true, Nat.reduceAdd, Nat.reduceMul, if_true, if_false, oneCell_int, oneCell_bool, oneCell_ptr, oneCell_slice, oneCell_string, oneCell_func, oneCell_map, Int.toNat_natCast, List.set_cons_zero, List.set_cons_succ, Nat.lt_irrefl, Nat.zero_lt_succ, Nat.succ_lt_succ_iff, fa26_0, fa26_0p, fa26_1, fa26_1p, fa26_10, fa26_10p, fa26_11, fa26_11p, fa26_12, fa26_12p, fa26_13, fa26_13p, fa26_14, fa26_14p, fa26_2, fa26_2p, fa26_3, fa26_3p, fa26_4, fa26_4p, fa26_5, fa26_5p, fa26_6, fa26_6p, fa26_7, fa26_7p, fa26_8, fa26_8p, fa26_9, fa26_9p, fa28_0, fa28_0p, fa28_1, fa28_1p, fa30_0, fa30_0p, fa30_1, fa30_1p, fa46_0, fa46_0p, fa46_1, fa46_1p, fa46_2, fa46_2p, fa46_3, fa46_3p, fa46_4, fa46_4p, fa46_5, fa46_5p, fa46_6, fa46_6p, fa86_0, fa86_0p, fa86_1, fa86_1p, fa86_2, fa86_2p, fa95_0, fa95_0p, fa95_1, fa95_1p, ld3, ld3p, ld4, ld4p, ld22, ld22p, ld23, ld23p, ld24, ld24p, ld26, ld26p, ld28, ld28p, ld30, ld30p, ld31, ld31p, ld46, ld46p, ld47, ld47p, ld52, ld52p, ld55, ld55p, ld57, ld57p, ld95, ld95p, st3s, st4s, st22s, st23s, st24s, st26w, st28w, st30w, st46w, st47s, st55s, st95w, ix22, ix22p, ix23, ix23p, ix24, ix24p, ix47, ix47p, ix56, ix56p, ix57, ix57p, ix101, ix101p, ln22, ln22p, ln23, ln23p, ln24, ln24p, ln47, ln47p, ln56, ln56p, ln57, ln57p, al22, al26, al28, al30, al46, al47, al95, cf14, cf15, cf16, cf17, cf18, cf19, cf20, cf21, cf22, cf23, cf24, cf25, cf26, cf27, cf28, cf29, cf30, cf31, cf32, cf33, cf34, cf35, cf36, cf37, cf38, cf39, cf40, cf41, cf42, cf43, cf44, cf45, cf46, cf47, cf48, cf49, cf50, cf51, cf52, cf53, cf54, cf55, cf56, cf57, cf58, cf59, cf60, cf61, cf62, cf63, cf64, cf65, cf66, cf67, cf68, cf69, cf70, cf71, cf72, cf73, cf74, cf75, cf76, cf77, cf78, cf79, cf80, bd26_0_1_2_7_8_9_10_11_12_13_14, bd26_0_1_2_7_8_9_10_11_12_13_14p, bd28_0, bd28_0p, bd28_0_1, bd28_0_1p, bd30_, bd30_p, bd30_0_1, bd30_0_1p, bd30_0, bd30_0p, bd46_0_1_2_3_4, bd46_0_1_2_3_4p, bd46_0_3_4, bd46_0_3_4p, bd86_0_1_2, bd86_0_1_2p, bd87_0_1_2_3, bd87_0_1_2_3p, bd95_0_1, bd95_0_1p, bs22_2_0_1, bs47_1_0, bs22_1_0, bs57_6_0_1_2_3_4_5, bs24_1_0, bs22_4_0_1_2_3, bs56_11_0_1_2_3_4_5_6_7_8_9_10, bs57_11_0_1_2_3_4_5_6_7_8_9_10, eq4, eq4p, eq28, eq28p, eq30, eq30p, eq31n, eq31np, eq31s, eq31sp, eq46, eq46p, eq50n, eq50np, eq50s, eq50sp, eq67n, eq67np, eq67s, eq67sp, ne4, ne4p, ne28, ne28p, ne30, ne30p, ne31n, ne31np, ne31s, ne31sp, ne46, ne46p, al76]
    exact H _ _ ip u o s3 d3 (by simp -implicitDefEqProofs (disch := first | with_reducible exact Nat.ne_of_beq_eq_false rfl | omega) only [upd_ne, q7])
  have hlt' : i < kC C := by omega
  unfold S48_l4_k5
  refine loop_I (fun m r2 h3 => ∃ (n : Nat) (ip : Hp) (u : Value) (M : List Cell), m = wC C - n ∧ n ≤ wC C ∧ r2 2 = .pointer (some ⟨x, 0, none⟩) ∧ r2 5 = av ∧ r2 7 = u ∧ r2 8 = .int .i64 i ∧ r2 9 = .int .i64 n ∧ Slc cellC 28 ip u M ∧ M ++ (pickFrom (fun x => decide ((((x : Nat) : Int), ((i : Nat) : Int)) ∈ A)) (fun x => (((x : Nat) : Int), ((i : Nat) : Int))) n (wC C - n) ++ dirsL (fun y => pickFrom (fun x => decide ((((x : Nat) : Int), ((y : Nat) : Int)) ∈ A)) (fun x => (((x : Nat) : Int), ((y : Nat) : Int))) 0 (wC C)) (i + 1) (kC C - (i + 1))) = T ∧ HL.Sep [ip, h] h3 ∧ Dis G h3) ?_
    (m := wC C) ⟨0, ip, u, M, rfl, Nat.zero_le _, by simp -implicitDefEqProofs (disch := first | with_reducible exact Nat.ne_of_beq_eq_false rfl | omega) only [upd_ne, q2], by simp -implicitDefEqProofs (disch := first | with_reducible exact Nat.ne_of_beq_eq_false rfl | omega) only [upd_ne, q5], by simp -implicitDefEqProofs (disch := first | with_reducible exact Nat.ne_of_beq_eq_false rfl | omega) only [upd_ne, q7], by simp -implicitDefEqProofs (disch := first | with_reducible exact Nat.ne_of_beq_eq_false rfl | omega) only [upd_ne, q8], by simp -implicitDefEqProofs only [upd_eq] <;> rfl, o, by rw [← hM, show kC C - i = (kC C - (i + 1)) + 1 by omega]; rfl, s3, d3⟩
  clear q2 q5 q7 q8 o hM s3 d3 cx0 cx1
  rintro m r2 h3 ⟨n, ip, u, M, rfl, hn, q2, q5, q7, q8, q9, o, hM, s3, d3⟩ X2 HX2
  have cx0 := (hx h3 (s3.in 1 rfl) d3).1
  have hlenM : M.length ≤ 256 := by
    have : M.length ≤ T.length := by rw [← hM, List.length_append]; omega
    omega
  unfold S48_l4_l7
  simp -implicitDefEqProofs only [q2, q9, thenK_exit, blockK_exit, blockK_normal, thenK_normal, if_true, opH_sv, fa26_0, add_mk, Nat.add_zero, ld3, cx0, ew, Option.some.injEq, exists_eq_left', bin_lss]
  refine cond_dec (fun hlt => ?_) (fun hge => ?_)
  rotate_left
  · obtain rfl : n = wC C := by omega
    rw [Nat.sub_self, show ∀ (p : Nat → Bool) (mk : Nat → Cell), pickFrom p mk (wC C) 0 = [] from fun _ _ => rfl, List.nil_append] at hM
    try simp -implicitDefEqProofs only [opH_sv, opH_su, pureW_sv, opH_nil, pureW_nil, pick_t, pick_f, pick_tp, pick_fp, gd_tt, gd_ft, gd_tf, gd_ff, box_new, regs0, regs1, regs2, regs3, regs4, regs5, regs6, cells_agg, cells_int, cells_bool, cells_ptr, cells_slice, cells_string, cells_func, cells_nilFunc, cells_map, retK_ret, retK_normal, resL_tmp, resL_cell, resL_nil0, resL_nil1, resL_nil2, resL_nil3, resC_ptr, ex0, ex1, ex2, ex0p, ex1p, ex2p, HL.cond_true, HL.cond_false, thenK_normal, thenK_ret, thenK_exit, blockK_normal, blockK_ret, blockK_exit, scopeK_normal, scopeK_ret, scopeK_exit, wpH_pure, bin_add, bin_sub, bin_mul, bin_lss, bin_leq, bin_gtr, bin_geq, bin_quo, bin_rem, bin_quop, bin_remp, wrap_in, bin_addp, bin_subp, bin_mulp, bin_lssp, bin_leqp, bin_gtrp, bin_geqp, un_not, un_notp, un_neg, eq_int, ne_int, eq_intp, ne_intp, callV_fn, add_mk, upd_eq, upd_ne, cell_set_self, Nat.zero_add, Nat.add_zero, Option.some.injEq, exists_eq_left', List.getElem?_cons_succ, List.getElem?_cons_zero, true_and, and_true, bne_self_eq_false, beq_self_eq_true, Bool.not_true, Bool.not_false, Bool.and_true, Bool.and_self, Bool.and_false, Bool.true_and, List.length_cons, List.length_nil, ne_eq, not_false_eq_true, Nat.reduceAdd, Nat.reduceMul, if_true, if_false, oneCell_int, oneCell_bool, oneCell_ptr, oneCell_slice, oneCell_string, oneCell_func, oneCell_map, Int.toNat_natCast, List.set_cons_zero, List.set_cons_succ, Nat.lt_irrefl, Nat.zero_lt_succ, Nat.succ_lt_succ_iff, fa26_0, fa26_0p, fa26_1, fa26_1p, fa26_10, fa26_10p, fa26_11, fa26_11p, fa26_12, fa26_12p, fa26_13, fa26_13p, fa26_14, fa26_14p, fa26_2, fa26_2p, fa26_3, fa26_3p, fa26_4, fa26_4p, fa26_5, fa26_5p, fa26_6, fa26_6p, fa26_7, fa26_7p, fa26_8, fa26_8p, fa26_9, fa26_9p, fa28_0, fa28_0p, fa28_1, fa28_1p, fa30_0, fa30_0p, fa30_1, fa30_1p, fa46_0, fa46_0p, fa46_1, fa46_1p, fa46_2, fa46_2p, fa46_3, fa46_3p, fa46_4, fa46_4p, fa46_5, fa46_5p, fa46_6, fa46_6p, fa86_0, fa86_0p, fa86_1, fa86_1p, fa86_2, fa86_2p, fa95_0, fa95_0p, fa95_1, fa95_1p, ld3, ld3p, ld4, ld4p, ld22, ld22p, ld23, ld23p, ld24, ld24p, ld26, ld26p, ld28, ld28p, ld30, ld30p, ld31, ld31p, ld46, ld46p, ld47, ld47p, ld52, ld52p, ld55, ld55p, ld57, ld57p, ld95, ld95p, st3s, st4s, st22s, st23s, st24s, st26w, st28w, st30w, st46w, st47s, st55s, st95w, ix22, ix22p, ix23, ix23p, ix24, ix24p, ix47, ix47p, ix56, ix56p, ix57, ix57p, ix101, ix101p, ln22, ln22p, ln23, ln23p, ln24, ln24p, ln47, ln47p, ln56, ln56p, ln57, ln57p, al22, al26, al28, al30, al46, al47, al95, cf14, cf15, cf16, cf17, cf18, cf19, cf20, cf21, cf22, cf23, cf24, cf25, cf26, cf27, cf28, cf29, cf30, cf31, cf32, cf33, cf34, cf35, cf36, cf37, cf38, cf39, cf40, cf41, cf42, cf43, cf44, cf45, cf46, cf47, cf48, cf49, cf50, cf51, cf52, cf53, cf54, cf55, cf56, cf57, cf58, cf59, cf60, cf61, cf62, cf63, cf64, cf65, cf66, cf67, cf68, cf69, cf70, cf71, cf72, cf73, cf74, cf75, cf76, cf77, cf78, cf79, cf80, bd26_0_1_2_7_8_9_10_11_12_13_14, bd26_0_1_2_7_8_9_10_11_12_13_14p, bd28_0, bd28_0p, bd28_0_1, bd28_0_1p, bd30_, bd30_p, bd30_0_1, bd30_0_1p, bd30_0, bd30_0p, bd46_0_1_2_3_4, bd46_0_1_2_3_4p, bd46_0_3_4, bd46_0_3_4p, bd86_0_1_2, bd86_0_1_2p, bd87_0_1_2_3, bd87_0_1_2_3p, bd95_0_1, bd95_0_1p, bs22_2_0_1, bs47_1_0, bs22_1_0, bs57_6_0_1_2_3_4_5, bs24_1_0, bs22_4_0_1_2_3, bs56_11_0_1_2_3_4_5_6_7_8_9_10, bs57_11_0_1_2_3_4_5_6_7_8_9_10, eq4, eq4p, eq28, eq28p, eq30, eq30p, eq31n, eq31np, eq31s, eq31sp, eq46, eq46p, eq50n, eq50np, eq50s, eq50sp, eq67n, eq67np, eq67s, eq67sp, ne4, ne4p, ne28, ne28p, ne30, ne30p, ne31n, ne31np, ne31s, ne31sp, ne46, ne46p, al76]
    unfold S48_l4_k6
    try simp -implicitDefEqProofs (disch := first | with_reducible exact Nat.ne_of_beq_eq_false rfl | omega) only [upd_ne, q8, thenK_normal, opH_sv, bin_add, wrap_in]
    exact HX (kC C - (i + 1)) _ _ (by omega) ⟨i + 1, ip, u, M, rfl, hlt', by simp -implicitDefEqProofs (maxSteps := 2000000) (disch := first | with_reducible exact Nat.ne_of_beq_eq_false rfl | exact oneCell_int | exact oneCell_bool | omega | rfl | (simp; done) | fail) only [upd_ne, q2], by simp -implicitDefEqProofs (maxSteps := 2000000) (disch := first | with_reducible exact Nat.ne_of_beq_eq_false rfl | exact oneCell_int | exact oneCell_bool | omega | rfl | (simp; done) | fail) only [upd_ne, q5], by simp -implicitDefEqProofs (maxSteps := 2000000) (disch := first | with_reducible exact Nat.ne_of_beq_eq_false rfl | exact oneCell_int | exact oneCell_bool | omega | rfl | (simp; done) | fail) only [upd_ne, q7], by simp -implicitDefEqProofs (maxSteps := 2000000) (disch := first | with_reducible exact Nat.ne_of_beq_eq_false rfl | exact oneCell_int | exact oneCell_bool | omega | rfl | (simp; done) | fail) only [upd_eq] <;> rfl, o, hM, s3, d3⟩
  have hnw : n < wC C := by omega
  rw [show wC C - n = (wC C - (n + 1)) + 1 by omega, pick_succ] at hM
  unfold S48_l4_l7_k8
  try simp -implicitDefEqProofs (disch := first | with_reducible exact Nat.ne_of_beq_eq_false rfl | omega) only [upd_ne, q9, q8, q5, opH_sv, bd28_0_1, bs22_1_0, cf53]
  refine (among_spec (c := ((n : Int), (i : Int))) (ha.up (s3.in 1 rfl) d3) (by omega)).mono ?_
  rintro _ h3 ⟨rfl, rfl⟩
  have next : ∀ (r3 : Rg) (h5 ip : Hp) (u : Value) (M : List Cell), r3 2 = r2 2 → r3 5 = r2 5 → r3 7 = u → r3 8 = r2 8 → r3 9 = r2 9 → Slc cellC 28 ip u M → M ++ (pickFrom (fun x => decide ((((x : Nat) : Int), ((i : Nat) : Int)) ∈ A)) (fun x => (((x : Nat) : Int), ((i : Nat) : Int))) (n + 1) (wC C - (n + 1)) ++ dirsL (fun y => pickFrom (fun x => decide ((((x : Nat) : Int), ((y : Nat) : Int)) ∈ A)) (fun x => (((x : Nat) : Int), ((y : Nat) : Int))) 0 (wC C)) (i + 1) (kC C - (i + 1))) = T → HL.Sep [ip, h] h5 → Dis G h5 →
      ∀ KK, S48_l4_l7_k9 G (thenK X2 KK) r3 h5 := by
    intro r3 h5 ip u M v2 v5 v7 v8 v9 o5 hM5 s5 d5 KK
    unfold S48_l4_l7_k9
    have v9' := v9.trans q9
    simp -implicitDefEqProofs (disch := first | with_reducible exact Nat.ne_of_beq_eq_false rfl | omega) only [v9', thenK_normal, opH_sv, bin_add, wrap_in]
    exact HX2 (wC C - (n + 1)) _ _ (by omega) ⟨n + 1, ip, u, M, rfl, hnw, by simp -implicitDefEqProofs (disch := first | with_reducible exact Nat.ne_of_beq_eq_false rfl | omega) only [upd_ne, v2, q2], by simp -implicitDefEqProofs (disch := first | with_reducible exact Nat.ne_of_beq_eq_false rfl | omega) only [upd_ne, v5, q5], by simp -implicitDefEqProofs (disch := first | with_reducible exact Nat.ne_of_beq_eq_false rfl | omega) only [upd_ne, v7], by simp -implicitDefEqProofs (disch := first | with_reducible exact Nat.ne_of_beq_eq_false rfl | omega) only [upd_ne, v8, q8], by simp -implicitDefEqProofs (disch := first | with_reducible exact Nat.ne_of_beq_eq_false rfl | omega) only [upd_eq] <;> rfl, o5, hM5, s5, d5⟩
  by_cases hb : ((n : Int), (i : Int)) ∈ A
  · have hc : ((A.count ((n : Int), (i : Int)) : Nat) : Int) > 0 := by have := List.count_pos_iff.2 hb; omega
    rw [if_pos (decide_eq_true hb), List.cons_append] at hM
    try simp -implicitDefEqProofs (disch := first | with_reducible exact Nat.ne_of_beq_eq_false rfl | omega) only [q7, bin_gtr, decide_eq_true hc, HL.cond_true]
    intro b hbb gb
    have s5 := s3.past (o := cellO ((n : Int), (i : Int))) hbb
    have d5 := d3.set (o := cellO ((n : Int), (i : Int))) gb
    have hb5 : (h3.set b (cellO ((n : Int), (i : Int)))) b = some (cellO ((n : Int), (i : Int))) := set_self
    generalize Hp.set h3 b _ = h5 at s5 d5 hb5 ⊢
    refine append_piece cellC (by decide) un22 eocell (by decide) (by decide) (M := [((n : Int), (i : Int))]) s5 d5 o (Sees.row (c := cellC) (L := [((n : Int), (i : Int))]) hb5 rfl (Nat.le_refl _)) (by simp; omega) fun v6 a6 h6 o6 s6 d6 => ?_
    exact next _ _ a6 v6 (M ++ [((n : Int), (i : Int))]) (by simp -implicitDefEqProofs (disch := first | with_reducible exact Nat.ne_of_beq_eq_false rfl | omega) only [upd_ne]) (by simp -implicitDefEqProofs (disch := first | with_reducible exact Nat.ne_of_beq_eq_false rfl | omega) only [upd_ne]) (by simp -implicitDefEqProofs (disch := first | with_reducible exact Nat.ne_of_beq_eq_false rfl | omega) only [upd_eq]) (by simp -implicitDefEqProofs (disch := first | with_reducible exact Nat.ne_of_beq_eq_false rfl | omega) only [upd_ne]) (by simp -implicitDefEqProofs (disch := first | with_reducible exact Nat.ne_of_beq_eq_false rfl | omega) only [upd_ne]) o6 (by rw [List.append_assoc]; exact hM) s6 d6 _
  · have hc : ¬ (((A.count ((n : Int), (i : Int)) : Nat) : Int) > 0) := by have := List.count_eq_zero.2 hb; omega
    rw [if_neg (by simpa using hb)] at hM
    try simp -implicitDefEqProofs (disch := first | with_reducible exact Nat.ne_of_beq_eq_false rfl | omega) only [bin_gtr, decide_eq_false hc, HL.cond_false]
    exact next _ _ ip u M (by simp -implicitDefEqProofs (disch := first | with_reducible exact Nat.ne_of_beq_eq_false rfl | omega) only [upd_ne]) (by simp -implicitDefEqProofs (disch := first | with_reducible exact Nat.ne_of_beq_eq_false rfl | omega) only [upd_ne]) (by simp -implicitDefEqProofs (disch := first | with_reducible exact Nat.ne_of_beq_eq_false rfl | omega) only [upd_ne, q7]) (by simp -implicitDefEqProofs (disch := first | with_reducible exact Nat.ne_of_beq_eq_false rfl | omega) only [upd_ne]) (by simp -implicitDefEqProofs (disch := first | with_reducible exact Nat.ne_of_beq_eq_false rfl | omega) only [upd_ne]) o hM s3 d3 _

set_option maxHeartbeats 4000000 in
theorem rswept_spec {G h : Hp} {v : Value} {C : Conf} {m : Move} (hv : CV G h v C) (hL : C.bl.length ≤ 100000000000000) (ew : C.w = (wC C : Int)) (ek : C.h = (kC C : Int)) (w16 : wC C ≤ 16) (k16 : kC C ≤ 16) : HCalls Tryd.prog G 48 #[v, moveV m] h (fun u h' => ∃ ip, Slc cellC 28 ip u (rsweptM C m) ∧ HL.Sep [ip, h] h' ∧ Dis G h') := by
  have hv0 := hv
  obtain ⟨ab, cb, ap, cp, ar, cr, az, cs, rfl, ca⟩ := hv
  refine HCalls.assume fun d => enter48 (by simp) ?_
  unfold S48
  simp -implicitDefEqProofs only [regs0, regs1, retK_ret, resL_tmp, upd_eq, resL_nil1, opH_sv, cf46, box_new, cells_agg, ld46, add_mk, Nat.add_zero, Nat.zero_add, ld26, cell_set_self, List.getElem?_cons_zero, Option.some.injEq, List.getElem?_cons_succ, exists_eq_left']
  intro x hx gx
  generalize e1 : Hp.set h x _ = h1
  obtain ⟨l1, d1, b1⟩ := boxed e1 hx d gx
  intro y hy gy
  generalize e2 : Hp.set h1 y _ = h2
  obtain ⟨l2, d2, b2⟩ := boxed e2 hy d1 gy
  have cx : ∀ j, cellIn G h2 ⟨x, j, none⟩ = _ := fun j => cell_of (look_own (l2 _ _ b1))
  have cy : ∀ j, cellIn G h2 ⟨y, j, none⟩ = _ := fun j => cell_of (look_own b2)
  have l02 := l1.trans l2
  try simp -implicitDefEqProofs only [cx, List.getElem?_cons_zero, Option.some.injEq, List.getElem?_cons_succ, exists_eq_left']
  refine (rlegal_spec (m := m) (hv0.up l02 d2) hL).mono ?_
  rintro _ h2 ⟨rfl, rfl⟩
  cases hl : legalR C m with
  | false =>
    try simp -implicitDefEqProofs only [un_not, Bool.not_false, HL.cond_true]
    refine ⟨noHp, ?_, ((Sep.one (h := h2)).cut l02).none, d2⟩
    unfold rsweptM
    rw [hl]
    exact Slc.nil
  | true =>
  try simp -implicitDefEqProofs only [un_not, Bool.not_true, HL.cond_false]
  unfold S48_k1
  generalize hKK : retK Tryd.prog G _ _ = KK
  have fin : ∀ (hh : Hp) (av : Value) (A : List Cell) (r : Rg), h2.le hh → Dis G hh → Sees cellC G hh av A → A.length ≤ 100000 → A = rwayL m → r 2 = .pointer (some ⟨x, 0, none⟩) → r 5 = av → S48_k2 G KK r hh := by
    intro hh av A r l dd ha hA eA g2 g5
    refine rswept_end (hb := h) dd (fun h3 l3 d3 => ?_) ha hA ew ek w16 k16 g2 g5 fun r' h3 ip u o s3 d3 g7 => ?_
    · have b3 := l3 _ _ (l _ _ (l2 _ _ b1))
      exact ⟨cell_of (look_own b3), cell_of (look_own b3)⟩
    · unfold S48_k3
      rw [← hKK]
      try simp -implicitDefEqProofs only [g7, retK_ret, resL_tmp, upd_eq, resL_nil1]
      refine ⟨ip, ?_, ((s3.pick 1 rfl rfl).cut (l02.trans l)).pick 1 rfl rfl, d3⟩
      unfold rsweptM
      rw [hl, if_pos rfl, ← eA]
      exact o
  have hlg := hl
  unfold legalR at hlg
  rw [Bool.and_eq_true] at hlg
  by_cases hk1 : (m.k == 1) = true
  · have ek1 : m.k = 1 := eq_of_beq hk1
    rw [if_pos ek1, Bool.and_eq_true] at hlg
    have hn := withinB_iff.1 hlg.2.1
    have eA : rwayL m = (List.range (m.n.toNat + 1)).flatMap (fun (i : Nat) => cellsP (shiftR m.f m.d i)) := by unfold rwayL; rw [if_pos ek1]
    try simp -implicitDefEqProofs (maxSteps := 2000000) (disch := first | with_reducible exact Nat.ne_of_beq_eq_false rfl | exact oneCell_int | exact oneCell_bool | omega | rfl | (simp; done) | fail) only [upd_ne, upd_eq, cf68, opH_sv, fa46_3, add_mk, Nat.zero_add, ld30, Nat.add_zero, Nat.reduceAdd, cf22, fa46_0, ld3, cy, List.getElem?_cons_zero, Option.some.injEq, exists_eq_left', eq_int, hk1, List.getElem?_cons_succ, HL.cond_true]
    refine loop_I (fun mm r h3 => ∃ (i : Nat) (ip : Hp) (u : Value), mm = m.n.toNat + 1 - i ∧ i ≤ m.n.toNat + 1 ∧ r 2 = .pointer (some ⟨x, 0, none⟩) ∧ r 3 = .pointer (some ⟨y, 0, none⟩) ∧ r 5 = u ∧ r 6 = .int .i64 i ∧ Slc cellC 28 ip u ((List.range i).flatMap (fun (i : Nat) => cellsP (shiftR m.f m.d i))) ∧ HL.Sep [ip, h2] h3 ∧ Dis G h3) ?_
      (m := m.n.toNat + 1) ⟨0, noHp, .slice none 0 0, rfl, Nat.zero_le _, by simp -implicitDefEqProofs (maxSteps := 2000000) (disch := first | with_reducible exact Nat.ne_of_beq_eq_false rfl | exact oneCell_int | exact oneCell_bool | omega | rfl | (simp; done) | fail) only [upd_ne, upd_eq], by simp -implicitDefEqProofs (maxSteps := 2000000) (disch := first | with_reducible exact Nat.ne_of_beq_eq_false rfl | exact oneCell_int | exact oneCell_bool | omega | rfl | (simp; done) | fail) only [upd_ne, upd_eq], by simp -implicitDefEqProofs (maxSteps := 2000000) (disch := first | with_reducible exact Nat.ne_of_beq_eq_false rfl | exact oneCell_int | exact oneCell_bool | omega | rfl | (simp; done) | fail) only [upd_ne, upd_eq], by simp -implicitDefEqProofs (maxSteps := 2000000) (disch := first | with_reducible exact Nat.ne_of_beq_eq_false rfl | exact oneCell_int | exact oneCell_bool | omega | rfl | (simp; done) | fail) only [upd_eq] <;> rfl, Slc.nil, Sep.one.none, d2⟩
    rintro mm r h3 ⟨i, ip, u, rfl, hi, q2, q3, q5, q6, o, s3, d3⟩ X HX
    have l3 := s3.in 1 rfl
    have cy3 : ∀ j, cellIn G h3 ⟨y, j, none⟩ = _ := fun j => cell_of (look_own (l3 _ _ b2))
    have hlen := flat_two (D := fun (i : Nat) => cellsP (shiftR m.f m.d i)) (fun i => rfl) i
    unfold S48_l10
    simp -implicitDefEqProofs (disch := first | with_reducible exact Nat.ne_of_beq_eq_false rfl | omega) only [q3, q6, thenK_exit, blockK_exit, blockK_normal, thenK_normal, if_true, opH_sv, fa46_2, add_mk, Nat.zero_add, ld3, cy3, List.getElem?_cons_succ, List.getElem?_cons_zero, Option.some.injEq, exists_eq_left', bin_leq]
    refine cond_dec (fun hlt => ?_) (fun hge => ?_)
    · unfold S48_l10_k11
      try simp -implicitDefEqProofs (disch := first | with_reducible exact Nat.ne_of_beq_eq_false rfl | omega) only [upd_ne, q3, q6, opH_sv, cf22, cf59, fa46_1, add_mk, Nat.zero_add, ld3, fa46_3, ld30, Nat.add_zero, cy3, List.getElem?_cons_succ, List.getElem?_cons_zero, Option.some.injEq, Nat.reduceAdd, exists_eq_left']
      refine (rshift_spec (p := m.f) (dir := m.d) (n := (i : Int))).mono ?_
      rintro _ h3 ⟨rfl, rfl⟩
      try simp -implicitDefEqProofs (disch := first | with_reducible exact Nat.ne_of_beq_eq_false rfl | omega) only [opH_sv, opH_su, pureW_sv, opH_nil, pureW_nil, pick_t, pick_f, pick_tp, pick_fp, gd_tt, gd_ft, gd_tf, gd_ff, box_new, regs0, regs1, regs2, regs3, regs4, regs5, regs6, cells_agg, cells_int, cells_bool, cells_ptr, cells_slice, cells_string, cells_func, cells_nilFunc, cells_map, retK_ret, retK_normal, resL_tmp, resL_cell, resL_nil0, resL_nil1, resL_nil2, resL_nil3, resC_ptr, ex0, ex1, ex2, ex0p, ex1p, ex2p, HL.cond_true, HL.cond_false, thenK_normal, thenK_ret, thenK_exit, blockK_normal, blockK_ret, blockK_exit, scopeK_normal, scopeK_ret, scopeK_exit, wpH_pure, bin_add, bin_sub, bin_mul, bin_lss, bin_leq, bin_gtr, bin_geq, bin_quo, bin_rem, bin_quop, bin_remp, wrap_in, bin_addp, bin_subp, bin_mulp, bin_lssp, bin_leqp, bin_gtrp, bin_geqp, un_not, un_notp, un_neg, eq_int, ne_int, eq_intp, ne_intp, callV_fn, add_mk, upd_eq, upd_ne, cell_set_self, Nat.zero_add, Nat.add_zero, Option.some.injEq, exists_eq_left', List.getElem?_cons_succ, List.getElem?_cons_zero, true_and, and_true, bne_self_eq_false, beq_self_eq_true, Bool.not_true, Bool.not_false, Bool.and_true, Bool.and_self, Bool.and_false, Bool.true_and, List.length_cons, List.length_nil, ne_eq, not_false_eq_true, Nat.reduceAdd, Nat.reduceMul, if_true, if_false, oneCell_int, oneCell_bool, oneCell_ptr, oneCell_slice, oneCell_string, oneCell_func, oneCell_map, Int.toNat_natCast, List.set_cons_zero, List.set_cons_succ, Nat.lt_irrefl, Nat.zero_lt_succ, Nat.succ_lt_succ_iff, fa26_0, fa26_0p, fa26_1, fa26_1p, fa26_10, fa26_10p, fa26_11, fa26_11p, fa26_12, fa26_12p, fa26_13, fa26_13p, fa26_14, fa26_14p, fa26_2, fa26_2p, fa26_3, fa26_3p, fa26_4, fa26_4p, fa26_5, fa26_5p, fa26_6, fa26_6p, fa26_7, fa26_7p, fa26_8, fa26_8p, fa26_9, fa26_9p, fa28_0, fa28_0p, fa28_1, fa28_1p, fa30_0, fa30_0p, fa30_1, fa30_1p, fa46_0, fa46_0p, fa46_1, fa46_1p, fa46_2, fa46_2p, fa46_3, fa46_3p, fa46_4, fa46_4p, fa46_5, fa46_5p, fa46_6, fa46_6p, fa86_0, fa86_0p, fa86_1, fa86_1p, fa86_2, fa86_2p, fa95_0, fa95_0p, fa95_1, fa95_1p, ld3, ld3p, ld4, ld4p, ld22, ld22p, ld23, ld23p, ld24, ld24p, ld26, ld26p, ld28, ld28p, ld30, ld30p, ld31, ld31p, ld46, ld46p, ld47, ld47p, ld52, ld52p, ld55, ld55p, ld57, ld57p, ld95, ld95p, st3s, st4s, st22s, st23s, st24s, st26w, st28w, st30w, st46w, st47s, st55s, st95w, ix22, ix22p, ix23, ix23p, ix24, ix24p, ix47, ix47p, ix56, ix56p, ix57, ix57p, ix101, ix101p, ln22, ln22p, ln23, ln23p, ln24, ln24p, ln47, ln47p, ln56, ln56p, ln57, ln57p, al22, al26, al28, al30, al46, al47, al95, cf14, cf15, cf16, cf17, cf18, cf19, cf20, cf21, cf22, cf23, cf24, cf25, cf26, cf27, cf28, cf29, cf30, cf31, cf32, cf33, cf34, cf35, cf36, cf37, cf38, cf39, cf40, cf41, cf42, cf43, cf44, cf45, cf46, cf47, cf48, cf49, cf50, cf51, cf52, cf53, cf54, cf55, cf56, cf57, cf58, cf59, cf60, cf61, cf62, cf63, cf64, cf65, cf66, cf67, cf68, cf69, cf70, cf71, cf72, cf73, cf74, cf75, cf76, cf77, cf78, cf79, cf80, bd26_0_1_2_7_8_9_10_11_12_13_14, bd26_0_1_2_7_8_9_10_11_12_13_14p, bd28_0, bd28_0p, bd28_0_1, bd28_0_1p, bd30_, bd30_p, bd30_0_1, bd30_0_1p, bd30_0, bd30_0p, bd46_0_1_2_3_4, bd46_0_1_2_3_4p, bd46_0_3_4, bd46_0_3_4p, bd86_0_1_2, bd86_0_1_2p, bd87_0_1_2_3, bd87_0_1_2_3p, bd95_0_1, bd95_0_1p, bs22_2_0_1, bs47_1_0, bs22_1_0, bs57_6_0_1_2_3_4_5, bs24_1_0, bs22_4_0_1_2_3, bs56_11_0_1_2_3_4_5_6_7_8_9_10, bs57_11_0_1_2_3_4_5_6_7_8_9_10, eq4, eq4p, eq28, eq28p, eq30, eq30p, eq31n, eq31np, eq31s, eq31sp, eq46, eq46p, eq50n, eq50np, eq50s, eq50sp, eq67n, eq67np, eq67s, eq67sp, ne4, ne4p, ne28, ne28p, ne30, ne30p, ne31n, ne31np, ne31s, ne31sp, ne46, ne46p, al76]
      refine (rcells_spec (p := shiftR m.f m.d i)).mono ?_
      rintro _ _ ⟨b, rfl, hb, gb, rfl⟩
      have s4 := s3.past (o := .cells #[.int .i64 (shiftR m.f m.d i).x, .int .i64 (shiftR m.f m.d i).y, .int .i64 (east (shiftR m.f m.d i)).1, .int .i64 (east (shiftR m.f m.d i)).2] 28 (0, 0)) hb
      have d4 := d3.set (o := .cells #[.int .i64 (shiftR m.f m.d i).x, .int .i64 (shiftR m.f m.d i).y, .int .i64 (east (shiftR m.f m.d i)).1, .int .i64 (east (shiftR m.f m.d i)).2] 28 (0, 0)) gb
      have b4 : (h3.set b (.cells #[.int .i64 (shiftR m.f m.d i).x, .int .i64 (shiftR m.f m.d i).y, .int .i64 (east (shiftR m.f m.d i)).1, .int .i64 (east (shiftR m.f m.d i)).2] 28 (0, 0))) b = _ := set_self
      generalize Hp.set h3 b _ = h4 at s4 d4 b4 ⊢
      try simp -implicitDefEqProofs (disch := first | with_reducible exact Nat.ne_of_beq_eq_false rfl | omega) only [q5]
      refine append_piece cellC (by decide) un22 eocell (by decide) (by decide) (M := cellsP (shiftR m.f m.d i)) s4 d4 o (Sees.row (c := cellC) (L := cellsP (shiftR m.f m.d i)) b4 rfl (Nat.le_refl _)) (by rw [hlen, show (cellsP (shiftR m.f m.d i)).length = 2 from rfl]; omega) fun v5 a5 h5 o5 s5 d5 => ?_
      unfold S48_l10_k12
      try simp -implicitDefEqProofs (disch := first | with_reducible exact Nat.ne_of_beq_eq_false rfl | omega) only [upd_ne, q6, thenK_normal, opH_sv, bin_add, wrap_in]
      exact HX (m.n.toNat + 1 - (i + 1)) _ _ (by omega) ⟨i + 1, a5, v5, rfl, by omega, by simp -implicitDefEqProofs (disch := first | with_reducible exact Nat.ne_of_beq_eq_false rfl | omega) only [upd_ne, q2], by simp -implicitDefEqProofs (disch := first | with_reducible exact Nat.ne_of_beq_eq_false rfl | omega) only [upd_ne, q3], by simp -implicitDefEqProofs (disch := first | with_reducible exact Nat.ne_of_beq_eq_false rfl | omega) only [upd_ne, upd_eq], by simp -implicitDefEqProofs (maxSteps := 2000000) (disch := first | with_reducible exact Nat.ne_of_beq_eq_false rfl | exact oneCell_int | exact oneCell_bool | omega | rfl | (simp; done) | fail) only [upd_eq] <;> rfl, by rw [List.range_succ, List.flatMap_append]; simpa using o5, s5, d5⟩
    · obtain rfl : i = m.n.toNat + 1 := by omega
      try simp -implicitDefEqProofs (disch := first | with_reducible exact Nat.ne_of_beq_eq_false rfl | omega) only [opH_sv, opH_su, pureW_sv, opH_nil, pureW_nil, pick_t, pick_f, pick_tp, pick_fp, gd_tt, gd_ft, gd_tf, gd_ff, box_new, regs0, regs1, regs2, regs3, regs4, regs5, regs6, cells_agg, cells_int, cells_bool, cells_ptr, cells_slice, cells_string, cells_func, cells_nilFunc, cells_map, retK_ret, retK_normal, resL_tmp, resL_cell, resL_nil0, resL_nil1, resL_nil2, resL_nil3, resC_ptr, ex0, ex1, ex2, ex0p, ex1p, ex2p, HL.cond_true, HL.cond_false, thenK_normal, thenK_ret, thenK_exit, blockK_normal, blockK_ret, blockK_exit, scopeK_normal, scopeK_ret, scopeK_exit, wpH_pure, bin_add, bin_sub, bin_mul, bin_lss, bin_leq, bin_gtr, bin_geq, bin_quo, bin_rem, bin_quop, bin_remp, wrap_in, bin_addp, bin_subp, bin_mulp, bin_lssp, bin_leqp, bin_gtrp, bin_geqp, un_not, un_notp, un_neg, eq_int, ne_int, eq_intp, ne_intp, callV_fn, add_mk, upd_eq, upd_ne, cell_set_self, Nat.zero_add, Nat.add_zero, Option.some.injEq, exists_eq_left', List.getElem?_cons_succ, List.getElem?_cons_zero, true_and, and_true, bne_self_eq_false, beq_self_eq_true, Bool.not_true, Bool.not_false, Bool.and_true, Bool.and_self, Bool.and_false, Bool.true_and, List.length_cons, List.length_nil, ne_eq, not_false_eq_true, Nat.reduceAdd, Nat.reduceMul, if_true, if_false, oneCell_int, oneCell_bool, oneCell_ptr, oneCell_slice, oneCell_string, oneCell_func, oneCell_map, Int.toNat_natCast, List.set_cons_zero, List.set_cons_succ, Nat.lt_irrefl, Nat.zero_lt_succ, Nat.succ_lt_succ_iff, fa26_0, fa26_0p, fa26_1, fa26_1p, fa26_10, fa26_10p, fa26_11, fa26_11p, fa26_12, fa26_12p, fa26_13, fa26_13p, fa26_14, fa26_14p, fa26_2, fa26_2p, fa26_3, fa26_3p, fa26_4, fa26_4p, fa26_5, fa26_5p, fa26_6, fa26_6p, fa26_7, fa26_7p, fa26_8, fa26_8p, fa26_9, fa26_9p, fa28_0, fa28_0p, fa28_1, fa28_1p, fa30_0, fa30_0p, fa30_1, fa30_1p, fa46_0, fa46_0p, fa46_1, fa46_1p, fa46_2, fa46_2p, fa46_3, fa46_3p, fa46_4, fa46_4p, fa46_5, fa46_5p, fa46_6, fa46_6p, fa86_0, fa86_0p, fa86_1, fa86_1p, fa86_2, fa86_2p, fa95_0, fa95_0p, fa95_1, fa95_1p, ld3, ld3p, ld4, ld4p, ld22, ld22p, ld23, ld23p, ld24, ld24p, ld26, ld26p, ld28, ld28p, ld30, ld30p, ld31, ld31p, ld46, ld46p, ld47, ld47p, ld52, ld52p, ld55, ld55p, ld57, ld57p, ld95, ld95p, st3s, st4s, st22s, st23s, st24s, st26w, st28w, st30w, st46w, st47s, st55s, st95w, ix22, ix22p, ix23, ix23p, ix24, ix24p, ix47, ix47p, ix56, ix56p, ix57, ix57p, ix101, ix101p, ln22, ln22p, ln23, ln23p, ln24, ln24p, ln47, ln47p, ln56, ln56p, ln57, ln57p, al22, al26, al28, al30, al46, al47, al95, cf14, cf15, cf16, cf17, cf18, cf19, cf20, cf21, cf22, cf23, cf24, cf25, cf26, cf27, cf28, cf29, cf30, cf31, cf32, cf33, cf34, cf35, cf36, cf37, cf38, cf39, cf40, cf41, cf42, cf43, cf44, cf45, cf46, cf47, cf48, cf49, cf50, cf51, cf52, cf53, cf54, cf55, cf56, cf57, cf58, cf59, cf60, cf61, cf62, cf63, cf64, cf65, cf66, cf67, cf68, cf69, cf70, cf71, cf72, cf73, cf74, cf75, cf76, cf77, cf78, cf79, cf80, bd26_0_1_2_7_8_9_10_11_12_13_14, bd26_0_1_2_7_8_9_10_11_12_13_14p, bd28_0, bd28_0p, bd28_0_1, bd28_0_1p, bd30_, bd30_p, bd30_0_1, bd30_0_1p, bd30_0, bd30_0p, bd46_0_1_2_3_4, bd46_0_1_2_3_4p, bd46_0_3_4, bd46_0_3_4p, bd86_0_1_2, bd86_0_1_2p, bd87_0_1_2_3, bd87_0_1_2_3p, bd95_0_1, bd95_0_1p, bs22_2_0_1, bs47_1_0, bs22_1_0, bs57_6_0_1_2_3_4_5, bs24_1_0, bs22_4_0_1_2_3, bs56_11_0_1_2_3_4_5_6_7_8_9_10, bs57_11_0_1_2_3_4_5_6_7_8_9_10, eq4, eq4p, eq28, eq28p, eq30, eq30p, eq31n, eq31np, eq31s, eq31sp, eq46, eq46p, eq50n, eq50np, eq50s, eq50sp, eq67n, eq67np, eq67s, eq67sp, ne4, ne4p, ne28, ne28p, ne30, ne30p, ne31n, ne31np, ne31s, ne31sp, ne46, ne46p, al76]
      exact fin _ u _ _ l3 d3 (o.sees (by decide) (s3.in 0 rfl)) (by rw [hlen]; omega) eA.symm (by simp -implicitDefEqProofs (disch := first | with_reducible exact Nat.ne_of_beq_eq_false rfl | omega) only [upd_ne, q2]) (by simp -implicitDefEqProofs (disch := first | with_reducible exact Nat.ne_of_beq_eq_false rfl | omega) only [upd_ne, q5])
  have hk1' : (m.k == 1) = false := by simpa using hk1
  have nk1 : ¬ m.k = 1 := fun e => hk1 (by rw [e]; rfl)
  by_cases hk2 : (m.k == 2) = true
  · have ek2 : m.k = 2 := eq_of_beq hk2
    try simp -implicitDefEqProofs (disch := first | with_reducible exact Nat.ne_of_beq_eq_false rfl | omega) only [upd_ne, upd_eq, cf68, opH_sv, fa46_3, add_mk, Nat.zero_add, ld30, Nat.add_zero, Nat.reduceAdd, cf22, fa46_0, ld3, cy, List.getElem?_cons_zero, Option.some.injEq, exists_eq_left', eq_int, hk2, HL.cond_true, hk1', List.getElem?_cons_succ, HL.cond_false]
    refine (rsquare_spec (p := m.f)).mono ?_
    rintro _ h3 ⟨ip, sl, rfl, o, s3, d3⟩
    try simp -implicitDefEqProofs (disch := first | with_reducible exact Nat.ne_of_beq_eq_false rfl | omega) only [opH_sv, opH_su, pureW_sv, opH_nil, pureW_nil, pick_t, pick_f, pick_tp, pick_fp, gd_tt, gd_ft, gd_tf, gd_ff, box_new, regs0, regs1, regs2, regs3, regs4, regs5, regs6, cells_agg, cells_int, cells_bool, cells_ptr, cells_slice, cells_string, cells_func, cells_nilFunc, cells_map, retK_ret, retK_normal, resL_tmp, resL_cell, resL_nil0, resL_nil1, resL_nil2, resL_nil3, resC_ptr, ex0, ex1, ex2, ex0p, ex1p, ex2p, HL.cond_true, HL.cond_false, thenK_normal, thenK_ret, thenK_exit, blockK_normal, blockK_ret, blockK_exit, scopeK_normal, scopeK_ret, scopeK_exit, wpH_pure, bin_add, bin_sub, bin_mul, bin_lss, bin_leq, bin_gtr, bin_geq, bin_quo, bin_rem, bin_quop, bin_remp, wrap_in, bin_addp, bin_subp, bin_mulp, bin_lssp, bin_leqp, bin_gtrp, bin_geqp, un_not, un_notp, un_neg, eq_int, ne_int, eq_intp, ne_intp, callV_fn, add_mk, upd_eq, upd_ne, cell_set_self, Nat.zero_add, Nat.add_zero, Option.some.injEq, exists_eq_left', List.getElem?_cons_succ, List.getElem?_cons_zero, true_and, and_true, bne_self_eq_false, beq_self_eq_true, Bool.not_true, Bool.not_false, Bool.and_true, Bool.and_self, Bool.and_false, Bool.true_and, List.length_cons, List.length_nil, ne_eq, not_false_eq_true, Nat.reduceAdd, Nat.reduceMul, if_true, if_false, oneCell_int, oneCell_bool, oneCell_ptr, oneCell_slice, oneCell_string, oneCell_func, oneCell_map, Int.toNat_natCast, List.set_cons_zero, List.set_cons_succ, Nat.lt_irrefl, Nat.zero_lt_succ, Nat.succ_lt_succ_iff, fa26_0, fa26_0p, fa26_1, fa26_1p, fa26_10, fa26_10p, fa26_11, fa26_11p, fa26_12, fa26_12p, fa26_13, fa26_13p, fa26_14, fa26_14p, fa26_2, fa26_2p, fa26_3, fa26_3p, fa26_4, fa26_4p, fa26_5, fa26_5p, fa26_6, fa26_6p, fa26_7, fa26_7p, fa26_8, fa26_8p, fa26_9, fa26_9p, fa28_0, fa28_0p, fa28_1, fa28_1p, fa30_0, fa30_0p, fa30_1, fa30_1p, fa46_0, fa46_0p, fa46_1, fa46_1p, fa46_2, fa46_2p, fa46_3, fa46_3p, fa46_4, fa46_4p, fa46_5, fa46_5p, fa46_6, fa46_6p, fa86_0, fa86_0p, fa86_1, fa86_1p, fa86_2, fa86_2p, fa95_0, fa95_0p, fa95_1, fa95_1p, ld3, ld3p, ld4, ld4p, ld22, ld22p, ld23, ld23p, ld24, ld24p, ld26, ld26p, ld28, ld28p, ld30, ld30p, ld31, ld31p, ld46, ld46p, ld47, ld47p, ld52, ld52p, ld55, ld55p, ld57, ld57p, ld95, ld95p, st3s, st4s, st22s, st23s, st24s, st26w, st28w, st30w, st46w, st47s, st55s, st95w, ix22, ix22p, ix23, ix23p, ix24, ix24p, ix47, ix47p, ix56, ix56p, ix57, ix57p, ix101, ix101p, ln22, ln22p, ln23, ln23p, ln24, ln24p, ln47, ln47p, ln56, ln56p, ln57, ln57p, al22, al26, al28, al30, al46, al47, al95, cf14, cf15, cf16, cf17, cf18, cf19, cf20, cf21, cf22, cf23, cf24, cf25, cf26, cf27, cf28, cf29, cf30, cf31, cf32, cf33, cf34, cf35, cf36, cf37, cf38, cf39, cf40, cf41, cf42, cf43, cf44, cf45, cf46, cf47, cf48, cf49, cf50, cf51, cf52, cf53, cf54, cf55, cf56, cf57, cf58, cf59, cf60, cf61, cf62, cf63, cf64, cf65, cf66, cf67, cf68, cf69, cf70, cf71, cf72, cf73, cf74, cf75, cf76, cf77, cf78, cf79, cf80, bd26_0_1_2_7_8_9_10_11_12_13_14, bd26_0_1_2_7_8_9_10_11_12_13_14p, bd28_0, bd28_0p, bd28_0_1, bd28_0_1p, bd30_, bd30_p, bd30_0_1, bd30_0_1p, bd30_0, bd30_0p, bd46_0_1_2_3_4, bd46_0_1_2_3_4p, bd46_0_3_4, bd46_0_3_4p, bd86_0_1_2, bd86_0_1_2p, bd87_0_1_2_3, bd87_0_1_2_3p, bd95_0_1, bd95_0_1p, bs22_2_0_1, bs47_1_0, bs22_1_0, bs57_6_0_1_2_3_4_5, bs24_1_0, bs22_4_0_1_2_3, bs56_11_0_1_2_3_4_5_6_7_8_9_10, bs57_11_0_1_2_3_4_5_6_7_8_9_10, eq4, eq4p, eq28, eq28p, eq30, eq30p, eq31n, eq31np, eq31s, eq31sp, eq46, eq46p, eq50n, eq50np, eq50s, eq50sp, eq67n, eq67np, eq67s, eq67sp, ne4, ne4p, ne28, ne28p, ne30, ne30p, ne31n, ne31np, ne31s, ne31sp, ne46, ne46p, al76]
    exact fin _ _ (squareL (m.f.x, m.f.y)) _ (s3.in 1 rfl) d3 (o.sees (by decide) (s3.in 0 rfl)) (by simp [squareL]) (by unfold rwayL; rw [if_neg nk1, if_pos ek2]) (by simp -implicitDefEqProofs (disch := first | with_reducible exact Nat.ne_of_beq_eq_false rfl | omega) only [upd_ne, upd_eq]) (by simp -implicitDefEqProofs only [upd_eq])
  have hk2' : (m.k == 2) = false := by simpa using hk2
  have nk2 : ¬ m.k = 2 := fun e => hk2 (by rw [e]; rfl)
  try simp -implicitDefEqProofs (disch := first | with_reducible exact Nat.ne_of_beq_eq_false rfl | omega) only [upd_ne, upd_eq, cf68, opH_sv, fa46_3, add_mk, Nat.zero_add, ld30, Nat.add_zero, Nat.reduceAdd, cf22, fa46_0, ld3, cy, List.getElem?_cons_zero, Option.some.injEq, exists_eq_left', eq_int, hk2', HL.cond_false, hk1', List.getElem?_cons_succ]
  refine (rcells_spec (p := m.f)).mono ?_
  rintro _ _ ⟨b, rfl, hb, gb, rfl⟩
  try simp -implicitDefEqProofs (disch := first | with_reducible exact Nat.ne_of_beq_eq_false rfl | omega) only [opH_sv, opH_su, pureW_sv, opH_nil, pureW_nil, pick_t, pick_f, pick_tp, pick_fp, gd_tt, gd_ft, gd_tf, gd_ff, box_new, regs0, regs1, regs2, regs3, regs4, regs5, regs6, cells_agg, cells_int, cells_bool, cells_ptr, cells_slice, cells_string, cells_func, cells_nilFunc, cells_map, retK_ret, retK_normal, resL_tmp, resL_cell, resL_nil0, resL_nil1, resL_nil2, resL_nil3, resC_ptr, ex0, ex1, ex2, ex0p, ex1p, ex2p, HL.cond_true, HL.cond_false, thenK_normal, thenK_ret, thenK_exit, blockK_normal, blockK_ret, blockK_exit, scopeK_normal, scopeK_ret, scopeK_exit, wpH_pure, bin_add, bin_sub, bin_mul, bin_lss, bin_leq, bin_gtr, bin_geq, bin_quo, bin_rem, bin_quop, bin_remp, wrap_in, bin_addp, bin_subp, bin_mulp, bin_lssp, bin_leqp, bin_gtrp, bin_geqp, un_not, un_notp, un_neg, eq_int, ne_int, eq_intp, ne_intp, callV_fn, add_mk, upd_eq, upd_ne, cell_set_self, Nat.zero_add, Nat.add_zero, Option.some.injEq, exists_eq_left', List.getElem?_cons_succ, List.getElem?_cons_zero, true_and, and_true, bne_self_eq_false, beq_self_eq_true, Bool.not_true, Bool.not_false, Bool.and_true, Bool.and_self, Bool.and_false, Bool.true_and, List.length_cons, List.length_nil, ne_eq, not_false_eq_true, Nat.reduceAdd, Nat.reduceMul, if_true, if_false, oneCell_int, oneCell_bool, oneCell_ptr, oneCell_slice, oneCell_string, oneCell_func, oneCell_map, Int.toNat_natCast, List.set_cons_zero, List.set_cons_succ, Nat.lt_irrefl, Nat.zero_lt_succ, Nat.succ_lt_succ_iff, fa26_0, fa26_0p, fa26_1, fa26_1p, fa26_10, fa26_10p, fa26_11, fa26_11p, fa26_12, fa26_12p, fa26_13, fa26_13p, fa26_14, fa26_14p, fa26_2, fa26_2p, fa26_3, fa26_3p, fa26_4, fa26_4p, fa26_5, fa26_5p, fa26_6, fa26_6p, fa26_7, fa26_7p, fa26_8, fa26_8p, fa26_9, fa26_9p, fa28_0, fa28_0p, fa28_1, fa28_1p, fa30_0, fa30_0p, fa30_1, fa30_1p, fa46_0, fa46_0p, fa46_1, fa46_1p, fa46_2, fa46_2p, fa46_3, fa46_3p, fa46_4, fa46_4p, fa46_5, fa46_5p, fa46_6, fa46_6p, fa86_0, fa86_0p, fa86_1, fa86_1p, fa86_2, fa86_2p, fa95_0, fa95_0p, fa95_1, fa95_1p, ld3, ld3p, ld4, ld4p, ld22, ld22p, ld23, ld23p, ld24, ld24p, ld26, ld26p, ld28, ld28p, ld30, ld30p, ld31, ld31p, ld46, ld46p, ld47, ld47p, ld52, ld52p, ld55, ld55p, ld57, ld57p, ld95, ld95p, st3s, st4s, st22s, st23s, st24s, st26w, st28w, st30w, st46w, st47s, st55s, st95w, ix22, ix22p, ix23, ix23p, ix24, ix24p, ix47, ix47p, ix56, ix56p, ix57, ix57p, ix101, ix101p, ln22, ln22p, ln23, ln23p, ln24, ln24p, ln47, ln47p, ln56, ln56p, ln57, ln57p, al22, al26, al28, al30, al46, al47, al95, cf14, cf15, cf16, cf17, cf18, cf19, cf20, cf21, cf22, cf23, cf24, cf25, cf26, cf27, cf28, cf29, cf30, cf31, cf32, cf33, cf34, cf35, cf36, cf37, cf38, cf39, cf40, cf41, cf42, cf43, cf44, cf45, cf46, cf47, cf48, cf49, cf50, cf51, cf52, cf53, cf54, cf55, cf56, cf57, cf58, cf59, cf60, cf61, cf62, cf63, cf64, cf65, cf66, cf67, cf68, cf69, cf70, cf71, cf72, cf73, cf74, cf75, cf76, cf77, cf78, cf79, cf80, bd26_0_1_2_7_8_9_10_11_12_13_14, bd26_0_1_2_7_8_9_10_11_12_13_14p, bd28_0, bd28_0p, bd28_0_1, bd28_0_1p, bd30_, bd30_p, bd30_0_1, bd30_0_1p, bd30_0, bd30_0p, bd46_0_1_2_3_4, bd46_0_1_2_3_4p, bd46_0_3_4, bd46_0_3_4p, bd86_0_1_2, bd86_0_1_2p, bd87_0_1_2_3, bd87_0_1_2_3p, bd95_0_1, bd95_0_1p, bs22_2_0_1, bs47_1_0, bs22_1_0, bs57_6_0_1_2_3_4_5, bs24_1_0, bs22_4_0_1_2_3, bs56_11_0_1_2_3_4_5_6_7_8_9_10, bs57_11_0_1_2_3_4_5_6_7_8_9_10, eq4, eq4p, eq28, eq28p, eq30, eq30p, eq31n, eq31np, eq31s, eq31sp, eq46, eq46p, eq50n, eq50np, eq50s, eq50sp, eq67n, eq67np, eq67s, eq67sp, ne4, ne4p, ne28, ne28p, ne30, ne30p, ne31n, ne31np, ne31s, ne31sp, ne46, ne46p, al76]
  exact fin _ _ (cellsP m.f) _ (le_set hb) (d2.set gb) (Sees.row (c := cellC) (L := cellsP m.f) set_self rfl (Nat.le_refl _)) (by simp [cellsP]) (by unfold rwayL; rw [if_neg nk1, if_neg nk2]) (by simp -implicitDefEqProofs (disch := first | with_reducible exact Nat.ne_of_beq_eq_false rfl | omega) only [upd_ne, upd_eq]) (by simp -implicitDefEqProofs only [upd_eq] <;> rfl)

theorem rway_eq {C : Conf} {m : Move} (hp : PB m.f) (hl : legalR C m = true) : rwayL m = wayL m := by
  unfold rwayL wayL
  by_cases h1 : m.k = 1
  · rw [if_pos h1, if_pos h1]
    unfold legalR at hl
    rw [Bool.and_eq_true, if_pos h1] at hl
    simp only [Bool.and_eq_true] at hl
    have hd := withinB_iff.1 hl.2.2.1
    congr 1
    funext i
    rw [shiftR_eq hp hd]
  · rw [if_neg h1, if_neg h1]
theorem swept_eq {C : Conf} (mk : MadeOk C) {m : Move} (hp : PB m.f) : sweptM (wC C) (kC C) (f3C C) m = rsweptM C m := by
  unfold sweptM rsweptM
  rw [legal_eq mk hp]
  cases hl : legalR C m with
  | false => rfl
  | true => rw [if_pos rfl, if_pos rfl, rway_eq hp hl]

end Go.Proofs.YtnpdploihlgcgaaDoor
end

section
/- The document's example is awake. -/
set_option linter.unusedSimpArgs false
set_option linter.unusedVariables false
set_option maxRecDepth 100000
namespace Go.Proofs.YtnpdploihlgcgaaDoor
open Go Go.HL

def C0 : Conf := ⟨2, 2, 1, [], [], [], [], 1, 1, 1, 1, 1, 1, 1, 1, false⟩

theorem conf_spec {G h : Hp} : HCalls Tryd.prog G 29 #[] h (fun u h' => u = confV C0 none 0 none 0 none 0 none 0 ∧ h' = h) := by
  refine HCalls.assume fun d => quietly (enter29 (by simp) ?_)
  unfold S29
  simp -implicitDefEqProofs (maxSteps := 2000000) (disch := first | with_reducible exact Nat.ne_of_beq_eq_false rfl | exact oneCell_int | exact oneCell_bool | omega | rfl | (simp; done) | fail) only [retK_ret, resL_cell, upd_ne, upd_eq, resL_nil1, opH_su, opH_sv, bd26_0_1_2_7_8_9_10_11_12_13_14, al26, resC_ptr, ld26, add_mk, Nat.add_zero, Nat.zero_add, st26w, cell_set_self, List.getElem?_cons_zero, Option.some.injEq, List.getElem?_cons_succ, exists_eq_left']
  intro x hx gx
  try simp -implicitDefEqProofs (maxSteps := 2000000) (disch := first | with_reducible exact Nat.ne_of_beq_eq_false rfl | exact oneCell_int | exact oneCell_bool | omega | rfl | (simp; done) | fail) only [opH_sv, opH_su, pureW_sv, opH_nil, pureW_nil, pick_t, pick_f, pick_tp, pick_fp, gd_tt, gd_ft, gd_tf, gd_ff, box_new, regs0, regs1, regs2, regs3, regs4, regs5, regs6, cells_agg, cells_int, cells_bool, cells_ptr, cells_slice, cells_string, cells_func, cells_nilFunc, cells_map, retK_ret, retK_normal, resL_tmp, resL_cell, resL_nil0, resL_nil1, resL_nil2, resL_nil3, resC_ptr, ex0, ex1, ex2, ex0p, ex1p, ex2p, HL.cond_true, HL.cond_false, thenK_normal, thenK_ret, thenK_exit, blockK_normal, blockK_ret, blockK_exit, scopeK_normal, scopeK_ret, scopeK_exit, wpH_pure, bin_add, bin_sub, bin_mul, bin_lss, bin_leq, bin_gtr, bin_geq, bin_quo, bin_rem, bin_quop, bin_remp, wrap_in, bin_addp, bin_subp, bin_mulp, bin_lssp, bin_leqp, bin_gtrp, bin_geqp, un_not, un_notp, un_neg, eq_int, ne_int, eq_intp, ne_intp, callV_fn, add_mk, upd_eq, upd_ne, cell_set_self, Nat.zero_add, Nat.add_zero, Option.some.injEq, exists_eq_left', List.getElem?_cons_succ, List.getElem?_cons_zero, true_and, and_true, bne_self_eq_false, beq_self_eq_true, Bool.not_true, Bool.not_false, Bool.and_true, Bool.and_self, Bool.and_false, Bool.true_and, List.length_cons, List.length_nil, ne_eq, not_false_eq_true, Nat.reduceAdd, Nat.reduceMul, if_true, if_false, oneCell_int, oneCell_bool, oneCell_ptr, oneCell_slice, oneCell_string, oneCell_func, oneCell_map, Int.toNat_natCast, List.set_cons_zero, List.set_cons_succ, Nat.lt_irrefl, Nat.zero_lt_succ, Nat.succ_lt_succ_iff, fa26_0, fa26_0p, fa26_1, fa26_1p, fa26_10, fa26_10p, fa26_11, fa26_11p, fa26_12, fa26_12p, fa26_13, fa26_13p, fa26_14, fa26_14p, fa26_2, fa26_2p, fa26_3, fa26_3p, fa26_4, fa26_4p, fa26_5, fa26_5p, fa26_6, fa26_6p, fa26_7, fa26_7p, fa26_8, fa26_8p, fa26_9, fa26_9p, fa28_0, fa28_0p, fa28_1, fa28_1p, fa30_0, fa30_0p, fa30_1, fa30_1p, fa46_0, fa46_0p, fa46_1, fa46_1p, fa46_2, fa46_2p, fa46_3, fa46_3p, fa46_4, fa46_4p, fa46_5, fa46_5p, fa46_6, fa46_6p, fa86_0, fa86_0p, fa86_1, fa86_1p, fa86_2, fa86_2p, fa95_0, fa95_0p, fa95_1, fa95_1p, ld3, ld3p, ld4, ld4p, ld22, ld22p, ld23, ld23p, ld24, ld24p, ld26, ld26p, ld28, ld28p, ld30, ld30p, ld31, ld31p, ld46, ld46p, ld47, ld47p, ld52, ld52p, ld55, ld55p, ld57, ld57p, ld95, ld95p, st3s, st4s, st22s, st23s, st24s, st26w, st28w, st30w, st46w, st47s, st55s, st95w, ix22, ix22p, ix23, ix23p, ix24, ix24p, ix47, ix47p, ix56, ix56p, ix57, ix57p, ix101, ix101p, ln22, ln22p, ln23, ln23p, ln24, ln24p, ln47, ln47p, ln56, ln56p, ln57, ln57p, al22, al26, al28, al30, al46, al47, al95, cf14, cf15, cf16, cf17, cf18, cf19, cf20, cf21, cf22, cf23, cf24, cf25, cf26, cf27, cf28, cf29, cf30, cf31, cf32, cf33, cf34, cf35, cf36, cf37, cf38, cf39, cf40, cf41, cf42, cf43, cf44, cf45, cf46, cf47, cf48, cf49, cf50, cf51, cf52, cf53, cf54, cf55, cf56, cf57, cf58, cf59, cf60, cf61, cf62, cf63, cf64, cf65, cf66, cf67, cf68, cf69, cf70, cf71, cf72, cf73, cf74, cf75, cf76, cf77, cf78, cf79, cf80, bd26_0_1_2_7_8_9_10_11_12_13_14, bd26_0_1_2_7_8_9_10_11_12_13_14p, bd28_0, bd28_0p, bd28_0_1, bd28_0_1p, bd30_, bd30_p, bd30_0_1, bd30_0_1p, bd30_0, bd30_0p, bd46_0_1_2_3_4, bd46_0_1_2_3_4p, bd46_0_3_4, bd46_0_3_4p, bd86_0_1_2, bd86_0_1_2p, bd87_0_1_2_3, bd87_0_1_2_3p, bd95_0_1, bd95_0_1p, bs22_2_0_1, bs47_1_0, bs22_1_0, bs57_6_0_1_2_3_4_5, bs24_1_0, bs22_4_0_1_2_3, bs56_11_0_1_2_3_4_5_6_7_8_9_10, bs57_11_0_1_2_3_4_5_6_7_8_9_10, eq4, eq4p, eq28, eq28p, eq30, eq30p, eq31n, eq31np, eq31s, eq31sp, eq46, eq46p, eq50n, eq50np, eq50s, eq50sp, eq67n, eq67np, eq67s, eq67sp, ne4, ne4p, ne28, ne28p, ne30, ne30p, ne31n, ne31np, ne31s, ne31sp, ne46, ne46p]
  first | exact le_set hx | exact ⟨rfl, le_set hx⟩

theorem ca_nil {G h : Hp} {C : Conf} (h1 : C.bl = []) (h2 : C.po = []) (h3 : C.ro = []) (h4 : C.st = []) : CA G h C none 0 none 0 none 0 none 0 := by
  obtain ⟨w, hh, ht, bl, po, ro, st, un, ac, sp, tu, ho, qu, re, bu, back⟩ := C
  subst h1 h2 h3 h4
  exact ⟨Slc.nil.sees (e := 28) (a := noHp) (by decide) (fun _ _ e => by cases e), Slc.nil.sees (e := 28) (a := noHp) (by decide) (fun _ _ e => by cases e), Slc.nil.sees (e := 30) (a := noHp) (by decide) (fun _ _ e => by cases e), [], Slc.nil.sees (e := 95) (a := noHp) (by decide) (fun _ _ e => by cases e), by simp⟩

theorem may_nil {C : Conf} (h1 : C.bl = []) (h2 : C.po = []) (h3 : C.ro = []) (h4 : C.st = []) : MayOk C ↔ numbersB C = true := by
  refine ⟨fun m => m.nums, fun n => ⟨n, by simp [h2], by simp [h3], by simp [h1], by simp [h1], by simp [h2], by simp [h3], by simp [h3], ?_⟩⟩
  exact ⟨by simp [h4], by simp [h4], by simp [h4], by simp [h4], by simp [h4], by simp [h4]⟩

theorem made0 : MadeOk C0 := by
  rw [made_may, may_nil rfl rfl rfl rfl]
  rfl

theorem moves0 : movesW (wC C0) (kC C0) (f3C C0) ⟨0, 0, false⟩ = [⟨1, 2, 1, ⟨0, 0, false⟩, ⟨0, 1, false⟩, 0, 0⟩, ⟨2, 0, 0, ⟨0, 0, false⟩, ⟨0, 0, true⟩, 0, 0⟩] := by decide +kernel

theorem Sees.move {G h : Hp} {sa : Option Addr} {cap n : Nat} {L : List Move} (s : Sees moveC G h (.slice sa n cap) L) {i : Nat} {x : Move} (hx : L[i]? = some x) :
    ∃ b o, sa = some ⟨b, o, none⟩ ∧ ∀ j, j < 11 → cellIn G h ⟨b, o + i * 11 + j, none⟩ = (moveC.enc x)[j]? := by
  obtain ⟨b, o, c, e1, e2⟩ := s.get hx
  simp only [Value.slice.injEq] at e1
  exact ⟨b, o, e1.1, e2⟩

set_option maxHeartbeats 4000000 in
theorem awake_spec {G h : Hp} (st : Steps G) : HCalls Tryd.prog G 17 #[] h (fun u h' => u = .bool true ∧ h' = h) := by
  refine HCalls.assume fun d => quietly (enter17 (by simp) ?_)
  unfold S17
  simp -implicitDefEqProofs (maxSteps := 2000000) (disch := first | with_reducible exact Nat.ne_of_beq_eq_false rfl | exact oneCell_int | exact oneCell_bool | omega | rfl | (simp; done) | fail) only [retK_ret, resL_tmp, upd_eq, resL_nil1, opH_sv, cf14, cf29]
  refine conf_spec.mono ?_
  rintro _ h0 ⟨rfl, rfl⟩
  refine (new_spec (C := C0) (ca_nil rfl rfl rfl rfl).cv st (by intro p hp; cases hp) (by decide)).mono ?_
  rintro _ h1 ⟨l1, d1, ⟨hm, ga, gp, kb, rfl, go, s1⟩ | ⟨hm, rfl⟩⟩
  rotate_left
  · exact absurd made0 hm
  simp -implicitDefEqProofs (maxSteps := 2000000) (disch := first | with_reducible exact Nat.ne_of_beq_eq_false rfl | exact oneCell_int | exact oneCell_bool | omega | rfl | (simp; done) | fail) only [ex1, ne_int, bne_self_eq_false, pick_f, gd_ff, ex0, eq31s, HL.cond_false]
  unfold S17_k1
  try simp -implicitDefEqProofs (maxSteps := 2000000) (disch := first | with_reducible exact Nat.ne_of_beq_eq_false rfl | exact oneCell_int | exact oneCell_bool | omega | rfl | (simp; done) | fail) only [upd_ne, upd_eq, retK_ret, resL_tmp, resL_nil1, opH_sv, cf25, cf26, bd30_]
  have pb : PB ⟨0, 0, false⟩ := ⟨⟨by decide, by decide⟩, ⟨by decide, by decide⟩⟩
  have gs1 : GS G h1 (.pointer (some ⟨gp, 0, none⟩)) (wC C0) (kC C0) (f3C C0) := (go.gs (G := G)).up (s1.in 0 rfl) d1
  refine (moves26_spec (gp := gp) (p := ⟨0, 0, false⟩)).mono ?_
  rintro _ h2 ⟨b1, b2, rfl, l2, d2, e1, e2⟩
  have gs2 := gs1.up l2 d2
  refine (moves25_spec (most := 9) e1 e2 gs2 st pb (by decide) (by decide)).mono ?_
  rintro u h3 ⟨ip, o, s3, d3⟩
  rw [moves0] at o
  change Slc moveC 46 ip u [⟨1, 2, 1, ⟨0, 0, false⟩, ⟨0, 1, false⟩, 0, 0⟩, ⟨2, 0, 0, ⟨0, 0, false⟩, ⟨0, 0, true⟩, 0, 0⟩] at o
  obtain ⟨sa, cap, rfl, hc⟩ := o.len (by decide)
  have gs3 := gs2.up (s3.in 1 rfl) d3
  have sv := o.sees (G := G) (by decide) (s3.in 0 rfl)
  obtain ⟨b, ofs, rfl, z⟩ := Sees.move (i := 0) sv rfl
  obtain ⟨b', ofs', eb, z'⟩ := Sees.move (i := 1) sv rfl
  cases eb
  have z00 := z 0 (by decide)
  have z01 := z 1 (by decide)
  have z02 := z 2 (by decide)
  have z10 := z' 0 (by decide)
  simp only [moveC, Nat.zero_mul, Nat.add_zero, Nat.one_mul, List.getElem?_cons_zero, List.getElem?_cons_succ] at z00 z01 z02 z10
  try simp -implicitDefEqProofs (maxSteps := 2000000) (disch := first | with_reducible exact Nat.ne_of_beq_eq_false rfl | exact oneCell_int | exact oneCell_bool | omega | rfl | (simp; done) | fail) only [List.length_cons, List.length_nil, Nat.zero_add, Nat.reduceAdd, ln47, eq_int]
  try simp -implicitDefEqProofs (maxSteps := 2000000) (disch := first | with_reducible exact Nat.ne_of_beq_eq_false rfl | exact oneCell_int | exact oneCell_bool | omega | rfl | (simp; done) | fail) only [show (((2 : Nat) : Int) == 2) = true from rfl, pick_t, gd_tt, opH_sv, ix47 (by decide : (0 : Int) ≤ 0) (by decide : (0 : Int) < (2 : Nat)), show Int.toNat 0 = 0 from rfl, Nat.zero_mul, add_mk, Nat.add_zero, fa46_0, ld3, z00, Option.some.injEq, exists_eq_left', eq_int, beq_self_eq_true, fa46_1, z01, fa46_2, z02, ix47 (by decide : (0 : Int) ≤ 1) (by decide : (1 : Int) < (2 : Nat)), Int.toNat_one, Nat.one_mul, z10, cf37, bd28_0_1]
  refine (num_spec (c := (1, 1)) gs3).mono ?_
  rintro _ _ ⟨rfl, rfl⟩
  try simp -implicitDefEqProofs (maxSteps := 2000000) (disch := first | with_reducible exact Nat.ne_of_beq_eq_false rfl | exact oneCell_int | exact oneCell_bool | omega | rfl | (simp; done) | fail) only [show numI (wC C0) (kC C0) (1, 1) = 3 from rfl, eq_int, beq_self_eq_true, true_and]
  first | exact (l1.trans l2).trans (s3.in 1 rfl) | exact ⟨rfl, (l1.trans l2).trans (s3.in 1 rfl)⟩

end Go.Proofs.YtnpdploihlgcgaaDoor
end

section
/- A config copied, in new memory. -/
set_option linter.unusedSimpArgs false
set_option linter.unusedVariables false
set_option maxRecDepth 100000
namespace Go.Proofs.YtnpdploihlgcgaaDoor
open Go Go.HL

theorem eoraw : ElemOk Tryd.prog 95 rawC.n 40 := ⟨by kernel_rfl, by kernel_rfl, by kernel_rfl⟩
theorem eopose : ElemOk Tryd.prog 30 poseC.n 24 := ⟨by kernel_rfl, by kernel_rfl, by kernel_rfl⟩

/-- So many elements of so many bytes find room. -/
def Room (n bytes : Nat) : Prop := (2 * n + 192) * bytes ≤ 281474976710656

theorem copyints_spec {G h : Hp} {v : Value} {L : List Int} (sv : Sees icC G h v L) (hl : Room L.length 8) : HCalls Tryd.prog G 75 #[v] h (fun u h' => ∃ ip, Slc icC 3 ip u L ∧ Sep [ip, h] h' ∧ Dis G h') := by
  refine HCalls.assume fun d => enter75 (by simp) ?_
  unfold S75
  simp -implicitDefEqProofs (maxSteps := 2000000) (disch := first | with_reducible exact Nat.ne_of_beq_eq_false rfl | exact oneCell_int | exact oneCell_bool | omega | rfl | (simp; done) | fail) only [regs0, retK_ret, resL_tmp, upd_eq, resL_nil1, opH_sv]
  refine append_big icC (by decide) un57 eoint (by decide) (Sep.one (h := h)).none d Slc.nil sv (by simpa [Room] using hl) fun v' a' h' o' s' d' => ?_
  try simp -implicitDefEqProofs (maxSteps := 2000000) (disch := first | with_reducible exact Nat.ne_of_beq_eq_false rfl | exact oneCell_int | exact oneCell_bool | omega | rfl | (simp; done) | fail) only [opH_sv, opH_su, pureW_sv, opH_nil, pureW_nil, pick_t, pick_f, pick_tp, pick_fp, gd_tt, gd_ft, gd_tf, gd_ff, box_new, regs0, regs1, regs2, regs3, regs4, regs5, regs6, cells_agg, cells_int, cells_bool, cells_ptr, cells_slice, cells_string, cells_func, cells_nilFunc, cells_map, retK_ret, retK_normal, resL_tmp, resL_cell, resL_nil0, resL_nil1, resL_nil2, resL_nil3, resC_ptr, ex0, ex1, ex2, ex0p, ex1p, ex2p, HL.cond_true, HL.cond_false, thenK_normal, thenK_ret, thenK_exit, blockK_normal, blockK_ret, blockK_exit, scopeK_normal, scopeK_ret, scopeK_exit, wpH_pure, bin_add, bin_sub, bin_mul, bin_lss, bin_leq, bin_gtr, bin_geq, bin_quo, bin_rem, bin_quop, bin_remp, wrap_in, bin_addp, bin_subp, bin_mulp, bin_lssp, bin_leqp, bin_gtrp, bin_geqp, un_not, un_notp, un_neg, eq_int, ne_int, eq_intp, ne_intp, callV_fn, add_mk, upd_eq, upd_ne, cell_set_self, Nat.zero_add, Nat.add_zero, Option.some.injEq, exists_eq_left', List.getElem?_cons_succ, List.getElem?_cons_zero, true_and, and_true, bne_self_eq_false, beq_self_eq_true, Bool.not_true, Bool.not_false, Bool.and_true, Bool.and_self, Bool.and_false, Bool.true_and, List.length_cons, List.length_nil, ne_eq, not_false_eq_true, Nat.reduceAdd, Nat.reduceMul, if_true, if_false, oneCell_int, oneCell_bool, oneCell_ptr, oneCell_slice, oneCell_string, oneCell_func, oneCell_map, Int.toNat_natCast, List.set_cons_zero, List.set_cons_succ, Nat.lt_irrefl, Nat.zero_lt_succ, Nat.succ_lt_succ_iff, fa26_0, fa26_0p, fa26_1, fa26_1p, fa26_10, fa26_10p, fa26_11, fa26_11p, fa26_12, fa26_12p, fa26_13, fa26_13p, fa26_14, fa26_14p, fa26_2, fa26_2p, fa26_3, fa26_3p, fa26_4, fa26_4p, fa26_5, fa26_5p, fa26_6, fa26_6p, fa26_7, fa26_7p, fa26_8, fa26_8p, fa26_9, fa26_9p, fa28_0, fa28_0p, fa28_1, fa28_1p, fa30_0, fa30_0p, fa30_1, fa30_1p, fa46_0, fa46_0p, fa46_1, fa46_1p, fa46_2, fa46_2p, fa46_3, fa46_3p, fa46_4, fa46_4p, fa46_5, fa46_5p, fa46_6, fa46_6p, fa86_0, fa86_0p, fa86_1, fa86_1p, fa86_2, fa86_2p, fa95_0, fa95_0p, fa95_1, fa95_1p, ld3, ld3p, ld4, ld4p, ld22, ld22p, ld23, ld23p, ld24, ld24p, ld26, ld26p, ld28, ld28p, ld30, ld30p, ld31, ld31p, ld46, ld46p, ld47, ld47p, ld52, ld52p, ld55, ld55p, ld57, ld57p, ld95, ld95p, st3s, st4s, st22s, st23s, st24s, st26w, st28w, st30w, st46w, st47s, st55s, st95w, ix22, ix22p, ix23, ix23p, ix24, ix24p, ix47, ix47p, ix56, ix56p, ix57, ix57p, ix101, ix101p, ln22, ln22p, ln23, ln23p, ln24, ln24p, ln47, ln47p, ln56, ln56p, ln57, ln57p, al22, al26, al28, al30, al46, al47, al95, cf14, cf15, cf16, cf17, cf18, cf19, cf20, cf21, cf22, cf23, cf24, cf25, cf26, cf27, cf28, cf29, cf30, cf31, cf32, cf33, cf34, cf35, cf36, cf37, cf38, cf39, cf40, cf41, cf42, cf43, cf44, cf45, cf46, cf47, cf48, cf49, cf50, cf51, cf52, cf53, cf54, cf55, cf56, cf57, cf58, cf59, cf60, cf61, cf62, cf63, cf64, cf65, cf66, cf67, cf68, cf69, cf70, cf71, cf72, cf73, cf74, cf75, cf76, cf77, cf78, cf79, cf80, bd26_0_1_2_7_8_9_10_11_12_13_14, bd26_0_1_2_7_8_9_10_11_12_13_14p, bd28_0, bd28_0p, bd28_0_1, bd28_0_1p, bd30_, bd30_p, bd30_0_1, bd30_0_1p, bd30_0, bd30_0p, bd46_0_1_2_3_4, bd46_0_1_2_3_4p, bd46_0_3_4, bd46_0_3_4p, bd86_0_1_2, bd86_0_1_2p, bd87_0_1_2_3, bd87_0_1_2_3p, bd95_0_1, bd95_0_1p, bs22_2_0_1, bs47_1_0, bs22_1_0, bs57_6_0_1_2_3_4_5, bs24_1_0, bs22_4_0_1_2_3, bs56_11_0_1_2_3_4_5_6_7_8_9_10, bs57_11_0_1_2_3_4_5_6_7_8_9_10, eq4, eq4p, eq28, eq28p, eq30, eq30p, eq31n, eq31np, eq31s, eq31sp, eq46, eq46p, eq50n, eq50np, eq50s, eq50sp, eq67n, eq67np, eq67s, eq67sp, ne4, ne4p, ne28, ne28p, ne30, ne30p, ne31n, ne31np, ne31s, ne31sp, ne46, ne46p]
  exact ⟨a', o', s', d'⟩

def Rel (pb : Hp) (raws : List Raw) (st : List (Cell × List Int)) : Prop := ∀ (i : Nat) (r : Raw) (s : Cell × List Int), raws[i]? = some r → st[i]? = some s → (r.x, r.y) = s.1 ∧ r.n = s.2.length ∧ Slc icC 3 pb (.slice r.a s.2.length r.c) s.2
/-- Stacks of one's own. -/
def StkO (pz : Hp) (v : Value) (st : List (Cell × List Int)) : Prop := ∃ raws pr pb, Slc rawC 95 pr v raws ∧ Sep [pr, pb] pz ∧ raws.length = st.length ∧ Rel pb raws st

theorem Rel.le {pb pb' : Hp} {raws : List Raw} {st : List (Cell × List Int)} (r : Rel pb raws st) (l : pb.le pb') : Rel pb' raws st := fun i x s h1 h2 => let ⟨a, b, c⟩ := r i x s h1 h2; ⟨a, b, c.le l⟩

set_option maxHeartbeats 2000000 in
theorem copystacks_spec {G h : Hp} {C : Conf} {ab : Option Addr} {cb : Nat} {ap : Option Addr} {cp : Nat} {ar : Option Addr} {cr : Nat} {az : Option Addr} {cs : Nat} (ca : CA G h C ab cb ap cp ar cr az cs)
    (hst : Room C.st.length 40) (hb : ∀ s ∈ C.st, Room s.2.length 8) : HCalls Tryd.prog G 50 #[.slice az C.st.length cs] h (fun u h' => ∃ pz, StkO pz u C.st ∧ Sep [pz, h] h' ∧ Dis G h') := by
  refine HCalls.assume fun d => enter50 (by simp) ?_
  unfold S50
  have hlb : C.st.length ≤ 7036874417664 := by unfold Room at hst; omega
  refine loop_I (fun m r h3 => ∃ (i : Nat) (raws : List Raw) (pr pb : Hp) (v : Value), m = C.st.length - i ∧ i ≤ C.st.length ∧ r 0 = .slice az C.st.length cs ∧ r 3 = v ∧ r 4 = .int .i64 i ∧ Slc rawC 95 pr v raws ∧ raws.length = i ∧ Rel pb raws C.st ∧ Sep [pr, pb, h] h3 ∧ Dis G h3) ?_
    (m := C.st.length) ⟨0, [], noHp, noHp, _, rfl, Nat.zero_le _, by simp -implicitDefEqProofs (maxSteps := 2000000) (disch := first | with_reducible exact Nat.ne_of_beq_eq_false rfl | exact oneCell_int | exact oneCell_bool | omega | rfl | (simp; done) | fail) only [upd_ne, regs0], by simp -implicitDefEqProofs (maxSteps := 2000000) (disch := first | with_reducible exact Nat.ne_of_beq_eq_false rfl | exact oneCell_int | exact oneCell_bool | omega | rfl | (simp; done) | fail) only [upd_ne, upd_eq], by simp -implicitDefEqProofs (maxSteps := 2000000) (disch := first | with_reducible exact Nat.ne_of_beq_eq_false rfl | exact oneCell_int | exact oneCell_bool | omega | rfl | (simp; done) | fail) only [upd_eq] <;> rfl, Slc.nil, rfl, fun i r s h1 => by simp at h1, (Sep.one.none).none, d⟩
  rintro m r h3 ⟨i, raws, pr, pb, v, rfl, hi, g0, g3, g4, o, hlen, rel, s3, d3⟩ X HX
  unfold S50_l2
  simp -implicitDefEqProofs (maxSteps := 2000000) (disch := first | with_reducible exact Nat.ne_of_beq_eq_false rfl | exact oneCell_int | exact oneCell_bool | omega | rfl | (simp; done) | fail) only [g0, g4, thenK_exit, blockK_exit, thenK_normal, if_true, opH_sv, ln24, bin_lss]
  refine cond_dec (fun hlt => ?_) (fun hge => ?_)
  rotate_left
  · obtain rfl : i = C.st.length := by omega
    try simp -implicitDefEqProofs (maxSteps := 2000000) (disch := first | with_reducible exact Nat.ne_of_beq_eq_false rfl | exact oneCell_int | exact oneCell_bool | omega | rfl | (simp; done) | fail) only [opH_sv, opH_su, pureW_sv, opH_nil, pureW_nil, pick_t, pick_f, pick_tp, pick_fp, gd_tt, gd_ft, gd_tf, gd_ff, box_new, regs0, regs1, regs2, regs3, regs4, regs5, regs6, cells_agg, cells_int, cells_bool, cells_ptr, cells_slice, cells_string, cells_func, cells_nilFunc, cells_map, retK_ret, retK_normal, resL_tmp, resL_cell, resL_nil0, resL_nil1, resL_nil2, resL_nil3, resC_ptr, ex0, ex1, ex2, ex0p, ex1p, ex2p, HL.cond_true, HL.cond_false, thenK_normal, thenK_ret, thenK_exit, blockK_normal, blockK_ret, blockK_exit, scopeK_normal, scopeK_ret, scopeK_exit, wpH_pure, bin_add, bin_sub, bin_mul, bin_lss, bin_leq, bin_gtr, bin_geq, bin_quo, bin_rem, bin_quop, bin_remp, wrap_in, bin_addp, bin_subp, bin_mulp, bin_lssp, bin_leqp, bin_gtrp, bin_geqp, un_not, un_notp, un_neg, eq_int, ne_int, eq_intp, ne_intp, callV_fn, add_mk, upd_eq, upd_ne, cell_set_self, Nat.zero_add, Nat.add_zero, Option.some.injEq, exists_eq_left', List.getElem?_cons_succ, List.getElem?_cons_zero, true_and, and_true, bne_self_eq_false, beq_self_eq_true, Bool.not_true, Bool.not_false, Bool.and_true, Bool.and_self, Bool.and_false, Bool.true_and, List.length_cons, List.length_nil, ne_eq, not_false_eq_true, Nat.reduceAdd, Nat.reduceMul, if_true, if_false, oneCell_int, oneCell_bool, oneCell_ptr, oneCell_slice, oneCell_string, oneCell_func, oneCell_map, Int.toNat_natCast, List.set_cons_zero, List.set_cons_succ, Nat.lt_irrefl, Nat.zero_lt_succ, Nat.succ_lt_succ_iff, fa26_0, fa26_0p, fa26_1, fa26_1p, fa26_10, fa26_10p, fa26_11, fa26_11p, fa26_12, fa26_12p, fa26_13, fa26_13p, fa26_14, fa26_14p, fa26_2, fa26_2p, fa26_3, fa26_3p, fa26_4, fa26_4p, fa26_5, fa26_5p, fa26_6, fa26_6p, fa26_7, fa26_7p, fa26_8, fa26_8p, fa26_9, fa26_9p, fa28_0, fa28_0p, fa28_1, fa28_1p, fa30_0, fa30_0p, fa30_1, fa30_1p, fa46_0, fa46_0p, fa46_1, fa46_1p, fa46_2, fa46_2p, fa46_3, fa46_3p, fa46_4, fa46_4p, fa46_5, fa46_5p, fa46_6, fa46_6p, fa86_0, fa86_0p, fa86_1, fa86_1p, fa86_2, fa86_2p, fa95_0, fa95_0p, fa95_1, fa95_1p, ld3, ld3p, ld4, ld4p, ld22, ld22p, ld23, ld23p, ld24, ld24p, ld26, ld26p, ld28, ld28p, ld30, ld30p, ld31, ld31p, ld46, ld46p, ld47, ld47p, ld52, ld52p, ld55, ld55p, ld57, ld57p, ld95, ld95p, st3s, st4s, st22s, st23s, st24s, st26w, st28w, st30w, st46w, st47s, st55s, st95w, ix22, ix22p, ix23, ix23p, ix24, ix24p, ix47, ix47p, ix56, ix56p, ix57, ix57p, ix101, ix101p, ln22, ln22p, ln23, ln23p, ln24, ln24p, ln47, ln47p, ln56, ln56p, ln57, ln57p, al22, al26, al28, al30, al46, al47, al95, cf14, cf15, cf16, cf17, cf18, cf19, cf20, cf21, cf22, cf23, cf24, cf25, cf26, cf27, cf28, cf29, cf30, cf31, cf32, cf33, cf34, cf35, cf36, cf37, cf38, cf39, cf40, cf41, cf42, cf43, cf44, cf45, cf46, cf47, cf48, cf49, cf50, cf51, cf52, cf53, cf54, cf55, cf56, cf57, cf58, cf59, cf60, cf61, cf62, cf63, cf64, cf65, cf66, cf67, cf68, cf69, cf70, cf71, cf72, cf73, cf74, cf75, cf76, cf77, cf78, cf79, cf80, bd26_0_1_2_7_8_9_10_11_12_13_14, bd26_0_1_2_7_8_9_10_11_12_13_14p, bd28_0, bd28_0p, bd28_0_1, bd28_0_1p, bd30_, bd30_p, bd30_0_1, bd30_0_1p, bd30_0, bd30_0p, bd46_0_1_2_3_4, bd46_0_1_2_3_4p, bd46_0_3_4, bd46_0_3_4p, bd86_0_1_2, bd86_0_1_2p, bd87_0_1_2_3, bd87_0_1_2_3p, bd95_0_1, bd95_0_1p, bs22_2_0_1, bs47_1_0, bs22_1_0, bs57_6_0_1_2_3_4_5, bs24_1_0, bs22_4_0_1_2_3, bs56_11_0_1_2_3_4_5_6_7_8_9_10, bs57_11_0_1_2_3_4_5_6_7_8_9_10, eq4, eq4p, eq28, eq28p, eq30, eq30p, eq31n, eq31np, eq31s, eq31sp, eq46, eq46p, eq50n, eq50np, eq50s, eq50sp, eq67n, eq67np, eq67s, eq67sp, ne4, ne4p, ne28, ne28p, ne30, ne30p, ne31n, ne31np, ne31s, ne31sp, ne46, ne46p]
    unfold S50_k1
    try simp -implicitDefEqProofs (maxSteps := 2000000) (disch := first | with_reducible exact Nat.ne_of_beq_eq_false rfl | exact oneCell_int | exact oneCell_bool | omega | rfl | (simp; done) | fail) only [upd_ne, g3, retK_ret, resL_tmp, upd_eq, resL_nil1]
    obtain ⟨pz, s4, t4⟩ := s3.pack2
    exact ⟨pz, ⟨raws, pr, pb, o, t4, hlen, rel⟩, s4, d3⟩
  have hlt' : i < C.st.length := by omega
  obtain ⟨s, hs⟩ : ∃ s, C.st[i]? = some s := ⟨_, List.getElem?_eq_getElem hlt'⟩
  have ca3 := ca.up (s3.in 2 rfl) d3
  obtain ⟨b, ofs, a, c, rfl, z0, z1, z2, sv⟩ := ca3.stk hs
  unfold S50_l2_k3
  refine ⟨h3, Hp.le.refl _, ?_⟩
  try simp -implicitDefEqProofs (maxSteps := 2000000) (disch := first | with_reducible exact Nat.ne_of_beq_eq_false rfl | exact oneCell_int | exact oneCell_bool | omega | rfl | (simp; done) | fail) only [upd_ne, g0, g4, opH_sv, pureW_sv, cf75, ix24p (Int.natCast_nonneg i) hlt, Int.toNat_natCast, add_mk, fa95_1p, ld57p, z2, Option.some.injEq, exists_eq_left', fa95_0p, Nat.add_zero, ld28p, z0, z1]
  refine (copyints_spec sv (hb s (List.mem_of_getElem? hs))).mono ?_
  rintro u h4 ⟨ip, o4, s4, d4⟩
  refine ⟨s4.in 1 rfl, ?_⟩
  obtain ⟨sa, cap, rfl, hcap⟩ := o4.len (by decide)
  try simp -implicitDefEqProofs (maxSteps := 2000000) (disch := first | with_reducible exact Nat.ne_of_beq_eq_false rfl | exact oneCell_int | exact oneCell_bool | omega | rfl | (simp; done) | fail) only [bd95_0_1p, bs24_1_0]
  intro x hx gx
  have s5 : Sep [ip, pr, pb, h] h4 := by
    have := s4.split s3
    simpa using this
  let rw0 : Raw := ⟨s.1.1, s.1.2, sa, s.2.length, cap⟩
  have s6 : Sep [pr, ip, pb, h] (h4.set x (.cells #[.int .i64 s.1.1, .int .i64 s.1.2, .slice sa s.2.length cap] 95 (0, 0))) := (s5.past hx).pick 1 rfl rfl
  have d6 : Dis G (h4.set x (.cells #[.int .i64 s.1.1, .int .i64 s.1.2, .slice sa s.2.length cap] 95 (0, 0))) := d4.set gx
  have b6 : (h4.set x (.cells #[.int .i64 s.1.1, .int .i64 s.1.2, .slice sa s.2.length cap] 95 (0, 0))) x = some (.cells #[.int .i64 s.1.1, .int .i64 s.1.2, .slice sa s.2.length cap] 95 (0, 0)) := set_self
  generalize Hp.set h4 x _ = h6 at s6 d6 b6 ⊢
  rw [g3]
  refine append_big rawC (by decide) un24 eoraw (by decide) (M := [rw0]) s6 d6 o (Sees.row (c := rawC) (L := [rw0]) b6 rfl (Nat.le_refl _)) (by
    unfold Room at hst
    refine Nat.le_trans (Nat.mul_le_mul_right _ ?_) hst
    rw [hlen, List.length_singleton]
    omega) fun v7 pr7 h7 o7 s7 d7 => ?_
  have s7' : Sep [ip, pb, pr7, h] h7 := (s7.pick 2 rfl rfl).pick 2 rfl rfl
  obtain ⟨pb7, s8, t8⟩ := s7'.pack2
  unfold S50_l2_k4
  try simp -implicitDefEqProofs (maxSteps := 2000000) (disch := first | with_reducible exact Nat.ne_of_beq_eq_false rfl | exact oneCell_int | exact oneCell_bool | omega | rfl | (simp; done) | fail) only [upd_ne, g4, thenK_normal, opH_sv, bin_add, wrap_in]
  refine HX (C.st.length - (i + 1)) _ _ (by omega) ⟨i + 1, raws ++ [rw0], pr7, pb7, v7, rfl, hlt', by simp -implicitDefEqProofs (maxSteps := 2000000) (disch := first | with_reducible exact Nat.ne_of_beq_eq_false rfl | exact oneCell_int | exact oneCell_bool | omega | rfl | (simp; done) | fail) only [upd_ne, g0], by simp -implicitDefEqProofs (maxSteps := 2000000) (disch := first | with_reducible exact Nat.ne_of_beq_eq_false rfl | exact oneCell_int | exact oneCell_bool | omega | rfl | (simp; done) | fail) only [upd_ne, upd_eq], by simp -implicitDefEqProofs (maxSteps := 2000000) (disch := first | with_reducible exact Nat.ne_of_beq_eq_false rfl | exact oneCell_int | exact oneCell_bool | omega | rfl | (simp; done) | fail) only [upd_eq] <;> rfl, o7, by simp [hlen], ?_, s8.pick 1 rfl rfl, d7⟩
  intro j r' s' hr' hs'
  by_cases hj : j < i
  · rw [List.getElem?_append_left (by omega)] at hr'
    exact (rel.le (t8.in 1 rfl)) j r' s' hr' hs'
  · have hj2 : j < (raws ++ [rw0]).length := (List.getElem?_eq_some_iff.1 hr').1
    obtain rfl : j = i := by simp at hj2; omega
    rw [List.getElem?_append_right (by omega), hlen, Nat.sub_self] at hr'
    cases hr'
    rw [hs] at hs'
    cases hs'
    exact ⟨rfl, rfl, o4.le (t8.in 0 rfl)⟩

abbrev confO (C : Conf) (vb vp vr vz : Value) : Obj := .cells #[.int .i64 C.w, .int .i64 C.h, .int .i64 C.ht, vb, vp, vr, vz, .int .i64 C.un, .int .i64 C.ac, .int .i64 C.sp, .int .i64 C.tu, .int .i64 C.ho, .int .i64 C.qu, .int .i64 C.re, .int .i64 C.bu, .bool C.back] 26 (0, 0)
abbrev confA (C : Conf) (vb vp vr vz : Value) : Value := .agg #[.int .i64 C.w, .int .i64 C.h, .int .i64 C.ht, vb, vp, vr, vz, .int .i64 C.un, .int .i64 C.ac, .int .i64 C.sp, .int .i64 C.tu, .int .i64 C.ho, .int .i64 C.qu, .int .i64 C.re, .int .i64 C.bu, .bool C.back]

theorem store26 {G h : Hp} {y : Nat} {C : Conf} {D : Conf} {v1 v2 v3 v4 : Value} {a1 a2 a3 a4 : Option Addr} {n1 n2 n3 n4 c1 c2 c3 c4 : Nat} {K : Unit → Hp → Prop} (hb : h y = some (confO D v1 v2 v3 v4)) :
    wpH Tryd.prog G (Instr.storeAt 26 (.pointer (some ⟨y, 0, none⟩)) (confA C (.slice a1 n1 c1) (.slice a2 n2 c2) (.slice a3 n3 c3) (.slice a4 n4 c4))) h K = K () (h.set y (confO C (.slice a1 n1 c1) (.slice a2 n2 c2) (.slice a3 n3 c3) (.slice a4 n4 c4))) := by
  conv => lhs; rw [← set_same hb]
  exact st26w

structure Fit0 (C : Conf) : Prop where
  bl : Room C.bl.length 16
  po : Room C.po.length 16
  ro : Room C.ro.length 24
  st : Room C.st.length 40
  bins : ∀ s ∈ C.st, Room s.2.length 8

def Cz : Conf := ⟨0, 0, 0, [], [], [], [], 0, 0, 0, 0, 0, 0, 0, 0, false⟩
abbrev nilV : Value := .slice none 0 0

/-- A config of one's own. -/
structure CO (h : Hp) (C : Conf) (u : Value) (h' pb pp pr pz : Hp) (vb vp vr vz : Value) : Prop where
  v : u = confA C vb vp vr vz
  bl : Slc cellC 28 pb vb C.bl
  po : Slc cellC 28 pp vp C.po
  ro : Slc poseC 30 pr vr C.ro
  st : StkO pz vz C.st
  sep : Sep [pb, pp, pr, pz, h] h'

def CopyR (G h : Hp) (C : Conf) (u : Value) (h' : Hp) : Prop := (∃ pb pp pr pz vb vp vr vz, CO h C u h' pb pp pr pz vb vp vr vz) ∧ Dis G h'

set_option maxHeartbeats 2000000 in
theorem copyconf_spec {G h : Hp} {v : Value} {C : Conf} (hv : CV G h v C) (fit : Fit0 C) : HCalls Tryd.prog G 15 #[v] h (CopyR G h C) := by
  obtain ⟨ab, cb, ap, cp, ar, cr, az, cs, rfl, ca⟩ := hv
  refine HCalls.assume fun d => enter15 (by simp) ?_
  unfold S15
  simp -implicitDefEqProofs (maxSteps := 2000000) (disch := first | with_reducible exact Nat.ne_of_beq_eq_false rfl | exact oneCell_int | exact oneCell_bool | omega | rfl | (simp; done) | fail) only [regs0, retK_ret, resL_cell, upd_ne, upd_eq, resL_nil1, opH_su, opH_sv, cf50, al26, resC_ptr, ld26, add_mk, Nat.add_zero, Nat.zero_add, box_new, cells_agg, fa26_6, ld24, fa26_5, ld23, fa26_4, ld22, fa26_3]
  intro x hx gx y hy gy
  have exy := ne_of_set hy
  have s2 : Sep [noHp, noHp.set x (confO C (.slice ab C.bl.length cb) (.slice ap C.po.length cp) (.slice ar C.ro.length cr) (.slice az C.st.length cs)), noHp.set y (confO Cz nilV nilV nilV nilV), h] _ := (((Sep.one (h := h)).new (o := confO C (.slice ab C.bl.length cb) (.slice ap C.po.length cp) (.slice ar C.ro.length cr) (.slice az C.st.length cs)) hx).new (o := confO Cz nilV nilV nilV nilV) hy).swap.none
  have d2 := (d.set (o := confO C (.slice ab C.bl.length cb) (.slice ap C.po.length cp) (.slice ar C.ro.length cr) (.slice az C.st.length cs)) gx).set (o := confO Cz nilV nilV nilV nilV) gy
  unfold Cz at s2 d2
  generalize Hp.set (Hp.set h x _) y _ = h2 at s2 d2 ⊢
  have cx : ∀ j, cellIn G h2 ⟨x, j, none⟩ = _ := fun j => cell_of (look_own (s2.at 1 rfl set_self))
  have ca2 := ca.up (s2.in 3 rfl) d2
  try simp -implicitDefEqProofs (maxSteps := 2000000) (disch := first | with_reducible exact Nat.ne_of_beq_eq_false rfl | exact oneCell_int | exact oneCell_bool | omega | rfl | (simp; done) | fail) only [cx, List.getElem?_cons_succ, List.getElem?_cons_zero, Option.some.injEq, exists_eq_left']
  refine append_big cellC (by decide) un22 eocell (by decide) s2 d2 Slc.nil ca2.bl (by simpa [Room] using fit.bl) fun vb pb h3 ob s3 d3 => ?_
  obtain ⟨sb, cpb, rfl, _⟩ := ob.len (by decide)
  rw [List.nil_append] at ob
  have hx3 := s3.at 1 rfl set_self
  try simp -implicitDefEqProofs (maxSteps := 2000000) (disch := first | with_reducible exact Nat.ne_of_beq_eq_false rfl | exact oneCell_int | exact oneCell_bool | omega | rfl | (simp; done) | fail) only [opH_sv, opH_su, pureW_sv, opH_nil, pureW_nil, pick_t, pick_f, pick_tp, pick_fp, gd_tt, gd_ft, gd_tf, gd_ff, box_new, regs0, regs1, regs2, regs3, regs4, regs5, regs6, cells_agg, cells_int, cells_bool, cells_ptr, cells_slice, cells_string, cells_func, cells_nilFunc, cells_map, retK_ret, retK_normal, resL_tmp, resL_cell, resL_nil0, resL_nil1, resL_nil2, resL_nil3, resC_ptr, ex0, ex1, ex2, ex0p, ex1p, ex2p, HL.cond_true, HL.cond_false, thenK_normal, thenK_ret, thenK_exit, blockK_normal, blockK_ret, blockK_exit, scopeK_normal, scopeK_ret, scopeK_exit, wpH_pure, bin_add, bin_sub, bin_mul, bin_lss, bin_leq, bin_gtr, bin_geq, bin_quo, bin_rem, bin_quop, bin_remp, wrap_in, bin_addp, bin_subp, bin_mulp, bin_lssp, bin_leqp, bin_gtrp, bin_geqp, un_not, un_notp, un_neg, eq_int, ne_int, eq_intp, ne_intp, callV_fn, add_mk, upd_eq, upd_ne, cell_set_self, Nat.zero_add, Nat.add_zero, Option.some.injEq, exists_eq_left', List.getElem?_cons_succ, List.getElem?_cons_zero, true_and, and_true, bne_self_eq_false, beq_self_eq_true, Bool.not_true, Bool.not_false, Bool.and_true, Bool.and_self, Bool.and_false, Bool.true_and, List.length_cons, List.length_nil, ne_eq, not_false_eq_true, Nat.reduceAdd, Nat.reduceMul, if_true, if_false, oneCell_int, oneCell_bool, oneCell_ptr, oneCell_slice, oneCell_string, oneCell_func, oneCell_map, Int.toNat_natCast, List.set_cons_zero, List.set_cons_succ, Nat.lt_irrefl, Nat.zero_lt_succ, Nat.succ_lt_succ_iff, fa26_0, fa26_0p, fa26_1, fa26_1p, fa26_10, fa26_10p, fa26_11, fa26_11p, fa26_12, fa26_12p, fa26_13, fa26_13p, fa26_14, fa26_14p, fa26_2, fa26_2p, fa26_3, fa26_3p, fa26_4, fa26_4p, fa26_5, fa26_5p, fa26_6, fa26_6p, fa26_7, fa26_7p, fa26_8, fa26_8p, fa26_9, fa26_9p, fa28_0, fa28_0p, fa28_1, fa28_1p, fa30_0, fa30_0p, fa30_1, fa30_1p, fa46_0, fa46_0p, fa46_1, fa46_1p, fa46_2, fa46_2p, fa46_3, fa46_3p, fa46_4, fa46_4p, fa46_5, fa46_5p, fa46_6, fa46_6p, fa86_0, fa86_0p, fa86_1, fa86_1p, fa86_2, fa86_2p, fa95_0, fa95_0p, fa95_1, fa95_1p, ld3, ld3p, ld4, ld4p, ld22, ld22p, ld23, ld23p, ld24, ld24p, ld26, ld26p, ld28, ld28p, ld30, ld30p, ld31, ld31p, ld46, ld46p, ld47, ld47p, ld52, ld52p, ld55, ld55p, ld57, ld57p, ld95, ld95p, st3s, st4s, st22s, st23s, st24s, st26w, st28w, st30w, st46w, st47s, st55s, st95w, ix22, ix22p, ix23, ix23p, ix24, ix24p, ix47, ix47p, ix56, ix56p, ix57, ix57p, ix101, ix101p, ln22, ln22p, ln23, ln23p, ln24, ln24p, ln47, ln47p, ln56, ln56p, ln57, ln57p, al22, al26, al28, al30, al46, al47, al95, cf14, cf15, cf16, cf17, cf18, cf19, cf20, cf21, cf22, cf23, cf24, cf25, cf26, cf27, cf28, cf29, cf30, cf31, cf32, cf33, cf34, cf35, cf36, cf37, cf38, cf39, cf40, cf41, cf42, cf43, cf44, cf45, cf46, cf47, cf48, cf49, cf50, cf51, cf52, cf53, cf54, cf55, cf56, cf57, cf58, cf59, cf60, cf61, cf62, cf63, cf64, cf65, cf66, cf67, cf68, cf69, cf70, cf71, cf72, cf73, cf74, cf75, cf76, cf77, cf78, cf79, cf80, bd26_0_1_2_7_8_9_10_11_12_13_14, bd26_0_1_2_7_8_9_10_11_12_13_14p, bd28_0, bd28_0p, bd28_0_1, bd28_0_1p, bd30_, bd30_p, bd30_0_1, bd30_0_1p, bd30_0, bd30_0p, bd46_0_1_2_3_4, bd46_0_1_2_3_4p, bd46_0_3_4, bd46_0_3_4p, bd86_0_1_2, bd86_0_1_2p, bd87_0_1_2_3, bd87_0_1_2_3p, bd95_0_1, bd95_0_1p, bs22_2_0_1, bs47_1_0, bs22_1_0, bs57_6_0_1_2_3_4_5, bs24_1_0, bs22_4_0_1_2_3, bs56_11_0_1_2_3_4_5_6_7_8_9_10, bs57_11_0_1_2_3_4_5_6_7_8_9_10, eq4, eq4p, eq28, eq28p, eq30, eq30p, eq31n, eq31np, eq31s, eq31sp, eq46, eq46p, eq50n, eq50np, eq50s, eq50sp, eq67n, eq67np, eq67s, eq67sp, ne4, ne4p, ne28, ne28p, ne30, ne30p, ne31n, ne31np, ne31s, ne31sp, ne46, ne46p]
  rw [store1_eq sz22 rfl hx3 (by simp)]
  have s4 : Sep [noHp, noHp.set x (confO C (.slice sb C.bl.length cpb) (.slice ap C.po.length cp) (.slice ar C.ro.length cr) (.slice az C.st.length cs)), pb, noHp.set y (confO ⟨0, 0, 0, [], [], [], [], 0, 0, 0, 0, 0, 0, 0, 0, false⟩ nilV nilV nilV nilV), h] (h3.set x (confO C (.slice sb C.bl.length cpb) (.slice ap C.po.length cp) (.slice ar C.ro.length cr) (.slice az C.st.length cs))) := by
    have := (s3.pick 1 rfl rfl).put (o := confO C (.slice sb C.bl.length cpb) (.slice ap C.po.length cp) (.slice ar C.ro.length cr) (.slice az C.st.length cs)) set_self
    rw [set_set] at this
    exact this.none
  have d4 : Dis G (h3.set x (confO C (.slice sb C.bl.length cpb) (.slice ap C.po.length cp) (.slice ar C.ro.length cr) (.slice az C.st.length cs))) := d3.set gx
  try simp -implicitDefEqProofs (maxSteps := 2000000) (disch := first | with_reducible exact Nat.ne_of_beq_eq_false rfl | exact oneCell_int | exact oneCell_bool | omega | rfl | (simp; done) | fail) only [List.nil_append, List.set_cons_succ, List.set_cons_zero, cell_set_self, List.getElem?_cons_succ, List.getElem?_cons_zero, Option.some.injEq, exists_eq_left']
  generalize Hp.set h3 x _ = h4 at s4 d4 ⊢
  refine append_big cellC (by decide) un22 eocell (by decide) s4 d4 Slc.nil (ca.up (s4.in 4 rfl) d4).po (by simpa [Room] using fit.po) fun vp pp h5 op s5 d5 => ?_
  obtain ⟨sp, cpp, rfl, _⟩ := op.len (by decide)
  rw [List.nil_append] at op
  have hx5 := s5.at 1 rfl set_self
  try simp -implicitDefEqProofs (maxSteps := 2000000) (disch := first | with_reducible exact Nat.ne_of_beq_eq_false rfl | exact oneCell_int | exact oneCell_bool | omega | rfl | (simp; done) | fail) only [opH_sv, opH_su, pureW_sv, opH_nil, pureW_nil, pick_t, pick_f, pick_tp, pick_fp, gd_tt, gd_ft, gd_tf, gd_ff, box_new, regs0, regs1, regs2, regs3, regs4, regs5, regs6, cells_agg, cells_int, cells_bool, cells_ptr, cells_slice, cells_string, cells_func, cells_nilFunc, cells_map, retK_ret, retK_normal, resL_tmp, resL_cell, resL_nil0, resL_nil1, resL_nil2, resL_nil3, resC_ptr, ex0, ex1, ex2, ex0p, ex1p, ex2p, HL.cond_true, HL.cond_false, thenK_normal, thenK_ret, thenK_exit, blockK_normal, blockK_ret, blockK_exit, scopeK_normal, scopeK_ret, scopeK_exit, wpH_pure, bin_add, bin_sub, bin_mul, bin_lss, bin_leq, bin_gtr, bin_geq, bin_quo, bin_rem, bin_quop, bin_remp, wrap_in, bin_addp, bin_subp, bin_mulp, bin_lssp, bin_leqp, bin_gtrp, bin_geqp, un_not, un_notp, un_neg, eq_int, ne_int, eq_intp, ne_intp, callV_fn, add_mk, upd_eq, upd_ne, cell_set_self, Nat.zero_add, Nat.add_zero, Option.some.injEq, exists_eq_left', List.getElem?_cons_succ, List.getElem?_cons_zero, true_and, and_true, bne_self_eq_false, beq_self_eq_true, Bool.not_true, Bool.not_false, Bool.and_true, Bool.and_self, Bool.and_false, Bool.true_and, List.length_cons, List.length_nil, ne_eq, not_false_eq_true, Nat.reduceAdd, Nat.reduceMul, if_true, if_false, oneCell_int, oneCell_bool, oneCell_ptr, oneCell_slice, oneCell_string, oneCell_func, oneCell_map, Int.toNat_natCast, List.set_cons_zero, List.set_cons_succ, Nat.lt_irrefl, Nat.zero_lt_succ, Nat.succ_lt_succ_iff, fa26_0, fa26_0p, fa26_1, fa26_1p, fa26_10, fa26_10p, fa26_11, fa26_11p, fa26_12, fa26_12p, fa26_13, fa26_13p, fa26_14, fa26_14p, fa26_2, fa26_2p, fa26_3, fa26_3p, fa26_4, fa26_4p, fa26_5, fa26_5p, fa26_6, fa26_6p, fa26_7, fa26_7p, fa26_8, fa26_8p, fa26_9, fa26_9p, fa28_0, fa28_0p, fa28_1, fa28_1p, fa30_0, fa30_0p, fa30_1, fa30_1p, fa46_0, fa46_0p, fa46_1, fa46_1p, fa46_2, fa46_2p, fa46_3, fa46_3p, fa46_4, fa46_4p, fa46_5, fa46_5p, fa46_6, fa46_6p, fa86_0, fa86_0p, fa86_1, fa86_1p, fa86_2, fa86_2p, fa95_0, fa95_0p, fa95_1, fa95_1p, ld3, ld3p, ld4, ld4p, ld22, ld22p, ld23, ld23p, ld24, ld24p, ld26, ld26p, ld28, ld28p, ld30, ld30p, ld31, ld31p, ld46, ld46p, ld47, ld47p, ld52, ld52p, ld55, ld55p, ld57, ld57p, ld95, ld95p, st3s, st4s, st22s, st23s, st24s, st26w, st28w, st30w, st46w, st47s, st55s, st95w, ix22, ix22p, ix23, ix23p, ix24, ix24p, ix47, ix47p, ix56, ix56p, ix57, ix57p, ix101, ix101p, ln22, ln22p, ln23, ln23p, ln24, ln24p, ln47, ln47p, ln56, ln56p, ln57, ln57p, al22, al26, al28, al30, al46, al47, al95, cf14, cf15, cf16, cf17, cf18, cf19, cf20, cf21, cf22, cf23, cf24, cf25, cf26, cf27, cf28, cf29, cf30, cf31, cf32, cf33, cf34, cf35, cf36, cf37, cf38, cf39, cf40, cf41, cf42, cf43, cf44, cf45, cf46, cf47, cf48, cf49, cf50, cf51, cf52, cf53, cf54, cf55, cf56, cf57, cf58, cf59, cf60, cf61, cf62, cf63, cf64, cf65, cf66, cf67, cf68, cf69, cf70, cf71, cf72, cf73, cf74, cf75, cf76, cf77, cf78, cf79, cf80, bd26_0_1_2_7_8_9_10_11_12_13_14, bd26_0_1_2_7_8_9_10_11_12_13_14p, bd28_0, bd28_0p, bd28_0_1, bd28_0_1p, bd30_, bd30_p, bd30_0_1, bd30_0_1p, bd30_0, bd30_0p, bd46_0_1_2_3_4, bd46_0_1_2_3_4p, bd46_0_3_4, bd46_0_3_4p, bd86_0_1_2, bd86_0_1_2p, bd87_0_1_2_3, bd87_0_1_2_3p, bd95_0_1, bd95_0_1p, bs22_2_0_1, bs47_1_0, bs22_1_0, bs57_6_0_1_2_3_4_5, bs24_1_0, bs22_4_0_1_2_3, bs56_11_0_1_2_3_4_5_6_7_8_9_10, bs57_11_0_1_2_3_4_5_6_7_8_9_10, eq4, eq4p, eq28, eq28p, eq30, eq30p, eq31n, eq31np, eq31s, eq31sp, eq46, eq46p, eq50n, eq50np, eq50s, eq50sp, eq67n, eq67np, eq67s, eq67sp, ne4, ne4p, ne28, ne28p, ne30, ne30p, ne31n, ne31np, ne31s, ne31sp, ne46, ne46p]
  rw [store1_eq sz22 rfl hx5 (by simp)]
  have s6 : Sep [noHp, noHp.set x (confO C (.slice sb C.bl.length cpb) (.slice sp C.po.length cpp) (.slice ar C.ro.length cr) (.slice az C.st.length cs)), pp, pb, noHp.set y (confO ⟨0, 0, 0, [], [], [], [], 0, 0, 0, 0, 0, 0, 0, 0, false⟩ nilV nilV nilV nilV), h] (h5.set x (confO C (.slice sb C.bl.length cpb) (.slice sp C.po.length cpp) (.slice ar C.ro.length cr) (.slice az C.st.length cs))) := by
    have := (s5.pick 1 rfl rfl).put (o := confO C (.slice sb C.bl.length cpb) (.slice sp C.po.length cpp) (.slice ar C.ro.length cr) (.slice az C.st.length cs)) set_self
    rw [set_set] at this
    exact this.none
  have d6 : Dis G (h5.set x (confO C (.slice sb C.bl.length cpb) (.slice sp C.po.length cpp) (.slice ar C.ro.length cr) (.slice az C.st.length cs))) := d5.set gx
  try simp -implicitDefEqProofs (maxSteps := 2000000) (disch := first | with_reducible exact Nat.ne_of_beq_eq_false rfl | exact oneCell_int | exact oneCell_bool | omega | rfl | (simp; done) | fail) only [List.nil_append, List.set_cons_succ, List.set_cons_zero, cell_set_self, List.getElem?_cons_succ, List.getElem?_cons_zero, Option.some.injEq, exists_eq_left']
  generalize Hp.set h5 x _ = h6 at s6 d6 ⊢
  refine append_big poseC (by decide) un23 eopose (by decide) s6 d6 Slc.nil (ca.up (s6.in 5 rfl) d6).ro (by simpa [Room] using fit.ro) fun vr pr h7 or s7 d7 => ?_
  obtain ⟨sr, cpr, rfl, _⟩ := or.len (by decide)
  rw [List.nil_append] at or
  have hx7 := s7.at 1 rfl set_self
  try simp -implicitDefEqProofs (maxSteps := 2000000) (disch := first | with_reducible exact Nat.ne_of_beq_eq_false rfl | exact oneCell_int | exact oneCell_bool | omega | rfl | (simp; done) | fail) only [opH_sv, opH_su, pureW_sv, opH_nil, pureW_nil, pick_t, pick_f, pick_tp, pick_fp, gd_tt, gd_ft, gd_tf, gd_ff, box_new, regs0, regs1, regs2, regs3, regs4, regs5, regs6, cells_agg, cells_int, cells_bool, cells_ptr, cells_slice, cells_string, cells_func, cells_nilFunc, cells_map, retK_ret, retK_normal, resL_tmp, resL_cell, resL_nil0, resL_nil1, resL_nil2, resL_nil3, resC_ptr, ex0, ex1, ex2, ex0p, ex1p, ex2p, HL.cond_true, HL.cond_false, thenK_normal, thenK_ret, thenK_exit, blockK_normal, blockK_ret, blockK_exit, scopeK_normal, scopeK_ret, scopeK_exit, wpH_pure, bin_add, bin_sub, bin_mul, bin_lss, bin_leq, bin_gtr, bin_geq, bin_quo, bin_rem, bin_quop, bin_remp, wrap_in, bin_addp, bin_subp, bin_mulp, bin_lssp, bin_leqp, bin_gtrp, bin_geqp, un_not, un_notp, un_neg, eq_int, ne_int, eq_intp, ne_intp, callV_fn, add_mk, upd_eq, upd_ne, cell_set_self, Nat.zero_add, Nat.add_zero, Option.some.injEq, exists_eq_left', List.getElem?_cons_succ, List.getElem?_cons_zero, true_and, and_true, bne_self_eq_false, beq_self_eq_true, Bool.not_true, Bool.not_false, Bool.and_true, Bool.and_self, Bool.and_false, Bool.true_and, List.length_cons, List.length_nil, ne_eq, not_false_eq_true, Nat.reduceAdd, Nat.reduceMul, if_true, if_false, oneCell_int, oneCell_bool, oneCell_ptr, oneCell_slice, oneCell_string, oneCell_func, oneCell_map, Int.toNat_natCast, List.set_cons_zero, List.set_cons_succ, Nat.lt_irrefl, Nat.zero_lt_succ, Nat.succ_lt_succ_iff, fa26_0, fa26_0p, fa26_1, fa26_1p, fa26_10, fa26_10p, fa26_11, fa26_11p, fa26_12, fa26_12p, fa26_13, fa26_13p, fa26_14, fa26_14p, fa26_2, fa26_2p, fa26_3, fa26_3p, fa26_4, fa26_4p, fa26_5, fa26_5p, fa26_6, fa26_6p, fa26_7, fa26_7p, fa26_8, fa26_8p, fa26_9, fa26_9p, fa28_0, fa28_0p, fa28_1, fa28_1p, fa30_0, fa30_0p, fa30_1, fa30_1p, fa46_0, fa46_0p, fa46_1, fa46_1p, fa46_2, fa46_2p, fa46_3, fa46_3p, fa46_4, fa46_4p, fa46_5, fa46_5p, fa46_6, fa46_6p, fa86_0, fa86_0p, fa86_1, fa86_1p, fa86_2, fa86_2p, fa95_0, fa95_0p, fa95_1, fa95_1p, ld3, ld3p, ld4, ld4p, ld22, ld22p, ld23, ld23p, ld24, ld24p, ld26, ld26p, ld28, ld28p, ld30, ld30p, ld31, ld31p, ld46, ld46p, ld47, ld47p, ld52, ld52p, ld55, ld55p, ld57, ld57p, ld95, ld95p, st3s, st4s, st22s, st23s, st24s, st26w, st28w, st30w, st46w, st47s, st55s, st95w, ix22, ix22p, ix23, ix23p, ix24, ix24p, ix47, ix47p, ix56, ix56p, ix57, ix57p, ix101, ix101p, ln22, ln22p, ln23, ln23p, ln24, ln24p, ln47, ln47p, ln56, ln56p, ln57, ln57p, al22, al26, al28, al30, al46, al47, al95, cf14, cf15, cf16, cf17, cf18, cf19, cf20, cf21, cf22, cf23, cf24, cf25, cf26, cf27, cf28, cf29, cf30, cf31, cf32, cf33, cf34, cf35, cf36, cf37, cf38, cf39, cf40, cf41, cf42, cf43, cf44, cf45, cf46, cf47, cf48, cf49, cf50, cf51, cf52, cf53, cf54, cf55, cf56, cf57, cf58, cf59, cf60, cf61, cf62, cf63, cf64, cf65, cf66, cf67, cf68, cf69, cf70, cf71, cf72, cf73, cf74, cf75, cf76, cf77, cf78, cf79, cf80, bd26_0_1_2_7_8_9_10_11_12_13_14, bd26_0_1_2_7_8_9_10_11_12_13_14p, bd28_0, bd28_0p, bd28_0_1, bd28_0_1p, bd30_, bd30_p, bd30_0_1, bd30_0_1p, bd30_0, bd30_0p, bd46_0_1_2_3_4, bd46_0_1_2_3_4p, bd46_0_3_4, bd46_0_3_4p, bd86_0_1_2, bd86_0_1_2p, bd87_0_1_2_3, bd87_0_1_2_3p, bd95_0_1, bd95_0_1p, bs22_2_0_1, bs47_1_0, bs22_1_0, bs57_6_0_1_2_3_4_5, bs24_1_0, bs22_4_0_1_2_3, bs56_11_0_1_2_3_4_5_6_7_8_9_10, bs57_11_0_1_2_3_4_5_6_7_8_9_10, eq4, eq4p, eq28, eq28p, eq30, eq30p, eq31n, eq31np, eq31s, eq31sp, eq46, eq46p, eq50n, eq50np, eq50s, eq50sp, eq67n, eq67np, eq67s, eq67sp, ne4, ne4p, ne28, ne28p, ne30, ne30p, ne31n, ne31np, ne31s, ne31sp, ne46, ne46p]
  rw [store1_eq sz23 rfl hx7 (by simp)]
  have s8 : Sep [noHp.set x (confO C (.slice sb C.bl.length cpb) (.slice sp C.po.length cpp) (.slice sr C.ro.length cpr) (.slice az C.st.length cs)), pr, pp, pb, noHp.set y (confO ⟨0, 0, 0, [], [], [], [], 0, 0, 0, 0, 0, 0, 0, 0, false⟩ nilV nilV nilV nilV), h] (h7.set x (confO C (.slice sb C.bl.length cpb) (.slice sp C.po.length cpp) (.slice sr C.ro.length cpr) (.slice az C.st.length cs))) := by
    have := (s7.pick 1 rfl rfl).put (o := confO C (.slice sb C.bl.length cpb) (.slice sp C.po.length cpp) (.slice sr C.ro.length cpr) (.slice az C.st.length cs)) set_self
    rw [set_set] at this
    exact this
  have d8 : Dis G (h7.set x (confO C (.slice sb C.bl.length cpb) (.slice sp C.po.length cpp) (.slice sr C.ro.length cpr) (.slice az C.st.length cs))) := d7.set gx
  try simp -implicitDefEqProofs (maxSteps := 2000000) (disch := first | with_reducible exact Nat.ne_of_beq_eq_false rfl | exact oneCell_int | exact oneCell_bool | omega | rfl | (simp; done) | fail) only [List.nil_append, List.set_cons_succ, List.set_cons_zero, cell_set_self, List.getElem?_cons_succ, List.getElem?_cons_zero, Option.some.injEq, exists_eq_left']
  generalize Hp.set h7 x _ = h8 at s8 d8 ⊢
  refine (copystacks_spec (ca.up (s8.in 5 rfl) d8) fit.st fit.bins).mono ?_
  rintro vz h9 ⟨pz, oz, s9, d9⟩
  have s9' : Sep [pz, noHp.set x (confO C (.slice sb C.bl.length cpb) (.slice sp C.po.length cpp) (.slice sr C.ro.length cpr) (.slice az C.st.length cs)), pr, pp, pb, noHp.set y (confO ⟨0, 0, 0, [], [], [], [], 0, 0, 0, 0, 0, 0, 0, 0, false⟩ nilV nilV nilV nilV), h] h9 := by
    have := s9.split s8
    simpa using this
  obtain ⟨sz, cpz, rfl⟩ : ∃ sz cpz, vz = .slice sz C.st.length cpz := by
    obtain ⟨raws, _, _, o, _, e, _⟩ := oz
    obtain ⟨a, b, e2, _⟩ := o.len (by decide)
    exact ⟨a, b, by rw [e2, e]⟩
  have hx9 := s9'.at 1 rfl set_self
  try simp -implicitDefEqProofs (maxSteps := 2000000) (disch := first | with_reducible exact Nat.ne_of_beq_eq_false rfl | exact oneCell_int | exact oneCell_bool | omega | rfl | (simp; done) | fail) only [opH_sv, opH_su, pureW_sv, opH_nil, pureW_nil, pick_t, pick_f, pick_tp, pick_fp, gd_tt, gd_ft, gd_tf, gd_ff, box_new, regs0, regs1, regs2, regs3, regs4, regs5, regs6, cells_agg, cells_int, cells_bool, cells_ptr, cells_slice, cells_string, cells_func, cells_nilFunc, cells_map, retK_ret, retK_normal, resL_tmp, resL_cell, resL_nil0, resL_nil1, resL_nil2, resL_nil3, resC_ptr, ex0, ex1, ex2, ex0p, ex1p, ex2p, HL.cond_true, HL.cond_false, thenK_normal, thenK_ret, thenK_exit, blockK_normal, blockK_ret, blockK_exit, scopeK_normal, scopeK_ret, scopeK_exit, wpH_pure, bin_add, bin_sub, bin_mul, bin_lss, bin_leq, bin_gtr, bin_geq, bin_quo, bin_rem, bin_quop, bin_remp, wrap_in, bin_addp, bin_subp, bin_mulp, bin_lssp, bin_leqp, bin_gtrp, bin_geqp, un_not, un_notp, un_neg, eq_int, ne_int, eq_intp, ne_intp, callV_fn, add_mk, upd_eq, upd_ne, cell_set_self, Nat.zero_add, Nat.add_zero, Option.some.injEq, exists_eq_left', List.getElem?_cons_succ, List.getElem?_cons_zero, true_and, and_true, bne_self_eq_false, beq_self_eq_true, Bool.not_true, Bool.not_false, Bool.and_true, Bool.and_self, Bool.and_false, Bool.true_and, List.length_cons, List.length_nil, ne_eq, not_false_eq_true, Nat.reduceAdd, Nat.reduceMul, if_true, if_false, oneCell_int, oneCell_bool, oneCell_ptr, oneCell_slice, oneCell_string, oneCell_func, oneCell_map, Int.toNat_natCast, List.set_cons_zero, List.set_cons_succ, Nat.lt_irrefl, Nat.zero_lt_succ, Nat.succ_lt_succ_iff, fa26_0, fa26_0p, fa26_1, fa26_1p, fa26_10, fa26_10p, fa26_11, fa26_11p, fa26_12, fa26_12p, fa26_13, fa26_13p, fa26_14, fa26_14p, fa26_2, fa26_2p, fa26_3, fa26_3p, fa26_4, fa26_4p, fa26_5, fa26_5p, fa26_6, fa26_6p, fa26_7, fa26_7p, fa26_8, fa26_8p, fa26_9, fa26_9p, fa28_0, fa28_0p, fa28_1, fa28_1p, fa30_0, fa30_0p, fa30_1, fa30_1p, fa46_0, fa46_0p, fa46_1, fa46_1p, fa46_2, fa46_2p, fa46_3, fa46_3p, fa46_4, fa46_4p, fa46_5, fa46_5p, fa46_6, fa46_6p, fa86_0, fa86_0p, fa86_1, fa86_1p, fa86_2, fa86_2p, fa95_0, fa95_0p, fa95_1, fa95_1p, ld3, ld3p, ld4, ld4p, ld22, ld22p, ld23, ld23p, ld24, ld24p, ld26, ld26p, ld28, ld28p, ld30, ld30p, ld31, ld31p, ld46, ld46p, ld47, ld47p, ld52, ld52p, ld55, ld55p, ld57, ld57p, ld95, ld95p, st3s, st4s, st22s, st23s, st24s, st26w, st28w, st30w, st46w, st47s, st55s, st95w, ix22, ix22p, ix23, ix23p, ix24, ix24p, ix47, ix47p, ix56, ix56p, ix57, ix57p, ix101, ix101p, ln22, ln22p, ln23, ln23p, ln24, ln24p, ln47, ln47p, ln56, ln56p, ln57, ln57p, al22, al26, al28, al30, al46, al47, al95, cf14, cf15, cf16, cf17, cf18, cf19, cf20, cf21, cf22, cf23, cf24, cf25, cf26, cf27, cf28, cf29, cf30, cf31, cf32, cf33, cf34, cf35, cf36, cf37, cf38, cf39, cf40, cf41, cf42, cf43, cf44, cf45, cf46, cf47, cf48, cf49, cf50, cf51, cf52, cf53, cf54, cf55, cf56, cf57, cf58, cf59, cf60, cf61, cf62, cf63, cf64, cf65, cf66, cf67, cf68, cf69, cf70, cf71, cf72, cf73, cf74, cf75, cf76, cf77, cf78, cf79, cf80, bd26_0_1_2_7_8_9_10_11_12_13_14, bd26_0_1_2_7_8_9_10_11_12_13_14p, bd28_0, bd28_0p, bd28_0_1, bd28_0_1p, bd30_, bd30_p, bd30_0_1, bd30_0_1p, bd30_0, bd30_0p, bd46_0_1_2_3_4, bd46_0_1_2_3_4p, bd46_0_3_4, bd46_0_3_4p, bd86_0_1_2, bd86_0_1_2p, bd87_0_1_2_3, bd87_0_1_2_3p, bd95_0_1, bd95_0_1p, bs22_2_0_1, bs47_1_0, bs22_1_0, bs57_6_0_1_2_3_4_5, bs24_1_0, bs22_4_0_1_2_3, bs56_11_0_1_2_3_4_5_6_7_8_9_10, bs57_11_0_1_2_3_4_5_6_7_8_9_10, eq4, eq4p, eq28, eq28p, eq30, eq30p, eq31n, eq31np, eq31s, eq31sp, eq46, eq46p, eq50n, eq50np, eq50s, eq50sp, eq67n, eq67np, eq67s, eq67sp, ne4, ne4p, ne28, ne28p, ne30, ne30p, ne31n, ne31np, ne31s, ne31sp, ne46, ne46p]
  rw [store1_eq sz24 rfl hx9 (by simp)]
  have s10 : Sep [noHp.set x (confO C (.slice sb C.bl.length cpb) (.slice sp C.po.length cpp) (.slice sr C.ro.length cpr) (.slice sz C.st.length cpz)), pz, pr, pp, pb, noHp.set y (confO ⟨0, 0, 0, [], [], [], [], 0, 0, 0, 0, 0, 0, 0, 0, false⟩ nilV nilV nilV nilV), h] (h9.set x (confO C (.slice sb C.bl.length cpb) (.slice sp C.po.length cpp) (.slice sr C.ro.length cpr) (.slice sz C.st.length cpz))) := by
    have := (s9'.pick 1 rfl rfl).put (o := confO C (.slice sb C.bl.length cpb) (.slice sp C.po.length cpp) (.slice sr C.ro.length cpr) (.slice sz C.st.length cpz)) set_self
    rw [set_set] at this
    exact this
  have d10 : Dis G (h9.set x (confO C (.slice sb C.bl.length cpb) (.slice sp C.po.length cpp) (.slice sr C.ro.length cpr) (.slice sz C.st.length cpz))) := d9.set gx
  try simp -implicitDefEqProofs (maxSteps := 2000000) (disch := first | with_reducible exact Nat.ne_of_beq_eq_false rfl | exact oneCell_int | exact oneCell_bool | omega | rfl | (simp; done) | fail) only [List.set_cons_succ, List.set_cons_zero, cell_set_self, List.getElem?_cons_zero, Option.some.injEq, List.getElem?_cons_succ, exists_eq_left']
  generalize Hp.set h9 x _ = h10 at s10 d10 ⊢
  have hy10 := s10.at 5 rfl set_self
  rw [store26 hy10]
  try simp -implicitDefEqProofs (maxSteps := 2000000) (disch := first | with_reducible exact Nat.ne_of_beq_eq_false rfl | exact oneCell_int | exact oneCell_bool | omega | rfl | (simp; done) | fail) only [cell_set_self, List.getElem?_cons_zero, Option.some.injEq, List.getElem?_cons_succ, exists_eq_left']
  refine ⟨⟨pb, pp, pr, pz, _, _, _, _, rfl, ob, op, or, oz, ?_⟩, d10.set gy⟩
  have s11 := ((s10.pick 5 rfl rfl).put (o := confO C (.slice sb C.bl.length cpb) (.slice sp C.po.length cpp) (.slice sr C.ro.length cpr) (.slice sz C.st.length cpz)) set_self).drop.drop
  have s12 : Sep [pz, pr, pp, pb, h] _ := s11
  exact ((s12.pick 1 rfl rfl).pick 2 rfl rfl).pick 3 rfl rfl

theorem StkO.len {pz : Hp} {v : Value} {st : List (Cell × List Int)} (o : StkO pz v st) : ∃ sz cpz, v = .slice sz st.length cpz := by
  obtain ⟨raws, _, _, o, _, e, _⟩ := o
  obtain ⟨a, b, e2, _⟩ := o.len (by decide)
  exact ⟨a, b, by rw [e2, e]⟩

/-- The copy, seen. -/
theorem CO.cv {G h h' h2 pb pp pr pz : Hp} {C : Conf} {u vb vp vr vz : Value} (c : CO h C u h' pb pp pr pz vb vp vr vz) (l : h'.le h2) : CV G h2 u C := by
  obtain ⟨rfl, ob, op, or, oz, s⟩ := c
  obtain ⟨sb, cb, rfl, _⟩ := ob.len (by decide)
  obtain ⟨sp, cp, rfl, _⟩ := op.len (by decide)
  obtain ⟨sr, cr, rfl, _⟩ := or.len (by decide)
  obtain ⟨sz, cz, rfl⟩ := oz.len
  refine ⟨sb, cb, sp, cp, sr, cr, sz, cz, rfl, ob.sees (by decide) ((s.in 0 rfl).trans l), op.sees (by decide) ((s.in 1 rfl).trans l), or.sees (by decide) ((s.in 2 rfl).trans l), ?_⟩
  obtain ⟨raws, pr', pb', o, t, e, rel⟩ := oz
  refine ⟨raws, o.sees (by decide) (((t.in 0 rfl).trans (s.in 3 rfl)).trans l), fun i r x h1 h2 => ?_⟩
  obtain ⟨a, b, c⟩ := rel i r x h1 h2
  exact ⟨a, b, c.sees (by decide) (((t.in 1 rfl).trans (s.in 3 rfl)).trans l)⟩

end Go.Proofs.YtnpdploihlgcgaaDoor
end

section
/- What the row's premise gives: the package's steps as they lie. -/
set_option linter.unusedSimpArgs false
set_option linter.unusedVariables false
set_option maxRecDepth 100000
namespace Go.Proofs.YtnpdploihlgcgaaDoor
open Go Go.HL Go.ChangeShapes Go.WideShapes Go.RowKit

theorem own_knob : ownKnob Tryd.prog.godebug = none := by kernel_rfl
theorem laid_out : laidOutB Tryd.prog = true := by kernel_rfl
theorem gSteps : Tryd.prog.globalNamed "skep/grid.steps" = some 0 := by kernel_rfl
theorem tSteps : (Tryd.prog.globals[0]?).map (·.type) = some 81 := by kernel_rfl

abbrev laidL : List (String × DataW Unit) := [("skep/grid.steps", Rows.laid_skep_grid_steps)]

theorem door_met (os : Os) (args : Array Value) : laidMetH Tryd.prog laidL ((World.doorLaid Tryd.prog 400 os).forCall (fun _ _ => 0) ⟨#[], args, []⟩).memory :=
  laidMetH_of_parts3 (fuel := 8) (laidMet_of_run' 8 (by kernel_rfl) (by kernel_rfl)) (by kernel_rfl) (by kernel_rfl)

theorem dec_fieldsD {H : Type} {enc : TypeId × Value → H} {P : Program} {w : World} {base : Nat} {spare : Nat → Bool} {held : Bool} {e : TypeId} {fuel : Nat} {cs : List Value} {y : DataW H × List MemPlace} {tos : List (TypeId × Nat)} (ht : structFields P e = some tos)
    (h : DataW.trod enc P w base spare held fuel e cs = some y) : cs.length = P.cellsOf e ∧ ∃ (xs : List (DataW H × List MemPlace)) (m : Nat), y = (.agg (xs.map (·.1)), xs.flatMap (·.2)) ∧ xs.length = tos.length ∧ ∀ (i : Nat) (t o : Nat), tos[i]? = some (t, o) → DataW.trod enc P w base spare held m t ((cs.drop o).take (P.cellsOf t)) = xs[i]? := by
  unfold structFields at ht
  split at ht
  · rename_i fs hfs
    obtain ⟨xs, n, _, h0, h1, h2, h3⟩ := DataW.trod_struct hfs h
    simp only [Option.some.injEq] at ht
    subst ht
    refine ⟨h1, xs, n, h0, by simp [h2], fun i t o hi => ?_⟩
    rw [List.getElem?_map, Array.getElem?_toList] at hi
    cases q : fs[i]? with
    | none => rw [q] at hi; cases hi
    | some f =>
      rw [q] at hi
      simp only [Option.map_some, Option.some.injEq, Prod.mk.injEq] at hi
      obtain ⟨rfl, rfl⟩ := hi
      exact h3 i f q
  · cases ht

theorem un3i : Tryd.prog.underlying 3 = some (.int .i64) := by kernel_rfl
theorem c3 : Tryd.prog.cellsOf 3 = 1 := by kernel_rfl
theorem c28 : Tryd.prog.cellsOf 28 = 2 := by kernel_rfl
theorem c81 : Tryd.prog.cellsOf 81 = 8 := by kernel_rfl
theorem sf28 : structFields Tryd.prog 28 = some [(3, 0), (3, 1)] := by kernel_rfl

theorem step_dec {H : Type} {enc : TypeId × Value → H} {w : World} {base : Nat} {spare : Nat → Bool} {held : Bool} {m : Nat} {cs : List Value} {x : DataW H × List MemPlace} {a b : Int}
    (h : DataW.trod enc Tryd.prog w base spare held m 28 cs = some x) (e : x.1 = .agg [.lit (.int .i64 a), .lit (.int .i64 b)]) : cs = [.int .i64 a, .int .i64 b] := by
  obtain ⟨hl, xs, n, rfl, hxl, d⟩ := dec_fieldsD sf28 h
  rw [c28] at hl
  match cs, hl, xs, hxl with
  | [v0, v1], _, [x0, x1], _ =>
  have h0 := d 0 3 0 rfl
  have h1 := d 1 3 1 rfl
  rw [c3] at h0 h1
  obtain ⟨k0, e0, f0, _⟩ := DataW.trod_int un3i (show DataW.trod _ _ _ _ _ _ n 3 _ = some x0 from h0)
  obtain ⟨k1, e1, f1, _⟩ := DataW.trod_int un3i (show DataW.trod _ _ _ _ _ _ n 3 _ = some x1 from h1)
  simp at e0 e1
  subst e0 e1 f0 f1
  simp at e
  obtain ⟨rfl, rfl⟩ := e
  rfl

theorem len8 {α : Type} {L : List α} (h : L.length = 8) : ∃ a b c d e f g i, L = [a, b, c, d, e, f, g, i] := by
  match L, h with
  | [a, b, c, d, e, f, g, i], _ => exact ⟨a, b, c, d, e, f, g, i, rfl⟩

theorem of_laid {W : World} (h : laidMetH Tryd.prog laidL W) : Steps (ground W) := by
  rw [MakeChecks.laidMetH_plain _ _ _ (by kernel_rfl)] at h
  obtain ⟨ps, ⟨g0, t0, cs0, f0, p0, q0, hg0, ht0, hv0, hd0, _, _⟩, _, _⟩ := h
  obtain rfl := Option.some.inj (gSteps.symm.trans hg0)
  obtain rfl := Option.some.inj (tSteps.symm.trans ht0)
  obtain ⟨xs, m, rfl, hx, hl, hxl, hel⟩ := DataW.trod_array un81 hd0
  rw [c81] at hl
  rw [c28] at hel
  simp only [Prod.mk.injEq] at hx
  obtain ⟨hx, _⟩ := hx
  have hobj : ∃ e f, W.heap[0]? = some (.cells cs0 e f) := by
    unfold World.var? at hv0
    rw [gSteps] at hv0
    simp only [Option.bind_some] at hv0
    split at hv0
    · rename_i c e f hc
      cases hv0
      exact ⟨e, f, hc⟩
    · cases hv0
  obtain ⟨e, f, hobj⟩ := hobj
  refine ⟨e, f, ?_⟩
  show W.heap[0]? = _
  rw [hobj]
  match xs, hxl with
  | [x0, x1, x2, x3], _ =>
  have h0 := hel 0 (by decide)
  have h1 := hel 1 (by decide)
  have h2 := hel 2 (by decide)
  have h3 := hel 3 (by decide)
  unfold Rows.laid_skep_grid_steps at hx
  simp only [List.map_cons, List.map_nil, DataW.agg.injEq, List.cons.injEq] at hx
  have k0 := step_dec (show DataW.trod _ _ _ _ _ _ m 28 _ = some x0 from h0) hx.1.symm
  have k1 := step_dec (show DataW.trod _ _ _ _ _ _ m 28 _ = some x1 from h1) hx.2.1.symm
  have k2 := step_dec (show DataW.trod _ _ _ _ _ _ m 28 _ = some x2 from h2) hx.2.2.1.symm
  have k3 := step_dec (show DataW.trod _ _ _ _ _ _ m 28 _ = some x3 from h3) hx.2.2.2.1.symm
  obtain ⟨cs⟩ := cs0
  obtain ⟨a0, a1, a2, a3, a4, a5, a6, a7, rfl⟩ := len8 hl
  simp at k0 k1 k2 k3
  obtain ⟨rfl, rfl⟩ := k0
  obtain ⟨rfl, rfl⟩ := k1
  obtain ⟨rfl, rfl⟩ := k2
  obtain ⟨rfl, rfl⟩ := k3
  rfl

end Go.Proofs.YtnpdploihlgcgaaDoor
end

section
/- GridMay: the walk. -/
set_option linter.unusedSimpArgs false
set_option linter.unusedVariables false
set_option maxRecDepth 100000
namespace Go.Proofs.YtnpdploihlgcgaaDoor
open Go Go.HL

theorem Fit0.lens {C : Conf} (f : Fit0 C) : C.bl.length ≤ 100000000000000 ∧ C.po.length ≤ 100000000000000 ∧ C.ro.length ≤ 100000000000000 ∧ C.st.length ≤ 100000000000000 := by
  obtain ⟨a, b, c, d, _⟩ := f
  unfold Room at a b c d
  omega

theorem CV.box {G h : Hp} {v : Value} {C : Conf} (hv : CV G h v C) : ∃ a1 n1 a2 n2 a3 n3 a4 n4, v = confV C a1 n1 a2 n2 a3 n3 a4 n4 := by
  obtain ⟨ab, cb, ap, cp, ar, cr, az, cs, rfl, ca⟩ := hv
  exact ⟨_, _, _, _, _, _, _, _, rfl⟩

end Go.Proofs.YtnpdploihlgcgaaDoor
end

section
/- GridLegal: the walk. -/
set_option linter.unusedSimpArgs false
set_option linter.unusedVariables false
set_option maxRecDepth 100000
namespace Go.Proofs.YtnpdploihlgcgaaDoor
open Go Go.HL

theorem swept_le {C : Conf} {m : Move} (w16 : wC C ≤ 16) (k16 : kC C ≤ 16) : (rsweptM C m).length ≤ 256 := by
  unfold rsweptM
  split
  · exact swept_len w16 k16
  · simp

set_option maxHeartbeats 4000000 in
theorem legal_walk {G : Hp} {v : Value} {C : Conf} {m : Move} (st : Steps G) (hv : CV G noHp v C) (fit : Fit0 C) (hp : ∀ p ∈ C.ro, PB p) (mb : MB m) : HCalls Tryd.prog G 10 #[v, moveV m] noHp (fun u _ => u = .bool true) := by
  obtain ⟨lb, lp, lr, ls⟩ := fit.lens
  have hv0 := hv
  obtain ⟨ab, cb, ap, cp, ar, cr, az, cs, rfl, ca⟩ := hv
  refine HCalls.assume fun d => enter10 (by simp) ?_
  unfold S10
  simp -implicitDefEqProofs only [regs0, regs1, retK_ret, resL_tmp, upd_eq, resL_nil1, opH_sv, cf16, cf14, cf15, box_new, cells_agg, ld26, add_mk, Nat.add_zero, Nat.zero_add]
  intro x hx gx
  generalize e1 : Hp.set noHp x _ = h1
  obtain ⟨l1, d1, b1⟩ := boxed e1 hx d gx
  intro y hy gy
  generalize e2 : Hp.set h1 y _ = h2
  obtain ⟨l2, d2, b2⟩ := boxed e2 hy d1 gy
  have cx : ∀ j, cellIn G h2 ⟨x, j, none⟩ = _ := fun j => cell_of (look_own (l2 _ _ b1))
  try simp -implicitDefEqProofs only [cx, List.getElem?_cons_zero, Option.some.injEq, List.getElem?_cons_succ, exists_eq_left']
  refine (copyconf_spec (hv0.up (l1.trans l2) d2) fit).mono ?_
  rintro u3 h3 ⟨⟨pb, pp, pr, pz, vb, vp, vr, vz, co⟩, d3⟩
  have l3 := co.sep.in 4 rfl
  refine (new_spec (co.cv (Hp.le.refl _)) st hp ls).mono ?_
  rintro _ h4 ⟨l4, d4, ⟨hm, ga, gp, kb, rfl, go, s4⟩ | ⟨hm, rfl⟩⟩
  · have L4 := l3.trans l4
    have cx4 : ∀ j, cellIn G h4 ⟨x, j, none⟩ = _ := fun j => cell_of (look_own (L4 _ _ (l2 _ _ b1)))
    have cy4 : ∀ j, cellIn G h4 ⟨y, j, none⟩ = _ := fun j => cell_of (look_own (L4 _ _ b2))
    have hv4 := hv0.up ((l1.trans l2).trans L4) d4
    have gs := (go.gs (G := G)).up (s4.in 0 rfl) d4
    have mm := made_may.1 hm
    obtain ⟨ew, ek, _, w2, _, k2⟩ := within_wk hm.laid.w hm.laid.h
    try simp -implicitDefEqProofs only [ex1, eq_int, ex0, cx4, List.getElem?_cons_zero, Option.some.injEq, List.getElem?_cons_succ, exists_eq_left']
    refine (rmay_spec hv4).mono ?_
    rintro _ _ ⟨⟨b, rfl, hb⟩, rfl⟩
    obtain rfl : b = true := hb.2 mm
    try simp -implicitDefEqProofs only [un_not, Bool.not_true, HL.cond_false]
    unfold S10_k1
    try simp -implicitDefEqProofs (disch := first | with_reducible exact Nat.ne_of_beq_eq_false rfl | omega) only [upd_ne, upd_eq, retK_ret, resL_tmp, resL_nil1, ne_int, bne_self_eq_false, pick_f, gd_ff, eq31s, HL.cond_false]
    unfold S10_k2
    try simp -implicitDefEqProofs (maxSteps := 2000000) (disch := first | with_reducible exact Nat.ne_of_beq_eq_false rfl | exact oneCell_int | exact oneCell_bool | omega | rfl | (simp; done) | fail) only [upd_ne, upd_eq, cf47, retK_ret, resL_tmp, resL_nil1, cf46, pureW_sv, ld46p, add_mk, Nat.add_zero, cy4, List.getElem?_cons_zero, Option.some.injEq, Nat.zero_add, List.getElem?_cons_succ, exists_eq_left', ld26p, cx4, cf27]
    refine (legal_spec (m := m) gs st mb).mono ?_
    rintro _ h4 ⟨rfl, rfl⟩
    refine ⟨Hp.le.refl _, ?_⟩
    try simp -implicitDefEqProofs only [opH_sv, opH_su, pureW_sv, opH_nil, pureW_nil, pick_t, pick_f, pick_tp, pick_fp, gd_tt, gd_ft, gd_tf, gd_ff, box_new, regs0, regs1, regs2, regs3, regs4, regs5, regs6, cells_agg, cells_int, cells_bool, cells_ptr, cells_slice, cells_string, cells_func, cells_nilFunc, cells_map, retK_ret, retK_normal, resL_tmp, resL_cell, resL_nil0, resL_nil1, resL_nil2, resL_nil3, resC_ptr, ex0, ex1, ex2, ex0p, ex1p, ex2p, HL.cond_true, HL.cond_false, thenK_normal, thenK_ret, thenK_exit, blockK_normal, blockK_ret, blockK_exit, scopeK_normal, scopeK_ret, scopeK_exit, wpH_pure, bin_add, bin_sub, bin_mul, bin_lss, bin_leq, bin_gtr, bin_geq, bin_quo, bin_rem, bin_quop, bin_remp, wrap_in, bin_addp, bin_subp, bin_mulp, bin_lssp, bin_leqp, bin_gtrp, bin_geqp, un_not, un_notp, un_neg, eq_int, ne_int, eq_intp, ne_intp, callV_fn, add_mk, upd_eq, upd_ne, cell_set_self, Nat.zero_add, Nat.add_zero, Option.some.injEq, exists_eq_left', List.getElem?_cons_succ, List.getElem?_cons_zero, true_and, and_true, bne_self_eq_false, beq_self_eq_true, Bool.not_true, Bool.not_false, Bool.and_true, Bool.and_self, Bool.and_false, Bool.true_and, List.length_cons, List.length_nil, ne_eq, not_false_eq_true, Nat.reduceAdd, Nat.reduceMul, if_true, if_false, oneCell_int, oneCell_bool, oneCell_ptr, oneCell_slice, oneCell_string, oneCell_func, oneCell_map, Int.toNat_natCast, List.set_cons_zero, List.set_cons_succ, Nat.lt_irrefl, Nat.zero_lt_succ, Nat.succ_lt_succ_iff, fa26_0, fa26_0p, fa26_1, fa26_1p, fa26_10, fa26_10p, fa26_11, fa26_11p, fa26_12, fa26_12p, fa26_13, fa26_13p, fa26_14, fa26_14p, fa26_2, fa26_2p, fa26_3, fa26_3p, fa26_4, fa26_4p, fa26_5, fa26_5p, fa26_6, fa26_6p, fa26_7, fa26_7p, fa26_8, fa26_8p, fa26_9, fa26_9p, fa28_0, fa28_0p, fa28_1, fa28_1p, fa30_0, fa30_0p, fa30_1, fa30_1p, fa46_0, fa46_0p, fa46_1, fa46_1p, fa46_2, fa46_2p, fa46_3, fa46_3p, fa46_4, fa46_4p, fa46_5, fa46_5p, fa46_6, fa46_6p, fa86_0, fa86_0p, fa86_1, fa86_1p, fa86_2, fa86_2p, fa95_0, fa95_0p, fa95_1, fa95_1p, ld3, ld3p, ld4, ld4p, ld22, ld22p, ld23, ld23p, ld24, ld24p, ld26, ld26p, ld28, ld28p, ld30, ld30p, ld31, ld31p, ld46, ld46p, ld47, ld47p, ld52, ld52p, ld55, ld55p, ld57, ld57p, ld95, ld95p, st3s, st4s, st22s, st23s, st24s, st26w, st28w, st30w, st46w, st47s, st55s, st95w, ix22, ix22p, ix23, ix23p, ix24, ix24p, ix47, ix47p, ix56, ix56p, ix57, ix57p, ix101, ix101p, ln22, ln22p, ln23, ln23p, ln24, ln24p, ln47, ln47p, ln56, ln56p, ln57, ln57p, al22, al26, al28, al30, al46, al47, al95, cf14, cf15, cf16, cf17, cf18, cf19, cf20, cf21, cf22, cf23, cf24, cf25, cf26, cf27, cf28, cf29, cf30, cf31, cf32, cf33, cf34, cf35, cf36, cf37, cf38, cf39, cf40, cf41, cf42, cf43, cf44, cf45, cf46, cf47, cf48, cf49, cf50, cf51, cf52, cf53, cf54, cf55, cf56, cf57, cf58, cf59, cf60, cf61, cf62, cf63, cf64, cf65, cf66, cf67, cf68, cf69, cf70, cf71, cf72, cf73, cf74, cf75, cf76, cf77, cf78, cf79, cf80, bd26_0_1_2_7_8_9_10_11_12_13_14, bd26_0_1_2_7_8_9_10_11_12_13_14p, bd28_0, bd28_0p, bd28_0_1, bd28_0_1p, bd30_, bd30_p, bd30_0_1, bd30_0_1p, bd30_0, bd30_0p, bd46_0_1_2_3_4, bd46_0_1_2_3_4p, bd46_0_3_4, bd46_0_3_4p, bd86_0_1_2, bd86_0_1_2p, bd87_0_1_2_3, bd87_0_1_2_3p, bd95_0_1, bd95_0_1p, bs22_2_0_1, bs47_1_0, bs22_1_0, bs57_6_0_1_2_3_4_5, bs24_1_0, bs22_4_0_1_2_3, bs56_11_0_1_2_3_4_5_6_7_8_9_10, bs57_11_0_1_2_3_4_5_6_7_8_9_10, eq4, eq4p, eq28, eq28p, eq30, eq30p, eq31n, eq31np, eq31s, eq31sp, eq46, eq46p, eq50n, eq50np, eq50s, eq50sp, eq67n, eq67np, eq67s, eq67sp, ne4, ne4p, ne28, ne28p, ne30, ne30p, ne31n, ne31np, ne31s, ne31sp, ne46, ne46p, al76, cx4, cy4]
    refine (rlegal_spec (m := m) hv4 lb).mono ?_
    rintro _ h4 ⟨rfl, rfl⟩
    refine ⟨Hp.le.refl _, ?_⟩
    rw [legal_eq hm mb.2]
    try simp -implicitDefEqProofs only [eq4p, beq_self_eq_true, pick_tp, gd_tt, cf20, cf48, pureW_sv, ld46p, add_mk, Nat.add_zero, cy4, List.getElem?_cons_zero, Option.some.injEq, Nat.zero_add, List.getElem?_cons_succ, exists_eq_left', ld26p, cx4]
    refine (swept_spec (m := m) gs st mb).mono ?_
    rintro u5 h5 ⟨i5, o5, s5, d5⟩
    have l5 : h4.le h5 := s5.in 1 rfl
    refine ⟨l5, ?_⟩
    try simp -implicitDefEqProofs only [opH_sv, opH_su, pureW_sv, opH_nil, pureW_nil, pick_t, pick_f, pick_tp, pick_fp, gd_tt, gd_ft, gd_tf, gd_ff, box_new, regs0, regs1, regs2, regs3, regs4, regs5, regs6, cells_agg, cells_int, cells_bool, cells_ptr, cells_slice, cells_string, cells_func, cells_nilFunc, cells_map, retK_ret, retK_normal, resL_tmp, resL_cell, resL_nil0, resL_nil1, resL_nil2, resL_nil3, resC_ptr, ex0, ex1, ex2, ex0p, ex1p, ex2p, HL.cond_true, HL.cond_false, thenK_normal, thenK_ret, thenK_exit, blockK_normal, blockK_ret, blockK_exit, scopeK_normal, scopeK_ret, scopeK_exit, wpH_pure, bin_add, bin_sub, bin_mul, bin_lss, bin_leq, bin_gtr, bin_geq, bin_quo, bin_rem, bin_quop, bin_remp, wrap_in, bin_addp, bin_subp, bin_mulp, bin_lssp, bin_leqp, bin_gtrp, bin_geqp, un_not, un_notp, un_neg, eq_int, ne_int, eq_intp, ne_intp, callV_fn, add_mk, upd_eq, upd_ne, cell_set_self, Nat.zero_add, Nat.add_zero, Option.some.injEq, exists_eq_left', List.getElem?_cons_succ, List.getElem?_cons_zero, true_and, and_true, bne_self_eq_false, beq_self_eq_true, Bool.not_true, Bool.not_false, Bool.and_true, Bool.and_self, Bool.and_false, Bool.true_and, List.length_cons, List.length_nil, ne_eq, not_false_eq_true, Nat.reduceAdd, Nat.reduceMul, if_true, if_false, oneCell_int, oneCell_bool, oneCell_ptr, oneCell_slice, oneCell_string, oneCell_func, oneCell_map, Int.toNat_natCast, List.set_cons_zero, List.set_cons_succ, Nat.lt_irrefl, Nat.zero_lt_succ, Nat.succ_lt_succ_iff, fa26_0, fa26_0p, fa26_1, fa26_1p, fa26_10, fa26_10p, fa26_11, fa26_11p, fa26_12, fa26_12p, fa26_13, fa26_13p, fa26_14, fa26_14p, fa26_2, fa26_2p, fa26_3, fa26_3p, fa26_4, fa26_4p, fa26_5, fa26_5p, fa26_6, fa26_6p, fa26_7, fa26_7p, fa26_8, fa26_8p, fa26_9, fa26_9p, fa28_0, fa28_0p, fa28_1, fa28_1p, fa30_0, fa30_0p, fa30_1, fa30_1p, fa46_0, fa46_0p, fa46_1, fa46_1p, fa46_2, fa46_2p, fa46_3, fa46_3p, fa46_4, fa46_4p, fa46_5, fa46_5p, fa46_6, fa46_6p, fa86_0, fa86_0p, fa86_1, fa86_1p, fa86_2, fa86_2p, fa95_0, fa95_0p, fa95_1, fa95_1p, ld3, ld3p, ld4, ld4p, ld22, ld22p, ld23, ld23p, ld24, ld24p, ld26, ld26p, ld28, ld28p, ld30, ld30p, ld31, ld31p, ld46, ld46p, ld47, ld47p, ld52, ld52p, ld55, ld55p, ld57, ld57p, ld95, ld95p, st3s, st4s, st22s, st23s, st24s, st26w, st28w, st30w, st46w, st47s, st55s, st95w, ix22, ix22p, ix23, ix23p, ix24, ix24p, ix47, ix47p, ix56, ix56p, ix57, ix57p, ix101, ix101p, ln22, ln22p, ln23, ln23p, ln24, ln24p, ln47, ln47p, ln56, ln56p, ln57, ln57p, al22, al26, al28, al30, al46, al47, al95, cf14, cf15, cf16, cf17, cf18, cf19, cf20, cf21, cf22, cf23, cf24, cf25, cf26, cf27, cf28, cf29, cf30, cf31, cf32, cf33, cf34, cf35, cf36, cf37, cf38, cf39, cf40, cf41, cf42, cf43, cf44, cf45, cf46, cf47, cf48, cf49, cf50, cf51, cf52, cf53, cf54, cf55, cf56, cf57, cf58, cf59, cf60, cf61, cf62, cf63, cf64, cf65, cf66, cf67, cf68, cf69, cf70, cf71, cf72, cf73, cf74, cf75, cf76, cf77, cf78, cf79, cf80, bd26_0_1_2_7_8_9_10_11_12_13_14, bd26_0_1_2_7_8_9_10_11_12_13_14p, bd28_0, bd28_0p, bd28_0_1, bd28_0_1p, bd30_, bd30_p, bd30_0_1, bd30_0_1p, bd30_0, bd30_0p, bd46_0_1_2_3_4, bd46_0_1_2_3_4p, bd46_0_3_4, bd46_0_3_4p, bd86_0_1_2, bd86_0_1_2p, bd87_0_1_2_3, bd87_0_1_2_3p, bd95_0_1, bd95_0_1p, bs22_2_0_1, bs47_1_0, bs22_1_0, bs57_6_0_1_2_3_4_5, bs24_1_0, bs22_4_0_1_2_3, bs56_11_0_1_2_3_4_5_6_7_8_9_10, bs57_11_0_1_2_3_4_5_6_7_8_9_10, eq4, eq4p, eq28, eq28p, eq30, eq30p, eq31n, eq31np, eq31s, eq31sp, eq46, eq46p, eq50n, eq50np, eq50s, eq50sp, eq67n, eq67np, eq67s, eq67sp, ne4, ne4p, ne28, ne28p, ne30, ne30p, ne31n, ne31np, ne31s, ne31sp, ne46, ne46p, al76, cx4, cy4]
    refine (rswept_spec (m := m) (hv4.up l5 d5) lb (by omega) (by omega) (by omega) (by omega)).mono ?_
    rintro u6 h6 ⟨i6, o6, s6, d6⟩
    have l6 : h5.le h6 := s6.in 1 rfl
    try simp -implicitDefEqProofs only [opH_sv, opH_su, pureW_sv, opH_nil, pureW_nil, pick_t, pick_f, pick_tp, pick_fp, gd_tt, gd_ft, gd_tf, gd_ff, box_new, regs0, regs1, regs2, regs3, regs4, regs5, regs6, cells_agg, cells_int, cells_bool, cells_ptr, cells_slice, cells_string, cells_func, cells_nilFunc, cells_map, retK_ret, retK_normal, resL_tmp, resL_cell, resL_nil0, resL_nil1, resL_nil2, resL_nil3, resC_ptr, ex0, ex1, ex2, ex0p, ex1p, ex2p, HL.cond_true, HL.cond_false, thenK_normal, thenK_ret, thenK_exit, blockK_normal, blockK_ret, blockK_exit, scopeK_normal, scopeK_ret, scopeK_exit, wpH_pure, bin_add, bin_sub, bin_mul, bin_lss, bin_leq, bin_gtr, bin_geq, bin_quo, bin_rem, bin_quop, bin_remp, wrap_in, bin_addp, bin_subp, bin_mulp, bin_lssp, bin_leqp, bin_gtrp, bin_geqp, un_not, un_notp, un_neg, eq_int, ne_int, eq_intp, ne_intp, callV_fn, add_mk, upd_eq, upd_ne, cell_set_self, Nat.zero_add, Nat.add_zero, Option.some.injEq, exists_eq_left', List.getElem?_cons_succ, List.getElem?_cons_zero, true_and, and_true, bne_self_eq_false, beq_self_eq_true, Bool.not_true, Bool.not_false, Bool.and_true, Bool.and_self, Bool.and_false, Bool.true_and, List.length_cons, List.length_nil, ne_eq, not_false_eq_true, Nat.reduceAdd, Nat.reduceMul, if_true, if_false, oneCell_int, oneCell_bool, oneCell_ptr, oneCell_slice, oneCell_string, oneCell_func, oneCell_map, Int.toNat_natCast, List.set_cons_zero, List.set_cons_succ, Nat.lt_irrefl, Nat.zero_lt_succ, Nat.succ_lt_succ_iff, fa26_0, fa26_0p, fa26_1, fa26_1p, fa26_10, fa26_10p, fa26_11, fa26_11p, fa26_12, fa26_12p, fa26_13, fa26_13p, fa26_14, fa26_14p, fa26_2, fa26_2p, fa26_3, fa26_3p, fa26_4, fa26_4p, fa26_5, fa26_5p, fa26_6, fa26_6p, fa26_7, fa26_7p, fa26_8, fa26_8p, fa26_9, fa26_9p, fa28_0, fa28_0p, fa28_1, fa28_1p, fa30_0, fa30_0p, fa30_1, fa30_1p, fa46_0, fa46_0p, fa46_1, fa46_1p, fa46_2, fa46_2p, fa46_3, fa46_3p, fa46_4, fa46_4p, fa46_5, fa46_5p, fa46_6, fa46_6p, fa86_0, fa86_0p, fa86_1, fa86_1p, fa86_2, fa86_2p, fa95_0, fa95_0p, fa95_1, fa95_1p, ld3, ld3p, ld4, ld4p, ld22, ld22p, ld23, ld23p, ld24, ld24p, ld26, ld26p, ld28, ld28p, ld30, ld30p, ld31, ld31p, ld46, ld46p, ld47, ld47p, ld52, ld52p, ld55, ld55p, ld57, ld57p, ld95, ld95p, st3s, st4s, st22s, st23s, st24s, st26w, st28w, st30w, st46w, st47s, st55s, st95w, ix22, ix22p, ix23, ix23p, ix24, ix24p, ix47, ix47p, ix56, ix56p, ix57, ix57p, ix101, ix101p, ln22, ln22p, ln23, ln23p, ln24, ln24p, ln47, ln47p, ln56, ln56p, ln57, ln57p, al22, al26, al28, al30, al46, al47, al95, cf14, cf15, cf16, cf17, cf18, cf19, cf20, cf21, cf22, cf23, cf24, cf25, cf26, cf27, cf28, cf29, cf30, cf31, cf32, cf33, cf34, cf35, cf36, cf37, cf38, cf39, cf40, cf41, cf42, cf43, cf44, cf45, cf46, cf47, cf48, cf49, cf50, cf51, cf52, cf53, cf54, cf55, cf56, cf57, cf58, cf59, cf60, cf61, cf62, cf63, cf64, cf65, cf66, cf67, cf68, cf69, cf70, cf71, cf72, cf73, cf74, cf75, cf76, cf77, cf78, cf79, cf80, bd26_0_1_2_7_8_9_10_11_12_13_14, bd26_0_1_2_7_8_9_10_11_12_13_14p, bd28_0, bd28_0p, bd28_0_1, bd28_0_1p, bd30_, bd30_p, bd30_0_1, bd30_0_1p, bd30_0, bd30_0p, bd46_0_1_2_3_4, bd46_0_1_2_3_4p, bd46_0_3_4, bd46_0_3_4p, bd86_0_1_2, bd86_0_1_2p, bd87_0_1_2_3, bd87_0_1_2_3p, bd95_0_1, bd95_0_1p, bs22_2_0_1, bs47_1_0, bs22_1_0, bs57_6_0_1_2_3_4_5, bs24_1_0, bs22_4_0_1_2_3, bs56_11_0_1_2_3_4_5_6_7_8_9_10, bs57_11_0_1_2_3_4_5_6_7_8_9_10, eq4, eq4p, eq28, eq28p, eq30, eq30p, eq31n, eq31np, eq31s, eq31sp, eq46, eq46p, eq50n, eq50np, eq50s, eq50sp, eq67n, eq67np, eq67s, eq67sp, ne4, ne4p, ne28, ne28p, ne30, ne30p, ne31n, ne31np, ne31s, ne31sp, ne46, ne46p, al76]
    rw [swept_eq hm mb.2] at o5
    refine (samecells_spec (o5.sees (by decide) ((s5.in 0 rfl).trans l6)) (o6.sees (by decide) (s6.in 0 rfl)) (by have := swept_le (C := C) (m := m) (by omega) (by omega); omega)).mono ?_
    rintro _ h6 ⟨rfl, rfl⟩
    try simp -implicitDefEqProofs only [decide_true, pick_tp, gd_tt, cf17]
    refine (awake_spec st).mono ?_
    rintro _ _ ⟨rfl, rfl⟩
    try simp -implicitDefEqProofs only []
  · have L4 := l3.trans l4
    have cx4 : ∀ j, cellIn G h4 ⟨x, j, none⟩ = _ := fun j => cell_of (look_own (L4 _ _ (l2 _ _ b1)))
    have hv4 := hv0.up ((l1.trans l2).trans L4) d4
    try simp -implicitDefEqProofs only [ex1, eq_int, beq_self_eq_true, pick_t, gd_tt, cf17, ex0, cx4, List.getElem?_cons_zero, Option.some.injEq, List.getElem?_cons_succ, exists_eq_left']
    refine (rmay_spec hv4).mono ?_
    rintro _ _ ⟨⟨b, rfl, hb⟩, rfl⟩
    obtain rfl : b = false := by cases b with | false => rfl | true => exact absurd (made_may.2 (hb.1 rfl)) hm
    try simp -implicitDefEqProofs only [un_not, Bool.not_false, HL.cond_true]
    refine (awake_spec st).mono ?_
    rintro _ _ ⟨rfl, rfl⟩
    try simp -implicitDefEqProofs only []

end Go.Proofs.YtnpdploihlgcgaaDoor
end

section
/- A config that comes in as an argument. -/
set_option linter.unusedSimpArgs false
set_option linter.unusedVariables false
set_option maxRecDepth 100000
namespace Go.Proofs.YtnpdploihlgcgaaDoor
open Go Go.HL Go.ChangeShapes Go.WideShapes Go.RowKit

theorem light_of {H : Type} {P : Program} {ts : List TypeId} {ds : List (DataW H)} (h : (DataW.weightsEach P ts ds).all (· ≤ reachBytes) = true) {j : Nat} {t : TypeId} {d : DataW H} (ht : ts[j]? = some t) (hd : ds[j]? = some d) : Light P t d := fun n hn => by
  simpa using List.all_eq_true.1 h n (DataW.weights_mem_each ht hd n hn)

theorem okWide_structF {P : Program} {w : World} {r : Reach} {base : Nat} {t : TypeId} {v : Value} {tos : List (TypeId × Nat)} (ht : structFields P t = some tos) (hv : Value.okWide P w r base t v) : ∃ cs : Array Value, v = .agg cs := by
  unfold structFields at ht
  split at ht
  · rename_i fs hfs
    obtain ⟨cs, rfl, _⟩ := okWide_struct hfs hv
    exact ⟨cs, rfl⟩
  · cases ht

theorem sf30 : structFields Tryd.prog 30 = some [(28, 0), (4, 2)] := by kernel_rfl
theorem sf95 : structFields Tryd.prog 95 = some [(28, 0), (57, 2)] := by kernel_rfl
theorem sf26 : structFields Tryd.prog 26 = some [(3, 0), (3, 1), (3, 2), (22, 3), (22, 4), (23, 5), (24, 6), (3, 7), (3, 8), (3, 9), (3, 10), (3, 11), (3, 12), (3, 13), (3, 14), (4, 15)] := by kernel_rfl
theorem un4b : Tryd.prog.underlying 4 = some .bool := by kernel_rfl
theorem c4 : Tryd.prog.cellsOf 4 = 1 := by kernel_rfl
theorem c22 : Tryd.prog.cellsOf 22 = 1 := by kernel_rfl
theorem c23 : Tryd.prog.cellsOf 23 = 1 := by kernel_rfl
theorem c24 : Tryd.prog.cellsOf 24 = 1 := by kernel_rfl
theorem c26 : Tryd.prog.cellsOf 26 = 16 := by kernel_rfl
theorem c30 : Tryd.prog.cellsOf 30 = 3 := by kernel_rfl
theorem c57 : Tryd.prog.cellsOf 57 = 1 := by kernel_rfl
theorem c95 : Tryd.prog.cellsOf 95 = 3 := by kernel_rfl

section
variable {H : Type} {enc : TypeId × Value → H} {w : World} {base : Nat} {spare : Nat → Bool} {held : Bool}

theorem len2 {α : Type} {L : List α} (h : L.length = 2) : ∃ a b, L = [a, b] := by
  match L, h with
  | [a, b], _ => exact ⟨a, b, rfl⟩
theorem len3 {α : Type} {L : List α} (h : L.length = 3) : ∃ a b c, L = [a, b, c] := by
  match L, h with
  | [a, b, c], _ => exact ⟨a, b, c, rfl⟩

theorem cell_dec {m : Nat} {cs : List Value} {y : DataW H × List MemPlace} (h : DataW.trod enc Tryd.prog w base spare held m 28 cs = some y) : ∃ c : Cell, cs = cellC.enc c ∧ Bd c.1 ∧ Bd c.2 := by
  obtain ⟨hl, d⟩ := dec_fields sf28 h
  rw [c28] at hl
  obtain ⟨v0, v1, rfl⟩ := len2 hl
  obtain ⟨m0, z0, e0⟩ := d 0 _ _ rfl
  obtain ⟨m1, z1, e1⟩ := d 1 _ _ rfl
  rw [c3] at e0 e1
  obtain ⟨x0, f0, b0⟩ := dec_int un3i e0
  obtain ⟨x1, f1, b1⟩ := dec_int un3i e1
  simp at f0 f1
  subst f0 f1
  exact ⟨(x0, x1), rfl, b0, b1⟩
theorem pose_dec {m : Nat} {cs : List Value} {y : DataW H × List MemPlace} (h : DataW.trod enc Tryd.prog w base spare held m 30 cs = some y) : ∃ p : Pose, cs = poseC.enc p ∧ PB p := by
  obtain ⟨hl, d⟩ := dec_fields sf30 h
  rw [c30] at hl
  obtain ⟨v0, v1, v2, rfl⟩ := len3 hl
  obtain ⟨m0, z0, e0⟩ := d 0 _ _ rfl
  obtain ⟨m1, z1, e1⟩ := d 1 _ _ rfl
  rw [c28] at e0
  rw [c4] at e1
  obtain ⟨c, f0, b0⟩ := cell_dec e0
  obtain ⟨b, f1⟩ := dec_bool un4b e1
  simp [cellC] at f0 f1
  obtain ⟨rfl, rfl⟩ := f0
  subst f1
  exact ⟨⟨c.1, c.2, b⟩, rfl, b0⟩

/-- A stack among the arguments. -/
def RawOk (G : Hp) (r : Raw) : Prop := ∃ L : List Int, r.n = L.length ∧ Room L.length 8 ∧ ∀ h, Dis G h → Sees icC G h (.slice r.a r.n r.c) L

theorem room_of {n bytes : Nat} (h : n * bytes ≤ reachBytes) (hb : bytes ≤ 40) : Room n bytes := by
  unfold Room
  rw [show reachBytes = 140737488351232 from rfl] at h
  rw [Nat.add_mul, Nat.mul_assoc]
  have : 192 * bytes ≤ 7680 := by omega
  omega

theorem raw_dec {m : Nat} {cs : List Value} {y : DataW H × List MemPlace} (h : DataW.trod enc Tryd.prog w base spare held m 95 cs = some y) (hw : Light Tryd.prog 95 y.1) : ∃ r : Raw, cs = rawC.enc r ∧ RawOk (ground w) r := by
  obtain ⟨hl, d⟩ := dec_fieldsW sf95 h hw
  rw [c95] at hl
  obtain ⟨v0, v1, v2, rfl⟩ := len3 hl
  obtain ⟨m0, z0, e0, _⟩ := d 0 _ _ rfl
  obtain ⟨m1, z1, e1, w1⟩ := d 1 _ _ rfl
  rw [c28] at e0
  rw [c57] at e1
  obtain ⟨c, f0, b0⟩ := cell_dec e0
  obtain ⟨a, n, cap, L, f1, hL, hs, hg, _⟩ := dec_sliceW icC (fun _ => True) un57 c3 (by decide) (fun _ _ _ h _ => let ⟨x, e, _⟩ := dec_int un3i h; ⟨x, e, trivial⟩) e1 w1
  simp [cellC] at f0 f1
  obtain ⟨rfl, rfl⟩ := f0
  subst f1
  rw [show Tryd.prog.bytesOf 3 = 8 by kernel_rfl] at hs
  subst hL
  exact ⟨⟨c.1, c.2, a, L.length, cap⟩, rfl, L, rfl, room_of hs (by decide), hg⟩

theorem len16 {α : Type} {L : List α} (h : L.length = 16) : ∃ a b c d e f g i j k l m n o p q, L = [a, b, c, d, e, f, g, i, j, k, l, m, n, o, p, q] := by
  match L, h with
  | [a, b, c, d, e, f, g, i, j, k, l, m, n, o, p, q], _ => exact ⟨a, b, c, d, e, f, g, i, j, k, l, m, n, o, p, q, rfl⟩

theorem conf_dec {m : Nat} {cs : List Value} {y : DataW H × List MemPlace} (h : DataW.trod enc Tryd.prog w base spare held m 26 cs = some y) (hw : Light Tryd.prog 26 y.1) :
    ∃ C : Conf, (∀ h, Dis (ground w) h → CV (ground w) h (.agg cs.toArray) C) ∧ Fit0 C ∧ ∀ p ∈ C.ro, PB p := by
  obtain ⟨hl, d⟩ := dec_fieldsW sf26 h hw
  rw [c26] at hl
  obtain ⟨v0, v1, v2, v3, v4, v5, v6, v7, v8, v9, v10, v11, v12, v13, v14, v15, rfl⟩ := len16 hl
  obtain ⟨_, _, e0, _⟩ := d 0 _ _ rfl
  obtain ⟨_, _, e1, _⟩ := d 1 _ _ rfl
  obtain ⟨_, _, e2, _⟩ := d 2 _ _ rfl
  obtain ⟨_, _, e3, w3⟩ := d 3 _ _ rfl
  obtain ⟨_, _, e4, w4⟩ := d 4 _ _ rfl
  obtain ⟨_, _, e5, w5⟩ := d 5 _ _ rfl
  obtain ⟨_, _, e6, w6⟩ := d 6 _ _ rfl
  obtain ⟨_, _, e7, _⟩ := d 7 _ _ rfl
  obtain ⟨_, _, e8, _⟩ := d 8 _ _ rfl
  obtain ⟨_, _, e9, _⟩ := d 9 _ _ rfl
  obtain ⟨_, _, e10, _⟩ := d 10 _ _ rfl
  obtain ⟨_, _, e11, _⟩ := d 11 _ _ rfl
  obtain ⟨_, _, e12, _⟩ := d 12 _ _ rfl
  obtain ⟨_, _, e13, _⟩ := d 13 _ _ rfl
  obtain ⟨_, _, e14, _⟩ := d 14 _ _ rfl
  obtain ⟨_, _, e15, _⟩ := d 15 _ _ rfl
  simp only [c3, c4, c22, c23, c24] at e0 e1 e2 e3 e4 e5 e6 e7 e8 e9 e10 e11 e12 e13 e14 e15
  obtain ⟨x0, f0, _⟩ := dec_int un3i e0
  obtain ⟨x1, f1, _⟩ := dec_int un3i e1
  obtain ⟨x2, f2, _⟩ := dec_int un3i e2
  obtain ⟨ab, nb, cb, B, f3, hB, sB, gB, _⟩ := dec_sliceW cellC (fun _ => True) un22 c28 (by decide) (fun _ _ _ h _ => let ⟨x, e, _⟩ := cell_dec h; ⟨x, e, trivial⟩) e3 w3
  obtain ⟨ap, np, cp, PO, f4, hP, sP, gP, _⟩ := dec_sliceW cellC (fun _ => True) un22 c28 (by decide) (fun _ _ _ h _ => let ⟨x, e, _⟩ := cell_dec h; ⟨x, e, trivial⟩) e4 w4
  obtain ⟨ar, nr, cr, R, f5, hR, sR, gR, qR⟩ := dec_sliceW poseC PB un23 c30 (by decide) (fun _ _ _ h _ => pose_dec h) e5 w5
  obtain ⟨az, nz, cz, Z, f6, hZ, sZ, gZ, qZ⟩ := dec_sliceW rawC (RawOk (ground w)) un24 c95 (by decide) (fun _ _ _ h hw => raw_dec h hw) e6 w6
  obtain ⟨x7, f7, _⟩ := dec_int un3i e7
  obtain ⟨x8, f8, _⟩ := dec_int un3i e8
  obtain ⟨x9, f9, _⟩ := dec_int un3i e9
  obtain ⟨x10, f10, _⟩ := dec_int un3i e10
  obtain ⟨x11, f11, _⟩ := dec_int un3i e11
  obtain ⟨x12, f12, _⟩ := dec_int un3i e12
  obtain ⟨x13, f13, _⟩ := dec_int un3i e13
  obtain ⟨x14, f14, _⟩ := dec_int un3i e14
  obtain ⟨x15, f15⟩ := dec_bool un4b e15
  simp at f0 f1 f2 f3 f4 f5 f6 f7 f8 f9 f10 f11 f12 f13 f14 f15
  subst f0 f1 f2 f3 f4 f5 f6 f7 f8 f9 f10 f11 f12 f13 f14 f15
  subst hB hP hR hZ
  rw [show Tryd.prog.bytesOf 28 = 16 by kernel_rfl] at sB sP
  rw [show Tryd.prog.bytesOf 30 = 24 by kernel_rfl] at sR
  rw [show Tryd.prog.bytesOf 95 = 40 by kernel_rfl] at sZ
  obtain ⟨S, hS, qS⟩ := list_of (Q := fun i (s : Cell × List Int) => ∀ r, Z[i]? = some r → (r.x, r.y) = s.1 ∧ r.n = s.2.length ∧ Room s.2.length 8 ∧ ∀ h, Dis (ground w) h → Sees icC (ground w) h (.slice r.a s.2.length r.c) s.2) Z.length (fun i hi => by
    obtain ⟨L, e, rm, se⟩ := qZ _ (List.getElem_mem hi)
    refine ⟨((Z[i].x, Z[i].y), L), fun r hr => ?_⟩
    rw [List.getElem?_eq_getElem hi] at hr
    cases hr
    exact ⟨rfl, e, rm, fun h d => by rw [← e]; exact se h d⟩)
  refine ⟨⟨x0, x1, x2, B, PO, R, S, x7, x8, x9, x10, x11, x12, x13, x14, x15⟩, fun h d => ⟨ab, cb, ap, cp, ar, cr, az, cz, by simp only [confV, hS], gB h d, gP h d, gR h d, Z, by show Sees rawC _ h (.slice az S.length cz) Z; rw [hS]; exact gZ h d, fun i r s hr hs => ?_⟩, ⟨room_of sB (by decide), room_of sP (by decide), room_of sR (by decide), by show Room S.length 40; rw [hS]; exact room_of sZ (by decide), fun s hs => ?_⟩, qR⟩
  · obtain ⟨a, b, c, e⟩ := qS i s hs r hr
    exact ⟨a, b, e h d⟩
  · obtain ⟨i, hi⟩ := List.getElem?_of_mem hs
    have hi2 : i < Z.length := by rw [← hS]; exact (List.getElem?_eq_some_iff.1 hi).1
    exact (qS i s hi _ (List.getElem?_eq_getElem hi2)).2.2.1

/-- The config as an argument. -/
theorem conf_arg {r : Reach} {b0 : Nat} {v : Value} {d : DataW H} {ps : List MemPlace} (k : Value.okWide Tryd.prog w r b0 26 v) (h : DataW.Trod enc Tryd.prog w base spare held 26 v d ps) (hl : Light Tryd.prog 26 d) :
    ∃ C : Conf, (∀ h, Dis (ground w) h → CV (ground w) h v C) ∧ Fit0 C ∧ ∀ p ∈ C.ro, PB p := by
  obtain ⟨cs, rfl⟩ := okWide_structF sf26 k
  obtain ⟨m, h⟩ := h
  obtain ⟨C, hC, f, hp⟩ := conf_dec (cs := cs.toList) h hl
  exact ⟨C, fun h d => by simpa using hC h d, f, hp⟩
end
end Go.Proofs.YtnpdploihlgcgaaDoor
end

section
/- A move that comes in as an argument. -/
set_option linter.unusedSimpArgs false
set_option linter.unusedVariables false
set_option maxRecDepth 100000
namespace Go.Proofs.YtnpdploihlgcgaaDoor
open Go Go.HL Go.ChangeShapes Go.WideShapes Go.RowKit

theorem sf46 : structFields Tryd.prog 46 = some [(3, 0), (3, 1), (3, 2), (30, 3), (30, 6), (3, 9), (3, 10)] := by kernel_rfl
theorem c46 : Tryd.prog.cellsOf 46 = 11 := by kernel_rfl

section
variable {H : Type} {enc : TypeId × Value → H} {w : World} {base : Nat} {spare : Nat → Bool} {held : Bool}

theorem len11 {α : Type} {L : List α} (h : L.length = 11) : ∃ a b c d e f g i j k l, L = [a, b, c, d, e, f, g, i, j, k, l] := by
  match L, h with
  | [a, b, c, d, e, f, g, i, j, k, l], _ => exact ⟨a, b, c, d, e, f, g, i, j, k, l, rfl⟩

theorem move_dec {m : Nat} {cs : List Value} {y : DataW H × List MemPlace} (h : DataW.trod enc Tryd.prog w base spare held m 46 cs = some y) : ∃ v : Move, cs = moveC.enc v ∧ MB v ∧ PB v.t := by
  obtain ⟨hl, d⟩ := dec_fields sf46 h
  rw [c46] at hl
  obtain ⟨v0, v1, v2, v3, v4, v5, v6, v7, v8, v9, v10, rfl⟩ := len11 hl
  obtain ⟨_, _, e0⟩ := d 0 _ _ rfl
  obtain ⟨_, _, e1⟩ := d 1 _ _ rfl
  obtain ⟨_, _, e2⟩ := d 2 _ _ rfl
  obtain ⟨_, _, e3⟩ := d 3 _ _ rfl
  obtain ⟨_, _, e4⟩ := d 4 _ _ rfl
  obtain ⟨_, _, e5⟩ := d 5 _ _ rfl
  obtain ⟨_, _, e6⟩ := d 6 _ _ rfl
  simp only [c3, c30] at e0 e1 e2 e3 e4 e5 e6
  obtain ⟨x0, f0, _⟩ := dec_int un3i e0
  obtain ⟨x1, f1, _⟩ := dec_int un3i e1
  obtain ⟨x2, f2, n2⟩ := dec_int un3i e2
  obtain ⟨p3, f3, b3⟩ := pose_dec e3
  obtain ⟨p4, f4, b4⟩ := pose_dec e4
  obtain ⟨x5, f5, _⟩ := dec_int un3i e5
  obtain ⟨x6, f6, _⟩ := dec_int un3i e6
  simp [poseC] at f0 f1 f2 f3 f4 f5 f6
  obtain ⟨rfl, rfl, rfl⟩ := f3
  obtain ⟨rfl, rfl, rfl⟩ := f4
  subst f0 f1 f2 f5 f6
  exact ⟨⟨x0, x1, x2, p3, p4, x5, x6⟩, rfl, ⟨n2, b3⟩, b4⟩

theorem move_arg {r : Reach} {b0 : Nat} {v : Value} {d : DataW H} {ps : List MemPlace} (k : Value.okWide Tryd.prog w r b0 46 v) (h : DataW.Trod enc Tryd.prog w base spare held 46 v d ps) : ∃ m : Move, v = moveV m ∧ MB m ∧ PB m.t := by
  obtain ⟨cs, rfl⟩ := okWide_structF sf46 k
  obtain ⟨m, h⟩ := h
  obtain ⟨c, e, b⟩ := move_dec (cs := cs.toList) h
  exact ⟨c, by rw [← Array.toArray_toList (xs := cs), e]; rfl, b⟩
end
end Go.Proofs.YtnpdploihlgcgaaDoor
end
