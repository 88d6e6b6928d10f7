/- A pose shifted; a move; a cell's number by the reference; rows of cells held against each other. -/
import Derived.Test.YtnpdploihlgcgaaDoorGO
import Derived.Test.YtnpdploihlgcgaaDoorGRT
import Derived.Test.YtnpdploihlgcgaaDoorGCS
set_option linter.unusedSimpArgs false
set_option linter.unusedVariables false
set_option maxRecDepth 100000
namespace Go.Proofs.YtnpdploihlgcgaaDoor
open Go Go.HL

def dxI (d : Int) : Int := if d = 1 then 1 else if d = 3 then -1 else 0
def dyI (d : Int) : Int := if d = 0 then -1 else if d = 2 then 1 else 0
def okS (d n : Int) : Bool := withinB n 0 16 && withinB d 0 3
def shiftP (p : Pose) (d n : Int) : Pose := ⟨wr (p.x + n * dxI d), wr (p.y + n * dyI d), p.d⟩
def shiftA (p : Pose) (d n : Int) : Pose := if okS d n = true then shiftP p d n else ⟨0, 0, false⟩

theorem wr_bd (x : Int) : Bd (wr x) := by
  unfold Bd wr IntKind.wrap
  simp [IntKind.signed, IntKind.bits]
  omega
theorem wr_in {x : Int} (h : Bd x) : wr x = x := by
  unfold Bd at h
  exact wrap_in (by omega) (by omega)
theorem shiftP_bd {p : Pose} {d n : Int} : PB (shiftP p d n) := ⟨wr_bd _, wr_bd _⟩

theorem withinB_iff {n a b : Int} : withinB n a b = true ↔ a ≤ n ∧ n ≤ b := by
  unfold withinB
  simp only [Bool.and_eq_true, decide_eq_true_eq]
  try exact Iff.rfl

theorem Steps.ne {G : Hp} (s : Steps G) {x : Nat} (gx : G x = none) : 0 ≠ x := fun e => by
  obtain ⟨a, b, s⟩ := s
  subst e
  rw [gx] at s
  cases s

theorem shift_spec {G h : Hp} {g : Value} {p : Pose} {dir n : Int} (st : Steps G) : HCalls Tryd.prog G 18 #[g, poseV p, .int .i64 dir, .int .i64 n] h (fun u h' => u = .tuple #[poseV (shiftA p dir n), .bool (okS dir n)] ∧ h' = h) := by
  refine HCalls.assume fun d => quietly (enter18 (by simp) ?_)
  unfold S18
  simp -implicitDefEqProofs (maxSteps := 2000000) (disch := first | with_reducible exact Nat.ne_of_beq_eq_false rfl | exact oneCell_int | exact oneCell_bool | omega | rfl | (simp; done) | fail) only [regs1, regs3, regs2, retK_ret, resL_cell, upd_ne, upd_eq, resL_tmp, resL_nil2, opH_su, opH_sv, bd30_, cf57, al30, resC_ptr, ld30, add_mk, Nat.add_zero, Nat.zero_add, box_new, cells_agg]
  intro x hx gx y hy gy
  have l := (le_set (o := .cells #[.int .i64 p.x, .int .i64 p.y, .bool p.d] 30 (0, 0)) hx).trans (le_set (o := .cells #[.int .i64 0, .int .i64 0, .bool false] 30 (0, 0)) hy)
  have exy := ne_of_set hy
  unfold shiftA okS
  try simp -implicitDefEqProofs (maxSteps := 2000000) (disch := first | with_reducible exact Nat.ne_of_beq_eq_false rfl | exact oneCell_int | exact oneCell_bool | omega | rfl | (simp; done) | fail) only [opH_sv, opH_su, pureW_sv, opH_nil, pureW_nil, pick_t, pick_f, pick_tp, pick_fp, gd_tt, gd_ft, gd_tf, gd_ff, box_new, regs0, regs1, regs2, regs3, regs4, regs5, regs6, cells_agg, cells_int, cells_bool, cells_ptr, cells_slice, cells_string, cells_func, cells_nilFunc, cells_map, retK_ret, retK_normal, resL_tmp, resL_cell, resL_nil0, resL_nil1, resL_nil2, resL_nil3, resC_ptr, ex0, ex1, ex2, ex0p, ex1p, ex2p, HL.cond_true, HL.cond_false, thenK_normal, thenK_ret, thenK_exit, blockK_normal, blockK_ret, blockK_exit, scopeK_normal, scopeK_ret, scopeK_exit, wpH_pure, bin_add, bin_sub, bin_mul, bin_lss, bin_leq, bin_gtr, bin_geq, bin_quo, bin_rem, bin_quop, bin_remp, wrap_in, bin_addp, bin_subp, bin_mulp, bin_lssp, bin_leqp, bin_gtrp, bin_geqp, un_not, un_notp, un_neg, eq_int, ne_int, eq_intp, ne_intp, callV_fn, add_mk, upd_eq, upd_ne, cell_set_self, Nat.zero_add, Nat.add_zero, Option.some.injEq, exists_eq_left', List.getElem?_cons_succ, List.getElem?_cons_zero, true_and, and_true, bne_self_eq_false, beq_self_eq_true, Bool.not_true, Bool.not_false, Bool.and_true, Bool.and_self, Bool.and_false, Bool.true_and, List.length_cons, List.length_nil, ne_eq, not_false_eq_true, Nat.reduceAdd, Nat.reduceMul, if_true, if_false, oneCell_int, oneCell_bool, oneCell_ptr, oneCell_slice, oneCell_string, oneCell_func, oneCell_map, Int.toNat_natCast, List.set_cons_zero, List.set_cons_succ, Nat.lt_irrefl, Nat.zero_lt_succ, Nat.succ_lt_succ_iff, fa26_0, fa26_0p, fa26_1, fa26_1p, fa26_10, fa26_10p, fa26_11, fa26_11p, fa26_12, fa26_12p, fa26_13, fa26_13p, fa26_14, fa26_14p, fa26_2, fa26_2p, fa26_3, fa26_3p, fa26_4, fa26_4p, fa26_5, fa26_5p, fa26_6, fa26_6p, fa26_7, fa26_7p, fa26_8, fa26_8p, fa26_9, fa26_9p, fa28_0, fa28_0p, fa28_1, fa28_1p, fa30_0, fa30_0p, fa30_1, fa30_1p, fa46_0, fa46_0p, fa46_1, fa46_1p, fa46_2, fa46_2p, fa46_3, fa46_3p, fa46_4, fa46_4p, fa46_5, fa46_5p, fa46_6, fa46_6p, fa86_0, fa86_0p, fa86_1, fa86_1p, fa86_2, fa86_2p, fa95_0, fa95_0p, fa95_1, fa95_1p, ld3, ld3p, ld4, ld4p, ld22, ld22p, ld23, ld23p, ld24, ld24p, ld26, ld26p, ld28, ld28p, ld30, ld30p, ld31, ld31p, ld46, ld46p, ld47, ld47p, ld52, ld52p, ld55, ld55p, ld57, ld57p, ld95, ld95p, st3s, st4s, st22s, st23s, st24s, st26w, st28w, st30w, st46w, st47s, st55s, st95w, ix22, ix22p, ix23, ix23p, ix24, ix24p, ix47, ix47p, ix56, ix56p, ix57, ix57p, ix101, ix101p, ln22, ln22p, ln23, ln23p, ln24, ln24p, ln47, ln47p, ln56, ln56p, ln57, ln57p, al22, al26, al28, al30, al46, al47, al95, cf14, cf15, cf16, cf17, cf18, cf19, cf20, cf21, cf22, cf23, cf24, cf25, cf26, cf27, cf28, cf29, cf30, cf31, cf32, cf33, cf34, cf35, cf36, cf37, cf38, cf39, cf40, cf41, cf42, cf43, cf44, cf45, cf46, cf47, cf48, cf49, cf50, cf51, cf52, cf53, cf54, cf55, cf56, cf57, cf58, cf59, cf60, cf61, cf62, cf63, cf64, cf65, cf66, cf67, cf68, cf69, cf70, cf71, cf72, cf73, cf74, cf75, cf76, cf77, cf78, cf79, cf80, bd26_0_1_2_7_8_9_10_11_12_13_14, bd26_0_1_2_7_8_9_10_11_12_13_14p, bd28_0, bd28_0p, bd28_0_1, bd28_0_1p, bd30_, bd30_p, bd30_0_1, bd30_0_1p, bd30_0, bd30_0p, bd46_0_1_2_3_4, bd46_0_1_2_3_4p, bd46_0_3_4, bd46_0_3_4p, bd86_0_1_2, bd86_0_1_2p, bd87_0_1_2_3, bd87_0_1_2_3p, bd95_0_1, bd95_0_1p, bs22_2_0_1, bs47_1_0, bs22_1_0, bs57_6_0_1_2_3_4_5, bs24_1_0, bs22_4_0_1_2_3, bs56_11_0_1_2_3_4_5_6_7_8_9_10, bs57_11_0_1_2_3_4_5_6_7_8_9_10, eq4, eq4p, eq28, eq28p, eq30, eq30p, eq31n, eq31np, eq31s, eq31sp, eq46, eq46p, eq50n, eq50np, eq50s, eq50sp, eq67n, eq67np, eq67s, eq67sp, ne4, ne4p, ne28, ne28p, ne30, ne30p, ne31n, ne31np, ne31s, ne31sp, ne46, ne46p]
  refine (within_spec (n := n) (a := 0) (b := 16)).mono ?_
  rintro _ _ ⟨rfl, rfl⟩
  cases h1 : withinB n 0 16 with
  | false =>
    try simp -implicitDefEqProofs (maxSteps := 2000000) (disch := first | with_reducible exact Nat.ne_of_beq_eq_false rfl | exact oneCell_int | exact oneCell_bool | omega | rfl | (simp; done) | fail) only [un_not, Bool.not_false, pick_t, HL.cond_true, gd_tf, st30w, cell_set_self, List.getElem?_cons_zero, Option.some.injEq, List.getElem?_cons_succ, exists_eq_left']
    first | exact l | exact ⟨rfl, l⟩
  | true =>
  try simp -implicitDefEqProofs (maxSteps := 2000000) (disch := first | with_reducible exact Nat.ne_of_beq_eq_false rfl | exact oneCell_int | exact oneCell_bool | omega | rfl | (simp; done) | fail) only [Bool.true_and, un_not, Bool.not_true, pick_f, gd_ff, opH_sv, cf57]
  refine (within_spec (n := dir) (a := 0) (b := 3)).mono ?_
  rintro _ _ ⟨rfl, rfl⟩
  cases h2 : withinB dir 0 3 with
  | false =>
    try simp -implicitDefEqProofs (maxSteps := 2000000) (disch := first | with_reducible exact Nat.ne_of_beq_eq_false rfl | exact oneCell_int | exact oneCell_bool | omega | rfl | (simp; done) | fail) only [un_not, Bool.not_false, st30w, cell_set_self, List.getElem?_cons_zero, Option.some.injEq, List.getElem?_cons_succ, exists_eq_left', HL.cond_true]
    first | exact l | exact ⟨rfl, l⟩
  | true =>
  have n0 := st.ne gx
  have n1 := st.ne gy
  have c0 := fun j => st.cell d j
  obtain ⟨a1, a2⟩ := withinB_iff.1 h2
  obtain ⟨b1, b2⟩ := withinB_iff.1 h1
  try simp -implicitDefEqProofs (maxSteps := 2000000) (disch := first | with_reducible exact Nat.ne_of_beq_eq_false rfl | exact oneCell_int | exact oneCell_bool | omega | rfl | (simp; done) | fail) only [if_true, un_not, Bool.not_true, st30w, cell_set_self, List.getElem?_cons_zero, Option.some.injEq, List.getElem?_cons_succ, exists_eq_left', HL.cond_false]
  unfold S18_k1
  have hd : dir = 0 ∨ dir = 1 ∨ dir = 2 ∨ dir = 3 := by omega
  have hy2 : ∀ o, (h.set x o) y = none := fun o => by rw [set_other (Ne.symm exy)]; exact none_of_set hy
  rcases hd with rfl | rfl | rfl | rfl
  · try simp -implicitDefEqProofs (maxSteps := 2000000) (disch := first | with_reducible exact Nat.ne_of_beq_eq_false rfl | exact oneCell_int | exact oneCell_bool | omega | rfl | (simp; done) | fail) only [upd_ne, upd_eq, regs2, regs3, retK_ret, resL_cell, resC_ptr, resL_tmp, resL_nil2, ld30, add_mk, Nat.add_zero, Nat.zero_add, opH_su, opH_sv, pureW_sv, fa30_0p, fa28_1p, ix81p (by decide : (0 : Int) ≤ 0) (by decide : (0 : Int) < (4 : Nat)), show Int.toNat 0 = 0 from rfl, Nat.zero_mul, ld3p, fa28_0p, cell_set_other n1, cell_set_other n0, c0, stepL, List.getElem?_cons_zero, Option.some.injEq, exists_eq_left', bin_mulp, wrap_in, store_past exy, cell_set_other exy, cell_set_self, bin_addp, st3s, List.set_cons_zero, List.getElem?_cons_succ, List.set_cons_succ, st30w]
    exact ⟨rfl, (le_set hx).trans (le_set (hy2 _))⟩
  · try simp -implicitDefEqProofs (maxSteps := 2000000) (disch := first | with_reducible exact Nat.ne_of_beq_eq_false rfl | exact oneCell_int | exact oneCell_bool | omega | rfl | (simp; done) | fail) only [upd_ne, upd_eq, regs2, regs3, retK_ret, resL_cell, resC_ptr, resL_tmp, resL_nil2, ld30, add_mk, Nat.add_zero, Nat.zero_add, opH_su, opH_sv, pureW_sv, fa30_0p, fa28_1p, ix81p (by decide : (0 : Int) ≤ 1) (by decide : (1 : Int) < (4 : Nat)), show Int.toNat 1 = 1 from rfl, Nat.one_mul, Nat.reduceAdd, ld3p, fa28_0p, cell_set_other n1, cell_set_other n0, c0, stepL, List.getElem?_cons_succ, List.getElem?_cons_zero, Option.some.injEq, exists_eq_left', bin_mulp, wrap_in, store_past exy, cell_set_other exy, cell_set_self, bin_addp, st3s, List.set_cons_zero, List.set_cons_succ, st30w]
    exact ⟨rfl, (le_set hx).trans (le_set (hy2 _))⟩
  · try simp -implicitDefEqProofs (maxSteps := 2000000) (disch := first | with_reducible exact Nat.ne_of_beq_eq_false rfl | exact oneCell_int | exact oneCell_bool | omega | rfl | (simp; done) | fail) only [upd_ne, upd_eq, regs2, regs3, retK_ret, resL_cell, resC_ptr, resL_tmp, resL_nil2, ld30, add_mk, Nat.add_zero, Nat.zero_add, opH_su, opH_sv, pureW_sv, fa30_0p, fa28_1p, ix81p (by decide : (0 : Int) ≤ 2) (by decide : (2 : Int) < (4 : Nat)), show Int.toNat 2 = 2 from rfl, Nat.reduceMul, Nat.reduceAdd, ld3p, fa28_0p, cell_set_other n1, cell_set_other n0, c0, stepL, List.getElem?_cons_succ, List.getElem?_cons_zero, Option.some.injEq, exists_eq_left', bin_mulp, wrap_in, store_past exy, cell_set_other exy, cell_set_self, bin_addp, st3s, List.set_cons_zero, List.set_cons_succ, st30w]
    exact ⟨rfl, (le_set hx).trans (le_set (hy2 _))⟩
  · try simp -implicitDefEqProofs (maxSteps := 2000000) (disch := first | with_reducible exact Nat.ne_of_beq_eq_false rfl | exact oneCell_int | exact oneCell_bool | omega | rfl | (simp; done) | fail) only [upd_ne, upd_eq, regs2, regs3, retK_ret, resL_cell, resC_ptr, resL_tmp, resL_nil2, ld30, add_mk, Nat.add_zero, Nat.zero_add, opH_su, opH_sv, pureW_sv, fa30_0p, fa28_1p, ix81p (by decide : (0 : Int) ≤ 3) (by decide : (3 : Int) < (4 : Nat)), show Int.toNat 3 = 3 from rfl, Nat.reduceMul, Nat.reduceAdd, ld3p, fa28_0p, cell_set_other n1, cell_set_other n0, c0, stepL, List.getElem?_cons_succ, List.getElem?_cons_zero, Option.some.injEq, exists_eq_left', bin_mulp, wrap_in, store_past exy, cell_set_other exy, cell_set_self, bin_addp, st3s, List.set_cons_zero, List.set_cons_succ, st30w]
    exact ⟨rfl, (le_set hx).trans (le_set (hy2 _))⟩

/-- The reference's shift, for any direction. -/
def shiftR (p : Pose) (d n : Int) : Pose := ⟨if d = 1 then wr (p.x + n) else if d = 3 then wr (p.x - n) else p.x, if d = 0 then wr (p.y - n) else if d = 2 then wr (p.y + n) else p.y, p.d⟩
theorem shiftR_eq {p : Pose} {d n : Int} (hp : PB p) (hd : 0 ≤ d ∧ d ≤ 3) : shiftP p d n = shiftR p d n := by
  obtain ⟨h1, h2⟩ := hp
  have hd : d = 0 ∨ d = 1 ∨ d = 2 ∨ d = 3 := by omega
  have e : n * -1 = -n := by omega
  rcases hd with rfl | rfl | rfl | rfl <;> simp [shiftP, shiftR, dxI, dyI, wr_in h1, wr_in h2, Int.mul_one, e, Int.sub_eq_add_neg]

end Go.Proofs.YtnpdploihlgcgaaDoor
