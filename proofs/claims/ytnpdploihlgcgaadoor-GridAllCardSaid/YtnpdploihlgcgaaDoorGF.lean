/- The program's grid as it lies, and its answers on cells. -/
import Derived.Test.YtnpdploihlgcgaaDoorGE
import Derived.Test.YtnpdploihlgcgaaDoorGS
import Derived.Test.YtnpdploihlgcgaaDoorH3
set_option linter.unusedSimpArgs false
set_option linter.unusedVariables false
set_option maxRecDepth 100000
namespace Go.Proofs.YtnpdploihlgcgaaDoor
open Go Go.HL

theorem un81 : Tryd.prog.underlying 81 = some (.array 4 28) := by kernel_rfl
theorem ix81 {G h : Hp} {a : Addr} {k : IntKind} {i : Int} {K : Value → Hp → Prop} (h1 : 0 ≤ i) (h2 : i < (4 : Nat)) : wpH Tryd.prog G (Instr.indexAt 81 (.pointer (some a)) (.int k i)) h K = K (.pointer (some (a.add (i.toNat * 2)))) h := index_arr un81 sz28 h1 h2
theorem ix81p {G h : Hp} {a : Addr} {k : IntKind} {i : Int} {K : Value → Prop} (h1 : 0 ≤ i) (h2 : i < (4 : Nat)) : pw Tryd.prog G h (Instr.indexAt 81 (.pointer (some a)) (.int k i)) K = K (.pointer (some (a.add (i.toNat * 2)))) := index_arrp un81 sz28 h1 h2

/-- The package's steps, by direction. -/
def stepL : List Value := [.int .i64 0, .int .i64 (-1), .int .i64 1, .int .i64 0, .int .i64 0, .int .i64 1, .int .i64 (-1), .int .i64 0]
def Steps (G : Hp) : Prop := ∃ e f, G 0 = some (.cells stepL.toArray e f)
theorem Steps.cell {G h : Hp} (s : Steps G) (d : Dis G h) (k : Nat) : cellIn G h ⟨0, k, none⟩ = stepL[k]? := by
  obtain ⟨e, f, s⟩ := s
  rw [cell_gnd d s rfl]
  simp [objCell]
theorem Steps.free {G h : Hp} (s : Steps G) (d : Dis G h) : h 0 = none := by
  obtain ⟨e, f, s⟩ := s
  cases q : h 0 with
  | none => rfl
  | some o => rw [d _ _ q] at s; cases s
theorem Steps.under {G h a : Hp} (s : Steps G) (d : Dis G h) (l : a.le h) : Steps (under G h a) := by
  have h0 := s.free d
  obtain ⟨e, f, s⟩ := s
  refine ⟨e, f, ?_⟩
  unfold HL.under HL.look
  rw [l.none h0, h0]
  simpa using s

/-- A hive of w by h, told by a function of its cells, row by row. -/
def gridL {α : Type} (w h : Nat) (f : Nat → Nat → α) : List α := (List.range (w * h)).map fun n => f (n % w) (n / w)
theorem gridL_length {α : Type} {w h : Nat} {f : Nat → Nat → α} : (gridL w h f).length = w * h := by simp [gridL]
theorem gridL_get {α : Type} {w h : Nat} {f : Nat → Nat → α} {x y : Nat} (hx : x < w) (hy : y < h) : (gridL w h f)[y * w + x]? = some (f x y) := by
  have hlt : y * w + x < w * h := by
    have : (y + 1) * w ≤ h * w := Nat.mul_le_mul_right _ hy
    rw [Nat.succ_mul] at this
    rw [Nat.mul_comm w h]; omega
  unfold gridL
  rw [List.getElem?_map, List.getElem?_range hlt, Option.map_some]
  rw [Nat.mul_comm y w, Nat.mul_add_mod, Nat.mod_eq_of_lt hx, Nat.mul_add_div (by omega), Nat.div_eq_of_lt hx, Nat.add_zero]
theorem gridL_at {α : Type} {w h : Nat} {f : Nat → Nat → α} {n : Nat} (hn : n < w * h) : (gridL w h f)[n]? = some (f (n % w) (n / w)) := by
  unfold gridL
  rw [List.getElem?_map, List.getElem?_range hn, Option.map_some]
theorem gridL_set {α : Type} {w h : Nat} {f : Nat → Nat → α} {x y : Nat} {v : α} (hx : x < w) : (gridL w h f).set (y * w + x) v = gridL w h (fun a b => if a = x ∧ b = y then v else f a b) := by
  apply List.ext_getElem?
  intro n
  rw [List.getElem?_set]
  by_cases hn : n < w * h
  · rw [gridL_at hn, gridL_at hn, gridL_length]
    have hw : 0 < w := by omega
    by_cases e : y * w + x = n
    · subst e
      rw [if_pos rfl, if_pos hn, Nat.mul_comm y w, Nat.mul_add_mod, Nat.mod_eq_of_lt hx, Nat.mul_add_div hw, Nat.div_eq_of_lt hx, Nat.add_zero]
      simp
    · rw [if_neg e, if_neg]
      rintro ⟨e1, e2⟩
      apply e
      rw [← e1, ← e2, Nat.mul_comm]
      exact Nat.div_add_mod n w
  · rw [List.getElem?_eq_none (by rw [gridL_length]; omega), List.getElem?_eq_none (by rw [gridL_length]; omega)]
    split
    · rw [if_neg (by rw [gridL_length]; omega)]
    · rfl

/-- The grid, seen. -/
structure GS (G h : Hp) (g : Value) (w k : Nat) (f : Nat → Nat → Int) : Prop where
  ex : ∃ gp kb, g = .pointer (some ⟨gp, 0, none⟩) ∧ (∀ j, j < 3 → cellIn G h ⟨gp, j, none⟩ = [Value.int .i64 w, .int .i64 k, .slice (some ⟨kb, 0, none⟩) (w * k) (w * k)][j]?) ∧ (∀ n x, (gridL w k f)[n]? = some x → cellIn G h ⟨kb, n, none⟩ = some (.int .i64 x))
  w1 : 1 ≤ w
  w2 : w ≤ 16
  k1 : 1 ≤ k
  k2 : k ≤ 16

theorem GS.up {G h h' : Hp} {g : Value} {w k : Nat} {f : Nat → Nat → Int} (s : GS G h g w k f) (l : h.le h') (d : Dis G h') : GS G h' g w k f := by
  obtain ⟨⟨gp, kb, e, h1, h2⟩, a, b, c, e2⟩ := s
  refine ⟨⟨gp, kb, e, fun j hj => ?_, fun n x hx => cell_up l d (h2 n x hx)⟩, a, b, c, e2⟩
  have := h1 j hj
  rw [List.getElem?_eq_getElem (by simpa using hj)] at this ⊢
  exact cell_up l d this
theorem GS.under {G h a : Hp} {g : Value} {w k : Nat} {f : Nat → Nat → Int} (s : GS G h g w k f) (l : a.le h) : GS (HL.under G h a) a g w k f := by
  obtain ⟨⟨gp, kb, e, h1, h2⟩, x1, x2, x3, x4⟩ := s
  exact ⟨⟨gp, kb, e, fun j hj => by rw [under_cell l]; exact h1 j hj, fun n x hx => by rw [under_cell l]; exact h2 n x hx⟩, x1, x2, x3, x4⟩

/-- In the hive of w by k? -/
def inW (w k : Nat) (c : Cell) : Bool := withinB c.1 0 (w - 1) && withinB c.2 0 (k - 1)
def numI (w k : Nat) (c : Cell) : Int := if inW w k c = true then c.2 * w + c.1 else -1
def fAt (f : Nat → Nat → Int) (c : Cell) : Int := f c.1.toNat c.2.toNat
def openW (w k : Nat) (f : Nat → Nat → Int) (c : Cell) : Bool := inW w k c && !(fAt f c == -1)

theorem inW_iff {w k : Nat} {c : Cell} : inW w k c = true ↔ 0 ≤ c.1 ∧ c.1 < w ∧ 0 ≤ c.2 ∧ c.2 < k := by
  unfold inW withinB
  simp only [Bool.and_eq_true, decide_eq_true_eq]
  omega

theorem within_spec {G h : Hp} {n a b : Int} : HCalls Tryd.prog G 57 #[.int .i64 n, .int .i64 a, .int .i64 b] h (fun u h' => u = .bool (withinB n a b) ∧ h' = h) := by
  refine quietly (enter57 (by simp) ?_)
  unfold S57
  simp -implicitDefEqProofs (maxSteps := 2000000) (disch := first | with_reducible exact Nat.ne_of_beq_eq_false rfl | exact oneCell_int | exact oneCell_bool | omega | rfl | (simp; done) | fail) only [regs0, regs1, regs2, retK_ret, resL_tmp, upd_eq, resL_nil1, opH_sv, bin_geq]
  unfold withinB
  cases hc : decide (n ≥ a) with
  | false => simp -implicitDefEqProofs (maxSteps := 2000000) (disch := first | with_reducible exact Nat.ne_of_beq_eq_false rfl | exact oneCell_int | exact oneCell_bool | omega | rfl | (simp; done) | fail) only [pick_f, gd_ft]; exact ⟨rfl, Hp.le.refl h⟩
  | true => simp -implicitDefEqProofs (maxSteps := 2000000) (disch := first | with_reducible exact Nat.ne_of_beq_eq_false rfl | exact oneCell_int | exact oneCell_bool | omega | rfl | (simp; done) | fail) only [Bool.true_and, pick_t, gd_tt, opH_sv, bin_leq, true_and]; exact Hp.le.refl h

theorem num_spec {G h : Hp} {g : Value} {w k : Nat} {f : Nat → Nat → Int} {c : Cell} (s : GS G h g w k f) : HCalls Tryd.prog G 37 #[g, cellV c] h (fun u h' => u = .int .i64 (numI w k c) ∧ h' = h) := by
  have s0 := s
  obtain ⟨⟨gp, kb, rfl, g1, g2⟩, w1, w2, k1, k2⟩ := s
  refine HCalls.assume fun d => quietly (enter37 (by simp) ?_)
  unfold S37
  simp -implicitDefEqProofs (maxSteps := 2000000) (disch := first | with_reducible exact Nat.ne_of_beq_eq_false rfl | exact oneCell_int | exact oneCell_bool | omega | rfl | (simp; done) | fail) only [regs1, regs0, retK_ret, resL_tmp, upd_eq, resL_nil1, eq31sp, pick_fp, gd_ff, pureW_sv, cf57, pureW_nil, fa86_0p, add_mk, Nat.add_zero, ld3p, opH_sv, box_new, cells_agg, fa28_0p, cell_set_self, List.getElem?_cons_zero, Option.some.injEq, exists_eq_left']
  intro x hx gx
  generalize e1 : Hp.set h x _ = h1
  obtain ⟨l1, d1, b1⟩ := boxed e1 hx d gx
  have cx : ∀ j, cellIn G h1 ⟨x, j, none⟩ = _ := fun j => cell_of (look_own b1)
  have y0 : cellIn G h1 ⟨gp, 0, none⟩ = some (.int .i64 w) := cell_up l1 d1 (g1 0 (by decide))
  have y1 : cellIn G h1 ⟨gp, 1, none⟩ = some (.int .i64 k) := cell_up l1 d1 (g1 1 (by decide))
  try simp -implicitDefEqProofs (maxSteps := 2000000) (disch := first | with_reducible exact Nat.ne_of_beq_eq_false rfl | exact oneCell_int | exact oneCell_bool | omega | rfl | (simp; done) | fail) only [y0, Option.some.injEq, exists_eq_left', bin_subp, wrap_in]
  try rw [wrap_in (by omega) (by omega)]
  refine (within_spec (n := c.1) (a := 0) (b := (w : Int) - 1)).mono ?_
  rintro _ _ ⟨rfl, rfl⟩
  unfold numI inW
  cases h1 : withinB c.1 0 ((w : Int) - 1) with
  | false => try simp -implicitDefEqProofs (maxSteps := 2000000) (disch := first | with_reducible exact Nat.ne_of_beq_eq_false rfl | exact oneCell_int | exact oneCell_bool | omega | rfl | (simp; done) | fail) only [un_notp, Bool.not_false, pick_tp, HL.cond_true, gd_tf]; exact ⟨by simp, l1⟩
  | true =>
  try simp -implicitDefEqProofs (maxSteps := 2000000) (disch := first | with_reducible exact Nat.ne_of_beq_eq_false rfl | exact oneCell_int | exact oneCell_bool | omega | rfl | (simp; done) | fail) only [Bool.true_and, un_notp, Bool.not_true, pick_fp, gd_ff, pureW_sv, cf57, pureW_nil, fa86_1p, add_mk, Nat.zero_add, ld3p, y1, Option.some.injEq, exists_eq_left', bin_subp, wrap_in, fa28_1p, cx, List.getElem?_cons_succ, List.getElem?_cons_zero]
  try rw [wrap_in (by omega) (by omega)]
  refine (within_spec (n := c.2) (a := 0) (b := (k : Int) - 1)).mono ?_
  rintro _ _ ⟨rfl, rfl⟩
  cases h2 : withinB c.2 0 ((k : Int) - 1) with
  | false => try simp -implicitDefEqProofs (maxSteps := 2000000) (disch := first | with_reducible exact Nat.ne_of_beq_eq_false rfl | exact oneCell_int | exact oneCell_bool | omega | rfl | (simp; done) | fail) only [un_notp, Bool.not_false, HL.cond_true]; exact ⟨by simp, l1⟩
  | true =>
  unfold withinB at h1 h2
  simp only [Bool.and_eq_true, decide_eq_true_eq] at h1 h2
  have hm : 0 ≤ c.2 * (w : Int) ∧ c.2 * (w : Int) ≤ 15 * 16 := ⟨Int.mul_nonneg (by omega) (by omega), Int.mul_le_mul (by omega) (by omega) (by omega) (by omega)⟩
  try simp -implicitDefEqProofs (maxSteps := 2000000) (disch := first | with_reducible exact Nat.ne_of_beq_eq_false rfl | exact oneCell_int | exact oneCell_bool | omega | rfl | (simp; done) | fail) only [if_true, un_notp, Bool.not_true, HL.cond_false]
  unfold S37_k1
  try simp -implicitDefEqProofs (maxSteps := 2000000) (disch := first | with_reducible exact Nat.ne_of_beq_eq_false rfl | exact oneCell_int | exact oneCell_bool | omega | rfl | (simp; done) | fail) only [upd_ne, upd_eq, regs0, retK_ret, resL_tmp, resL_nil1, pureW_sv, fa28_0p, add_mk, Nat.add_zero, ld3p, cx, List.getElem?_cons_zero, Option.some.injEq, exists_eq_left', pureW_nil, fa86_0p, y0, fa28_1p, Nat.zero_add, List.getElem?_cons_succ, bin_mulp, wrap_in, bin_addp, true_and]
  try rw [wrap_in (x := c.2 * (w : Int)) (by omega) (by omega)]
  try rw [wrap_in (by omega) (by omega)]
  first | exact l1 | exact ⟨by simp, l1⟩

/-- A cell's kind, read. -/
theorem GS.kind {G h : Hp} {g : Value} {w k : Nat} {f : Nat → Nat → Int} (s : GS G h g w k f) {c : Cell} (hc : inW w k c = true) :
    ∃ gp kb, g = .pointer (some ⟨gp, 0, none⟩) ∧ cellIn G h ⟨gp, 2, none⟩ = some (.slice (some ⟨kb, 0, none⟩) (w * k) (w * k)) ∧ cellIn G h ⟨kb, (numI w k c).toNat, none⟩ = some (.int .i64 (fAt f c)) ∧ 0 ≤ numI w k c ∧ numI w k c < ((w * k : Nat) : Int) := by
  obtain ⟨⟨gp, kb, rfl, g1, g2⟩, w1, w2, k1, k2⟩ := s
  obtain ⟨a1, a2, a3, a4⟩ := inW_iff.1 hc
  have hn : numI w k c = ((c.2.toNat * w + c.1.toNat : Nat) : Int) := by
    unfold numI
    rw [if_pos hc]
    rw [Int.natCast_add, Int.natCast_mul, Int.toNat_of_nonneg a1, Int.toNat_of_nonneg a3]
  refine ⟨gp, kb, rfl, g1 2 (by decide), ?_, by omega, ?_⟩
  · rw [hn, Int.toNat_natCast]
    exact g2 _ _ (gridL_get (by omega) (by omega))
  · rw [hn]
    have : (c.2.toNat + 1) * w ≤ k * w := Nat.mul_le_mul_right _ (by omega)
    rw [Nat.succ_mul] at this
    rw [Nat.mul_comm w k]
    omega

theorem numI_out {w k : Nat} {c : Cell} (h : inW w k c = false) : numI w k c = -1 := by unfold numI; rw [h]; rfl

theorem ix57k {G h : Hp} {kb n : Nat} {i : Int} {K : Value → Hp → Prop} (h1 : 0 ≤ i) (h2 : i < (n : Int)) : wpH Tryd.prog G (Instr.indexAt 57 (.slice (some ⟨kb, 0, none⟩) n n) (.int .i64 i)) h K = K (.pointer (some ⟨kb, i.toNat, none⟩)) h := by
  rw [ix57 h1 h2]; simp only [add_mk, Nat.zero_add, Nat.mul_one]

theorem open_spec {G h : Hp} {g : Value} {w k : Nat} {f : Nat → Nat → Int} {c : Cell} (s : GS G h g w k f) : HCalls Tryd.prog G 31 #[g, cellV c] h (fun u h' => u = .bool (openW w k f c) ∧ h' = h) := by
  refine HCalls.assume fun d => quietly (enter31 (by simp) ?_)
  unfold S31
  simp -implicitDefEqProofs (maxSteps := 2000000) (disch := first | with_reducible exact Nat.ne_of_beq_eq_false rfl | exact oneCell_int | exact oneCell_bool | omega | rfl | (simp; done) | fail) only [regs1, regs0, retK_ret, resL_tmp, upd_eq, resL_nil1, opH_sv, cf37, box_new, cells_agg, ld28, add_mk, Nat.add_zero, cell_set_self, List.getElem?_cons_zero, Option.some.injEq, Nat.zero_add, List.getElem?_cons_succ, exists_eq_left']
  intro x hx gx
  generalize e1 : Hp.set h x _ = h1
  obtain ⟨l1, d1, b1⟩ := boxed e1 hx d gx
  have cx : ∀ j, cellIn G h1 ⟨x, j, none⟩ = _ := fun j => cell_of (look_own b1)
  try simp -implicitDefEqProofs (maxSteps := 2000000) (disch := first | with_reducible exact Nat.ne_of_beq_eq_false rfl | exact oneCell_int | exact oneCell_bool | omega | rfl | (simp; done) | fail) only [opH_sv, opH_su, pureW_sv, opH_nil, pureW_nil, pick_t, pick_f, pick_tp, pick_fp, gd_tt, gd_ft, gd_tf, gd_ff, box_new, regs0, regs1, regs2, regs3, regs4, regs5, regs6, cells_agg, cells_int, cells_bool, cells_ptr, cells_slice, cells_string, cells_func, cells_nilFunc, cells_map, retK_ret, retK_normal, resL_tmp, resL_cell, resL_nil0, resL_nil1, resL_nil2, resL_nil3, resC_ptr, ex0, ex1, ex2, ex0p, ex1p, ex2p, HL.cond_true, HL.cond_false, thenK_normal, thenK_ret, thenK_exit, blockK_normal, blockK_ret, blockK_exit, scopeK_normal, scopeK_ret, scopeK_exit, wpH_pure, bin_add, bin_sub, bin_mul, bin_lss, bin_leq, bin_gtr, bin_geq, bin_quo, bin_rem, bin_quop, bin_remp, wrap_in, bin_addp, bin_subp, bin_mulp, bin_lssp, bin_leqp, bin_gtrp, bin_geqp, un_not, un_notp, un_neg, eq_int, ne_int, eq_intp, ne_intp, callV_fn, add_mk, upd_eq, upd_ne, cell_set_self, Nat.zero_add, Nat.add_zero, Option.some.injEq, exists_eq_left', List.getElem?_cons_succ, List.getElem?_cons_zero, true_and, and_true, bne_self_eq_false, beq_self_eq_true, Bool.not_true, Bool.not_false, Bool.and_true, Bool.and_self, Bool.and_false, Bool.true_and, List.length_cons, List.length_nil, ne_eq, not_false_eq_true, Nat.reduceAdd, Nat.reduceMul, if_true, if_false, oneCell_int, oneCell_bool, oneCell_ptr, oneCell_slice, oneCell_string, oneCell_func, oneCell_map, Int.toNat_natCast, List.set_cons_zero, List.set_cons_succ, Nat.lt_irrefl, Nat.zero_lt_succ, Nat.succ_lt_succ_iff, fa26_0, fa26_0p, fa26_1, fa26_1p, fa26_10, fa26_10p, fa26_11, fa26_11p, fa26_12, fa26_12p, fa26_13, fa26_13p, fa26_14, fa26_14p, fa26_2, fa26_2p, fa26_3, fa26_3p, fa26_4, fa26_4p, fa26_5, fa26_5p, fa26_6, fa26_6p, fa26_7, fa26_7p, fa26_8, fa26_8p, fa26_9, fa26_9p, fa28_0, fa28_0p, fa28_1, fa28_1p, fa30_0, fa30_0p, fa30_1, fa30_1p, fa46_0, fa46_0p, fa46_1, fa46_1p, fa46_2, fa46_2p, fa46_3, fa46_3p, fa46_4, fa46_4p, fa46_5, fa46_5p, fa46_6, fa46_6p, fa86_0, fa86_0p, fa86_1, fa86_1p, fa86_2, fa86_2p, fa95_0, fa95_0p, fa95_1, fa95_1p, ld3, ld3p, ld4, ld4p, ld22, ld22p, ld23, ld23p, ld24, ld24p, ld26, ld26p, ld28, ld28p, ld30, ld30p, ld31, ld31p, ld46, ld46p, ld47, ld47p, ld52, ld52p, ld55, ld55p, ld57, ld57p, ld95, ld95p, st3s, st4s, st22s, st23s, st24s, st26w, st28w, st30w, st46w, st47s, st55s, st95w, ix22, ix22p, ix23, ix23p, ix24, ix24p, ix47, ix47p, ix56, ix56p, ix57, ix57p, ix101, ix101p, ln22, ln22p, ln23, ln23p, ln24, ln24p, ln47, ln47p, ln56, ln56p, ln57, ln57p, al22, al26, al28, al30, al46, al47, al95, cf14, cf15, cf16, cf17, cf18, cf19, cf20, cf21, cf22, cf23, cf24, cf25, cf26, cf27, cf28, cf29, cf30, cf31, cf32, cf33, cf34, cf35, cf36, cf37, cf38, cf39, cf40, cf41, cf42, cf43, cf44, cf45, cf46, cf47, cf48, cf49, cf50, cf51, cf52, cf53, cf54, cf55, cf56, cf57, cf58, cf59, cf60, cf61, cf62, cf63, cf64, cf65, cf66, cf67, cf68, cf69, cf70, cf71, cf72, cf73, cf74, cf75, cf76, cf77, cf78, cf79, cf80, bd26_0_1_2_7_8_9_10_11_12_13_14, bd26_0_1_2_7_8_9_10_11_12_13_14p, bd28_0, bd28_0p, bd28_0_1, bd28_0_1p, bd30_, bd30_p, bd30_0_1, bd30_0_1p, bd30_0, bd30_0p, bd46_0_1_2_3_4, bd46_0_1_2_3_4p, bd46_0_3_4, bd46_0_3_4p, bd86_0_1_2, bd86_0_1_2p, bd87_0_1_2_3, bd87_0_1_2_3p, bd95_0_1, bd95_0_1p, bs22_2_0_1, bs47_1_0, bs22_1_0, bs57_6_0_1_2_3_4_5, bs24_1_0, bs22_4_0_1_2_3, bs56_11_0_1_2_3_4_5_6_7_8_9_10, bs57_11_0_1_2_3_4_5_6_7_8_9_10, eq4, eq4p, eq28, eq28p, eq30, eq30p, eq31n, eq31np, eq31s, eq31sp, eq46, eq46p, eq50n, eq50np, eq50s, eq50sp, eq67n, eq67np, eq67s, eq67sp, ne4, ne4p, ne28, ne28p, ne30, ne30p, ne31n, ne31np, ne31s, ne31sp, ne46, ne46p, cx]
  refine (num_spec (c := c) (s.up l1 d1)).mono ?_
  rintro _ _ ⟨rfl, rfl⟩
  unfold openW
  cases hc : inW w k c with
  | false =>
    try simp -implicitDefEqProofs (maxSteps := 2000000) (disch := first | with_reducible exact Nat.ne_of_beq_eq_false rfl | exact oneCell_int | exact oneCell_bool | omega | rfl | (simp; done) | fail) only [numI_out hc, bin_geq, show decide ((-1 : Int) ≥ 0) = false from rfl, pick_f, gd_ft]
    first | exact l1 | exact ⟨by simp, l1⟩
  | true =>
    obtain ⟨gp, kb, rfl, z2, zk, n0, n1⟩ := (s.up l1 d1).kind hc
    try simp -implicitDefEqProofs (maxSteps := 2000000) (disch := first | with_reducible exact Nat.ne_of_beq_eq_false rfl | exact oneCell_int | exact oneCell_bool | omega | rfl | (simp; done) | fail) only [Bool.true_and, bin_geq, show decide (numI w k c ≥ 0) = true from decide_eq_true n0, pick_t, gd_tt, opH_sv, opH_nil, fa86_2, add_mk, Nat.zero_add, ld57, z2, Option.some.injEq, exists_eq_left', ix57k n0 n1, ld3, zk, ne_int]
    first | exact l1 | exact ⟨by simp [bne], l1⟩

theorem stacked_spec {G h : Hp} {g : Value} {w k : Nat} {f : Nat → Nat → Int} {c : Cell} (s : GS G h g w k f) : HCalls Tryd.prog G 35 #[g, cellV c] h (fun u h' => u = .bool (inW w k c && (fAt f c == 0)) ∧ h' = h) := by
  refine HCalls.assume fun d => quietly (enter35 (by simp) ?_)
  unfold S35
  simp -implicitDefEqProofs (maxSteps := 2000000) (disch := first | with_reducible exact Nat.ne_of_beq_eq_false rfl | exact oneCell_int | exact oneCell_bool | omega | rfl | (simp; done) | fail) only [regs1, regs0, retK_ret, resL_tmp, upd_eq, resL_nil1, opH_sv, cf37, box_new, cells_agg, ld28, add_mk, Nat.add_zero, cell_set_self, List.getElem?_cons_zero, Option.some.injEq, Nat.zero_add, List.getElem?_cons_succ, exists_eq_left']
  intro x hx gx
  generalize e1 : Hp.set h x _ = h1
  obtain ⟨l1, d1, b1⟩ := boxed e1 hx d gx
  have cx : ∀ j, cellIn G h1 ⟨x, j, none⟩ = _ := fun j => cell_of (look_own b1)
  try simp -implicitDefEqProofs (maxSteps := 2000000) (disch := first | with_reducible exact Nat.ne_of_beq_eq_false rfl | exact oneCell_int | exact oneCell_bool | omega | rfl | (simp; done) | fail) only [opH_sv, opH_su, pureW_sv, opH_nil, pureW_nil, pick_t, pick_f, pick_tp, pick_fp, gd_tt, gd_ft, gd_tf, gd_ff, box_new, regs0, regs1, regs2, regs3, regs4, regs5, regs6, cells_agg, cells_int, cells_bool, cells_ptr, cells_slice, cells_string, cells_func, cells_nilFunc, cells_map, retK_ret, retK_normal, resL_tmp, resL_cell, resL_nil0, resL_nil1, resL_nil2, resL_nil3, resC_ptr, ex0, ex1, ex2, ex0p, ex1p, ex2p, HL.cond_true, HL.cond_false, thenK_normal, thenK_ret, thenK_exit, blockK_normal, blockK_ret, blockK_exit, scopeK_normal, scopeK_ret, scopeK_exit, wpH_pure, bin_add, bin_sub, bin_mul, bin_lss, bin_leq, bin_gtr, bin_geq, bin_quo, bin_rem, bin_quop, bin_remp, wrap_in, bin_addp, bin_subp, bin_mulp, bin_lssp, bin_leqp, bin_gtrp, bin_geqp, un_not, un_notp, un_neg, eq_int, ne_int, eq_intp, ne_intp, callV_fn, add_mk, upd_eq, upd_ne, cell_set_self, Nat.zero_add, Nat.add_zero, Option.some.injEq, exists_eq_left', List.getElem?_cons_succ, List.getElem?_cons_zero, true_and, and_true, bne_self_eq_false, beq_self_eq_true, Bool.not_true, Bool.not_false, Bool.and_true, Bool.and_self, Bool.and_false, Bool.true_and, List.length_cons, List.length_nil, ne_eq, not_false_eq_true, Nat.reduceAdd, Nat.reduceMul, if_true, if_false, oneCell_int, oneCell_bool, oneCell_ptr, oneCell_slice, oneCell_string, oneCell_func, oneCell_map, Int.toNat_natCast, List.set_cons_zero, List.set_cons_succ, Nat.lt_irrefl, Nat.zero_lt_succ, Nat.succ_lt_succ_iff, fa26_0, fa26_0p, fa26_1, fa26_1p, fa26_10, fa26_10p, fa26_11, fa26_11p, fa26_12, fa26_12p, fa26_13, fa26_13p, fa26_14, fa26_14p, fa26_2, fa26_2p, fa26_3, fa26_3p, fa26_4, fa26_4p, fa26_5, fa26_5p, fa26_6, fa26_6p, fa26_7, fa26_7p, fa26_8, fa26_8p, fa26_9, fa26_9p, fa28_0, fa28_0p, fa28_1, fa28_1p, fa30_0, fa30_0p, fa30_1, fa30_1p, fa46_0, fa46_0p, fa46_1, fa46_1p, fa46_2, fa46_2p, fa46_3, fa46_3p, fa46_4, fa46_4p, fa46_5, fa46_5p, fa46_6, fa46_6p, fa86_0, fa86_0p, fa86_1, fa86_1p, fa86_2, fa86_2p, fa95_0, fa95_0p, fa95_1, fa95_1p, ld3, ld3p, ld4, ld4p, ld22, ld22p, ld23, ld23p, ld24, ld24p, ld26, ld26p, ld28, ld28p, ld30, ld30p, ld31, ld31p, ld46, ld46p, ld47, ld47p, ld52, ld52p, ld55, ld55p, ld57, ld57p, ld95, ld95p, st3s, st4s, st22s, st23s, st24s, st26w, st28w, st30w, st46w, st47s, st55s, st95w, ix22, ix22p, ix23, ix23p, ix24, ix24p, ix47, ix47p, ix56, ix56p, ix57, ix57p, ix101, ix101p, ln22, ln22p, ln23, ln23p, ln24, ln24p, ln47, ln47p, ln56, ln56p, ln57, ln57p, al22, al26, al28, al30, al46, al47, al95, cf14, cf15, cf16, cf17, cf18, cf19, cf20, cf21, cf22, cf23, cf24, cf25, cf26, cf27, cf28, cf29, cf30, cf31, cf32, cf33, cf34, cf35, cf36, cf37, cf38, cf39, cf40, cf41, cf42, cf43, cf44, cf45, cf46, cf47, cf48, cf49, cf50, cf51, cf52, cf53, cf54, cf55, cf56, cf57, cf58, cf59, cf60, cf61, cf62, cf63, cf64, cf65, cf66, cf67, cf68, cf69, cf70, cf71, cf72, cf73, cf74, cf75, cf76, cf77, cf78, cf79, cf80, bd26_0_1_2_7_8_9_10_11_12_13_14, bd26_0_1_2_7_8_9_10_11_12_13_14p, bd28_0, bd28_0p, bd28_0_1, bd28_0_1p, bd30_, bd30_p, bd30_0_1, bd30_0_1p, bd30_0, bd30_0p, bd46_0_1_2_3_4, bd46_0_1_2_3_4p, bd46_0_3_4, bd46_0_3_4p, bd86_0_1_2, bd86_0_1_2p, bd87_0_1_2_3, bd87_0_1_2_3p, bd95_0_1, bd95_0_1p, bs22_2_0_1, bs47_1_0, bs22_1_0, bs57_6_0_1_2_3_4_5, bs24_1_0, bs22_4_0_1_2_3, bs56_11_0_1_2_3_4_5_6_7_8_9_10, bs57_11_0_1_2_3_4_5_6_7_8_9_10, eq4, eq4p, eq28, eq28p, eq30, eq30p, eq31n, eq31np, eq31s, eq31sp, eq46, eq46p, eq50n, eq50np, eq50s, eq50sp, eq67n, eq67np, eq67s, eq67sp, ne4, ne4p, ne28, ne28p, ne30, ne30p, ne31n, ne31np, ne31s, ne31sp, ne46, ne46p, cx]
  refine (num_spec (c := c) (s.up l1 d1)).mono ?_
  rintro _ _ ⟨rfl, rfl⟩
  cases hc : inW w k c with
  | false =>
    try simp -implicitDefEqProofs (maxSteps := 2000000) (disch := first | with_reducible exact Nat.ne_of_beq_eq_false rfl | exact oneCell_int | exact oneCell_bool | omega | rfl | (simp; done) | fail) only [numI_out hc, bin_geq, show decide ((-1 : Int) ≥ 0) = false from rfl, pick_f, gd_ft]
    first | exact l1 | exact ⟨by simp, l1⟩
  | true =>
    obtain ⟨gp, kb, rfl, z2, zk, n0, n1⟩ := (s.up l1 d1).kind hc
    try simp -implicitDefEqProofs (maxSteps := 2000000) (disch := first | with_reducible exact Nat.ne_of_beq_eq_false rfl | exact oneCell_int | exact oneCell_bool | omega | rfl | (simp; done) | fail) only [Bool.true_and, bin_geq, show decide (numI w k c ≥ 0) = true from decide_eq_true n0, pick_t, gd_tt, opH_sv, opH_nil, fa86_2, add_mk, Nat.zero_add, ld57, z2, Option.some.injEq, exists_eq_left', ix57k n0 n1, ld3, zk, eq_int, true_and]
    first | exact l1 | exact ⟨by simp, l1⟩

def Bd (x : Int) : Prop := -9223372036854775808 ≤ x ∧ x ≤ 9223372036854775807
def PB (p : Pose) : Prop := Bd p.x ∧ Bd p.y

theorem cells_spec {G h : Hp} {g : Value} {p : Pose} (st : Steps G) (hp : PB p) : HCalls Tryd.prog G 21 #[g, poseV p] h (fun u h' => ∃ b, u = .slice (some ⟨b, 0, none⟩) 2 2 ∧ h b = none ∧ G b = none ∧ h' = h.set b (.cells #[.int .i64 p.x, .int .i64 p.y, .int .i64 (east p).1, .int .i64 (east p).2] 28 (0, 0))) := by
  obtain ⟨⟨p1, p2⟩, p3, p4⟩ := hp
  refine HCalls.assume fun d => HCalls.less (enter21 (by simp) (R := fun u h' => ∃ b, u = .slice (some ⟨b, 0, none⟩) 2 2 ∧ h b = none ∧ G b = none ∧ (h.set b (.cells #[.int .i64 p.x, .int .i64 p.y, .int .i64 (east p).1, .int .i64 (east p).2] 28 (0, 0))).le h') ?_) ?_
  rotate_left
  · rintro v h' ⟨b, e, h1, h2, h3⟩
    exact ⟨_, h3, b, e, h1, h2, rfl⟩
  unfold S21
  simp -implicitDefEqProofs (maxSteps := 2000000) (disch := first | with_reducible exact Nat.ne_of_beq_eq_false rfl | exact oneCell_int | exact oneCell_bool | omega | rfl | (simp; done) | fail) only [regs1, opH_su, opH_sv, al28, box_new, cells_agg, fa30_1, add_mk, Nat.zero_add, ld4]
  intro x hx gx
  generalize e1 : Hp.set h x _ = h1
  obtain ⟨l1, d1, b1⟩ := boxed e1 hx d gx
  have c0 := fun j => st.cell d1 j
  try simp -implicitDefEqProofs (maxSteps := 2000000) (disch := first | with_reducible exact Nat.ne_of_beq_eq_false rfl | exact oneCell_int | exact oneCell_bool | omega | rfl | (simp; done) | fail) only [ix81 (by decide : (0 : Int) ≤ 1) (by decide : (1 : Int) < (4 : Nat)), Int.toNat_one, Nat.one_mul, add_mk, Nat.zero_add, ld28, Nat.add_zero, c0, stepL, List.getElem?_cons_succ, List.getElem?_cons_zero, Option.some.injEq, Nat.reduceAdd, exists_eq_left', st28w]
  intro y hy gy
  generalize e2 : Hp.set h1 y _ = h2
  obtain ⟨l2, d2, b2⟩ := boxed e2 hy d1 gy
  have cx : ∀ j, cellIn G h2 ⟨x, j, none⟩ = _ := fun j => cell_of (look_own (l2 _ _ b1))
  have cy : ∀ j, cellIn G h2 ⟨y, j, none⟩ = _ := fun j => cell_of (look_own b2)
  have L := l1.trans l2
  try simp -implicitDefEqProofs (maxSteps := 2000000) (disch := first | with_reducible exact Nat.ne_of_beq_eq_false rfl | exact oneCell_int | exact oneCell_bool | omega | rfl | (simp; done) | fail) only [cx, List.getElem?_cons_succ, List.getElem?_cons_zero, Option.some.injEq, exists_eq_left']
  unfold east wr
  cases hd : p.d with
  | false =>
    try simp -implicitDefEqProofs (maxSteps := 2000000) (disch := first | with_reducible exact Nat.ne_of_beq_eq_false rfl | exact oneCell_int | exact oneCell_bool | omega | rfl | (simp; done) | fail) only [HL.cond_false]
    unfold S21_k1
    try simp -implicitDefEqProofs (maxSteps := 2000000) (disch := first | with_reducible exact Nat.ne_of_beq_eq_false rfl | exact oneCell_int | exact oneCell_bool | omega | rfl | (simp; done) | fail) only [upd_ne, upd_eq, retK_ret, resL_tmp, resL_nil1, opH_sv, fa28_1, add_mk, Nat.zero_add, ld3, fa30_0, Nat.add_zero, fa28_0, ld28, cx, List.getElem?_cons_zero, Option.some.injEq, List.getElem?_cons_succ, cy, exists_eq_left', bin_add, wrap_in, bd28_0_1, bs22_2_0_1]
    rw [show (p.y + 0 : Int) = p.y by omega]
    intro b hb gb
    exact ⟨b, rfl, L.none hb, gb, L.both⟩
  | true =>
    have c2 := fun j => st.cell d2 j
    try simp -implicitDefEqProofs (maxSteps := 2000000) (disch := first | with_reducible exact Nat.ne_of_beq_eq_false rfl | exact oneCell_int | exact oneCell_bool | omega | rfl | (simp; done) | fail) only [if_true, ix81 (by decide : (0 : Int) ≤ 2) (by decide : (2 : Int) < (4 : Nat)), show Int.toNat 2 = 2 from rfl, Nat.reduceMul, add_mk, Nat.zero_add, ld28, Nat.add_zero, c2, stepL, List.getElem?_cons_succ, List.getElem?_cons_zero, Option.some.injEq, Nat.reduceAdd, exists_eq_left', HL.cond_true]
    rw [store_eq sz28 b2 (by simp [cells_agg]) (by simp) (by simp [cells_agg, oneCell])]
    have nxy : x ≠ y := ne_of_new b1 hy
    generalize e3 : Hp.set h2 y _ = h3
    have cx3 : ∀ j, cellIn G h3 ⟨x, j, none⟩ = [Value.int .i64 p.x, .int .i64 p.y, .bool p.d][j]? := fun j => by rw [← e3, cell_set_other nxy]; exact cx j
    have cy3 : ∀ j, cellIn G h3 ⟨y, j, none⟩ = [Value.int .i64 0, .int .i64 1][j]? := fun j => by rw [← e3, cell_of (look_own set_self)]; first | rfl | simp [putL, cells_agg]
    have L3 : h.le h3 := by
      rw [← e3]
      exact L.set (l1.none hy)
    unfold S21_k1
    try simp -implicitDefEqProofs (maxSteps := 2000000) (disch := first | with_reducible exact Nat.ne_of_beq_eq_false rfl | exact oneCell_int | exact oneCell_bool | omega | rfl | (simp; done) | fail) only [upd_ne, upd_eq, retK_ret, resL_tmp, resL_nil1, opH_sv, fa28_1, add_mk, Nat.zero_add, ld3, fa30_0, Nat.add_zero, fa28_0, ld28, cx3, List.getElem?_cons_zero, Option.some.injEq, List.getElem?_cons_succ, cy3, exists_eq_left', bin_add, wrap_in, bd28_0_1, bs22_2_0_1]
    rw [show (p.x + 0 : Int) = p.x by omega]
    intro b hb gb
    exact ⟨b, rfl, L3.none hb, gb, L3.both⟩

end Go.Proofs.YtnpdploihlgcgaaDoor
