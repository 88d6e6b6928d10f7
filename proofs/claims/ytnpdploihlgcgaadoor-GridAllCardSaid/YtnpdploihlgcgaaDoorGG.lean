/- The program's grid is laid: blocked cells and ports. -/
import Derived.Test.YtnpdploihlgcgaaDoorGF
set_option linter.unusedSimpArgs false
set_option linter.unusedVariables false
set_option maxRecDepth 100000
namespace Go.Proofs.YtnpdploihlgcgaaDoor
open Go Go.HL

def fitsW (w k : Nat) (f : Nat → Nat → Int) (p : Pose) : Bool := openW w k f (p.x, p.y) && openW w k f (east p)

theorem fits_spec {G h : Hp} {g : Value} {w k : Nat} {f : Nat → Nat → Int} {p : Pose} (s : GS G h g w k f) (st : Steps G) (hp : PB p) : HCalls Tryd.prog G 23 #[g, poseV p] h (fun u h' => u = .bool (fitsW w k f p) ∧ h' = h) := by
  refine HCalls.assume fun d => quietly (enter23 (by simp) ?_)
  unfold S23
  simp -implicitDefEqProofs (maxSteps := 2000000) (disch := first | with_reducible exact Nat.ne_of_beq_eq_false rfl | exact oneCell_int | exact oneCell_bool | omega | rfl | (simp; done) | fail) only [regs1, regs0, retK_ret, resL_tmp, upd_eq, resL_nil1, cf31, opH_sv, cf21, box_new, cells_agg, ld30, add_mk, Nat.add_zero, cell_set_self, List.getElem?_cons_zero, Option.some.injEq, Nat.zero_add, List.getElem?_cons_succ, exists_eq_left']
  intro x hx gx
  generalize e1 : Hp.set h x _ = h1
  obtain ⟨l1, d1, b1⟩ := boxed e1 hx d gx
  have cx : ∀ j, cellIn G h1 ⟨x, j, none⟩ = _ := fun j => cell_of (look_own b1)
  try simp -implicitDefEqProofs (maxSteps := 2000000) (disch := first | with_reducible exact Nat.ne_of_beq_eq_false rfl | exact oneCell_int | exact oneCell_bool | omega | rfl | (simp; done) | fail) only [opH_sv, opH_su, pureW_sv, opH_nil, pureW_nil, pick_t, pick_f, pick_tp, pick_fp, gd_tt, gd_ft, gd_tf, gd_ff, box_new, regs0, regs1, regs2, regs3, regs4, regs5, regs6, cells_agg, cells_int, cells_bool, cells_ptr, cells_slice, cells_string, cells_func, cells_nilFunc, cells_map, retK_ret, retK_normal, resL_tmp, resL_cell, resL_nil0, resL_nil1, resL_nil2, resL_nil3, resC_ptr, ex0, ex1, ex2, ex0p, ex1p, ex2p, HL.cond_true, HL.cond_false, thenK_normal, thenK_ret, thenK_exit, blockK_normal, blockK_ret, blockK_exit, scopeK_normal, scopeK_ret, scopeK_exit, wpH_pure, bin_add, bin_sub, bin_mul, bin_lss, bin_leq, bin_gtr, bin_geq, bin_quo, bin_rem, bin_quop, bin_remp, wrap_in, bin_addp, bin_subp, bin_mulp, bin_lssp, bin_leqp, bin_gtrp, bin_geqp, un_not, un_notp, un_neg, eq_int, ne_int, eq_intp, ne_intp, callV_fn, add_mk, upd_eq, upd_ne, cell_set_self, Nat.zero_add, Nat.add_zero, Option.some.injEq, exists_eq_left', List.getElem?_cons_succ, List.getElem?_cons_zero, true_and, and_true, bne_self_eq_false, beq_self_eq_true, Bool.not_true, Bool.not_false, Bool.and_true, Bool.and_self, Bool.and_false, Bool.true_and, List.length_cons, List.length_nil, ne_eq, not_false_eq_true, Nat.reduceAdd, Nat.reduceMul, if_true, if_false, oneCell_int, oneCell_bool, oneCell_ptr, oneCell_slice, oneCell_string, oneCell_func, oneCell_map, Int.toNat_natCast, List.set_cons_zero, List.set_cons_succ, Nat.lt_irrefl, Nat.zero_lt_succ, Nat.succ_lt_succ_iff, fa26_0, fa26_0p, fa26_1, fa26_1p, fa26_10, fa26_10p, fa26_11, fa26_11p, fa26_12, fa26_12p, fa26_13, fa26_13p, fa26_14, fa26_14p, fa26_2, fa26_2p, fa26_3, fa26_3p, fa26_4, fa26_4p, fa26_5, fa26_5p, fa26_6, fa26_6p, fa26_7, fa26_7p, fa26_8, fa26_8p, fa26_9, fa26_9p, fa28_0, fa28_0p, fa28_1, fa28_1p, fa30_0, fa30_0p, fa30_1, fa30_1p, fa46_0, fa46_0p, fa46_1, fa46_1p, fa46_2, fa46_2p, fa46_3, fa46_3p, fa46_4, fa46_4p, fa46_5, fa46_5p, fa46_6, fa46_6p, fa86_0, fa86_0p, fa86_1, fa86_1p, fa86_2, fa86_2p, fa95_0, fa95_0p, fa95_1, fa95_1p, ld3, ld3p, ld4, ld4p, ld22, ld22p, ld23, ld23p, ld24, ld24p, ld26, ld26p, ld28, ld28p, ld30, ld30p, ld31, ld31p, ld46, ld46p, ld47, ld47p, ld52, ld52p, ld55, ld55p, ld57, ld57p, ld95, ld95p, st3s, st4s, st22s, st23s, st24s, st26w, st28w, st30w, st46w, st47s, st55s, st95w, ix22, ix22p, ix23, ix23p, ix24, ix24p, ix47, ix47p, ix56, ix56p, ix57, ix57p, ix101, ix101p, ln22, ln22p, ln23, ln23p, ln24, ln24p, ln47, ln47p, ln56, ln56p, ln57, ln57p, al22, al26, al28, al30, al46, al47, al95, cf14, cf15, cf16, cf17, cf18, cf19, cf20, cf21, cf22, cf23, cf24, cf25, cf26, cf27, cf28, cf29, cf30, cf31, cf32, cf33, cf34, cf35, cf36, cf37, cf38, cf39, cf40, cf41, cf42, cf43, cf44, cf45, cf46, cf47, cf48, cf49, cf50, cf51, cf52, cf53, cf54, cf55, cf56, cf57, cf58, cf59, cf60, cf61, cf62, cf63, cf64, cf65, cf66, cf67, cf68, cf69, cf70, cf71, cf72, cf73, cf74, cf75, cf76, cf77, cf78, cf79, cf80, bd26_0_1_2_7_8_9_10_11_12_13_14, bd26_0_1_2_7_8_9_10_11_12_13_14p, bd28_0, bd28_0p, bd28_0_1, bd28_0_1p, bd30_, bd30_p, bd30_0_1, bd30_0_1p, bd30_0, bd30_0p, bd46_0_1_2_3_4, bd46_0_1_2_3_4p, bd46_0_3_4, bd46_0_3_4p, bd86_0_1_2, bd86_0_1_2p, bd87_0_1_2_3, bd87_0_1_2_3p, bd95_0_1, bd95_0_1p, bs22_2_0_1, bs47_1_0, bs22_1_0, bs57_6_0_1_2_3_4_5, bs24_1_0, bs22_4_0_1_2_3, bs56_11_0_1_2_3_4_5_6_7_8_9_10, bs57_11_0_1_2_3_4_5_6_7_8_9_10, eq4, eq4p, eq28, eq28p, eq30, eq30p, eq31n, eq31np, eq31s, eq31sp, eq46, eq46p, eq50n, eq50np, eq50s, eq50sp, eq67n, eq67np, eq67s, eq67sp, ne4, ne4p, ne28, ne28p, ne30, ne30p, ne31n, ne31np, ne31s, ne31sp, ne46, ne46p, cx]
  refine (cells_spec (g := g) (p := p) st hp).mono ?_
  rintro _ _ ⟨b, rfl, hb, gb, rfl⟩
  generalize e3 : Hp.set h1 b _ = h3
  obtain ⟨l3, d3, b3⟩ := boxed e3 hb d1 gb
  have L := l1.trans l3
  have cb3 : ∀ k, cellIn G h3 ⟨b, k, none⟩ = _ := fun k => cell_of (look_own b3)
  try simp -implicitDefEqProofs (maxSteps := 2000000) (disch := first | with_reducible exact Nat.ne_of_beq_eq_false rfl | exact oneCell_int | exact oneCell_bool | omega | rfl | (simp; done) | fail) only [ix22 (by decide : (0 : Int) ≤ 0) (by decide : (0 : Int) < (2 : Nat)), Int.toNat_zero, Nat.zero_mul, add_mk, Nat.add_zero, ld28, cb3, List.getElem?_cons_zero, Option.some.injEq, Nat.zero_add, List.getElem?_cons_succ, exists_eq_left']
  refine (open_spec (c := (p.x, p.y)) (s.up L d3)).mono ?_
  rintro _ _ ⟨rfl, rfl⟩
  unfold fitsW
  cases hc : openW w k f (p.x, p.y) with
  | false => simp -implicitDefEqProofs (maxSteps := 2000000) (disch := first | with_reducible exact Nat.ne_of_beq_eq_false rfl | exact oneCell_int | exact oneCell_bool | omega | rfl | (simp; done) | fail) only [pick_f, gd_ft]; exact ⟨rfl, L⟩
  | true =>
  try simp -implicitDefEqProofs (maxSteps := 2000000) (disch := first | with_reducible exact Nat.ne_of_beq_eq_false rfl | exact oneCell_int | exact oneCell_bool | omega | rfl | (simp; done) | fail) only [Bool.true_and, pick_t, gd_tt, cf31, opH_sv, ix22 (by decide : (0 : Int) ≤ 1) (by decide : (1 : Int) < (2 : Nat)), Int.toNat_one, Nat.one_mul, add_mk, Nat.zero_add, ld28, Nat.add_zero, Nat.reduceAdd, cb3, List.getElem?_cons_succ, List.getElem?_cons_zero, Option.some.injEq, exists_eq_left']
  refine (open_spec (c := east p) (s.up L d3)).mono ?_
  rintro _ _ ⟨rfl, rfl⟩
  try simp -implicitDefEqProofs (maxSteps := 2000000) (disch := first | with_reducible exact Nat.ne_of_beq_eq_false rfl | exact oneCell_int | exact oneCell_bool | omega | rfl | (simp; done) | fail) only [true_and]
  first | exact L | exact ⟨by simp, L⟩

/-- A row with one element turned. -/
theorem rows_set {α : Type} (c : Cod α) (hn : c.n = 1) {L : List α} {i : Nat} {x : α} {v : Value} (hv : c.enc x = [v]) (hi : i < L.length) : (c.rows L).set i v = c.rows (L.set i x) := by
  have h := c.rows_put (t := []) (x := x) hi
  rw [List.append_nil, List.append_nil, hn, Nat.mul_one, hv] at h
  rw [← h, putL_eq _ _ _ (by rw [c.rows_length, hn]; simp; omega)]
  rw [List.set_eq_take_append_cons_drop, if_pos (by rw [c.rows_length, hn]; omega)]
  simp

theorem rows_one_get {α : Type} (c : Cod α) (hn : c.n = 1) {L : List α} {i : Nat} {x : α} {v : Value} (hv : c.enc x = [v]) (hx : L[i]? = some x) : (c.rows L)[i]? = some v := by
  have h := c.rows_get (t := []) (j := 0) hx (by omega)
  rw [List.append_nil, hn, Nat.mul_one, Nat.add_zero, hv] at h
  exact h

/-- The grid in a piece of one's own: its head at gp, its kinds at kb. -/
structure GO (a : Hp) (gp kb : Nat) (w k : Nat) (f : Nat → Nat → Int) : Prop where
  hd : a gp = some (.cells #[.int .i64 w, .int .i64 k, .slice (some ⟨kb, 0, none⟩) (w * k) (w * k)] 86 (0, 0))
  row : a kb = some (.cells (icC.rows (gridL w k f)).toArray 3 (0, 0))
  w1 : 1 ≤ w
  w2 : w ≤ 16
  k1 : 1 ≤ k
  k2 : k ≤ 16

theorem GO.ne {a : Hp} {gp kb w k : Nat} {f : Nat → Nat → Int} (g : GO a gp kb w k f) : gp ≠ kb := fun e => by
  have h1 := g.hd
  have h2 := g.row
  rw [e, h2] at h1
  simp at h1
theorem GO.le {a h : Hp} {gp kb w k : Nat} {f : Nat → Nat → Int} (g : GO a gp kb w k f) (l : a.le h) : GO h gp kb w k f := ⟨l _ _ g.hd, l _ _ g.row, g.w1, g.w2, g.k1, g.k2⟩
theorem GO.gs {G a : Hp} {gp kb w k : Nat} {f : Nat → Nat → Int} (g : GO a gp kb w k f) : GS G a (.pointer (some ⟨gp, 0, none⟩)) w k f :=
  ⟨⟨gp, kb, rfl, fun j hj => cell_of (look_own g.hd), fun n x hx => by rw [cell_of (look_own g.row)]; exact rows_one_get icC rfl rfl hx⟩, g.w1, g.w2, g.k1, g.k2⟩
/-- One cell's kind turned. -/
theorem GO.put {a : Hp} {gp kb w k : Nat} {f : Nat → Nat → Int} (g : GO a gp kb w k f) {x y : Nat} {v : Int} (hx : x < w) (hy : y < k) :
    GO (a.set kb (.cells ((icC.rows (gridL w k f)).set (y * w + x) (.int .i64 v)).toArray 3 (0, 0))) gp kb w k (fun p q => if p = x ∧ q = y then v else f p q) := by
  refine ⟨by rw [set_other g.ne]; exact g.hd, ?_, g.w1, g.w2, g.k1, g.k2⟩
  rw [set_self, rows_set icC rfl (x := v) rfl, gridL_set hx]
  rw [gridL_length]
  have : (y + 1) * w ≤ k * w := Nat.mul_le_mul_right _ hy
  rw [Nat.succ_mul] at this
  rw [Nat.mul_comm w k]; omega

/-- A row of marks. -/
def MK (a : Hp) (mb w k : Nat) (f : Nat → Nat → Bool) : Prop := a mb = some (.cells (bcC.rows (gridL w k f)).toArray 4 (0, 0))
theorem MK.put {a : Hp} {mb w k : Nat} {f : Nat → Nat → Bool} (g : MK a mb w k f) {x y : Nat} {v : Bool} (hx : x < w) (hy : y < k) :
    MK (a.set mb (.cells ((bcC.rows (gridL w k f)).set (y * w + x) (.bool v)).toArray 4 (0, 0))) mb w k (fun p q => if p = x ∧ q = y then v else f p q) := by
  unfold MK
  rw [set_self, rows_set bcC rfl (x := v) rfl, gridL_set hx]
  rw [gridL_length]
  have : (y + 1) * w ≤ k * w := Nat.mul_le_mul_right _ hy
  rw [Nat.succ_mul] at this
  rw [Nat.mul_comm w k]; omega

theorem numI_nat {w k : Nat} {c : Cell} (hc : inW w k c = true) : numI w k c = ((c.2.toNat * w + c.1.toNat : Nat) : Int) ∧ c.1.toNat < w ∧ c.2.toNat < k ∧ c.2.toNat * w + c.1.toNat < w * k := by
  obtain ⟨a1, a2, a3, a4⟩ := inW_iff.1 hc
  refine ⟨?_, by omega, by omega, ?_⟩
  · unfold numI
    rw [if_pos hc]
    rw [Int.natCast_add, Int.natCast_mul, Int.toNat_of_nonneg a1, Int.toNat_of_nonneg a3]
  · have : (c.2.toNat + 1) * w ≤ k * w := Nat.mul_le_mul_right _ (by omega)
    rw [Nat.succ_mul] at this
    rw [Nat.mul_comm w k]; omega

/-- What lies at a cell when those of T were put down, the first nb of them blocked. -/
def kd (T : List Cell) (nb : Nat) (x y : Nat) : Int := if ((x : Int), (y : Int)) ∈ T then (if T.idxOf ((x : Int), (y : Int)) < nb then -1 else (T.idxOf ((x : Int), (y : Int)) : Int) - nb + 1) else 0
def seenT (T : List Cell) (x y : Nat) : Bool := decide (((x : Int), (y : Int)) ∈ T)

theorem kd_snoc {T : List Cell} {nb : Nat} {c : Cell} (hc : c ∉ T) (h1 : 0 ≤ c.1) (h2 : 0 ≤ c.2) : kd (T ++ [c]) nb = fun p q => if p = c.1.toNat ∧ q = c.2.toNat then (if T.length < nb then -1 else (T.length : Int) - nb + 1) else kd T nb p q := by
  funext p q
  unfold kd
  by_cases hpq : p = c.1.toNat ∧ q = c.2.toNat
  · have e : ((p : Int), (q : Int)) = c := by rw [hpq.1, hpq.2, Int.toNat_of_nonneg h1, Int.toNat_of_nonneg h2]
    rw [if_pos hpq, e, if_pos (by simp), List.idxOf_append, if_neg hc, List.idxOf_cons_self, Nat.zero_add]
  · have e : ((p : Int), (q : Int)) ≠ c := fun e => hpq (by rw [← e]; simp)
    rw [if_neg hpq]
    by_cases hm : ((p : Int), (q : Int)) ∈ T
    · rw [if_pos (by simp [hm]), if_pos hm, List.idxOf_append, if_pos hm]
    · rw [if_neg (by simp [hm, e]), if_neg hm]
theorem seen_snoc {T : List Cell} {c : Cell} (h1 : 0 ≤ c.1) (h2 : 0 ≤ c.2) : seenT (T ++ [c]) = fun p q => if p = c.1.toNat ∧ q = c.2.toNat then true else seenT T p q := by
  funext p q
  unfold seenT
  by_cases hpq : p = c.1.toNat ∧ q = c.2.toNat
  · have e : ((p : Int), (q : Int)) = c := by rw [hpq.1, hpq.2, Int.toNat_of_nonneg h1, Int.toNat_of_nonneg h2]
    rw [if_pos hpq, e]; simp
  · have e : ((p : Int), (q : Int)) ≠ c := fun e => hpq (by rw [← e]; simp)
    rw [if_neg hpq]
    simp [e]

end Go.Proofs.YtnpdploihlgcgaaDoor
