/- The way of a move: is it legal, which cells. -/
import Derived.Test.YtnpdploihlgcgaaDoorGT
set_option linter.unusedSimpArgs false
set_option linter.unusedVariables false
set_option maxRecDepth 100000
namespace Go.Proofs.YtnpdploihlgcgaaDoor
open Go Go.HL

def squareL (c : Cell) : List Cell := [(c.1, c.2), (wr (c.1 + 1), c.2), (c.1, wr (c.2 + 1)), (wr (c.1 + 1), wr (c.2 + 1))]

theorem square_spec {G h : Hp} {c : Cell} : HCalls Tryd.prog G 77 #[cellV c] h (fun u h' => ∃ ip s, u = .slice s 4 4 ∧ Slc cellC 28 ip u (squareL c) ∧ Sep [ip, h] h' ∧ Dis G h') := by
  refine HCalls.assume fun d => enter77 (by simp) ?_
  unfold S77
  simp -implicitDefEqProofs (maxSteps := 2000000) (disch := first | with_reducible exact Nat.ne_of_beq_eq_false rfl | exact oneCell_int | exact oneCell_bool | omega | rfl | (simp; done) | fail) only [regs0, retK_ret, resL_tmp, upd_eq, resL_nil1, opH_sv, box_new, cells_agg, fa28_1, add_mk, Nat.zero_add, ld3, fa28_0, Nat.add_zero, ld28, cell_set_self, List.getElem?_cons_zero, Option.some.injEq, List.getElem?_cons_succ, exists_eq_left', bin_add, bd28_0_1, bs22_4_0_1_2_3]
  intro x hx gx
  generalize e1 : Hp.set h x _ = h1
  obtain ⟨l1, d1, b1⟩ := boxed e1 hx d gx
  have cx : ∀ j, cellIn G h1 ⟨x, j, none⟩ = _ := fun j => cell_of (look_own b1)
  try simp -implicitDefEqProofs (maxSteps := 2000000) (disch := first | with_reducible exact Nat.ne_of_beq_eq_false rfl | exact oneCell_int | exact oneCell_bool | omega | rfl | (simp; done) | fail) only [opH_sv, opH_su, pureW_sv, opH_nil, pureW_nil, pick_t, pick_f, pick_tp, pick_fp, gd_tt, gd_ft, gd_tf, gd_ff, box_new, regs0, regs1, regs2, regs3, regs4, regs5, regs6, cells_agg, cells_int, cells_bool, cells_ptr, cells_slice, cells_string, cells_func, cells_nilFunc, cells_map, retK_ret, retK_normal, resL_tmp, resL_cell, resL_nil0, resL_nil1, resL_nil2, resL_nil3, resC_ptr, ex0, ex1, ex2, ex0p, ex1p, ex2p, HL.cond_true, HL.cond_false, thenK_normal, thenK_ret, thenK_exit, blockK_normal, blockK_ret, blockK_exit, scopeK_normal, scopeK_ret, scopeK_exit, wpH_pure, bin_add, bin_sub, bin_mul, bin_lss, bin_leq, bin_gtr, bin_geq, bin_quo, bin_rem, bin_quop, bin_remp, wrap_in, bin_addp, bin_subp, bin_mulp, bin_lssp, bin_leqp, bin_gtrp, bin_geqp, un_not, un_notp, un_neg, eq_int, ne_int, eq_intp, ne_intp, callV_fn, add_mk, upd_eq, upd_ne, cell_set_self, Nat.zero_add, Nat.add_zero, Option.some.injEq, exists_eq_left', List.getElem?_cons_succ, List.getElem?_cons_zero, true_and, and_true, bne_self_eq_false, beq_self_eq_true, Bool.not_true, Bool.not_false, Bool.and_true, Bool.and_self, Bool.and_false, Bool.true_and, List.length_cons, List.length_nil, ne_eq, not_false_eq_true, Nat.reduceAdd, Nat.reduceMul, if_true, if_false, oneCell_int, oneCell_bool, oneCell_ptr, oneCell_slice, oneCell_string, oneCell_func, oneCell_map, Int.toNat_natCast, List.set_cons_zero, List.set_cons_succ, Nat.lt_irrefl, Nat.zero_lt_succ, Nat.succ_lt_succ_iff, fa26_0, fa26_0p, fa26_1, fa26_1p, fa26_10, fa26_10p, fa26_11, fa26_11p, fa26_12, fa26_12p, fa26_13, fa26_13p, fa26_14, fa26_14p, fa26_2, fa26_2p, fa26_3, fa26_3p, fa26_4, fa26_4p, fa26_5, fa26_5p, fa26_6, fa26_6p, fa26_7, fa26_7p, fa26_8, fa26_8p, fa26_9, fa26_9p, fa28_0, fa28_0p, fa28_1, fa28_1p, fa30_0, fa30_0p, fa30_1, fa30_1p, fa46_0, fa46_0p, fa46_1, fa46_1p, fa46_2, fa46_2p, fa46_3, fa46_3p, fa46_4, fa46_4p, fa46_5, fa46_5p, fa46_6, fa46_6p, fa86_0, fa86_0p, fa86_1, fa86_1p, fa86_2, fa86_2p, fa95_0, fa95_0p, fa95_1, fa95_1p, ld3, ld3p, ld4, ld4p, ld22, ld22p, ld23, ld23p, ld24, ld24p, ld26, ld26p, ld28, ld28p, ld30, ld30p, ld31, ld31p, ld46, ld46p, ld47, ld47p, ld52, ld52p, ld55, ld55p, ld57, ld57p, ld95, ld95p, st3s, st4s, st22s, st23s, st24s, st26w, st28w, st30w, st46w, st47s, st55s, st95w, ix22, ix22p, ix23, ix23p, ix24, ix24p, ix47, ix47p, ix56, ix56p, ix57, ix57p, ix101, ix101p, ln22, ln22p, ln23, ln23p, ln24, ln24p, ln47, ln47p, ln56, ln56p, ln57, ln57p, al22, al26, al28, al30, al46, al47, al95, cf14, cf15, cf16, cf17, cf18, cf19, cf20, cf21, cf22, cf23, cf24, cf25, cf26, cf27, cf28, cf29, cf30, cf31, cf32, cf33, cf34, cf35, cf36, cf37, cf38, cf39, cf40, cf41, cf42, cf43, cf44, cf45, cf46, cf47, cf48, cf49, cf50, cf51, cf52, cf53, cf54, cf55, cf56, cf57, cf58, cf59, cf60, cf61, cf62, cf63, cf64, cf65, cf66, cf67, cf68, cf69, cf70, cf71, cf72, cf73, cf74, cf75, cf76, cf77, cf78, cf79, cf80, bd26_0_1_2_7_8_9_10_11_12_13_14, bd26_0_1_2_7_8_9_10_11_12_13_14p, bd28_0, bd28_0p, bd28_0_1, bd28_0_1p, bd30_, bd30_p, bd30_0_1, bd30_0_1p, bd30_0, bd30_0p, bd46_0_1_2_3_4, bd46_0_1_2_3_4p, bd46_0_3_4, bd46_0_3_4p, bd86_0_1_2, bd86_0_1_2p, bd87_0_1_2_3, bd87_0_1_2_3p, bd95_0_1, bd95_0_1p, bs22_2_0_1, bs47_1_0, bs22_1_0, bs57_6_0_1_2_3_4_5, bs24_1_0, bs22_4_0_1_2_3, bs56_11_0_1_2_3_4_5_6_7_8_9_10, bs57_11_0_1_2_3_4_5_6_7_8_9_10, eq4, eq4p, eq28, eq28p, eq30, eq30p, eq31n, eq31np, eq31s, eq31sp, eq46, eq46p, eq50n, eq50np, eq50s, eq50sp, eq67n, eq67np, eq67s, eq67sp, ne4, ne4p, ne28, ne28p, ne30, ne30p, ne31n, ne31np, ne31s, ne31sp, ne46, ne46p, cx]
  intro b hb gb
  refine ⟨noHp.set b _, some ⟨b, 0, none⟩, rfl, ⟨some b, 4, [], rfl, set_self, rfl⟩, (Sep.one.new (hb)).swap.cut l1 |>.swap, d1.set gb⟩

def stepB (w k : Nat) (f : Nat → Nat → Int) (m : Move) (i : Nat) : Bool := okS m.d i && fitsW w k f (shiftP m.f m.d i)
def turnP (p : Pose) : Pose := ⟨p.x, p.y, !p.d⟩
def wayB (w k : Nat) (f : Nat → Nat → Int) (m : Move) : Bool := fitsW w k f m.f &&
  (if m.k = 1 then decide (1 ≤ m.n) && ((List.range (m.n.toNat + 1)).all (stepB w k f m) && decide (m.t = shiftP m.f m.d m.n))
   else decide (m.d = 0 ∧ m.n = 0) && (if m.k = 2 then (squareL (m.f.x, m.f.y)).all (openW w k f) && decide (m.t = turnP m.f) else decide (m.k = 3 ∨ m.k = 4) && decide (m.t = m.f)))
def wayL (m : Move) : List Cell := if m.k = 1 then (List.range (m.n.toNat + 1)).flatMap (fun (i : Nat) => cellsP (shiftP m.f m.d i)) else if m.k = 2 then squareL (m.f.x, m.f.y) else cellsP m.f

def WayR (G h : Hp) (w k : Nat) (f : Nat → Nat → Int) (m : Move) (u : Value) (h' : Hp) : Prop :=
  ∃ ip v L, u = .tuple #[v, .bool (wayB w k f m)] ∧ Slc cellC 28 ip v L ∧ Sep [ip, h] h' ∧ Dis G h' ∧ (wayB w k f m = true → L = wayL m)

theorem WayR.no {G h h' : Hp} {w k : Nat} {f : Nat → Nat → Int} {m : Move} (l : h.le h') (d : Dis G h') (e : wayB w k f m = false) : WayR G h w k f m (.tuple #[.slice none 0 0, .bool false]) h' :=
  ⟨noHp, _, [], by rw [e], Slc.nil, (Sep.one.le l).none, d, fun q => by rw [e] at q; cases q⟩

theorem WayR.less {G h0 h h' : Hp} {w k : Nat} {f : Nat → Nat → Int} {m : Move} {u : Value} (l : h0.le h) (x : WayR G h w k f m u h') : WayR G h0 w k f m u h' := by
  obtain ⟨ip, v, L, e1, e2, s, d, e3⟩ := x
  exact ⟨ip, v, L, e1, e2, (s.swap.cut l).swap, d, e3⟩

structure MB (m : Move) : Prop where
  n : Bd m.n
  f : PB m.f

theorem pose_beq2 {p q : Pose} : ((p.x == q.x && p.y == q.y) && (p.d == q.d)) = decide (p = q) := by
  obtain ⟨a, b, c⟩ := p
  obtain ⟨a', b', c'⟩ := q
  rw [Bool.eq_iff_iff]
  simp [and_assoc]
theorem store30 {G h : Hp} {lb : Nat} {z0 z1 z2 : Value} {p : Pose} {K : Unit → Hp → Prop} (hb : h lb = some (.cells #[z0, z1, z2] 30 (0, 0))) :
    wpH Tryd.prog G (Instr.storeAt 30 (.pointer (some ⟨lb, 0, none⟩)) (poseV p)) h K = K () (h.set lb (.cells #[.int .i64 p.x, .int .i64 p.y, .bool p.d] 30 (0, 0))) := by
  conv => lhs; rw [← set_same hb]
  exact st30w

theorem gd_un {w : Bool} {X : (Value → Hp → Prop) → Prop} {h : Hp} {K : Value → Hp → Prop} : gd (wantB undef w) X h K = K undef h := by cases w <;> rfl

abbrev moveO (m : Move) : Obj := .cells #[.int .i64 m.k, .int .i64 m.d, .int .i64 m.n, .int .i64 m.f.x, .int .i64 m.f.y, .bool m.f.d, .int .i64 m.t.x, .int .i64 m.t.y, .bool m.t.d, .int .i64 m.a, .int .i64 m.e] 46 (0, 0)
def lastP (m : Move) (i : Nat) : Pose := if i = 0 then m.f else shiftP m.f m.d ((i : Int) - 1)

theorem range_all_succ {s : Nat → Bool} {i : Nat} (h : ∀ j, j < i → s j = true) (hs : s i = true) : ∀ j, j < i + 1 → s j = true := fun j hj => by
  rcases Nat.lt_succ_iff_lt_or_eq.1 hj with h1 | rfl
  · exact h j h1
  · exact hs
theorem flat_succ {α : Type} {F : Nat → List α} {i : Nat} : (List.range (i + 1)).flatMap F = (List.range i).flatMap F ++ F i := by
  rw [List.range_succ, List.flatMap_append]
  simp

theorem wayB_run {w k : Nat} {f : Nat → Nat → Int} {m : Move} (hk : m.k = 1) : wayB w k f m = (fitsW w k f m.f && (decide (1 ≤ m.n) && ((List.range (m.n.toNat + 1)).all (stepB w k f m) && decide (m.t = shiftP m.f m.d m.n)))) := by
  unfold wayB
  rw [if_pos hk]

set_option maxHeartbeats 4000000 in
theorem way_run {G h h1 h0 : Hp} {x lb w k : Nat} {g : Value} {f : Nat → Nat → Int} {m : Move} {r : Rg} (gs : GS G h1 g w k f) (st : Steps G) (nb : Bd m.n) (hf : fitsW w k f m.f = true) (hk : m.k = 1)
    (bx : h1 x = some (moveO m)) (g0 : r 0 = g) (g3 : r 3 = .pointer (some ⟨x, 0, none⟩)) (g6 : r 6 = .slice none 0 0) (g7 : r 7 = .pointer (some ⟨lb, 0, none⟩)) (g8 : r 8 = .int .i64 0)
    (s : Sep [noHp.set lb (.cells #[.int .i64 m.f.x, .int .i64 m.f.y, .bool m.f.d] 30 (0, 0)), h1] h) (d : Dis G h) (l0 : h0.le h1) :
    loopP (S63_l5 G) r h (blockK 1 (thenK (S63_k4 G (retK Tryd.prog G [.tmp 4, .tmp 5] (WayR G h0 w k f m))) (blockK 0 (thenK (S63_k3 G (retK Tryd.prog G [.tmp 4, .tmp 5] (WayR G h0 w k f m))) (retK Tryd.prog G [.tmp 4, .tmp 5] (WayR G h0 w k f m)))))) := by
  refine loop_I (fun mm r2 h3 => ∃ (i : Nat) (ip : Hp) (sv : Value), mm = 18 - i ∧ i ≤ 17 ∧ (m.n < 0 → i = 0) ∧ (0 ≤ m.n → (i : Int) ≤ m.n + 1) ∧ r2 0 = g ∧ r2 3 = .pointer (some ⟨x, 0, none⟩) ∧ r2 7 = .pointer (some ⟨lb, 0, none⟩) ∧ r2 8 = .int .i64 i ∧ r2 6 = sv ∧
     Slc cellC 28 ip sv ((List.range i).flatMap fun (j : Nat) => cellsP (shiftP m.f m.d j)) ∧ Sep [ip, noHp.set lb (.cells #[.int .i64 (lastP m i).x, .int .i64 (lastP m i).y, .bool (lastP m i).d] 30 (0, 0)), h1] h3 ∧ Dis G h3 ∧ (∀ j, j < i → stepB w k f m j = true)) ?_
    (m := 18) ⟨0, noHp, _, rfl, by decide, fun _ => rfl, fun h => by simp; omega, g0, g3, g7, g8, g6, Slc.nil, by simpa [lastP] using s.none, d, by simp⟩
  rintro mm r2 h3 ⟨i, ip, sv, rfl, hi, hneg, hpos, q0, q3, q7, q8, q6, o, s3, d3, hs⟩ X HX
  have bx3 := s3.at 2 rfl bx
  have cx : ∀ j, cellIn G h3 ⟨x, j, none⟩ = _ := fun j => cell_of (look_own bx3)
  unfold S63_l5
  simp -implicitDefEqProofs (maxSteps := 2000000) (disch := first | with_reducible exact Nat.ne_of_beq_eq_false rfl | exact oneCell_int | exact oneCell_bool | omega | rfl | (simp; done) | fail) only [q3, q8, thenK_exit, blockK_exit, thenK_normal, if_true, opH_sv, fa46_2, add_mk, Nat.zero_add, ld3, cx, List.getElem?_cons_succ, List.getElem?_cons_zero, Option.some.injEq, exists_eq_left', bin_leq]
  refine cond_dec (fun hle => ?_) (fun hgt => ?_)
  rotate_left
  · -- the end
    try simp -implicitDefEqProofs (maxSteps := 2000000) (disch := first | with_reducible exact Nat.ne_of_beq_eq_false rfl | exact oneCell_int | exact oneCell_bool | omega | rfl | (simp; done) | fail) only [opH_sv, opH_su, pureW_sv, opH_nil, pureW_nil, pick_t, pick_f, pick_tp, pick_fp, gd_tt, gd_ft, gd_tf, gd_ff, box_new, regs0, regs1, regs2, regs3, regs4, regs5, regs6, cells_agg, cells_int, cells_bool, cells_ptr, cells_slice, cells_string, cells_func, cells_nilFunc, cells_map, retK_ret, retK_normal, resL_tmp, resL_cell, resL_nil0, resL_nil1, resL_nil2, resL_nil3, resC_ptr, ex0, ex1, ex2, ex0p, ex1p, ex2p, HL.cond_true, HL.cond_false, thenK_normal, thenK_ret, thenK_exit, blockK_normal, blockK_ret, blockK_exit, scopeK_normal, scopeK_ret, scopeK_exit, wpH_pure, bin_add, bin_sub, bin_mul, bin_lss, bin_leq, bin_gtr, bin_geq, bin_quo, bin_rem, bin_quop, bin_remp, wrap_in, bin_addp, bin_subp, bin_mulp, bin_lssp, bin_leqp, bin_gtrp, bin_geqp, un_not, un_notp, un_neg, eq_int, ne_int, eq_intp, ne_intp, callV_fn, add_mk, upd_eq, upd_ne, cell_set_self, Nat.zero_add, Nat.add_zero, Option.some.injEq, exists_eq_left', List.getElem?_cons_succ, List.getElem?_cons_zero, true_and, and_true, bne_self_eq_false, beq_self_eq_true, Bool.not_true, Bool.not_false, Bool.and_true, Bool.and_self, Bool.and_false, Bool.true_and, List.length_cons, List.length_nil, ne_eq, not_false_eq_true, Nat.reduceAdd, Nat.reduceMul, if_true, if_false, oneCell_int, oneCell_bool, oneCell_ptr, oneCell_slice, oneCell_string, oneCell_func, oneCell_map, Int.toNat_natCast, List.set_cons_zero, List.set_cons_succ, Nat.lt_irrefl, Nat.zero_lt_succ, Nat.succ_lt_succ_iff, fa26_0, fa26_0p, fa26_1, fa26_1p, fa26_10, fa26_10p, fa26_11, fa26_11p, fa26_12, fa26_12p, fa26_13, fa26_13p, fa26_14, fa26_14p, fa26_2, fa26_2p, fa26_3, fa26_3p, fa26_4, fa26_4p, fa26_5, fa26_5p, fa26_6, fa26_6p, fa26_7, fa26_7p, fa26_8, fa26_8p, fa26_9, fa26_9p, fa28_0, fa28_0p, fa28_1, fa28_1p, fa30_0, fa30_0p, fa30_1, fa30_1p, fa46_0, fa46_0p, fa46_1, fa46_1p, fa46_2, fa46_2p, fa46_3, fa46_3p, fa46_4, fa46_4p, fa46_5, fa46_5p, fa46_6, fa46_6p, fa86_0, fa86_0p, fa86_1, fa86_1p, fa86_2, fa86_2p, fa95_0, fa95_0p, fa95_1, fa95_1p, ld3, ld3p, ld4, ld4p, ld22, ld22p, ld23, ld23p, ld24, ld24p, ld26, ld26p, ld28, ld28p, ld30, ld30p, ld31, ld31p, ld46, ld46p, ld47, ld47p, ld52, ld52p, ld55, ld55p, ld57, ld57p, ld95, ld95p, st3s, st4s, st22s, st23s, st24s, st26w, st28w, st30w, st46w, st47s, st55s, st95w, ix22, ix22p, ix23, ix23p, ix24, ix24p, ix47, ix47p, ix56, ix56p, ix57, ix57p, ix101, ix101p, ln22, ln22p, ln23, ln23p, ln24, ln24p, ln47, ln47p, ln56, ln56p, ln57, ln57p, al22, al26, al28, al30, al46, al47, al95, cf14, cf15, cf16, cf17, cf18, cf19, cf20, cf21, cf22, cf23, cf24, cf25, cf26, cf27, cf28, cf29, cf30, cf31, cf32, cf33, cf34, cf35, cf36, cf37, cf38, cf39, cf40, cf41, cf42, cf43, cf44, cf45, cf46, cf47, cf48, cf49, cf50, cf51, cf52, cf53, cf54, cf55, cf56, cf57, cf58, cf59, cf60, cf61, cf62, cf63, cf64, cf65, cf66, cf67, cf68, cf69, cf70, cf71, cf72, cf73, cf74, cf75, cf76, cf77, cf78, cf79, cf80, bd26_0_1_2_7_8_9_10_11_12_13_14, bd26_0_1_2_7_8_9_10_11_12_13_14p, bd28_0, bd28_0p, bd28_0_1, bd28_0_1p, bd30_, bd30_p, bd30_0_1, bd30_0_1p, bd30_0, bd30_0p, bd46_0_1_2_3_4, bd46_0_1_2_3_4p, bd46_0_3_4, bd46_0_3_4p, bd86_0_1_2, bd86_0_1_2p, bd87_0_1_2_3, bd87_0_1_2_3p, bd95_0_1, bd95_0_1p, bs22_2_0_1, bs47_1_0, bs22_1_0, bs57_6_0_1_2_3_4_5, bs24_1_0, bs22_4_0_1_2_3, bs56_11_0_1_2_3_4_5_6_7_8_9_10, bs57_11_0_1_2_3_4_5_6_7_8_9_10, eq4, eq4p, eq28, eq28p, eq30, eq30p, eq31n, eq31np, eq31s, eq31sp, eq46, eq46p, eq50n, eq50np, eq50s, eq50sp, eq67n, eq67np, eq67s, eq67sp, ne4, ne4p, ne28, ne28p, ne30, ne30p, ne31n, ne31np, ne31s, ne31sp, ne46, ne46p]
    unfold S63_k4
    have cl : ∀ j, cellIn G h3 ⟨lb, j, none⟩ = _ := fun j => cell_of (look_own (s3.at 1 rfl set_self))
    try simp -implicitDefEqProofs (maxSteps := 2000000) (disch := first | with_reducible exact Nat.ne_of_beq_eq_false rfl | exact oneCell_int | exact oneCell_bool | omega | rfl | (simp; done) | fail) only [upd_ne, q3, q7, retK_ret, resL_tmp, upd_eq, resL_nil2, pureW_sv, fa46_2p, add_mk, Nat.zero_add, ld3p, cx, List.getElem?_cons_succ, List.getElem?_cons_zero, Option.some.injEq, exists_eq_left', bin_geqp]
    by_cases h1n : 1 ≤ m.n
    · have e1 : decide (m.n ≥ 1) = true := decide_eq_true h1n
      have hin : (i : Int) = m.n + 1 := by have := hpos (by omega); omega
      have elast : lastP m i = shiftP m.f m.d m.n := by
        unfold lastP
        rw [if_neg (by omega), show (i : Int) - 1 = m.n by omega]
      have eall : (List.range (m.n.toNat + 1)).all (stepB w k f m) = true := by
        rw [List.all_eq_true]
        intro j hj
        exact hs j (by have := List.mem_range.1 hj; omega)
      try simp -implicitDefEqProofs (maxSteps := 2000000) (disch := first | with_reducible exact Nat.ne_of_beq_eq_false rfl | exact oneCell_int | exact oneCell_bool | omega | rfl | (simp; done) | fail) only [e1, q6, pick_tp, gd_tt, pureW_sv, ld30p, add_mk, Nat.add_zero, cl, List.getElem?_cons_zero, Option.some.injEq, Nat.zero_add, List.getElem?_cons_succ, exists_eq_left', fa46_4p, cx, Nat.reduceAdd, eq30p, Bool.and_true, pose_beq2]
      rw [elast]
      have ew : wayB w k f m = decide (m.t = shiftP m.f m.d m.n) := by
        rw [wayB_run hk, hf, eall, decide_eq_true h1n]
        simp
      refine WayR.less l0 ⟨ip, sv, _, ?_, o, (s3.pick 1 rfl rfl).drop, d3, fun _ => ?_⟩
      · rw [ew]
      · unfold wayL
        rw [if_pos hk, show m.n.toNat + 1 = i by omega]
    · have e1 : decide (m.n ≥ 1) = false := decide_eq_false (by omega)
      try simp -implicitDefEqProofs (maxSteps := 2000000) (disch := first | with_reducible exact Nat.ne_of_beq_eq_false rfl | exact oneCell_int | exact oneCell_bool | omega | rfl | (simp; done) | fail) only [e1, q6, pick_fp, gd_ft]
      have ew : wayB w k f m = false := by
        rw [wayB_run hk, decide_eq_false (show ¬ 1 ≤ m.n from h1n)]
        simp
      refine WayR.less l0 ⟨ip, sv, _, by rw [ew], o, (s3.pick 1 rfl rfl).drop, d3, fun q => by rw [ew] at q; cases q⟩
  unfold S63_l5_k6
  try simp -implicitDefEqProofs (maxSteps := 2000000) (disch := first | with_reducible exact Nat.ne_of_beq_eq_false rfl | exact oneCell_int | exact oneCell_bool | omega | rfl | (simp; done) | fail) only [upd_ne, q3, q0, q8, thenK_ret, blockK_ret, retK_ret, resL_tmp, upd_eq, resL_nil2, opH_sv, opH_su, al30, cf18, fa46_1, add_mk, Nat.zero_add, ld3, fa46_3, ld30, Nat.add_zero, cx, List.getElem?_cons_succ, List.getElem?_cons_zero, Option.some.injEq, Nat.reduceAdd, exists_eq_left']
  refine (shift_spec (p := m.f) (dir := m.d) (n := (i : Int)) st).mono ?_
  rintro _ h3 ⟨rfl, rfl⟩
  try simp -implicitDefEqProofs (maxSteps := 2000000) (disch := first | with_reducible exact Nat.ne_of_beq_eq_false rfl | exact oneCell_int | exact oneCell_bool | omega | rfl | (simp; done) | fail) only [ex1, un_not, ex0, st30w]
  intro y hy gy
  have s4 := s3.past (o := .cells #[.int .i64 (shiftA m.f m.d i).x, .int .i64 (shiftA m.f m.d i).y, .bool (shiftA m.f m.d i).d] 30 (0, 0)) hy
  have hy4 : (h3.set y (.cells #[.int .i64 (shiftA m.f m.d i).x, .int .i64 (shiftA m.f m.d i).y, .bool (shiftA m.f m.d i).d] 30 (0, 0))) y = some (.cells #[.int .i64 (shiftA m.f m.d i).x, .int .i64 (shiftA m.f m.d i).y, .bool (shiftA m.f m.d i).d] 30 (0, 0)) := set_self
  have sg := (s3.pick 2 rfl rfl).grow (o := .cells #[.int .i64 (shiftA m.f m.d i).x, .int .i64 (shiftA m.f m.d i).y, .bool (shiftA m.f m.d i).d] 30 (0, 0)) hy
  have d4 := d3.set (o := .cells #[.int .i64 (shiftA m.f m.d i).x, .int .i64 (shiftA m.f m.d i).y, .bool (shiftA m.f m.d i).d] 30 (0, 0)) gy
  generalize Hp.set h3 y _ = h4 at s4 hy4 d4 sg ⊢
  have hin : stepB w k f m i = false → 0 ≤ m.n → wayB w k f m = false := fun e h0 => by
    rw [wayB_run hk]
    have : (List.range (m.n.toNat + 1)).all (stepB w k f m) = false := by
      rw [List.all_eq_false]
      exact ⟨i, List.mem_range.2 (by omega), by simp [e]⟩
    rw [this]
    simp
  have h0n : 0 ≤ m.n := by omega
  have cy : ∀ j, cellIn G h4 ⟨y, j, none⟩ = _ := fun j => cell_of (look_own hy4)
  cases hok : okS m.d i with
  | false =>
    try simp -implicitDefEqProofs (maxSteps := 2000000) (disch := first | with_reducible exact Nat.ne_of_beq_eq_false rfl | exact oneCell_int | exact oneCell_bool | omega | rfl | (simp; done) | fail) only [Bool.not_false, pick_t, HL.cond_true, gd_tf]
    exact WayR.less l0 <| WayR.no (s4.in 2 rfl) d4 (hin (by unfold stepB; rw [hok]; rfl) h0n)
  | true =>
  have hi16 : i ≤ 16 := by
    unfold okS at hok
    rw [Bool.and_eq_true] at hok
    have := (withinB_iff.1 hok.1).2
    omega
  have esh : shiftA m.f m.d i = shiftP m.f m.d i := by unfold shiftA; rw [if_pos hok]
  rw [esh] at cy hy4 sg
  try simp -implicitDefEqProofs (maxSteps := 2000000) (disch := first | with_reducible exact Nat.ne_of_beq_eq_false rfl | exact oneCell_int | exact oneCell_bool | omega | rfl | (simp; done) | fail) only [Bool.not_true, pick_f, gd_ff, opH_sv, cf23, ld30, add_mk, Nat.add_zero, Nat.zero_add, cy, List.getElem?_cons_zero, Option.some.injEq, List.getElem?_cons_succ, exists_eq_left']
  refine (fits_spec (p := shiftP m.f m.d i) (gs.up (s4.in 2 rfl) d4) st shiftP_bd).mono ?_
  rintro _ h4 ⟨rfl, rfl⟩
  cases hfi : fitsW w k f (shiftP m.f m.d i) with
  | false =>
    try simp -implicitDefEqProofs (maxSteps := 2000000) (disch := first | with_reducible exact Nat.ne_of_beq_eq_false rfl | exact oneCell_int | exact oneCell_bool | omega | rfl | (simp; done) | fail) only [un_not, Bool.not_false, HL.cond_true]
    exact WayR.less l0 <| WayR.no (s4.in 2 rfl) d4 (hin (by unfold stepB; rw [hok, hfi]; rfl) h0n)
  | true =>
  try simp -implicitDefEqProofs (maxSteps := 2000000) (disch := first | with_reducible exact Nat.ne_of_beq_eq_false rfl | exact oneCell_int | exact oneCell_bool | omega | rfl | (simp; done) | fail) only [un_not, Bool.not_true, HL.cond_false]
  unfold S63_l5_k8
  try simp -implicitDefEqProofs (maxSteps := 2000000) (disch := first | with_reducible exact Nat.ne_of_beq_eq_false rfl | exact oneCell_int | exact oneCell_bool | omega | rfl | (simp; done) | fail) only [upd_ne, upd_eq, q0, q6, opH_su, opH_sv, ld30, add_mk, Nat.add_zero, Nat.zero_add, cf21, cy, List.getElem?_cons_zero, Option.some.injEq, List.getElem?_cons_succ, exists_eq_left']
  refine (cells_spec (g := g) (p := shiftP m.f m.d i) st shiftP_bd).mono ?_
  rintro _ _ ⟨b, rfl, hb, gb, rfl⟩
  generalize e5 : Hp.set h4 b _ = h5
  obtain ⟨l5, d5, b5⟩ := boxed e5 hb d4 gb
  have s5 := (sg.le l5).pick 1 rfl rfl
  have hlen : ((List.range i).flatMap fun (j : Nat) => cellsP (shiftP m.f m.d j)).length = 2 * i := by
    rw [List.length_flatMap, show (fun (j : Nat) => (cellsP (shiftP m.f m.d j)).length) = fun _ => 2 from rfl, List.map_const', List.sum_replicate_nat, List.length_range, Nat.mul_comm]
  try simp -implicitDefEqProofs (maxSteps := 2000000) (disch := first | with_reducible exact Nat.ne_of_beq_eq_false rfl | exact oneCell_int | exact oneCell_bool | omega | rfl | (simp; done) | fail) only [opH_sv, opH_su, pureW_sv, opH_nil, pureW_nil, pick_t, pick_f, pick_tp, pick_fp, gd_tt, gd_ft, gd_tf, gd_ff, box_new, regs0, regs1, regs2, regs3, regs4, regs5, regs6, cells_agg, cells_int, cells_bool, cells_ptr, cells_slice, cells_string, cells_func, cells_nilFunc, cells_map, retK_ret, retK_normal, resL_tmp, resL_cell, resL_nil0, resL_nil1, resL_nil2, resL_nil3, resC_ptr, ex0, ex1, ex2, ex0p, ex1p, ex2p, HL.cond_true, HL.cond_false, thenK_normal, thenK_ret, thenK_exit, blockK_normal, blockK_ret, blockK_exit, scopeK_normal, scopeK_ret, scopeK_exit, wpH_pure, bin_add, bin_sub, bin_mul, bin_lss, bin_leq, bin_gtr, bin_geq, bin_quo, bin_rem, bin_quop, bin_remp, wrap_in, bin_addp, bin_subp, bin_mulp, bin_lssp, bin_leqp, bin_gtrp, bin_geqp, un_not, un_notp, un_neg, eq_int, ne_int, eq_intp, ne_intp, callV_fn, add_mk, upd_eq, upd_ne, cell_set_self, Nat.zero_add, Nat.add_zero, Option.some.injEq, exists_eq_left', List.getElem?_cons_succ, List.getElem?_cons_zero, true_and, and_true, bne_self_eq_false, beq_self_eq_true, Bool.not_true, Bool.not_false, Bool.and_true, Bool.and_self, Bool.and_false, Bool.true_and, List.length_cons, List.length_nil, ne_eq, not_false_eq_true, Nat.reduceAdd, Nat.reduceMul, if_true, if_false, oneCell_int, oneCell_bool, oneCell_ptr, oneCell_slice, oneCell_string, oneCell_func, oneCell_map, Int.toNat_natCast, List.set_cons_zero, List.set_cons_succ, Nat.lt_irrefl, Nat.zero_lt_succ, Nat.succ_lt_succ_iff, fa26_0, fa26_0p, fa26_1, fa26_1p, fa26_10, fa26_10p, fa26_11, fa26_11p, fa26_12, fa26_12p, fa26_13, fa26_13p, fa26_14, fa26_14p, fa26_2, fa26_2p, fa26_3, fa26_3p, fa26_4, fa26_4p, fa26_5, fa26_5p, fa26_6, fa26_6p, fa26_7, fa26_7p, fa26_8, fa26_8p, fa26_9, fa26_9p, fa28_0, fa28_0p, fa28_1, fa28_1p, fa30_0, fa30_0p, fa30_1, fa30_1p, fa46_0, fa46_0p, fa46_1, fa46_1p, fa46_2, fa46_2p, fa46_3, fa46_3p, fa46_4, fa46_4p, fa46_5, fa46_5p, fa46_6, fa46_6p, fa86_0, fa86_0p, fa86_1, fa86_1p, fa86_2, fa86_2p, fa95_0, fa95_0p, fa95_1, fa95_1p, ld3, ld3p, ld4, ld4p, ld22, ld22p, ld23, ld23p, ld24, ld24p, ld26, ld26p, ld28, ld28p, ld30, ld30p, ld31, ld31p, ld46, ld46p, ld47, ld47p, ld52, ld52p, ld55, ld55p, ld57, ld57p, ld95, ld95p, st3s, st4s, st22s, st23s, st24s, st26w, st28w, st30w, st46w, st47s, st55s, st95w, ix22, ix22p, ix23, ix23p, ix24, ix24p, ix47, ix47p, ix56, ix56p, ix57, ix57p, ix101, ix101p, ln22, ln22p, ln23, ln23p, ln24, ln24p, ln47, ln47p, ln56, ln56p, ln57, ln57p, al22, al26, al28, al30, al46, al47, al95, cf14, cf15, cf16, cf17, cf18, cf19, cf20, cf21, cf22, cf23, cf24, cf25, cf26, cf27, cf28, cf29, cf30, cf31, cf32, cf33, cf34, cf35, cf36, cf37, cf38, cf39, cf40, cf41, cf42, cf43, cf44, cf45, cf46, cf47, cf48, cf49, cf50, cf51, cf52, cf53, cf54, cf55, cf56, cf57, cf58, cf59, cf60, cf61, cf62, cf63, cf64, cf65, cf66, cf67, cf68, cf69, cf70, cf71, cf72, cf73, cf74, cf75, cf76, cf77, cf78, cf79, cf80, bd26_0_1_2_7_8_9_10_11_12_13_14, bd26_0_1_2_7_8_9_10_11_12_13_14p, bd28_0, bd28_0p, bd28_0_1, bd28_0_1p, bd30_, bd30_p, bd30_0_1, bd30_0_1p, bd30_0, bd30_0p, bd46_0_1_2_3_4, bd46_0_1_2_3_4p, bd46_0_3_4, bd46_0_3_4p, bd86_0_1_2, bd86_0_1_2p, bd87_0_1_2_3, bd87_0_1_2_3p, bd95_0_1, bd95_0_1p, bs22_2_0_1, bs47_1_0, bs22_1_0, bs57_6_0_1_2_3_4_5, bs24_1_0, bs22_4_0_1_2_3, bs56_11_0_1_2_3_4_5_6_7_8_9_10, bs57_11_0_1_2_3_4_5_6_7_8_9_10, eq4, eq4p, eq28, eq28p, eq30, eq30p, eq31n, eq31np, eq31s, eq31sp, eq46, eq46p, eq50n, eq50np, eq50s, eq50sp, eq67n, eq67np, eq67s, eq67sp, ne4, ne4p, ne28, ne28p, ne30, ne30p, ne31n, ne31np, ne31s, ne31sp, ne46, ne46p]
  refine append_piece cellC (by decide) un22 eocell (by decide) (by decide) (M := cellsP (shiftP m.f m.d i)) s5 d5 o (Sees.row b5 rfl (Nat.le_refl _)) (by rw [hlen, show (cellsP (shiftP m.f m.d i)).length = 2 from rfl]; omega) fun v' a' h6 o' s6 d6 => ?_
  have cy6 : ∀ j, cellIn G h6 ⟨y, j, none⟩ = _ := fun j => cell_of (look_own (s6.at 1 rfl set_self))
  have hlb6 := s6.at 2 rfl set_self
  try simp -implicitDefEqProofs (maxSteps := 2000000) (disch := first | with_reducible exact Nat.ne_of_beq_eq_false rfl | exact oneCell_int | exact oneCell_bool | omega | rfl | (simp; done) | fail) only [cy6, List.getElem?_cons_zero, Option.some.injEq, List.getElem?_cons_succ, q7, exists_eq_left']
  rw [store30 (p := shiftP m.f m.d i) hlb6]
  have hy1 : h1 y = none := (s3.in 2 rfl).none hy
  have s7 := ((s6.pick 2 rfl rfl).put (o := .cells #[.int .i64 (shiftP m.f m.d i).x, .int .i64 (shiftP m.f m.d i).y, .bool (shiftP m.f m.d i).d] 30 (0, 0)) set_self)
  rw [set_set] at s7
  have s8 := ((s7.pick 2 rfl rfl).cut (le_set hy1))
  have s9 := (s8.pick 1 rfl rfl).pick 2 rfl rfl
  have d9 : Dis G (h6.set lb (.cells #[.int .i64 (shiftP m.f m.d i).x, .int .i64 (shiftP m.f m.d i).y, .bool (shiftP m.f m.d i).d] 30 (0, 0))) := d6.set (d6 _ _ hlb6)
  unfold S63_l5_k7
  try simp -implicitDefEqProofs (maxSteps := 2000000) (disch := first | with_reducible exact Nat.ne_of_beq_eq_false rfl | exact oneCell_int | exact oneCell_bool | omega | rfl | (simp; done) | fail) only [upd_ne, q8, thenK_normal, opH_sv, bin_add, wrap_in]
  have el : lastP m (i + 1) = shiftP m.f m.d i := by
    unfold lastP
    rw [if_neg (by omega), show ((i + 1 : Nat) : Int) - 1 = i by omega]
  refine HX (18 - (i + 1)) _ _ (by omega) ⟨i + 1, a', v', rfl, by omega, fun h => absurd h (by omega), fun h => by omega, by simp -implicitDefEqProofs (maxSteps := 2000000) (disch := first | with_reducible exact Nat.ne_of_beq_eq_false rfl | exact oneCell_int | exact oneCell_bool | omega | rfl | (simp; done) | fail) only [upd_ne, q0], by simp -implicitDefEqProofs (maxSteps := 2000000) (disch := first | with_reducible exact Nat.ne_of_beq_eq_false rfl | exact oneCell_int | exact oneCell_bool | omega | rfl | (simp; done) | fail) only [upd_ne, q3], by simp -implicitDefEqProofs (maxSteps := 2000000) (disch := first | with_reducible exact Nat.ne_of_beq_eq_false rfl | exact oneCell_int | exact oneCell_bool | omega | rfl | (simp; done) | fail) only [upd_ne, q7], by simp -implicitDefEqProofs (maxSteps := 2000000) (disch := first | with_reducible exact Nat.ne_of_beq_eq_false rfl | exact oneCell_int | exact oneCell_bool | omega | rfl | (simp; done) | fail) only [upd_eq] <;> rfl, by simp -implicitDefEqProofs (maxSteps := 2000000) (disch := first | with_reducible exact Nat.ne_of_beq_eq_false rfl | exact oneCell_int | exact oneCell_bool | omega | rfl | (simp; done) | fail) only [upd_ne, upd_eq], ?_, ?_, d9, range_all_succ hs (by unfold stepB; rw [hok, hfi]; rfl)⟩
  · rw [flat_succ]
    exact o'
  · rw [el]
    exact s9

theorem wayB_turn {w k : Nat} {f : Nat → Nat → Int} {m : Move} (hf : fitsW w k f m.f = true) (hk : m.k = 2) (hz : m.d = 0 ∧ m.n = 0) : wayB w k f m = ((squareL (m.f.x, m.f.y)).all (openW w k f) && decide (m.t = turnP m.f)) := by
  unfold wayB
  rw [if_neg (by omega), if_pos hk, hf, decide_eq_true hz]
  simp
theorem wayB_else {w k : Nat} {f : Nat → Nat → Int} {m : Move} (hf : fitsW w k f m.f = true) (hk1 : m.k ≠ 1) (hk : m.k ≠ 2) (hz : m.d = 0 ∧ m.n = 0) : wayB w k f m = (decide (m.k = 3 ∨ m.k = 4) && decide (m.t = m.f)) := by
  unfold wayB
  rw [if_neg hk1, if_neg hk, hf, decide_eq_true hz]
  simp

set_option maxHeartbeats 4000000 in
theorem way_turn {G h h1 h0 ip : Hp} {x w k : Nat} {g sv : Value} {f : Nat → Nat → Int} {m : Move} {r : Rg} (gs : GS G h1 g w k f) (hf : fitsW w k f m.f = true) (hk : m.k = 2) (hz : m.d = 0 ∧ m.n = 0)
    (bx : h1 x = some (moveO m)) (g0 : r 0 = g) (g3 : r 3 = .pointer (some ⟨x, 0, none⟩)) (g11 : r 11 = sv) (g84 : r 84 = sv) (g85 : r 85 = .int .i64 4) (g86 : r 86 = .int .i64 0)
    (o : Slc cellC 28 ip sv (squareL (m.f.x, m.f.y))) (s : Sep [ip, h1] h) (d : Dis G h) (l0 : h0.le h1) :
    loopP (S63_l10 G) r h (blockK 3 (thenK (S63_k9 G (retK Tryd.prog G [.tmp 4, .tmp 5] (WayR G h0 w k f m))) (blockK 0 (thenK (S63_k3 G (retK Tryd.prog G [.tmp 4, .tmp 5] (WayR G h0 w k f m))) (retK Tryd.prog G [.tmp 4, .tmp 5] (WayR G h0 w k f m)))))) := by
  obtain ⟨sa, cap, rfl, hcap⟩ := o.len (by decide)
  refine loop_I (fun mm r2 h3 => ∃ (i : Nat), mm = 4 - i ∧ i ≤ 4 ∧ r2 0 = g ∧ r2 3 = .pointer (some ⟨x, 0, none⟩) ∧ r2 11 = r 11 ∧ r2 84 = r 84 ∧ r2 85 = .int .i64 4 ∧ r2 86 = .int .i64 i ∧ Sep [ip, h1] h3 ∧ Dis G h3 ∧ ((squareL (m.f.x, m.f.y)).take i).all (openW w k f) = true) ?_
    (m := 4) ⟨0, rfl, by decide, g0, g3, rfl, rfl, g85, g86, s, d, by simp⟩
  rintro mm r2 h3 ⟨i, rfl, hi, q0, q3, q11, q84, q85, q86, s3, d3, hs⟩ X HX
  rw [g11] at q11
  rw [g84] at q84
  have bx3 := s3.at 1 rfl bx
  have cx : ∀ j, cellIn G h3 ⟨x, j, none⟩ = _ := fun j => cell_of (look_own bx3)
  unfold S63_l10
  simp -implicitDefEqProofs (maxSteps := 2000000) (disch := first | with_reducible exact Nat.ne_of_beq_eq_false rfl | exact oneCell_int | exact oneCell_bool | omega | rfl | (simp; done) | fail) only [q86, q85, thenK_exit, blockK_exit, thenK_normal, if_true, opH_sv, bin_lss]
  refine cond_dec (fun hlt => ?_) (fun hge => ?_)
  rotate_left
  · obtain rfl : i = 4 := by omega
    try simp -implicitDefEqProofs (maxSteps := 2000000) (disch := first | with_reducible exact Nat.ne_of_beq_eq_false rfl | exact oneCell_int | exact oneCell_bool | omega | rfl | (simp; done) | fail) only [opH_sv, opH_su, pureW_sv, opH_nil, pureW_nil, pick_t, pick_f, pick_tp, pick_fp, gd_tt, gd_ft, gd_tf, gd_ff, box_new, regs0, regs1, regs2, regs3, regs4, regs5, regs6, cells_agg, cells_int, cells_bool, cells_ptr, cells_slice, cells_string, cells_func, cells_nilFunc, cells_map, retK_ret, retK_normal, resL_tmp, resL_cell, resL_nil0, resL_nil1, resL_nil2, resL_nil3, resC_ptr, ex0, ex1, ex2, ex0p, ex1p, ex2p, HL.cond_true, HL.cond_false, thenK_normal, thenK_ret, thenK_exit, blockK_normal, blockK_ret, blockK_exit, scopeK_normal, scopeK_ret, scopeK_exit, wpH_pure, bin_add, bin_sub, bin_mul, bin_lss, bin_leq, bin_gtr, bin_geq, bin_quo, bin_rem, bin_quop, bin_remp, wrap_in, bin_addp, bin_subp, bin_mulp, bin_lssp, bin_leqp, bin_gtrp, bin_geqp, un_not, un_notp, un_neg, eq_int, ne_int, eq_intp, ne_intp, callV_fn, add_mk, upd_eq, upd_ne, cell_set_self, Nat.zero_add, Nat.add_zero, Option.some.injEq, exists_eq_left', List.getElem?_cons_succ, List.getElem?_cons_zero, true_and, and_true, bne_self_eq_false, beq_self_eq_true, Bool.not_true, Bool.not_false, Bool.and_true, Bool.and_self, Bool.and_false, Bool.true_and, List.length_cons, List.length_nil, ne_eq, not_false_eq_true, Nat.reduceAdd, Nat.reduceMul, if_true, if_false, oneCell_int, oneCell_bool, oneCell_ptr, oneCell_slice, oneCell_string, oneCell_func, oneCell_map, Int.toNat_natCast, List.set_cons_zero, List.set_cons_succ, Nat.lt_irrefl, Nat.zero_lt_succ, Nat.succ_lt_succ_iff, fa26_0, fa26_0p, fa26_1, fa26_1p, fa26_10, fa26_10p, fa26_11, fa26_11p, fa26_12, fa26_12p, fa26_13, fa26_13p, fa26_14, fa26_14p, fa26_2, fa26_2p, fa26_3, fa26_3p, fa26_4, fa26_4p, fa26_5, fa26_5p, fa26_6, fa26_6p, fa26_7, fa26_7p, fa26_8, fa26_8p, fa26_9, fa26_9p, fa28_0, fa28_0p, fa28_1, fa28_1p, fa30_0, fa30_0p, fa30_1, fa30_1p, fa46_0, fa46_0p, fa46_1, fa46_1p, fa46_2, fa46_2p, fa46_3, fa46_3p, fa46_4, fa46_4p, fa46_5, fa46_5p, fa46_6, fa46_6p, fa86_0, fa86_0p, fa86_1, fa86_1p, fa86_2, fa86_2p, fa95_0, fa95_0p, fa95_1, fa95_1p, ld3, ld3p, ld4, ld4p, ld22, ld22p, ld23, ld23p, ld24, ld24p, ld26, ld26p, ld28, ld28p, ld30, ld30p, ld31, ld31p, ld46, ld46p, ld47, ld47p, ld52, ld52p, ld55, ld55p, ld57, ld57p, ld95, ld95p, st3s, st4s, st22s, st23s, st24s, st26w, st28w, st30w, st46w, st47s, st55s, st95w, ix22, ix22p, ix23, ix23p, ix24, ix24p, ix47, ix47p, ix56, ix56p, ix57, ix57p, ix101, ix101p, ln22, ln22p, ln23, ln23p, ln24, ln24p, ln47, ln47p, ln56, ln56p, ln57, ln57p, al22, al26, al28, al30, al46, al47, al95, cf14, cf15, cf16, cf17, cf18, cf19, cf20, cf21, cf22, cf23, cf24, cf25, cf26, cf27, cf28, cf29, cf30, cf31, cf32, cf33, cf34, cf35, cf36, cf37, cf38, cf39, cf40, cf41, cf42, cf43, cf44, cf45, cf46, cf47, cf48, cf49, cf50, cf51, cf52, cf53, cf54, cf55, cf56, cf57, cf58, cf59, cf60, cf61, cf62, cf63, cf64, cf65, cf66, cf67, cf68, cf69, cf70, cf71, cf72, cf73, cf74, cf75, cf76, cf77, cf78, cf79, cf80, bd26_0_1_2_7_8_9_10_11_12_13_14, bd26_0_1_2_7_8_9_10_11_12_13_14p, bd28_0, bd28_0p, bd28_0_1, bd28_0_1p, bd30_, bd30_p, bd30_0_1, bd30_0_1p, bd30_0, bd30_0p, bd46_0_1_2_3_4, bd46_0_1_2_3_4p, bd46_0_3_4, bd46_0_3_4p, bd86_0_1_2, bd86_0_1_2p, bd87_0_1_2_3, bd87_0_1_2_3p, bd95_0_1, bd95_0_1p, bs22_2_0_1, bs47_1_0, bs22_1_0, bs57_6_0_1_2_3_4_5, bs24_1_0, bs22_4_0_1_2_3, bs56_11_0_1_2_3_4_5_6_7_8_9_10, bs57_11_0_1_2_3_4_5_6_7_8_9_10, eq4, eq4p, eq28, eq28p, eq30, eq30p, eq31n, eq31np, eq31s, eq31sp, eq46, eq46p, eq50n, eq50np, eq50s, eq50sp, eq67n, eq67np, eq67s, eq67sp, ne4, ne4p, ne28, ne28p, ne30, ne30p, ne31n, ne31np, ne31s, ne31sp, ne46, ne46p]
    unfold S63_k9
    try simp -implicitDefEqProofs (maxSteps := 2000000) (disch := first | with_reducible exact Nat.ne_of_beq_eq_false rfl | exact oneCell_int | exact oneCell_bool | omega | rfl | (simp; done) | fail) only [upd_ne, q3, q11, retK_ret, resL_tmp, upd_eq, resL_nil2, pureW_sv, fa46_3p, add_mk, Nat.zero_add, fa30_1p, Nat.reduceAdd, ld4p, cx, List.getElem?_cons_succ, List.getElem?_cons_zero, Option.some.injEq, exists_eq_left', un_notp, fa30_0p, Nat.add_zero, ld28p, bd30_0_1p, fa46_4p, ld30p, eq30p, Bool.and_true]
    rw [List.take_of_length_le (show (squareL (m.f.x, m.f.y)).length ≤ 4 from Nat.le_refl 4)] at hs
    refine WayR.less l0 ⟨ip, _, _, ?_, o, s3, d3, fun _ => ?_⟩
    · rw [wayB_turn hf hk hz, hs, Bool.true_and, ← pose_beq2]
      rfl
    · unfold wayL
      rw [if_neg (by omega), if_pos hk]
  have hlt' : i < 4 := by omega
  obtain ⟨y, hy⟩ : ∃ y, (squareL (m.f.x, m.f.y))[i]? = some y := ⟨_, List.getElem?_eq_getElem (by simpa [squareL] using hlt')⟩
  obtain ⟨b, ofs, rfl, z0, z1⟩ := Sees.cell (G := G) (o.sees (by decide) (s3.in 0 rfl)) hy
  unfold S63_l10_k11
  try simp -implicitDefEqProofs (maxSteps := 2000000) (disch := first | with_reducible exact Nat.ne_of_beq_eq_false rfl | exact oneCell_int | exact oneCell_bool | omega | rfl | (simp; done) | fail) only [upd_ne, q84, q86, q0, thenK_ret, blockK_ret, retK_ret, resL_tmp, upd_eq, resL_nil2, opH_sv, cf31, opH_su, al28, ld28, add_mk, Nat.add_zero, Nat.zero_add, ix22 (Int.natCast_nonneg i) (show (i : Int) < (squareL (m.f.x, m.f.y)).length from hlt), Int.toNat_natCast, z0, Option.some.injEq, z1, exists_eq_left', st28w, cell_set_self, List.getElem?_cons_zero, List.getElem?_cons_succ]
  intro t ht gt
  have s4 := s3.past (o := .cells #[.int .i64 y.1, .int .i64 y.2] 28 (0, 0)) ht
  have d4 := d3.set (o := .cells #[.int .i64 y.1, .int .i64 y.2] 28 (0, 0)) gt
  try simp -implicitDefEqProofs (maxSteps := 2000000) (disch := first | with_reducible exact Nat.ne_of_beq_eq_false rfl | exact oneCell_int | exact oneCell_bool | omega | rfl | (simp; done) | fail) only [opH_sv, opH_su, pureW_sv, opH_nil, pureW_nil, pick_t, pick_f, pick_tp, pick_fp, gd_tt, gd_ft, gd_tf, gd_ff, box_new, regs0, regs1, regs2, regs3, regs4, regs5, regs6, cells_agg, cells_int, cells_bool, cells_ptr, cells_slice, cells_string, cells_func, cells_nilFunc, cells_map, retK_ret, retK_normal, resL_tmp, resL_cell, resL_nil0, resL_nil1, resL_nil2, resL_nil3, resC_ptr, ex0, ex1, ex2, ex0p, ex1p, ex2p, HL.cond_true, HL.cond_false, thenK_normal, thenK_ret, thenK_exit, blockK_normal, blockK_ret, blockK_exit, scopeK_normal, scopeK_ret, scopeK_exit, wpH_pure, bin_add, bin_sub, bin_mul, bin_lss, bin_leq, bin_gtr, bin_geq, bin_quo, bin_rem, bin_quop, bin_remp, wrap_in, bin_addp, bin_subp, bin_mulp, bin_lssp, bin_leqp, bin_gtrp, bin_geqp, un_not, un_notp, un_neg, eq_int, ne_int, eq_intp, ne_intp, callV_fn, add_mk, upd_eq, upd_ne, cell_set_self, Nat.zero_add, Nat.add_zero, Option.some.injEq, exists_eq_left', List.getElem?_cons_succ, List.getElem?_cons_zero, true_and, and_true, bne_self_eq_false, beq_self_eq_true, Bool.not_true, Bool.not_false, Bool.and_true, Bool.and_self, Bool.and_false, Bool.true_and, List.length_cons, List.length_nil, ne_eq, not_false_eq_true, Nat.reduceAdd, Nat.reduceMul, if_true, if_false, oneCell_int, oneCell_bool, oneCell_ptr, oneCell_slice, oneCell_string, oneCell_func, oneCell_map, Int.toNat_natCast, List.set_cons_zero, List.set_cons_succ, Nat.lt_irrefl, Nat.zero_lt_succ, Nat.succ_lt_succ_iff, fa26_0, fa26_0p, fa26_1, fa26_1p, fa26_10, fa26_10p, fa26_11, fa26_11p, fa26_12, fa26_12p, fa26_13, fa26_13p, fa26_14, fa26_14p, fa26_2, fa26_2p, fa26_3, fa26_3p, fa26_4, fa26_4p, fa26_5, fa26_5p, fa26_6, fa26_6p, fa26_7, fa26_7p, fa26_8, fa26_8p, fa26_9, fa26_9p, fa28_0, fa28_0p, fa28_1, fa28_1p, fa30_0, fa30_0p, fa30_1, fa30_1p, fa46_0, fa46_0p, fa46_1, fa46_1p, fa46_2, fa46_2p, fa46_3, fa46_3p, fa46_4, fa46_4p, fa46_5, fa46_5p, fa46_6, fa46_6p, fa86_0, fa86_0p, fa86_1, fa86_1p, fa86_2, fa86_2p, fa95_0, fa95_0p, fa95_1, fa95_1p, ld3, ld3p, ld4, ld4p, ld22, ld22p, ld23, ld23p, ld24, ld24p, ld26, ld26p, ld28, ld28p, ld30, ld30p, ld31, ld31p, ld46, ld46p, ld47, ld47p, ld52, ld52p, ld55, ld55p, ld57, ld57p, ld95, ld95p, st3s, st4s, st22s, st23s, st24s, st26w, st28w, st30w, st46w, st47s, st55s, st95w, ix22, ix22p, ix23, ix23p, ix24, ix24p, ix47, ix47p, ix56, ix56p, ix57, ix57p, ix101, ix101p, ln22, ln22p, ln23, ln23p, ln24, ln24p, ln47, ln47p, ln56, ln56p, ln57, ln57p, al22, al26, al28, al30, al46, al47, al95, cf14, cf15, cf16, cf17, cf18, cf19, cf20, cf21, cf22, cf23, cf24, cf25, cf26, cf27, cf28, cf29, cf30, cf31, cf32, cf33, cf34, cf35, cf36, cf37, cf38, cf39, cf40, cf41, cf42, cf43, cf44, cf45, cf46, cf47, cf48, cf49, cf50, cf51, cf52, cf53, cf54, cf55, cf56, cf57, cf58, cf59, cf60, cf61, cf62, cf63, cf64, cf65, cf66, cf67, cf68, cf69, cf70, cf71, cf72, cf73, cf74, cf75, cf76, cf77, cf78, cf79, cf80, bd26_0_1_2_7_8_9_10_11_12_13_14, bd26_0_1_2_7_8_9_10_11_12_13_14p, bd28_0, bd28_0p, bd28_0_1, bd28_0_1p, bd30_, bd30_p, bd30_0_1, bd30_0_1p, bd30_0, bd30_0p, bd46_0_1_2_3_4, bd46_0_1_2_3_4p, bd46_0_3_4, bd46_0_3_4p, bd86_0_1_2, bd86_0_1_2p, bd87_0_1_2_3, bd87_0_1_2_3p, bd95_0_1, bd95_0_1p, bs22_2_0_1, bs47_1_0, bs22_1_0, bs57_6_0_1_2_3_4_5, bs24_1_0, bs22_4_0_1_2_3, bs56_11_0_1_2_3_4_5_6_7_8_9_10, bs57_11_0_1_2_3_4_5_6_7_8_9_10, eq4, eq4p, eq28, eq28p, eq30, eq30p, eq31n, eq31np, eq31s, eq31sp, eq46, eq46p, eq50n, eq50np, eq50s, eq50sp, eq67n, eq67np, eq67s, eq67sp, ne4, ne4p, ne28, ne28p, ne30, ne30p, ne31n, ne31np, ne31s, ne31sp, ne46, ne46p]
  generalize Hp.set h3 t _ = h4 at s4 d4 ⊢
  refine (open_spec (c := y) (gs.up (s4.in 1 rfl) d4)).mono ?_
  rintro _ _ ⟨rfl, rfl⟩
  have hym : y ∈ squareL (m.f.x, m.f.y) := List.mem_of_getElem? hy
  cases hc : openW w k f y with
  | false =>
    try simp -implicitDefEqProofs (maxSteps := 2000000) (disch := first | with_reducible exact Nat.ne_of_beq_eq_false rfl | exact oneCell_int | exact oneCell_bool | omega | rfl | (simp; done) | fail) only [un_not, Bool.not_false, HL.cond_true]
    refine WayR.less l0 <| WayR.no (s4.in 1 rfl) d4 ?_
    rw [wayB_turn hf hk hz]
    have : (squareL (m.f.x, m.f.y)).all (openW w k f) = false := by
      rw [List.all_eq_false]
      exact ⟨y, hym, by simp [hc]⟩
    rw [this]
    rfl
  | true =>
    try simp -implicitDefEqProofs (maxSteps := 2000000) (disch := first | with_reducible exact Nat.ne_of_beq_eq_false rfl | exact oneCell_int | exact oneCell_bool | omega | rfl | (simp; done) | fail) only [un_not, Bool.not_true, HL.cond_false]
    unfold S63_l10_k12
    try simp -implicitDefEqProofs (maxSteps := 2000000) (disch := first | with_reducible exact Nat.ne_of_beq_eq_false rfl | exact oneCell_int | exact oneCell_bool | omega | rfl | (simp; done) | fail) only [upd_ne, q86, thenK_normal, opH_sv, bin_add, wrap_in]
    refine HX (4 - (i + 1)) _ _ (by omega) ⟨i + 1, rfl, hlt', by simp -implicitDefEqProofs (maxSteps := 2000000) (disch := first | with_reducible exact Nat.ne_of_beq_eq_false rfl | exact oneCell_int | exact oneCell_bool | omega | rfl | (simp; done) | fail) only [upd_ne, q0], by simp -implicitDefEqProofs (maxSteps := 2000000) (disch := first | with_reducible exact Nat.ne_of_beq_eq_false rfl | exact oneCell_int | exact oneCell_bool | omega | rfl | (simp; done) | fail) only [upd_ne, q3], by simp -implicitDefEqProofs (maxSteps := 2000000) (disch := first | with_reducible exact Nat.ne_of_beq_eq_false rfl | exact oneCell_int | exact oneCell_bool | omega | rfl | (simp; done) | fail) only [upd_ne, q11, g11], by simp -implicitDefEqProofs (maxSteps := 2000000) (disch := first | with_reducible exact Nat.ne_of_beq_eq_false rfl | exact oneCell_int | exact oneCell_bool | omega | rfl | (simp; done) | fail) only [upd_ne, q84, g84], by simp -implicitDefEqProofs (maxSteps := 2000000) (disch := first | with_reducible exact Nat.ne_of_beq_eq_false rfl | exact oneCell_int | exact oneCell_bool | omega | rfl | (simp; done) | fail) only [upd_ne, q85], by simp -implicitDefEqProofs (maxSteps := 2000000) (disch := first | with_reducible exact Nat.ne_of_beq_eq_false rfl | exact oneCell_int | exact oneCell_bool | omega | rfl | (simp; done) | fail) only [upd_eq] <;> rfl, s4, d4, ?_⟩
    rw [List.take_add_one, hy]
    simp [hs, hc]

set_option maxHeartbeats 4000000 in
theorem way_spec {G h : Hp} {g : Value} {w k : Nat} {f : Nat → Nat → Int} {m : Move} (gs : GS G h g w k f) (st : Steps G) (mb : MB m) : HCalls Tryd.prog G 63 #[g, moveV m] h (WayR G h w k f m) := by
  obtain ⟨nb, fb⟩ := mb
  refine HCalls.assume fun d => enter63 (by simp) ?_
  unfold S63
  simp -implicitDefEqProofs (maxSteps := 2000000) (disch := first | with_reducible exact Nat.ne_of_beq_eq_false rfl | exact oneCell_int | exact oneCell_bool | omega | rfl | (simp; done) | fail) only [regs1, regs0, retK_ret, resL_tmp, upd_ne, upd_eq, resL_nil2, opH_sv, cf23, box_new, cells_agg, fa46_3, add_mk, Nat.zero_add, ld30, Nat.add_zero, cell_set_self, List.getElem?_cons_succ, List.getElem?_cons_zero, Option.some.injEq, Nat.reduceAdd, exists_eq_left']
  intro x hx gx
  generalize e1 : Hp.set h x _ = h1
  obtain ⟨l1, d1, b1⟩ := boxed e1 hx d gx
  have gs1 := gs.up l1 d1
  have cx : ∀ j, cellIn G h1 ⟨x, j, none⟩ = _ := fun j => cell_of (look_own b1)
  try simp -implicitDefEqProofs (maxSteps := 2000000) (disch := first | with_reducible exact Nat.ne_of_beq_eq_false rfl | exact oneCell_int | exact oneCell_bool | omega | rfl | (simp; done) | fail) only [opH_sv, opH_su, pureW_sv, opH_nil, pureW_nil, pick_t, pick_f, pick_tp, pick_fp, gd_tt, gd_ft, gd_tf, gd_ff, box_new, regs0, regs1, regs2, regs3, regs4, regs5, regs6, cells_agg, cells_int, cells_bool, cells_ptr, cells_slice, cells_string, cells_func, cells_nilFunc, cells_map, retK_ret, retK_normal, resL_tmp, resL_cell, resL_nil0, resL_nil1, resL_nil2, resL_nil3, resC_ptr, ex0, ex1, ex2, ex0p, ex1p, ex2p, HL.cond_true, HL.cond_false, thenK_normal, thenK_ret, thenK_exit, blockK_normal, blockK_ret, blockK_exit, scopeK_normal, scopeK_ret, scopeK_exit, wpH_pure, bin_add, bin_sub, bin_mul, bin_lss, bin_leq, bin_gtr, bin_geq, bin_quo, bin_rem, bin_quop, bin_remp, wrap_in, bin_addp, bin_subp, bin_mulp, bin_lssp, bin_leqp, bin_gtrp, bin_geqp, un_not, un_notp, un_neg, eq_int, ne_int, eq_intp, ne_intp, callV_fn, add_mk, upd_eq, upd_ne, cell_set_self, Nat.zero_add, Nat.add_zero, Option.some.injEq, exists_eq_left', List.getElem?_cons_succ, List.getElem?_cons_zero, true_and, and_true, bne_self_eq_false, beq_self_eq_true, Bool.not_true, Bool.not_false, Bool.and_true, Bool.and_self, Bool.and_false, Bool.true_and, List.length_cons, List.length_nil, ne_eq, not_false_eq_true, Nat.reduceAdd, Nat.reduceMul, if_true, if_false, oneCell_int, oneCell_bool, oneCell_ptr, oneCell_slice, oneCell_string, oneCell_func, oneCell_map, Int.toNat_natCast, List.set_cons_zero, List.set_cons_succ, Nat.lt_irrefl, Nat.zero_lt_succ, Nat.succ_lt_succ_iff, fa26_0, fa26_0p, fa26_1, fa26_1p, fa26_10, fa26_10p, fa26_11, fa26_11p, fa26_12, fa26_12p, fa26_13, fa26_13p, fa26_14, fa26_14p, fa26_2, fa26_2p, fa26_3, fa26_3p, fa26_4, fa26_4p, fa26_5, fa26_5p, fa26_6, fa26_6p, fa26_7, fa26_7p, fa26_8, fa26_8p, fa26_9, fa26_9p, fa28_0, fa28_0p, fa28_1, fa28_1p, fa30_0, fa30_0p, fa30_1, fa30_1p, fa46_0, fa46_0p, fa46_1, fa46_1p, fa46_2, fa46_2p, fa46_3, fa46_3p, fa46_4, fa46_4p, fa46_5, fa46_5p, fa46_6, fa46_6p, fa86_0, fa86_0p, fa86_1, fa86_1p, fa86_2, fa86_2p, fa95_0, fa95_0p, fa95_1, fa95_1p, ld3, ld3p, ld4, ld4p, ld22, ld22p, ld23, ld23p, ld24, ld24p, ld26, ld26p, ld28, ld28p, ld30, ld30p, ld31, ld31p, ld46, ld46p, ld47, ld47p, ld52, ld52p, ld55, ld55p, ld57, ld57p, ld95, ld95p, st3s, st4s, st22s, st23s, st24s, st26w, st28w, st30w, st46w, st47s, st55s, st95w, ix22, ix22p, ix23, ix23p, ix24, ix24p, ix47, ix47p, ix56, ix56p, ix57, ix57p, ix101, ix101p, ln22, ln22p, ln23, ln23p, ln24, ln24p, ln47, ln47p, ln56, ln56p, ln57, ln57p, al22, al26, al28, al30, al46, al47, al95, cf14, cf15, cf16, cf17, cf18, cf19, cf20, cf21, cf22, cf23, cf24, cf25, cf26, cf27, cf28, cf29, cf30, cf31, cf32, cf33, cf34, cf35, cf36, cf37, cf38, cf39, cf40, cf41, cf42, cf43, cf44, cf45, cf46, cf47, cf48, cf49, cf50, cf51, cf52, cf53, cf54, cf55, cf56, cf57, cf58, cf59, cf60, cf61, cf62, cf63, cf64, cf65, cf66, cf67, cf68, cf69, cf70, cf71, cf72, cf73, cf74, cf75, cf76, cf77, cf78, cf79, cf80, bd26_0_1_2_7_8_9_10_11_12_13_14, bd26_0_1_2_7_8_9_10_11_12_13_14p, bd28_0, bd28_0p, bd28_0_1, bd28_0_1p, bd30_, bd30_p, bd30_0_1, bd30_0_1p, bd30_0, bd30_0p, bd46_0_1_2_3_4, bd46_0_1_2_3_4p, bd46_0_3_4, bd46_0_3_4p, bd86_0_1_2, bd86_0_1_2p, bd87_0_1_2_3, bd87_0_1_2_3p, bd95_0_1, bd95_0_1p, bs22_2_0_1, bs47_1_0, bs22_1_0, bs57_6_0_1_2_3_4_5, bs24_1_0, bs22_4_0_1_2_3, bs56_11_0_1_2_3_4_5_6_7_8_9_10, bs57_11_0_1_2_3_4_5_6_7_8_9_10, eq4, eq4p, eq28, eq28p, eq30, eq30p, eq31n, eq31np, eq31s, eq31sp, eq46, eq46p, eq50n, eq50np, eq50s, eq50sp, eq67n, eq67np, eq67s, eq67sp, ne4, ne4p, ne28, ne28p, ne30, ne30p, ne31n, ne31np, ne31s, ne31sp, ne46, ne46p, cx]
  refine (fits_spec (p := m.f) gs1 st fb).mono ?_
  rintro _ h1 ⟨rfl, rfl⟩
  cases hf : fitsW w k f m.f with
  | false =>
    try simp -implicitDefEqProofs (maxSteps := 2000000) (disch := first | with_reducible exact Nat.ne_of_beq_eq_false rfl | exact oneCell_int | exact oneCell_bool | omega | rfl | (simp; done) | fail) only [un_not, Bool.not_false, HL.cond_true]
    exact WayR.no l1 d1 (by unfold wayB; rw [hf]; rfl)
  | true =>
  try simp -implicitDefEqProofs (maxSteps := 2000000) (disch := first | with_reducible exact Nat.ne_of_beq_eq_false rfl | exact oneCell_int | exact oneCell_bool | omega | rfl | (simp; done) | fail) only [un_not, Bool.not_true, HL.cond_false]
  unfold S63_k1
  try simp -implicitDefEqProofs (maxSteps := 2000000) (disch := first | with_reducible exact Nat.ne_of_beq_eq_false rfl | exact oneCell_int | exact oneCell_bool | omega | rfl | (simp; done) | fail) only [upd_ne, upd_eq, retK_ret, resL_tmp, resL_nil2, opH_sv, fa46_0, add_mk, Nat.add_zero, ld3, cx, List.getElem?_cons_zero, Option.some.injEq, exists_eq_left', ne_int]
  by_cases hk1 : m.k = 1
  · try simp -implicitDefEqProofs (maxSteps := 2000000) (disch := first | with_reducible exact Nat.ne_of_beq_eq_false rfl | exact oneCell_int | exact oneCell_bool | omega | rfl | (simp; done) | fail) only [show (m.k != 1) = false by simp [hk1], pick_f, HL.cond_false, gd_ft, gd_un]
    unfold S63_k2
    try simp -implicitDefEqProofs (maxSteps := 2000000) (disch := first | with_reducible exact Nat.ne_of_beq_eq_false rfl | exact oneCell_int | exact oneCell_bool | omega | rfl | (simp; done) | fail) only [upd_ne, upd_eq, opH_su, opH_sv, al30, fa46_3, add_mk, Nat.zero_add, ld30, Nat.add_zero, Nat.reduceAdd, cf77, fa30_0, ld28, fa46_0, ld3, cx, List.getElem?_cons_zero, Option.some.injEq, exists_eq_left', eq_int, show (m.k == 1) = true by simp [hk1], List.getElem?_cons_succ, st30w, HL.cond_true]
    intro lb hlb glb
    try simp -implicitDefEqProofs (maxSteps := 2000000) (disch := first | with_reducible exact Nat.ne_of_beq_eq_false rfl | exact oneCell_int | exact oneCell_bool | omega | rfl | (simp; done) | fail) only [opH_sv, opH_su, pureW_sv, opH_nil, pureW_nil, pick_t, pick_f, pick_tp, pick_fp, gd_tt, gd_ft, gd_tf, gd_ff, box_new, regs0, regs1, regs2, regs3, regs4, regs5, regs6, cells_agg, cells_int, cells_bool, cells_ptr, cells_slice, cells_string, cells_func, cells_nilFunc, cells_map, retK_ret, retK_normal, resL_tmp, resL_cell, resL_nil0, resL_nil1, resL_nil2, resL_nil3, resC_ptr, ex0, ex1, ex2, ex0p, ex1p, ex2p, HL.cond_true, HL.cond_false, thenK_normal, thenK_ret, thenK_exit, blockK_normal, blockK_ret, blockK_exit, scopeK_normal, scopeK_ret, scopeK_exit, wpH_pure, bin_add, bin_sub, bin_mul, bin_lss, bin_leq, bin_gtr, bin_geq, bin_quo, bin_rem, bin_quop, bin_remp, wrap_in, bin_addp, bin_subp, bin_mulp, bin_lssp, bin_leqp, bin_gtrp, bin_geqp, un_not, un_notp, un_neg, eq_int, ne_int, eq_intp, ne_intp, callV_fn, add_mk, upd_eq, upd_ne, cell_set_self, Nat.zero_add, Nat.add_zero, Option.some.injEq, exists_eq_left', List.getElem?_cons_succ, List.getElem?_cons_zero, true_and, and_true, bne_self_eq_false, beq_self_eq_true, Bool.not_true, Bool.not_false, Bool.and_true, Bool.and_self, Bool.and_false, Bool.true_and, List.length_cons, List.length_nil, ne_eq, not_false_eq_true, Nat.reduceAdd, Nat.reduceMul, if_true, if_false, oneCell_int, oneCell_bool, oneCell_ptr, oneCell_slice, oneCell_string, oneCell_func, oneCell_map, Int.toNat_natCast, List.set_cons_zero, List.set_cons_succ, Nat.lt_irrefl, Nat.zero_lt_succ, Nat.succ_lt_succ_iff, fa26_0, fa26_0p, fa26_1, fa26_1p, fa26_10, fa26_10p, fa26_11, fa26_11p, fa26_12, fa26_12p, fa26_13, fa26_13p, fa26_14, fa26_14p, fa26_2, fa26_2p, fa26_3, fa26_3p, fa26_4, fa26_4p, fa26_5, fa26_5p, fa26_6, fa26_6p, fa26_7, fa26_7p, fa26_8, fa26_8p, fa26_9, fa26_9p, fa28_0, fa28_0p, fa28_1, fa28_1p, fa30_0, fa30_0p, fa30_1, fa30_1p, fa46_0, fa46_0p, fa46_1, fa46_1p, fa46_2, fa46_2p, fa46_3, fa46_3p, fa46_4, fa46_4p, fa46_5, fa46_5p, fa46_6, fa46_6p, fa86_0, fa86_0p, fa86_1, fa86_1p, fa86_2, fa86_2p, fa95_0, fa95_0p, fa95_1, fa95_1p, ld3, ld3p, ld4, ld4p, ld22, ld22p, ld23, ld23p, ld24, ld24p, ld26, ld26p, ld28, ld28p, ld30, ld30p, ld31, ld31p, ld46, ld46p, ld47, ld47p, ld52, ld52p, ld55, ld55p, ld57, ld57p, ld95, ld95p, st3s, st4s, st22s, st23s, st24s, st26w, st28w, st30w, st46w, st47s, st55s, st95w, ix22, ix22p, ix23, ix23p, ix24, ix24p, ix47, ix47p, ix56, ix56p, ix57, ix57p, ix101, ix101p, ln22, ln22p, ln23, ln23p, ln24, ln24p, ln47, ln47p, ln56, ln56p, ln57, ln57p, al22, al26, al28, al30, al46, al47, al95, cf14, cf15, cf16, cf17, cf18, cf19, cf20, cf21, cf22, cf23, cf24, cf25, cf26, cf27, cf28, cf29, cf30, cf31, cf32, cf33, cf34, cf35, cf36, cf37, cf38, cf39, cf40, cf41, cf42, cf43, cf44, cf45, cf46, cf47, cf48, cf49, cf50, cf51, cf52, cf53, cf54, cf55, cf56, cf57, cf58, cf59, cf60, cf61, cf62, cf63, cf64, cf65, cf66, cf67, cf68, cf69, cf70, cf71, cf72, cf73, cf74, cf75, cf76, cf77, cf78, cf79, cf80, bd26_0_1_2_7_8_9_10_11_12_13_14, bd26_0_1_2_7_8_9_10_11_12_13_14p, bd28_0, bd28_0p, bd28_0_1, bd28_0_1p, bd30_, bd30_p, bd30_0_1, bd30_0_1p, bd30_0, bd30_0p, bd46_0_1_2_3_4, bd46_0_1_2_3_4p, bd46_0_3_4, bd46_0_3_4p, bd86_0_1_2, bd86_0_1_2p, bd87_0_1_2_3, bd87_0_1_2_3p, bd95_0_1, bd95_0_1p, bs22_2_0_1, bs47_1_0, bs22_1_0, bs57_6_0_1_2_3_4_5, bs24_1_0, bs22_4_0_1_2_3, bs56_11_0_1_2_3_4_5_6_7_8_9_10, bs57_11_0_1_2_3_4_5_6_7_8_9_10, eq4, eq4p, eq28, eq28p, eq30, eq30p, eq31n, eq31np, eq31s, eq31sp, eq46, eq46p, eq50n, eq50np, eq50s, eq50sp, eq67n, eq67np, eq67s, eq67sp, ne4, ne4p, ne28, ne28p, ne30, ne30p, ne31n, ne31np, ne31s, ne31sp, ne46, ne46p]
    exact way_run gs1 st nb hf hk1 b1 (by simp -implicitDefEqProofs (maxSteps := 2000000) (disch := first | with_reducible exact Nat.ne_of_beq_eq_false rfl | exact oneCell_int | exact oneCell_bool | omega | rfl | (simp; done) | fail) only [upd_ne, regs0]) (by simp -implicitDefEqProofs (maxSteps := 2000000) (disch := first | with_reducible exact Nat.ne_of_beq_eq_false rfl | exact oneCell_int | exact oneCell_bool | omega | rfl | (simp; done) | fail) only [upd_ne, upd_eq]) (by simp -implicitDefEqProofs (maxSteps := 2000000) (disch := first | with_reducible exact Nat.ne_of_beq_eq_false rfl | exact oneCell_int | exact oneCell_bool | omega | rfl | (simp; done) | fail) only [upd_ne, upd_eq]) (by simp -implicitDefEqProofs (maxSteps := 2000000) (disch := first | with_reducible exact Nat.ne_of_beq_eq_false rfl | exact oneCell_int | exact oneCell_bool | omega | rfl | (simp; done) | fail) only [upd_ne, upd_eq]) (by simp -implicitDefEqProofs (maxSteps := 2000000) (disch := first | with_reducible exact Nat.ne_of_beq_eq_false rfl | exact oneCell_int | exact oneCell_bool | omega | rfl | (simp; done) | fail) only [upd_eq]) (Sep.one.new hlb) (d1.set glb) l1
  have ek1 : (m.k != 1) = true := by simp [hk1]
  have ek1' : (m.k == 1) = false := by simp [hk1]
  by_cases hz : m.d = 0 ∧ m.n = 0
  rotate_left
  · have ew : wayB w k f m = false := by
      unfold wayB
      rw [if_neg hk1, decide_eq_false hz]
      simp
    by_cases hd : m.d = 0
    · have hn : (m.n != 0) = true := by
        have : m.n ≠ 0 := fun e => hz ⟨hd, e⟩
        simp [this]
      try simp -implicitDefEqProofs (maxSteps := 2000000) (disch := first | with_reducible exact Nat.ne_of_beq_eq_false rfl | exact oneCell_int | exact oneCell_bool | omega | rfl | (simp; done) | fail) only [ek1, pick_t, gd_tt, opH_sv, fa46_1, add_mk, Nat.zero_add, ld3, cx, List.getElem?_cons_succ, List.getElem?_cons_zero, Option.some.injEq, exists_eq_left', ne_int, show (m.d != 0) = false by simp [hd], pick_f, gd_ff, fa46_2, hn, HL.cond_true]
      exact WayR.no l1 d1 ew
    · try simp -implicitDefEqProofs (maxSteps := 2000000) (disch := first | with_reducible exact Nat.ne_of_beq_eq_false rfl | exact oneCell_int | exact oneCell_bool | omega | rfl | (simp; done) | fail) only [ek1, pick_t, gd_tt, opH_sv, fa46_1, add_mk, Nat.zero_add, ld3, cx, List.getElem?_cons_succ, List.getElem?_cons_zero, Option.some.injEq, exists_eq_left', ne_int, show (m.d != 0) = true by simp [hd], HL.cond_true, gd_tf]
      exact WayR.no l1 d1 ew
  try simp -implicitDefEqProofs (maxSteps := 2000000) (disch := first | with_reducible exact Nat.ne_of_beq_eq_false rfl | exact oneCell_int | exact oneCell_bool | omega | rfl | (simp; done) | fail) only [ek1, pick_t, gd_tt, opH_sv, fa46_1, add_mk, Nat.zero_add, ld3, cx, List.getElem?_cons_succ, List.getElem?_cons_zero, Option.some.injEq, exists_eq_left', ne_int, show (m.d != 0) = false by simp [hz.1], pick_f, gd_ff, fa46_2, show (m.n != 0) = false by simp [hz.2], HL.cond_false]
  unfold S63_k2
  by_cases hk2 : m.k = 2
  · try simp -implicitDefEqProofs (maxSteps := 2000000) (disch := first | with_reducible exact Nat.ne_of_beq_eq_false rfl | exact oneCell_int | exact oneCell_bool | omega | rfl | (simp; done) | fail) only [upd_ne, upd_eq, opH_su, opH_sv, al30, fa46_3, add_mk, Nat.zero_add, ld30, Nat.add_zero, Nat.reduceAdd, cf77, fa30_0, ld28, fa46_0, ld3, cx, List.getElem?_cons_zero, Option.some.injEq, exists_eq_left', eq_int, show (m.k == 2) = true by simp [hk2], HL.cond_true, ek1', List.getElem?_cons_succ, st30w, HL.cond_false]
    refine (square_spec (c := (m.f.x, m.f.y))).mono ?_
    rintro _ h2 ⟨ip, sa, rfl, o, s2, d2⟩
    try simp -implicitDefEqProofs (maxSteps := 2000000) (disch := first | with_reducible exact Nat.ne_of_beq_eq_false rfl | exact oneCell_int | exact oneCell_bool | omega | rfl | (simp; done) | fail) only [ln22]
    exact way_turn gs1 hf hk2 hz b1 (by simp -implicitDefEqProofs (maxSteps := 2000000) (disch := first | with_reducible exact Nat.ne_of_beq_eq_false rfl | exact oneCell_int | exact oneCell_bool | omega | rfl | (simp; done) | fail) only [upd_ne, regs0]) (by simp -implicitDefEqProofs (maxSteps := 2000000) (disch := first | with_reducible exact Nat.ne_of_beq_eq_false rfl | exact oneCell_int | exact oneCell_bool | omega | rfl | (simp; done) | fail) only [upd_ne, upd_eq]) (by simp -implicitDefEqProofs (maxSteps := 2000000) (disch := first | with_reducible exact Nat.ne_of_beq_eq_false rfl | exact oneCell_int | exact oneCell_bool | omega | rfl | (simp; done) | fail) only [upd_ne, upd_eq]) (by simp -implicitDefEqProofs (maxSteps := 2000000) (disch := first | with_reducible exact Nat.ne_of_beq_eq_false rfl | exact oneCell_int | exact oneCell_bool | omega | rfl | (simp; done) | fail) only [upd_ne, upd_eq]) (by simp -implicitDefEqProofs (maxSteps := 2000000) (disch := first | with_reducible exact Nat.ne_of_beq_eq_false rfl | exact oneCell_int | exact oneCell_bool | omega | rfl | (simp; done) | fail) only [upd_ne, upd_eq] <;> rfl) (by simp -implicitDefEqProofs (maxSteps := 2000000) (disch := first | with_reducible exact Nat.ne_of_beq_eq_false rfl | exact oneCell_int | exact oneCell_bool | omega | rfl | (simp; done) | fail) only [upd_eq]) o s2 d2 l1
  have ek2 : (m.k == 2) = false := by simp [hk2]
  by_cases hk34 : m.k = 3 ∨ m.k = 4
  rotate_left
  · have ew : wayB w k f m = false := by
      rw [wayB_else hf hk1 hk2 hz, decide_eq_false hk34]
      rfl
    try simp -implicitDefEqProofs (maxSteps := 2000000) (disch := first | with_reducible exact Nat.ne_of_beq_eq_false rfl | exact oneCell_int | exact oneCell_bool | omega | rfl | (simp; done) | fail) only [upd_ne, upd_eq, opH_su, opH_sv, al30, fa46_3, add_mk, Nat.zero_add, ld30, Nat.add_zero, Nat.reduceAdd, cf77, fa30_0, ld28, fa46_0, ld3, cx, List.getElem?_cons_zero, Option.some.injEq, exists_eq_left', eq_int, show (m.k == 4) = false by simp; omega, show (m.k == 3) = false by simp; omega, HL.cond_false, ek2, ek1', List.getElem?_cons_succ, st30w]
    unfold S63_k13
    try simp -implicitDefEqProofs (maxSteps := 2000000) (disch := first | with_reducible exact Nat.ne_of_beq_eq_false rfl | exact oneCell_int | exact oneCell_bool | omega | rfl | (simp; done) | fail) only [upd_eq, upd_ne, regs0, retK_ret, resL_tmp, resL_nil2, pureW_sv, fa46_3p, add_mk, Nat.zero_add, ld30p, Nat.add_zero, Nat.reduceAdd, fa46_4p, cf21, HL.cond_false]
    unfold S63_k3
    try simp -implicitDefEqProofs (maxSteps := 2000000) (disch := first | with_reducible exact Nat.ne_of_beq_eq_false rfl | exact oneCell_int | exact oneCell_bool | omega | rfl | (simp; done) | fail) only [retK_ret, resL_tmp, upd_ne, upd_eq, resL_nil2]
    exact WayR.no l1 d1 ew
  have k13 : ∀ r : Rg, r 0 = g → r 3 = .pointer (some ⟨x, 0, none⟩) → r 107 = .bool true → S63_k13 G (retK Tryd.prog G [.tmp 4, .tmp 5] (WayR G h w k f m)) r h1 := by
    intro r g0 g3 g107
    unfold S63_k13
    simp -implicitDefEqProofs (maxSteps := 2000000) (disch := first | with_reducible exact Nat.ne_of_beq_eq_false rfl | exact oneCell_int | exact oneCell_bool | omega | rfl | (simp; done) | fail) only [g107, retK_ret, resL_tmp, upd_ne, upd_eq, resL_nil2, pureW_sv, cf21, HL.cond_true]
    refine ⟨h1, Hp.le.refl _, ?_⟩
    try simp -implicitDefEqProofs (maxSteps := 2000000) (disch := first | with_reducible exact Nat.ne_of_beq_eq_false rfl | exact oneCell_int | exact oneCell_bool | omega | rfl | (simp; done) | fail) only [g3, g0, fa46_3p, add_mk, Nat.zero_add, ld30p, Nat.add_zero, cx, List.getElem?_cons_succ, List.getElem?_cons_zero, Option.some.injEq, Nat.reduceAdd, exists_eq_left', fa46_4p, eq30p, Bool.and_true]
    refine (cells_spec (g := g) (p := m.f) st fb).mono ?_
    rintro _ _ ⟨b, rfl, hb, gb, rfl⟩
    refine ⟨le_set hb, ?_⟩
    try simp -implicitDefEqProofs (maxSteps := 2000000) (disch := first | with_reducible exact Nat.ne_of_beq_eq_false rfl | exact oneCell_int | exact oneCell_bool | omega | rfl | (simp; done) | fail) only [pose_beq2]
    refine WayR.less l1 ⟨noHp.set b _, _, cellsP m.f, ?_, ⟨some b, 2, [], rfl, set_self, rfl⟩, Sep.one.new hb, d1.set gb, fun _ => ?_⟩
    · rw [wayB_else hf hk1 hk2 hz, decide_eq_true hk34]
      rfl
    · unfold wayL
      rw [if_neg hk1, if_neg hk2]
  rcases hk34 with h3 | h4
  · try simp -implicitDefEqProofs (maxSteps := 2000000) (disch := first | with_reducible exact Nat.ne_of_beq_eq_false rfl | exact oneCell_int | exact oneCell_bool | omega | rfl | (simp; done) | fail) only [upd_ne, upd_eq, opH_su, opH_sv, al30, fa46_3, add_mk, Nat.zero_add, ld30, Nat.add_zero, Nat.reduceAdd, cf77, fa30_0, ld28, fa46_0, ld3, cx, List.getElem?_cons_zero, Option.some.injEq, exists_eq_left', eq_int, show (m.k == 3) = true by simp [h3], HL.cond_true, ek2, HL.cond_false, ek1', List.getElem?_cons_succ, st30w]
    exact k13 _ (by simp -implicitDefEqProofs (maxSteps := 2000000) (disch := first | with_reducible exact Nat.ne_of_beq_eq_false rfl | exact oneCell_int | exact oneCell_bool | omega | rfl | (simp; done) | fail) only [upd_ne, regs0]) (by simp -implicitDefEqProofs (maxSteps := 2000000) (disch := first | with_reducible exact Nat.ne_of_beq_eq_false rfl | exact oneCell_int | exact oneCell_bool | omega | rfl | (simp; done) | fail) only [upd_ne, upd_eq]) (by simp -implicitDefEqProofs (maxSteps := 2000000) (disch := first | with_reducible exact Nat.ne_of_beq_eq_false rfl | exact oneCell_int | exact oneCell_bool | omega | rfl | (simp; done) | fail) only [upd_eq])
  · try simp -implicitDefEqProofs (maxSteps := 2000000) (disch := first | with_reducible exact Nat.ne_of_beq_eq_false rfl | exact oneCell_int | exact oneCell_bool | omega | rfl | (simp; done) | fail) only [upd_ne, upd_eq, opH_su, opH_sv, al30, fa46_3, add_mk, Nat.zero_add, ld30, Nat.add_zero, Nat.reduceAdd, cf77, fa30_0, ld28, fa46_0, ld3, cx, List.getElem?_cons_zero, Option.some.injEq, exists_eq_left', eq_int, show (m.k == 4) = true by simp [h4], show (m.k == 3) = false by simp [h4], HL.cond_false, ek2, ek1', List.getElem?_cons_succ, st30w]
    exact k13 _ (by simp -implicitDefEqProofs (maxSteps := 2000000) (disch := first | with_reducible exact Nat.ne_of_beq_eq_false rfl | exact oneCell_int | exact oneCell_bool | omega | rfl | (simp; done) | fail) only [upd_ne, regs0]) (by simp -implicitDefEqProofs (maxSteps := 2000000) (disch := first | with_reducible exact Nat.ne_of_beq_eq_false rfl | exact oneCell_int | exact oneCell_bool | omega | rfl | (simp; done) | fail) only [upd_ne, upd_eq]) (by simp -implicitDefEqProofs (maxSteps := 2000000) (disch := first | with_reducible exact Nat.ne_of_beq_eq_false rfl | exact oneCell_int | exact oneCell_bool | omega | rfl | (simp; done) | fail) only [upd_eq])

theorem legal_spec {G h : Hp} {g : Value} {w k : Nat} {f : Nat → Nat → Int} {m : Move} (gs : GS G h g w k f) (st : Steps G) (mb : MB m) : HCalls Tryd.prog G 27 #[g, moveV m] h (fun u h' => u = .bool (wayB w k f m) ∧ h' = h) := by
  refine HCalls.assume fun d => quietly (enter27 (by simp) ?_)
  unfold S27
  simp -implicitDefEqProofs (maxSteps := 2000000) (disch := first | with_reducible exact Nat.ne_of_beq_eq_false rfl | exact oneCell_int | exact oneCell_bool | omega | rfl | (simp; done) | fail) only [regs1, regs0, retK_ret, resL_tmp, upd_eq, resL_nil1, opH_sv, cf63, box_new, cells_agg, ld46, add_mk, Nat.add_zero, cell_set_self, List.getElem?_cons_zero, Option.some.injEq, Nat.zero_add, List.getElem?_cons_succ, exists_eq_left']
  intro x hx gx
  generalize e1 : Hp.set h x _ = h1
  obtain ⟨l1, d1, b1⟩ := boxed e1 hx d gx
  have cx : ∀ j, cellIn G h1 ⟨x, j, none⟩ = _ := fun j => cell_of (look_own b1)
  try simp -implicitDefEqProofs (maxSteps := 2000000) (disch := first | with_reducible exact Nat.ne_of_beq_eq_false rfl | exact oneCell_int | exact oneCell_bool | omega | rfl | (simp; done) | fail) only [opH_sv, opH_su, pureW_sv, opH_nil, pureW_nil, pick_t, pick_f, pick_tp, pick_fp, gd_tt, gd_ft, gd_tf, gd_ff, box_new, regs0, regs1, regs2, regs3, regs4, regs5, regs6, cells_agg, cells_int, cells_bool, cells_ptr, cells_slice, cells_string, cells_func, cells_nilFunc, cells_map, retK_ret, retK_normal, resL_tmp, resL_cell, resL_nil0, resL_nil1, resL_nil2, resL_nil3, resC_ptr, ex0, ex1, ex2, ex0p, ex1p, ex2p, HL.cond_true, HL.cond_false, thenK_normal, thenK_ret, thenK_exit, blockK_normal, blockK_ret, blockK_exit, scopeK_normal, scopeK_ret, scopeK_exit, wpH_pure, bin_add, bin_sub, bin_mul, bin_lss, bin_leq, bin_gtr, bin_geq, bin_quo, bin_rem, bin_quop, bin_remp, wrap_in, bin_addp, bin_subp, bin_mulp, bin_lssp, bin_leqp, bin_gtrp, bin_geqp, un_not, un_notp, un_neg, eq_int, ne_int, eq_intp, ne_intp, callV_fn, add_mk, upd_eq, upd_ne, cell_set_self, Nat.zero_add, Nat.add_zero, Option.some.injEq, exists_eq_left', List.getElem?_cons_succ, List.getElem?_cons_zero, true_and, and_true, bne_self_eq_false, beq_self_eq_true, Bool.not_true, Bool.not_false, Bool.and_true, Bool.and_self, Bool.and_false, Bool.true_and, List.length_cons, List.length_nil, ne_eq, not_false_eq_true, Nat.reduceAdd, Nat.reduceMul, if_true, if_false, oneCell_int, oneCell_bool, oneCell_ptr, oneCell_slice, oneCell_string, oneCell_func, oneCell_map, Int.toNat_natCast, List.set_cons_zero, List.set_cons_succ, Nat.lt_irrefl, Nat.zero_lt_succ, Nat.succ_lt_succ_iff, fa26_0, fa26_0p, fa26_1, fa26_1p, fa26_10, fa26_10p, fa26_11, fa26_11p, fa26_12, fa26_12p, fa26_13, fa26_13p, fa26_14, fa26_14p, fa26_2, fa26_2p, fa26_3, fa26_3p, fa26_4, fa26_4p, fa26_5, fa26_5p, fa26_6, fa26_6p, fa26_7, fa26_7p, fa26_8, fa26_8p, fa26_9, fa26_9p, fa28_0, fa28_0p, fa28_1, fa28_1p, fa30_0, fa30_0p, fa30_1, fa30_1p, fa46_0, fa46_0p, fa46_1, fa46_1p, fa46_2, fa46_2p, fa46_3, fa46_3p, fa46_4, fa46_4p, fa46_5, fa46_5p, fa46_6, fa46_6p, fa86_0, fa86_0p, fa86_1, fa86_1p, fa86_2, fa86_2p, fa95_0, fa95_0p, fa95_1, fa95_1p, ld3, ld3p, ld4, ld4p, ld22, ld22p, ld23, ld23p, ld24, ld24p, ld26, ld26p, ld28, ld28p, ld30, ld30p, ld31, ld31p, ld46, ld46p, ld47, ld47p, ld52, ld52p, ld55, ld55p, ld57, ld57p, ld95, ld95p, st3s, st4s, st22s, st23s, st24s, st26w, st28w, st30w, st46w, st47s, st55s, st95w, ix22, ix22p, ix23, ix23p, ix24, ix24p, ix47, ix47p, ix56, ix56p, ix57, ix57p, ix101, ix101p, ln22, ln22p, ln23, ln23p, ln24, ln24p, ln47, ln47p, ln56, ln56p, ln57, ln57p, al22, al26, al28, al30, al46, al47, al95, cf14, cf15, cf16, cf17, cf18, cf19, cf20, cf21, cf22, cf23, cf24, cf25, cf26, cf27, cf28, cf29, cf30, cf31, cf32, cf33, cf34, cf35, cf36, cf37, cf38, cf39, cf40, cf41, cf42, cf43, cf44, cf45, cf46, cf47, cf48, cf49, cf50, cf51, cf52, cf53, cf54, cf55, cf56, cf57, cf58, cf59, cf60, cf61, cf62, cf63, cf64, cf65, cf66, cf67, cf68, cf69, cf70, cf71, cf72, cf73, cf74, cf75, cf76, cf77, cf78, cf79, cf80, bd26_0_1_2_7_8_9_10_11_12_13_14, bd26_0_1_2_7_8_9_10_11_12_13_14p, bd28_0, bd28_0p, bd28_0_1, bd28_0_1p, bd30_, bd30_p, bd30_0_1, bd30_0_1p, bd30_0, bd30_0p, bd46_0_1_2_3_4, bd46_0_1_2_3_4p, bd46_0_3_4, bd46_0_3_4p, bd86_0_1_2, bd86_0_1_2p, bd87_0_1_2_3, bd87_0_1_2_3p, bd95_0_1, bd95_0_1p, bs22_2_0_1, bs47_1_0, bs22_1_0, bs57_6_0_1_2_3_4_5, bs24_1_0, bs22_4_0_1_2_3, bs56_11_0_1_2_3_4_5_6_7_8_9_10, bs57_11_0_1_2_3_4_5_6_7_8_9_10, eq4, eq4p, eq28, eq28p, eq30, eq30p, eq31n, eq31np, eq31s, eq31sp, eq46, eq46p, eq50n, eq50np, eq50s, eq50sp, eq67n, eq67np, eq67s, eq67sp, ne4, ne4p, ne28, ne28p, ne30, ne30p, ne31n, ne31np, ne31s, ne31sp, ne46, ne46p, cx]
  refine (way_spec (gs.up l1 d1) st mb).mono ?_
  rintro _ h2 ⟨ip, v, L, rfl, o, s2, d2, _⟩
  try simp -implicitDefEqProofs (maxSteps := 2000000) (disch := first | with_reducible exact Nat.ne_of_beq_eq_false rfl | exact oneCell_int | exact oneCell_bool | omega | rfl | (simp; done) | fail) only [ex1, true_and, ex0]
  exact l1.trans (s2.in 1 rfl)

end Go.Proofs.YtnpdploihlgcgaaDoor
