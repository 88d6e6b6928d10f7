/- Texts of the proof, one behind the other. -/
import Derived.Test.YtnpdploihlgcgaaDoorM4
import Derived.Test.YtnpdploihlgcgaaDoorM1
import Derived.Test.YtnpdploihlgcgaaDoorHZ
section
/- The way of a move: is it legal, which cells. -/
set_option linter.unusedSimpArgs false
set_option linter.unusedVariables false
set_option maxRecDepth 100000
namespace Go.Proofs.YtnpdploihlgcgaaDoor
open Go Go.HL

def squareL (c : Cell) : List Cell := [(c.1, c.2), (wr (c.1 + 1), c.2), (c.1, wr (c.2 + 1)), (wr (c.1 + 1), wr (c.2 + 1))]

theorem square_spec {G h : Hp} {c : Cell} : HCalls Tryd.prog G 77 #[cellV c] h (fun u h' => ∃ ip s, u = .slice s 4 4 ∧ Slc cellC 28 ip u (squareL c) ∧ Sep [ip, h] h' ∧ Dis G h') := by
  refine HCalls.assume fun d => enter77 (by simp) ?_
  unfold S77
  simp -implicitDefEqProofs only [regs0, retK_ret, resL_tmp, upd_eq, resL_nil1, opH_sv, box_new, cells_agg, fa28_1, add_mk, Nat.zero_add, ld3, fa28_0, Nat.add_zero, ld28, cell_set_self, List.getElem?_cons_zero, Option.some.injEq, List.getElem?_cons_succ, exists_eq_left', bin_add, bd28_0_1, bs22_4_0_1_2_3]
  intro x hx gx
  generalize e1 : Hp.set h x _ = h1
  obtain ⟨l1, d1, b1⟩ := boxed e1 hx d gx
  have cx : ∀ j, cellIn G h1 ⟨x, j, none⟩ = _ := fun j => cell_of (look_own b1)
  try simp -implicitDefEqProofs only [opH_sv, opH_su, pureW_sv, opH_nil, pureW_nil, pick_t, pick_f, pick_tp, pick_fp, gd_tt, gd_ft, gd_tf, gd_ff, box_new, regs0, regs1, regs2, regs3, regs4, regs5, regs6, cells_agg, cells_int, cells_bool, cells_ptr, cells_slice, cells_string, cells_func, cells_nilFunc, cells_map, retK_ret, retK_normal, resL_tmp, resL_cell, resL_nil0, resL_nil1, resL_nil2, resL_nil3, resC_ptr, ex0, ex1, ex2, ex0p, ex1p, ex2p, HL.cond_true, HL.cond_false, thenK_normal, thenK_ret, thenK_exit, blockK_normal, blockK_ret, blockK_exit, scopeK_normal, scopeK_ret, scopeK_exit, wpH_pure, bin_add, bin_sub, bin_mul, bin_lss, bin_leq, bin_gtr, bin_geq, bin_quo, bin_rem, bin_quop, bin_remp, wrap_in, bin_addp, bin_subp, bin_mulp, bin_lssp, bin_leqp, bin_gtrp, bin_geqp, un_not, un_notp, un_neg, eq_int, ne_int, eq_intp, ne_intp, callV_fn, add_mk, upd_eq, upd_ne, cell_set_self, Nat.zero_add, Nat.add_zero, Option.some.injEq, exists_eq_left', List.getElem?_cons_succ, List.getElem?_cons_zero, true_and, and_true, bne_self_eq_false, beq_self_eq_true, Bool.not_true, Bool.not_false, Bool.and_true, Bool.and_self, Bool.and_false, Bool.true_and, List.length_cons, List.length_nil, ne_eq, not_false_eq_true, Nat.reduceAdd, Nat.reduceMul, if_true, if_false, oneCell_int, oneCell_bool, oneCell_ptr, oneCell_slice, oneCell_string, oneCell_func, oneCell_map, Int.toNat_natCast, List.set_cons_zero, List.set_cons_succ, Nat.lt_irrefl, Nat.zero_lt_succ, Nat.succ_lt_succ_iff, fa26_0, fa26_0p, fa26_1, fa26_1p, fa26_10, fa26_10p, fa26_11, fa26_11p, fa26_12, fa26_12p, fa26_13, fa26_13p, fa26_14, fa26_14p, fa26_2, fa26_2p, fa26_3, fa26_3p, fa26_4, fa26_4p, fa26_5, fa26_5p, fa26_6, fa26_6p, fa26_7, fa26_7p, fa26_8, fa26_8p, fa26_9, fa26_9p, fa28_0, fa28_0p, fa28_1, fa28_1p, fa30_0, fa30_0p, fa30_1, fa30_1p, fa46_0, fa46_0p, fa46_1, fa46_1p, fa46_2, fa46_2p, fa46_3, fa46_3p, fa46_4, fa46_4p, fa46_5, fa46_5p, fa46_6, fa46_6p, fa86_0, fa86_0p, fa86_1, fa86_1p, fa86_2, fa86_2p, fa95_0, fa95_0p, fa95_1, fa95_1p, ld3, ld3p, ld4, ld4p, ld22, ld22p, ld23, ld23p, ld24, ld24p, ld26, ld26p, ld28, ld28p, ld30, ld30p, ld31, ld31p, ld46, ld46p, ld47, ld47p, ld52, ld52p, ld55, ld55p, ld57, ld57p, ld95, ld95p, st3s, st4s, st22s, st23s, st24s, st26w, st28w, st30w, st46w, st47s, st55s, st95w, ix22, ix22p, ix23, ix23p, ix24, ix24p, ix47, ix47p, ix56, ix56p, ix57, ix57p, ix101, ix101p, ln22, ln22p, ln23, ln23p, ln24, ln24p, ln47, ln47p, ln56, ln56p, ln57, ln57p, al22, al26, al28, al30, al46, al47, al95, cf14, cf15, cf16, cf17, cf18, cf19, cf20, cf21, cf22, cf23, cf24, cf25, cf26, cf27, cf28, cf29, cf30, cf31, cf32, cf33, cf34, cf35, cf36, cf37, cf38, cf39, cf40, cf41, cf42, cf43, cf44, cf45, cf46, cf47, cf48, cf49, cf50, cf51, cf52, cf53, cf54, cf55, cf56, cf57, cf58, cf59, cf60, cf61, cf62, cf63, cf64, cf65, cf66, cf67, cf68, cf69, cf70, cf71, cf72, cf73, cf74, cf75, cf76, cf77, cf78, cf79, cf80, bd26_0_1_2_7_8_9_10_11_12_13_14, bd26_0_1_2_7_8_9_10_11_12_13_14p, bd28_0, bd28_0p, bd28_0_1, bd28_0_1p, bd30_, bd30_p, bd30_0_1, bd30_0_1p, bd30_0, bd30_0p, bd46_0_1_2_3_4, bd46_0_1_2_3_4p, bd46_0_3_4, bd46_0_3_4p, bd86_0_1_2, bd86_0_1_2p, bd87_0_1_2_3, bd87_0_1_2_3p, bd95_0_1, bd95_0_1p, bs22_2_0_1, bs47_1_0, bs22_1_0, bs57_6_0_1_2_3_4_5, bs24_1_0, bs22_4_0_1_2_3, bs56_11_0_1_2_3_4_5_6_7_8_9_10, bs57_11_0_1_2_3_4_5_6_7_8_9_10, eq4, eq4p, eq28, eq28p, eq30, eq30p, eq31n, eq31np, eq31s, eq31sp, eq46, eq46p, eq50n, eq50np, eq50s, eq50sp, eq67n, eq67np, eq67s, eq67sp, ne4, ne4p, ne28, ne28p, ne30, ne30p, ne31n, ne31np, ne31s, ne31sp, ne46, ne46p, cx]
  intro b hb gb
  refine ⟨noHp.set b _, some ⟨b, 0, none⟩, rfl, ⟨some b, 4, [], rfl, set_self, rfl⟩, (Sep.one.new (hb)).swap.cut l1 |>.swap, d1.set gb⟩

def stepB (w k : Nat) (f : Nat → Nat → Int) (m : Move) (i : Nat) : Bool := okS m.d i && fitsW w k f (shiftP m.f m.d i)
def turnP (p : Pose) : Pose := ⟨p.x, p.y, !p.d⟩
def wayB (w k : Nat) (f : Nat → Nat → Int) (m : Move) : Bool := fitsW w k f m.f &&
  (if m.k = 1 then decide (1 ≤ m.n) && ((List.range (m.n.toNat + 1)).all (stepB w k f m) && decide (m.t = shiftP m.f m.d m.n))
   else decide (m.d = 0 ∧ m.n = 0) && (if m.k = 2 then (squareL (m.f.x, m.f.y)).all (openW w k f) && decide (m.t = turnP m.f) else decide (m.k = 3 ∨ m.k = 4) && decide (m.t = m.f)))
def wayL (m : Move) : List Cell := if m.k = 1 then (List.range (m.n.toNat + 1)).flatMap (fun (i : Nat) => cellsP (shiftP m.f m.d i)) else if m.k = 2 then squareL (m.f.x, m.f.y) else cellsP m.f

def WayR (G h : Hp) (w k : Nat) (f : Nat → Nat → Int) (m : Move) (u : Value) (h' : Hp) : Prop :=
  ∃ ip v L, u = .tuple #[v, .bool (wayB w k f m)] ∧ Slc cellC 28 ip v L ∧ Sep [ip, h] h' ∧ Dis G h' ∧ (wayB w k f m = true → L = wayL m)

theorem WayR.no {G h h' : Hp} {w k : Nat} {f : Nat → Nat → Int} {m : Move} (l : h.le h') (d : Dis G h') (e : wayB w k f m = false) : WayR G h w k f m (.tuple #[.slice none 0 0, .bool false]) h' :=
  ⟨noHp, _, [], by rw [e], Slc.nil, (Sep.one.le l).none, d, fun q => by rw [e] at q; cases q⟩

theorem WayR.less {G h0 h h' : Hp} {w k : Nat} {f : Nat → Nat → Int} {m : Move} {u : Value} (l : h0.le h) (x : WayR G h w k f m u h') : WayR G h0 w k f m u h' := by
  obtain ⟨ip, v, L, e1, e2, s, d, e3⟩ := x
  exact ⟨ip, v, L, e1, e2, (s.swap.cut l).swap, d, e3⟩

structure MB (m : Move) : Prop where
  n : Bd m.n
  f : PB m.f

theorem pose_beq2 {p q : Pose} : ((p.x == q.x && p.y == q.y) && (p.d == q.d)) = decide (p = q) := by
  obtain ⟨a, b, c⟩ := p
  obtain ⟨a', b', c'⟩ := q
  rw [Bool.eq_iff_iff]
  simp [and_assoc]
theorem store30 {G h : Hp} {lb : Nat} {z0 z1 z2 : Value} {p : Pose} {K : Unit → Hp → Prop} (hb : h lb = some (.cells #[z0, z1, z2] 30 (0, 0))) :
    wpH Tryd.prog G (Instr.storeAt 30 (.pointer (some ⟨lb, 0, none⟩)) (poseV p)) h K = K () (h.set lb (.cells #[.int .i64 p.x, .int .i64 p.y, .bool p.d] 30 (0, 0))) := by
  conv => lhs; rw [← set_same hb]
  exact st30w

theorem gd_un {w : Bool} {X : (Value → Hp → Prop) → Prop} {h : Hp} {K : Value → Hp → Prop} : gd (wantB undef w) X h K = K undef h := by cases w <;> rfl

abbrev moveO (m : Move) : Obj := .cells #[.int .i64 m.k, .int .i64 m.d, .int .i64 m.n, .int .i64 m.f.x, .int .i64 m.f.y, .bool m.f.d, .int .i64 m.t.x, .int .i64 m.t.y, .bool m.t.d, .int .i64 m.a, .int .i64 m.e] 46 (0, 0)
def lastP (m : Move) (i : Nat) : Pose := if i = 0 then m.f else shiftP m.f m.d ((i : Int) - 1)

theorem range_all_succ {s : Nat → Bool} {i : Nat} (h : ∀ j, j < i → s j = true) (hs : s i = true) : ∀ j, j < i + 1 → s j = true := fun j hj => by
  rcases Nat.lt_succ_iff_lt_or_eq.1 hj with h1 | rfl
  · exact h j h1
  · exact hs
theorem flat_succ {α : Type} {F : Nat → List α} {i : Nat} : (List.range (i + 1)).flatMap F = (List.range i).flatMap F ++ F i := by
  rw [List.range_succ, List.flatMap_append]
  simp

theorem wayB_run {w k : Nat} {f : Nat → Nat → Int} {m : Move} (hk : m.k = 1) : wayB w k f m = (fitsW w k f m.f && (decide (1 ≤ m.n) && ((List.range (m.n.toNat + 1)).all (stepB w k f m) && decide (m.t = shiftP m.f m.d m.n)))) := by
  unfold wayB
  rw [if_pos hk]

set_option maxHeartbeats 4000000 in
theorem way_run {G h h1 h0 : Hp} {x lb w k : Nat} {g : Value} {f : Nat → Nat → Int} {m : Move} {r : Rg} (gs : GS G h1 g w k f) (st : Steps G) (nb : Bd m.n) (hf : fitsW w k f m.f = true) (hk : m.k = 1)
    (bx : h1 x = some (moveO m)) (g0 : r 0 = g) (g3 : r 3 = .pointer (some ⟨x, 0, none⟩)) (g6 : r 6 = .slice none 0 0) (g7 : r 7 = .pointer (some ⟨lb, 0, none⟩)) (g8 : r 8 = .int .i64 0)
    (s : Sep [noHp.set lb (.cells #[.int .i64 m.f.x, .int .i64 m.f.y, .bool m.f.d] 30 (0, 0)), h1] h) (d : Dis G h) (l0 : h0.le h1) :
    loopP (S63_l5 G) r h (blockK 1 (thenK (S63_k4 G (retK Tryd.prog G [.tmp 4, .tmp 5] (WayR G h0 w k f m))) (blockK 0 (thenK (S63_k3 G (retK Tryd.prog G [.tmp 4, .tmp 5] (WayR G h0 w k f m))) (retK Tryd.prog G [.tmp 4, .tmp 5] (WayR G h0 w k f m)))))) := by
  refine loop_I (fun mm r2 h3 => ∃ (i : Nat) (ip : Hp) (sv : Value), mm = 18 - i ∧ i ≤ 17 ∧ (m.n < 0 → i = 0) ∧ (0 ≤ m.n → (i : Int) ≤ m.n + 1) ∧ r2 0 = g ∧ r2 3 = .pointer (some ⟨x, 0, none⟩) ∧ r2 7 = .pointer (some ⟨lb, 0, none⟩) ∧ r2 8 = .int .i64 i ∧ r2 6 = sv ∧
     Slc cellC 28 ip sv ((List.range i).flatMap fun (j : Nat) => cellsP (shiftP m.f m.d j)) ∧ Sep [ip, noHp.set lb (.cells #[.int .i64 (lastP m i).x, .int .i64 (lastP m i).y, .bool (lastP m i).d] 30 (0, 0)), h1] h3 ∧ Dis G h3 ∧ (∀ j, j < i → stepB w k f m j = true)) ?_
    (m := 18) ⟨0, noHp, _, rfl, by decide, fun _ => rfl, fun h => by simp; omega, g0, g3, g7, g8, g6, Slc.nil, by simpa [lastP] using s.none, d, by simp⟩
  rintro mm r2 h3 ⟨i, ip, sv, rfl, hi, hneg, hpos, q0, q3, q7, q8, q6, o, s3, d3, hs⟩ X HX
  have bx3 := s3.at 2 rfl bx
  have cx : ∀ j, cellIn G h3 ⟨x, j, none⟩ = _ := fun j => cell_of (look_own bx3)
  unfold S63_l5
  simp -implicitDefEqProofs only [q3, q8, thenK_exit, blockK_exit, thenK_normal, if_true, opH_sv, fa46_2, add_mk, Nat.zero_add, ld3, cx, List.getElem?_cons_succ, List.getElem?_cons_zero, Option.some.injEq, exists_eq_left', bin_leq]
  refine cond_dec (fun hle => ?_) (fun hgt => ?_)
  rotate_left
  · -- the end
    try simp -implicitDefEqProofs only [opH_sv, opH_su, pureW_sv, opH_nil, pureW_nil, pick_t, pick_f, pick_tp, pick_fp, gd_tt, gd_ft, gd_tf, gd_ff, box_new, regs0, regs1, regs2, regs3, regs4, regs5, regs6, cells_agg, cells_int, cells_bool, cells_ptr, cells_slice, cells_string, cells_func, cells_nilFunc, cells_map, retK_ret, retK_normal, resL_tmp, resL_cell, resL_nil0, resL_nil1, resL_nil2, resL_nil3, resC_ptr, ex0, ex1, ex2, ex0p, ex1p, ex2p, HL.cond_true, HL.cond_false, thenK_normal, thenK_ret, thenK_exit, blockK_normal, blockK_ret, blockK_exit, scopeK_normal, scopeK_ret, scopeK_exit, wpH_pure, bin_add, bin_sub, bin_mul, bin_lss, bin_leq, bin_gtr, bin_geq, bin_quo, bin_rem, bin_quop, bin_remp, wrap_in, bin_addp, bin_subp, bin_mulp, bin_lssp, bin_leqp, bin_gtrp, bin_geqp, un_not, un_notp, un_neg, eq_int, ne_int, eq_intp, ne_intp, callV_fn, add_mk, upd_eq, upd_ne, cell_set_self, Nat.zero_add, Nat.add_zero, Option.some.injEq, exists_eq_left', List.getElem?_cons_succ, List.getElem?_cons_zero, true_and, and_true, bne_self_eq_false, beq_self_eq_true, Bool.not_true, Bool.not_false, Bool.and_true, Bool.and_self, Bool.and_false, Bool.true_and, List.length_cons, List.length_nil, ne_eq, not_false_eq_true, Nat.reduceAdd, Nat.reduceMul, if_true, if_false, oneCell_int, oneCell_bool, oneCell_ptr, oneCell_slice, oneCell_string, oneCell_func, oneCell_map, Int.toNat_natCast, List.set_cons_zero, List.set_cons_succ, Nat.lt_irrefl, Nat.zero_lt_succ, Nat.succ_lt_succ_iff, fa26_0, fa26_0p, fa26_1, fa26_1p, fa26_10, fa26_10p, fa26_11, fa26_11p, fa26_12, fa26_12p, fa26_13, fa26_13p, fa26_14, fa26_14p, fa26_2, fa26_2p, fa26_3, fa26_3p, fa26_4, fa26_4p, fa26_5, fa26_5p, fa26_6, fa26_6p, fa26_7, fa26_7p, fa26_8, fa26_8p, fa26_9, fa26_9p, fa28_0, fa28_0p, fa28_1, fa28_1p, fa30_0, fa30_0p, fa30_1, fa30_1p, fa46_0, fa46_0p, fa46_1, fa46_1p, fa46_2, fa46_2p, fa46_3, fa46_3p, fa46_4, fa46_4p, fa46_5, fa46_5p, fa46_6, fa46_6p, fa86_0, fa86_0p, fa86_1, fa86_1p, fa86_2, fa86_2p, fa95_0, fa95_0p, fa95_1, fa95_1p, ld3, ld3p, ld4, ld4p, ld22, ld22p, ld23, ld23p, ld24, ld24p, ld26, ld26p, ld28, ld28p, ld30, ld30p, ld31, ld31p, ld46, ld46p, ld47, ld47p, ld52, ld52p, ld55, ld55p, ld57, ld57p, ld95, ld95p, st3s, st4s, st22s, st23s, st24s, st26w, st28w, st30w, st46w, st47s, st55s, st95w, ix22, ix22p, ix23, ix23p, ix24, ix24p, ix47, ix47p, ix56, ix56p, ix57, ix57p, ix101, ix101p, ln22, ln22p, ln23, ln23p, ln24, ln24p, ln47, ln47p, ln56, ln56p, ln57, ln57p, al22, al26, al28, al30, al46, al47, al95, cf14, cf15, cf16, cf17, cf18, cf19, cf20, cf21, cf22, cf23, cf24, cf25, cf26, cf27, cf28, cf29, cf30, cf31, cf32, cf33, cf34, cf35, cf36, cf37, cf38, cf39, cf40, cf41, cf42, cf43, cf44, cf45, cf46, cf47, cf48, cf49, cf50, cf51, cf52, cf53, cf54, cf55, cf56, cf57, cf58, cf59, cf60, cf61, cf62, cf63, cf64, cf65, cf66, cf67, cf68, cf69, cf70, cf71, cf72, cf73, cf74, cf75, cf76, cf77, cf78, cf79, cf80, bd26_0_1_2_7_8_9_10_11_12_13_14, bd26_0_1_2_7_8_9_10_11_12_13_14p, bd28_0, bd28_0p, bd28_0_1, bd28_0_1p, bd30_, bd30_p, bd30_0_1, bd30_0_1p, bd30_0, bd30_0p, bd46_0_1_2_3_4, bd46_0_1_2_3_4p, bd46_0_3_4, bd46_0_3_4p, bd86_0_1_2, bd86_0_1_2p, bd87_0_1_2_3, bd87_0_1_2_3p, bd95_0_1, bd95_0_1p, bs22_2_0_1, bs47_1_0, bs22_1_0, bs57_6_0_1_2_3_4_5, bs24_1_0, bs22_4_0_1_2_3, bs56_11_0_1_2_3_4_5_6_7_8_9_10, bs57_11_0_1_2_3_4_5_6_7_8_9_10, eq4, eq4p, eq28, eq28p, eq30, eq30p, eq31n, eq31np, eq31s, eq31sp, eq46, eq46p, eq50n, eq50np, eq50s, eq50sp, eq67n, eq67np, eq67s, eq67sp, ne4, ne4p, ne28, ne28p, ne30, ne30p, ne31n, ne31np, ne31s, ne31sp, ne46, ne46p]
    unfold S63_k4
    have cl : ∀ j, cellIn G h3 ⟨lb, j, none⟩ = _ := fun j => cell_of (look_own (s3.at 1 rfl set_self))
    try simp -implicitDefEqProofs (disch := first | with_reducible exact Nat.ne_of_beq_eq_false rfl | omega) only [upd_ne, q3, q7, retK_ret, resL_tmp, upd_eq, resL_nil2, pureW_sv, fa46_2p, add_mk, Nat.zero_add, ld3p, cx, List.getElem?_cons_succ, List.getElem?_cons_zero, Option.some.injEq, exists_eq_left', bin_geqp]
    by_cases h1n : 1 ≤ m.n
    · have e1 : decide (m.n ≥ 1) = true := decide_eq_true h1n
      have hin : (i : Int) = m.n + 1 := by have := hpos (by omega); omega
      have elast : lastP m i = shiftP m.f m.d m.n := by
        unfold lastP
        rw [if_neg (by omega), show (i : Int) - 1 = m.n by omega]
      have eall : (List.range (m.n.toNat + 1)).all (stepB w k f m) = true := by
        rw [List.all_eq_true]
        intro j hj
        exact hs j (by have := List.mem_range.1 hj; omega)
      try simp -implicitDefEqProofs (maxSteps := 2000000) (disch := first | with_reducible exact Nat.ne_of_beq_eq_false rfl | exact oneCell_int | exact oneCell_bool | omega | rfl | (simp; done) | fail) only [e1, q6, pick_tp, gd_tt, pureW_sv, ld30p, add_mk, Nat.add_zero, cl, List.getElem?_cons_zero, Option.some.injEq, Nat.zero_add, List.getElem?_cons_succ, exists_eq_left', fa46_4p, cx, Nat.reduceAdd, eq30p, Bool.and_true, pose_beq2]
      rw [elast]
      have ew : wayB w k f m = decide (m.t = shiftP m.f m.d m.n) := by
        rw [wayB_run hk, hf, eall, decide_eq_true h1n]
        simp
      refine WayR.less l0 ⟨ip, sv, _, ?_, o, (s3.pick 1 rfl rfl).drop, d3, fun _ => ?_⟩
      · rw [ew]
      · unfold wayL
        rw [if_pos hk, show m.n.toNat + 1 = i by omega]
    · have e1 : decide (m.n ≥ 1) = false := decide_eq_false (by omega)
      try simp -implicitDefEqProofs (maxSteps := 2000000) (disch := first | with_reducible exact Nat.ne_of_beq_eq_false rfl | exact oneCell_int | exact oneCell_bool | omega | rfl | (simp; done) | fail) only [e1, q6, pick_fp, gd_ft]
      have ew : wayB w k f m = false := by
        rw [wayB_run hk, decide_eq_false (show ¬ 1 ≤ m.n from h1n)]
        simp
      refine WayR.less l0 ⟨ip, sv, _, by rw [ew], o, (s3.pick 1 rfl rfl).drop, d3, fun q => by rw [ew] at q; cases q⟩
  unfold S63_l5_k6
  try simp -implicitDefEqProofs (disch := first | with_reducible exact Nat.ne_of_beq_eq_false rfl | omega) only [upd_ne, q3, q0, q8, thenK_ret, blockK_ret, retK_ret, resL_tmp, upd_eq, resL_nil2, opH_sv, opH_su, al30, cf18, fa46_1, add_mk, Nat.zero_add, ld3, fa46_3, ld30, Nat.add_zero, cx, List.getElem?_cons_succ, List.getElem?_cons_zero, Option.some.injEq, Nat.reduceAdd, exists_eq_left']
  refine (shift_spec (p := m.f) (dir := m.d) (n := (i : Int)) st).mono ?_
  rintro _ h3 ⟨rfl, rfl⟩
  try simp -implicitDefEqProofs only [ex1, un_not, ex0, st30w]
  intro y hy gy
  have s4 := s3.past (o := .cells #[.int .i64 (shiftA m.f m.d i).x, .int .i64 (shiftA m.f m.d i).y, .bool (shiftA m.f m.d i).d] 30 (0, 0)) hy
  have hy4 : (h3.set y (.cells #[.int .i64 (shiftA m.f m.d i).x, .int .i64 (shiftA m.f m.d i).y, .bool (shiftA m.f m.d i).d] 30 (0, 0))) y = some (.cells #[.int .i64 (shiftA m.f m.d i).x, .int .i64 (shiftA m.f m.d i).y, .bool (shiftA m.f m.d i).d] 30 (0, 0)) := set_self
  have sg := (s3.pick 2 rfl rfl).grow (o := .cells #[.int .i64 (shiftA m.f m.d i).x, .int .i64 (shiftA m.f m.d i).y, .bool (shiftA m.f m.d i).d] 30 (0, 0)) hy
  have d4 := d3.set (o := .cells #[.int .i64 (shiftA m.f m.d i).x, .int .i64 (shiftA m.f m.d i).y, .bool (shiftA m.f m.d i).d] 30 (0, 0)) gy
  generalize Hp.set h3 y _ = h4 at s4 hy4 d4 sg ⊢
  have hin : stepB w k f m i = false → 0 ≤ m.n → wayB w k f m = false := fun e h0 => by
    rw [wayB_run hk]
    have : (List.range (m.n.toNat + 1)).all (stepB w k f m) = false := by
      rw [List.all_eq_false]
      exact ⟨i, List.mem_range.2 (by omega), by simp [e]⟩
    rw [this]
    simp
  have h0n : 0 ≤ m.n := by omega
  have cy : ∀ j, cellIn G h4 ⟨y, j, none⟩ = _ := fun j => cell_of (look_own hy4)
  cases hok : okS m.d i with
  | false =>
    try simp -implicitDefEqProofs only [Bool.not_false, pick_t, HL.cond_true, gd_tf]
    exact WayR.less l0 <| WayR.no (s4.in 2 rfl) d4 (hin (by unfold stepB; rw [hok]; rfl) h0n)
  | true =>
  have hi16 : i ≤ 16 := by
    unfold okS at hok
    rw [Bool.and_eq_true] at hok
    have := (withinB_iff.1 hok.1).2
    omega
  have esh : shiftA m.f m.d i = shiftP m.f m.d i := by unfold shiftA; rw [if_pos hok]
  rw [esh] at cy hy4 sg
  try simp -implicitDefEqProofs only [Bool.not_true, pick_f, gd_ff, opH_sv, cf23, ld30, add_mk, Nat.add_zero, Nat.zero_add, cy, List.getElem?_cons_zero, Option.some.injEq, List.getElem?_cons_succ, exists_eq_left']
  refine (fits_spec (p := shiftP m.f m.d i) (gs.up (s4.in 2 rfl) d4) st shiftP_bd).mono ?_
  rintro _ h4 ⟨rfl, rfl⟩
  cases hfi : fitsW w k f (shiftP m.f m.d i) with
  | false =>
    try simp -implicitDefEqProofs only [un_not, Bool.not_false, HL.cond_true]
    exact WayR.less l0 <| WayR.no (s4.in 2 rfl) d4 (hin (by unfold stepB; rw [hok, hfi]; rfl) h0n)
  | true =>
  try simp -implicitDefEqProofs (disch := first | with_reducible exact Nat.ne_of_beq_eq_false rfl | omega) only [un_not, Bool.not_true, HL.cond_false]
  unfold S63_l5_k8
  try simp -implicitDefEqProofs (disch := first | with_reducible exact Nat.ne_of_beq_eq_false rfl | omega) only [upd_ne, upd_eq, q0, q6, opH_su, opH_sv, ld30, add_mk, Nat.add_zero, Nat.zero_add, cf21, cy, List.getElem?_cons_zero, Option.some.injEq, List.getElem?_cons_succ, exists_eq_left']
  refine (cells_spec (g := g) (p := shiftP m.f m.d i) st shiftP_bd).mono ?_
  rintro _ _ ⟨b, rfl, hb, gb, rfl⟩
  generalize e5 : Hp.set h4 b _ = h5
  obtain ⟨l5, d5, b5⟩ := boxed e5 hb d4 gb
  have s5 := (sg.le l5).pick 1 rfl rfl
  have hlen : ((List.range i).flatMap fun (j : Nat) => cellsP (shiftP m.f m.d j)).length = 2 * i := by
    rw [List.length_flatMap, show (fun (j : Nat) => (cellsP (shiftP m.f m.d j)).length) = fun _ => 2 from rfl, List.map_const', List.sum_replicate_nat, List.length_range, Nat.mul_comm]
  try simp -implicitDefEqProofs only [opH_sv, opH_su, pureW_sv, opH_nil, pureW_nil, pick_t, pick_f, pick_tp, pick_fp, gd_tt, gd_ft, gd_tf, gd_ff, box_new, regs0, regs1, regs2, regs3, regs4, regs5, regs6, cells_agg, cells_int, cells_bool, cells_ptr, cells_slice, cells_string, cells_func, cells_nilFunc, cells_map, retK_ret, retK_normal, resL_tmp, resL_cell, resL_nil0, resL_nil1, resL_nil2, resL_nil3, resC_ptr, ex0, ex1, ex2, ex0p, ex1p, ex2p, HL.cond_true, HL.cond_false, thenK_normal, thenK_ret, thenK_exit, blockK_normal, blockK_ret, blockK_exit, scopeK_normal, scopeK_ret, scopeK_exit, wpH_pure, bin_add, bin_sub, bin_mul, bin_lss, bin_leq, bin_gtr, bin_geq, bin_quo, bin_rem, bin_quop, bin_remp, wrap_in, bin_addp, bin_subp, bin_mulp, bin_lssp, bin_leqp, bin_gtrp, bin_geqp, un_not, un_notp, un_neg, eq_int, ne_int, eq_intp, ne_intp, callV_fn, add_mk, upd_eq, upd_ne, cell_set_self, Nat.zero_add, Nat.add_zero, Option.some.injEq, exists_eq_left', List.getElem?_cons_succ, List.getElem?_cons_zero, true_and, and_true, bne_self_eq_false, beq_self_eq_true, Bool.not_true, Bool.not_false, Bool.and_true, Bool.and_self, Bool.and_false, Bool.true_and, List.length_cons, List.length_nil, ne_eq, not_false_eq_true, Nat.reduceAdd, Nat.reduceMul, if_true, if_false, oneCell_int, oneCell_bool, oneCell_ptr, oneCell_slice, oneCell_string, oneCell_func, oneCell_map, Int.toNat_natCast, List.set_cons_zero, List.set_cons_succ, Nat.lt_irrefl, Nat.zero_lt_succ, Nat.succ_lt_succ_iff, fa26_0, fa26_0p, fa26_1, fa26_1p, fa26_10, fa26_10p, fa26_11, fa26_11p, fa26_12, fa26_12p, fa26_13, fa26_13p, fa26_14, fa26_14p, fa26_2, fa26_2p, fa26_3, fa26_3p, fa26_4, fa26_4p, fa26_5, fa26_5p, fa26_6, fa26_6p, fa26_7, fa26_7p, fa26_8, fa26_8p, fa26_9, fa26_9p, fa28_0, fa28_0p, fa28_1, fa28_1p, fa30_0, fa30_0p, fa30_1, fa30_1p, fa46_0, fa46_0p, fa46_1, fa46_1p, fa46_2, fa46_2p, fa46_3, fa46_3p, fa46_4, fa46_4p, fa46_5, fa46_5p, fa46_6, fa46_6p, fa86_0, fa86_0p, fa86_1, fa86_1p, fa86_2, fa86_2p, fa95_0, fa95_0p, fa95_1, fa95_1p, ld3, ld3p, ld4, ld4p, ld22, ld22p, ld23, ld23p, ld24, ld24p, ld26, ld26p, ld28, ld28p, ld30, ld30p, ld31, ld31p, ld46, ld46p, ld47, ld47p, ld52, ld52p, ld55, ld55p, ld57, ld57p, ld95, ld95p, st3s, st4s, st22s, st23s, st24s, st26w, st28w, st30w, st46w, st47s, st55s, st95w, ix22, ix22p, ix23, ix23p, ix24, ix24p, ix47, ix47p, ix56, ix56p, ix57, ix57p, ix101, ix101p, ln22, ln22p, ln23, ln23p, ln24, ln24p, ln47, ln47p, ln56, ln56p, ln57, ln57p, al22, al26, al28, al30, al46, al47, al95, cf14, cf15, cf16, cf17, cf18, cf19, cf20, cf21, cf22, cf23, cf24, cf25, cf26, cf27, cf28, cf29, cf30, cf31, cf32, cf33, cf34, cf35, cf36, cf37, cf38, cf39, cf40, cf41, cf42, cf43, cf44, cf45, cf46, cf47, cf48, cf49, cf50, cf51, cf52, cf53, cf54, cf55, cf56, cf57, cf58, cf59, cf60, cf61, cf62, cf63, cf64, cf65, cf66, cf67, cf68, cf69, cf70, cf71, cf72, cf73, cf74, cf75, cf76, cf77, cf78, cf79, cf80, bd26_0_1_2_7_8_9_10_11_12_13_14, bd26_0_1_2_7_8_9_10_11_12_13_14p, bd28_0, bd28_0p, bd28_0_1, bd28_0_1p, bd30_, bd30_p, bd30_0_1, bd30_0_1p, bd30_0, bd30_0p, bd46_0_1_2_3_4, bd46_0_1_2_3_4p, bd46_0_3_4, bd46_0_3_4p, bd86_0_1_2, bd86_0_1_2p, bd87_0_1_2_3, bd87_0_1_2_3p, bd95_0_1, bd95_0_1p, bs22_2_0_1, bs47_1_0, bs22_1_0, bs57_6_0_1_2_3_4_5, bs24_1_0, bs22_4_0_1_2_3, bs56_11_0_1_2_3_4_5_6_7_8_9_10, bs57_11_0_1_2_3_4_5_6_7_8_9_10, eq4, eq4p, eq28, eq28p, eq30, eq30p, eq31n, eq31np, eq31s, eq31sp, eq46, eq46p, eq50n, eq50np, eq50s, eq50sp, eq67n, eq67np, eq67s, eq67sp, ne4, ne4p, ne28, ne28p, ne30, ne30p, ne31n, ne31np, ne31s, ne31sp, ne46, ne46p]
  refine append_piece cellC (by decide) un22 eocell (by decide) (by decide) (M := cellsP (shiftP m.f m.d i)) s5 d5 o (Sees.row b5 rfl (Nat.le_refl _)) (by rw [hlen, show (cellsP (shiftP m.f m.d i)).length = 2 from rfl]; omega) fun v' a' h6 o' s6 d6 => ?_
  have cy6 : ∀ j, cellIn G h6 ⟨y, j, none⟩ = _ := fun j => cell_of (look_own (s6.at 1 rfl set_self))
  have hlb6 := s6.at 2 rfl set_self
  try simp -implicitDefEqProofs (disch := first | with_reducible exact Nat.ne_of_beq_eq_false rfl | omega) only [cy6, List.getElem?_cons_zero, Option.some.injEq, List.getElem?_cons_succ, q7, exists_eq_left']
  rw [store30 (p := shiftP m.f m.d i) hlb6]
  have hy1 : h1 y = none := (s3.in 2 rfl).none hy
  have s7 := ((s6.pick 2 rfl rfl).put (o := .cells #[.int .i64 (shiftP m.f m.d i).x, .int .i64 (shiftP m.f m.d i).y, .bool (shiftP m.f m.d i).d] 30 (0, 0)) set_self)
  rw [set_set] at s7
  have s8 := ((s7.pick 2 rfl rfl).cut (le_set hy1))
  have s9 := (s8.pick 1 rfl rfl).pick 2 rfl rfl
  have d9 : Dis G (h6.set lb (.cells #[.int .i64 (shiftP m.f m.d i).x, .int .i64 (shiftP m.f m.d i).y, .bool (shiftP m.f m.d i).d] 30 (0, 0))) := d6.set (d6 _ _ hlb6)
  unfold S63_l5_k7
  try simp -implicitDefEqProofs (disch := first | with_reducible exact Nat.ne_of_beq_eq_false rfl | omega) only [upd_ne, q8, thenK_normal, opH_sv, bin_add, wrap_in]
  have el : lastP m (i + 1) = shiftP m.f m.d i := by
    unfold lastP
    rw [if_neg (by omega), show ((i + 1 : Nat) : Int) - 1 = i by omega]
  refine HX (18 - (i + 1)) _ _ (by omega) ⟨i + 1, a', v', rfl, by omega, fun h => absurd h (by omega), fun h => by omega, by simp -implicitDefEqProofs (disch := first | with_reducible exact Nat.ne_of_beq_eq_false rfl | omega) only [upd_ne, q0], by simp -implicitDefEqProofs (disch := first | with_reducible exact Nat.ne_of_beq_eq_false rfl | omega) only [upd_ne, q3], by simp -implicitDefEqProofs (disch := first | with_reducible exact Nat.ne_of_beq_eq_false rfl | omega) only [upd_ne, q7], by simp -implicitDefEqProofs (disch := first | with_reducible exact Nat.ne_of_beq_eq_false rfl | omega) only [upd_eq] <;> rfl, by simp -implicitDefEqProofs (disch := first | with_reducible exact Nat.ne_of_beq_eq_false rfl | omega) only [upd_ne, upd_eq], ?_, ?_, d9, range_all_succ hs (by unfold stepB; rw [hok, hfi]; rfl)⟩
  · rw [flat_succ]
    exact o'
  · rw [el]
    exact s9

theorem wayB_turn {w k : Nat} {f : Nat → Nat → Int} {m : Move} (hf : fitsW w k f m.f = true) (hk : m.k = 2) (hz : m.d = 0 ∧ m.n = 0) : wayB w k f m = ((squareL (m.f.x, m.f.y)).all (openW w k f) && decide (m.t = turnP m.f)) := by
  unfold wayB
  rw [if_neg (by omega), if_pos hk, hf, decide_eq_true hz]
  simp
theorem wayB_else {w k : Nat} {f : Nat → Nat → Int} {m : Move} (hf : fitsW w k f m.f = true) (hk1 : m.k ≠ 1) (hk : m.k ≠ 2) (hz : m.d = 0 ∧ m.n = 0) : wayB w k f m = (decide (m.k = 3 ∨ m.k = 4) && decide (m.t = m.f)) := by
  unfold wayB
  rw [if_neg hk1, if_neg hk, hf, decide_eq_true hz]
  simp

set_option maxHeartbeats 4000000 in
theorem way_turn {G h h1 h0 ip : Hp} {x w k : Nat} {g sv : Value} {f : Nat → Nat → Int} {m : Move} {r : Rg} (gs : GS G h1 g w k f) (hf : fitsW w k f m.f = true) (hk : m.k = 2) (hz : m.d = 0 ∧ m.n = 0)
    (bx : h1 x = some (moveO m)) (g0 : r 0 = g) (g3 : r 3 = .pointer (some ⟨x, 0, none⟩)) (g11 : r 11 = sv) (g84 : r 84 = sv) (g85 : r 85 = .int .i64 4) (g86 : r 86 = .int .i64 0)
    (o : Slc cellC 28 ip sv (squareL (m.f.x, m.f.y))) (s : Sep [ip, h1] h) (d : Dis G h) (l0 : h0.le h1) :
    loopP (S63_l10 G) r h (blockK 3 (thenK (S63_k9 G (retK Tryd.prog G [.tmp 4, .tmp 5] (WayR G h0 w k f m))) (blockK 0 (thenK (S63_k3 G (retK Tryd.prog G [.tmp 4, .tmp 5] (WayR G h0 w k f m))) (retK Tryd.prog G [.tmp 4, .tmp 5] (WayR G h0 w k f m)))))) := by
  obtain ⟨sa, cap, rfl, hcap⟩ := o.len (by decide)
  refine loop_I (fun mm r2 h3 => ∃ (i : Nat), mm = 4 - i ∧ i ≤ 4 ∧ r2 0 = g ∧ r2 3 = .pointer (some ⟨x, 0, none⟩) ∧ r2 11 = r 11 ∧ r2 84 = r 84 ∧ r2 85 = .int .i64 4 ∧ r2 86 = .int .i64 i ∧ Sep [ip, h1] h3 ∧ Dis G h3 ∧ ((squareL (m.f.x, m.f.y)).take i).all (openW w k f) = true) ?_
    (m := 4) ⟨0, rfl, by decide, g0, g3, rfl, rfl, g85, g86, s, d, by simp⟩
  rintro mm r2 h3 ⟨i, rfl, hi, q0, q3, q11, q84, q85, q86, s3, d3, hs⟩ X HX
  rw [g11] at q11
  rw [g84] at q84
  have bx3 := s3.at 1 rfl bx
  have cx : ∀ j, cellIn G h3 ⟨x, j, none⟩ = _ := fun j => cell_of (look_own bx3)
  unfold S63_l10
  simp -implicitDefEqProofs only [q86, q85, thenK_exit, blockK_exit, thenK_normal, if_true, opH_sv, bin_lss]
  refine cond_dec (fun hlt => ?_) (fun hge => ?_)
  rotate_left
  · obtain rfl : i = 4 := by omega
    try simp -implicitDefEqProofs only [opH_sv, opH_su, pureW_sv, opH_nil, pureW_nil, pick_t, pick_f, pick_tp, pick_fp, gd_tt, gd_ft, gd_tf, gd_ff, box_new, regs0, regs1, regs2, regs3, regs4, regs5, regs6, cells_agg, cells_int, cells_bool, cells_ptr, cells_slice, cells_string, cells_func, cells_nilFunc, cells_map, retK_ret, retK_normal, resL_tmp, resL_cell, resL_nil0, resL_nil1, resL_nil2, resL_nil3, resC_ptr, ex0, ex1, ex2, ex0p, ex1p, ex2p, HL.cond_true, HL.cond_false, thenK_normal, thenK_ret, thenK_exit, blockK_normal, blockK_ret, blockK_exit, scopeK_normal, scopeK_ret, scopeK_exit, wpH_pure, bin_add, bin_sub, bin_mul, bin_lss, bin_leq, bin_gtr, bin_geq, bin_quo, bin_rem, bin_quop, bin_remp, wrap_in, bin_addp, bin_subp, bin_mulp, bin_lssp, bin_leqp, bin_gtrp, bin_geqp, un_not, un_notp, un_neg, eq_int, ne_int, eq_intp, ne_intp, callV_fn, add_mk, upd_eq, upd_ne, cell_set_self, Nat.zero_add, Nat.add_zero, Option.some.injEq, exists_eq_left', List.getElem?_cons_succ, List.getElem?_cons_zero, true_and, and_true, bne_self_eq_false, beq_self_eq_true, Bool.not_true, Bool.not_false, Bool.and_true, Bool.and_self, Bool.and_false, Bool.true_and, List.length_cons, List.length_nil, ne_eq, not_false_eq_true, Nat.reduceAdd, Nat.reduceMul, if_true, if_false, oneCell_int, oneCell_bool, oneCell_ptr, oneCell_slice, oneCell_string, oneCell_func, oneCell_map, Int.toNat_natCast, List.set_cons_zero, List.set_cons_succ, Nat.lt_irrefl, Nat.zero_lt_succ, Nat.succ_lt_succ_iff, fa26_0, fa26_0p, fa26_1, fa26_1p, fa26_10, fa26_10p, fa26_11, fa26_11p, fa26_12, fa26_12p, fa26_13, fa26_13p, fa26_14, fa26_14p, fa26_2, fa26_2p, fa26_3, fa26_3p, fa26_4, fa26_4p, fa26_5, fa26_5p, fa26_6, fa26_6p, fa26_7, fa26_7p, fa26_8, fa26_8p, fa26_9, fa26_9p, fa28_0, fa28_0p, fa28_1, fa28_1p, fa30_0, fa30_0p, fa30_1, fa30_1p, fa46_0, fa46_0p, fa46_1, fa46_1p, fa46_2, fa46_2p, fa46_3, fa46_3p, fa46_4, fa46_4p, fa46_5, fa46_5p, fa46_6, fa46_6p, fa86_0, fa86_0p, fa86_1, fa86_1p, fa86_2, fa86_2p, fa95_0, fa95_0p, fa95_1, fa95_1p, ld3, ld3p, ld4, ld4p, ld22, ld22p, ld23, ld23p, ld24, ld24p, ld26, ld26p, ld28, ld28p, ld30, ld30p, ld31, ld31p, ld46, ld46p, ld47, ld47p, ld52, ld52p, ld55, ld55p, ld57, ld57p, ld95, ld95p, st3s, st4s, st22s, st23s, st24s, st26w, st28w, st30w, st46w, st47s, st55s, st95w, ix22, ix22p, ix23, ix23p, ix24, ix24p, ix47, ix47p, ix56, ix56p, ix57, ix57p, ix101, ix101p, ln22, ln22p, ln23, ln23p, ln24, ln24p, ln47, ln47p, ln56, ln56p, ln57, ln57p, al22, al26, al28, al30, al46, al47, al95, cf14, cf15, cf16, cf17, cf18, cf19, cf20, cf21, cf22, cf23, cf24, cf25, cf26, cf27, cf28, cf29, cf30, cf31, cf32, cf33, cf34, cf35, cf36, cf37, cf38, cf39, cf40, cf41, cf42, cf43, cf44, cf45, cf46, cf47, cf48, cf49, cf50, cf51, cf52, cf53, cf54, cf55, cf56, cf57, cf58, cf59, cf60, cf61, cf62, cf63, cf64, cf65, cf66, cf67, cf68, cf69, cf70, cf71, cf72, cf73, cf74, cf75, cf76, cf77, cf78, cf79, cf80, bd26_0_1_2_7_8_9_10_11_12_13_14, bd26_0_1_2_7_8_9_10_11_12_13_14p, bd28_0, bd28_0p, bd28_0_1, bd28_0_1p, bd30_, bd30_p, bd30_0_1, bd30_0_1p, bd30_0, bd30_0p, bd46_0_1_2_3_4, bd46_0_1_2_3_4p, bd46_0_3_4, bd46_0_3_4p, bd86_0_1_2, bd86_0_1_2p, bd87_0_1_2_3, bd87_0_1_2_3p, bd95_0_1, bd95_0_1p, bs22_2_0_1, bs47_1_0, bs22_1_0, bs57_6_0_1_2_3_4_5, bs24_1_0, bs22_4_0_1_2_3, bs56_11_0_1_2_3_4_5_6_7_8_9_10, bs57_11_0_1_2_3_4_5_6_7_8_9_10, eq4, eq4p, eq28, eq28p, eq30, eq30p, eq31n, eq31np, eq31s, eq31sp, eq46, eq46p, eq50n, eq50np, eq50s, eq50sp, eq67n, eq67np, eq67s, eq67sp, ne4, ne4p, ne28, ne28p, ne30, ne30p, ne31n, ne31np, ne31s, ne31sp, ne46, ne46p]
    unfold S63_k9
    try simp -implicitDefEqProofs (disch := first | with_reducible exact Nat.ne_of_beq_eq_false rfl | omega) only [upd_ne, q3, q11, retK_ret, resL_tmp, upd_eq, resL_nil2, pureW_sv, fa46_3p, add_mk, Nat.zero_add, fa30_1p, Nat.reduceAdd, ld4p, cx, List.getElem?_cons_succ, List.getElem?_cons_zero, Option.some.injEq, exists_eq_left', un_notp, fa30_0p, Nat.add_zero, ld28p, bd30_0_1p, fa46_4p, ld30p, eq30p, Bool.and_true]
    rw [List.take_of_length_le (show (squareL (m.f.x, m.f.y)).length ≤ 4 from Nat.le_refl 4)] at hs
    refine WayR.less l0 ⟨ip, _, _, ?_, o, s3, d3, fun _ => ?_⟩
    · rw [wayB_turn hf hk hz, hs, Bool.true_and, ← pose_beq2]
      rfl
    · unfold wayL
      rw [if_neg (by omega), if_pos hk]
  have hlt' : i < 4 := by omega
  obtain ⟨y, hy⟩ : ∃ y, (squareL (m.f.x, m.f.y))[i]? = some y := ⟨_, List.getElem?_eq_getElem (by simpa [squareL] using hlt')⟩
  obtain ⟨b, ofs, rfl, z0, z1⟩ := Sees.cell (G := G) (o.sees (by decide) (s3.in 0 rfl)) hy
  unfold S63_l10_k11
  try simp -implicitDefEqProofs (disch := first | with_reducible exact Nat.ne_of_beq_eq_false rfl | omega) only [upd_ne, q84, q86, q0, thenK_ret, blockK_ret, retK_ret, resL_tmp, upd_eq, resL_nil2, opH_sv, cf31, opH_su, al28, ld28, add_mk, Nat.add_zero, Nat.zero_add, ix22 (Int.natCast_nonneg i) (show (i : Int) < (squareL (m.f.x, m.f.y)).length from hlt), Int.toNat_natCast, z0, Option.some.injEq, z1, exists_eq_left', st28w, cell_set_self, List.getElem?_cons_zero, List.getElem?_cons_succ]
  intro t ht gt
  have s4 := s3.past (o := .cells #[.int .i64 y.1, .int .i64 y.2] 28 (0, 0)) ht
  have d4 := d3.set (o := .cells #[.int .i64 y.1, .int .i64 y.2] 28 (0, 0)) gt
  try simp -implicitDefEqProofs only [opH_sv, opH_su, pureW_sv, opH_nil, pureW_nil, pick_t, pick_f, pick_tp, pick_fp, gd_tt, gd_ft, gd_tf, gd_ff, box_new, regs0, regs1, regs2, regs3, regs4, regs5, regs6, cells_agg, cells_int, cells_bool, cells_ptr, cells_slice, cells_string, cells_func, cells_nilFunc, cells_map, retK_ret, retK_normal, resL_tmp, resL_cell, resL_nil0, resL_nil1, resL_nil2, resL_nil3, resC_ptr, ex0, ex1, ex2, ex0p, ex1p, ex2p, HL.cond_true, HL.cond_false, thenK_normal, thenK_ret, thenK_exit, blockK_normal, blockK_ret, blockK_exit, scopeK_normal, scopeK_ret, scopeK_exit, wpH_pure, bin_add, bin_sub, bin_mul, bin_lss, bin_leq, bin_gtr, bin_geq, bin_quo, bin_rem, bin_quop, bin_remp, wrap_in, bin_addp, bin_subp, bin_mulp, bin_lssp, bin_leqp, bin_gtrp, bin_geqp, un_not, un_notp, un_neg, eq_int, ne_int, eq_intp, ne_intp, callV_fn, add_mk, upd_eq, upd_ne, cell_set_self, Nat.zero_add, Nat.add_zero, Option.some.injEq, exists_eq_left', List.getElem?_cons_succ, List.getElem?_cons_zero, true_and, and_true, bne_self_eq_false, beq_self_eq_true, Bool.not_true, Bool.not_false, Bool.and_true, Bool.and_self, Bool.and_false, Bool.true_and, List.length_cons, List.length_nil, ne_eq, not_false_eq_true, Nat.reduceAdd, Nat.reduceMul, if_true, if_false, oneCell_int, oneCell_bool, oneCell_ptr, oneCell_slice, oneCell_string, oneCell_func, oneCell_map, Int.toNat_natCast, List.set_cons_zero, List.set_cons_succ, Nat.lt_irrefl, Nat.zero_lt_succ, Nat.succ_lt_succ_iff, fa26_0, fa26_0p, fa26_1, fa26_1p, fa26_10, fa26_10p, fa26_11, fa26_11p, fa26_12, fa26_12p, fa26_13, fa26_13p, fa26_14, fa26_14p, fa26_2, fa26_2p, fa26_3, fa26_3p, fa26_4, fa26_4p, fa26_5, fa26_5p, fa26_6, fa26_6p, fa26_7, fa26_7p, fa26_8, fa26_8p, fa26_9, fa26_9p, fa28_0, fa28_0p, fa28_1, fa28_1p, fa30_0, fa30_0p, fa30_1, fa30_1p, fa46_0, fa46_0p, fa46_1, fa46_1p, fa46_2, fa46_2p, fa46_3, fa46_3p, fa46_4, fa46_4p, fa46_5, fa46_5p, fa46_6, fa46_6p, fa86_0, fa86_0p, fa86_1, fa86_1p, fa86_2, fa86_2p, fa95_0, fa95_0p, fa95_1, fa95_1p, ld3, ld3p, ld4, ld4p, ld22, ld22p, ld23, ld23p, ld24, ld24p, ld26, ld26p, ld28, ld28p, ld30, ld30p, ld31, ld31p, ld46, ld46p, ld47, ld47p, ld52, ld52p, ld55, ld55p, ld57, ld57p, ld95, ld95p, st3s, st4s, st22s, st23s, st24s, st26w, st28w, st30w, st46w, st47s, st55s, st95w, ix22, ix22p, ix23, ix23p, ix24, ix24p, ix47, ix47p, ix56, ix56p, ix57, ix57p, ix101, ix101p, ln22, ln22p, ln23, ln23p, ln24, ln24p, ln47, ln47p, ln56, ln56p, ln57, ln57p, al22, al26, al28, al30, al46, al47, al95, cf14, cf15, cf16, cf17, cf18, cf19, cf20, cf21, cf22, cf23, cf24, cf25, cf26, cf27, cf28, cf29, cf30, cf31, cf32, cf33, cf34, cf35, cf36, cf37, cf38, cf39, cf40, cf41, cf42, cf43, cf44, cf45, cf46, cf47, cf48, cf49, cf50, cf51, cf52, cf53, cf54, cf55, cf56, cf57, cf58, cf59, cf60, cf61, cf62, cf63, cf64, cf65, cf66, cf67, cf68, cf69, cf70, cf71, cf72, cf73, cf74, cf75, cf76, cf77, cf78, cf79, cf80, bd26_0_1_2_7_8_9_10_11_12_13_14, bd26_0_1_2_7_8_9_10_11_12_13_14p, bd28_0, bd28_0p, bd28_0_1, bd28_0_1p, bd30_, bd30_p, bd30_0_1, bd30_0_1p, bd30_0, bd30_0p, bd46_0_1_2_3_4, bd46_0_1_2_3_4p, bd46_0_3_4, bd46_0_3_4p, bd86_0_1_2, bd86_0_1_2p, bd87_0_1_2_3, bd87_0_1_2_3p, bd95_0_1, bd95_0_1p, bs22_2_0_1, bs47_1_0, bs22_1_0, bs57_6_0_1_2_3_4_5, bs24_1_0, bs22_4_0_1_2_3, bs56_11_0_1_2_3_4_5_6_7_8_9_10, bs57_11_0_1_2_3_4_5_6_7_8_9_10, eq4, eq4p, eq28, eq28p, eq30, eq30p, eq31n, eq31np, eq31s, eq31sp, eq46, eq46p, eq50n, eq50np, eq50s, eq50sp, eq67n, eq67np, eq67s, eq67sp, ne4, ne4p, ne28, ne28p, ne30, ne30p, ne31n, ne31np, ne31s, ne31sp, ne46, ne46p]
  generalize Hp.set h3 t _ = h4 at s4 d4 ⊢
  refine (open_spec (c := y) (gs.up (s4.in 1 rfl) d4)).mono ?_
  rintro _ _ ⟨rfl, rfl⟩
  have hym : y ∈ squareL (m.f.x, m.f.y) := List.mem_of_getElem? hy
  cases hc : openW w k f y with
  | false =>
    try simp -implicitDefEqProofs only [un_not, Bool.not_false, HL.cond_true]
    refine WayR.less l0 <| WayR.no (s4.in 1 rfl) d4 ?_
    rw [wayB_turn hf hk hz]
    have : (squareL (m.f.x, m.f.y)).all (openW w k f) = false := by
      rw [List.all_eq_false]
      exact ⟨y, hym, by simp [hc]⟩
    rw [this]
    rfl
  | true =>
    try simp -implicitDefEqProofs only [un_not, Bool.not_true, HL.cond_false]
    unfold S63_l10_k12
    try simp -implicitDefEqProofs (disch := first | with_reducible exact Nat.ne_of_beq_eq_false rfl | omega) only [upd_ne, q86, thenK_normal, opH_sv, bin_add, wrap_in]
    refine HX (4 - (i + 1)) _ _ (by omega) ⟨i + 1, rfl, hlt', by simp -implicitDefEqProofs (disch := first | with_reducible exact Nat.ne_of_beq_eq_false rfl | omega) only [upd_ne, q0], by simp -implicitDefEqProofs (disch := first | with_reducible exact Nat.ne_of_beq_eq_false rfl | omega) only [upd_ne, q3], by simp -implicitDefEqProofs (disch := first | with_reducible exact Nat.ne_of_beq_eq_false rfl | omega) only [upd_ne, q11, g11], by simp -implicitDefEqProofs (disch := first | with_reducible exact Nat.ne_of_beq_eq_false rfl | omega) only [upd_ne, q84, g84], by simp -implicitDefEqProofs (disch := first | with_reducible exact Nat.ne_of_beq_eq_false rfl | omega) only [upd_ne, q85], by simp -implicitDefEqProofs (disch := first | with_reducible exact Nat.ne_of_beq_eq_false rfl | omega) only [upd_eq] <;> rfl, s4, d4, ?_⟩
    rw [List.take_add_one, hy]
    simp [hs, hc]

set_option maxHeartbeats 4000000 in
theorem way_spec {G h : Hp} {g : Value} {w k : Nat} {f : Nat → Nat → Int} {m : Move} (gs : GS G h g w k f) (st : Steps G) (mb : MB m) : HCalls Tryd.prog G 63 #[g, moveV m] h (WayR G h w k f m) := by
  obtain ⟨nb, fb⟩ := mb
  refine HCalls.assume fun d => enter63 (by simp) ?_
  unfold S63
  simp -implicitDefEqProofs only [regs1, regs0, retK_ret, resL_tmp, upd_ne, upd_eq, resL_nil2, opH_sv, cf23, box_new, cells_agg, fa46_3, add_mk, Nat.zero_add, ld30, Nat.add_zero, cell_set_self, List.getElem?_cons_succ, List.getElem?_cons_zero, Option.some.injEq, Nat.reduceAdd, exists_eq_left']
  intro x hx gx
  generalize e1 : Hp.set h x _ = h1
  obtain ⟨l1, d1, b1⟩ := boxed e1 hx d gx
  have gs1 := gs.up l1 d1
  have cx : ∀ j, cellIn G h1 ⟨x, j, none⟩ = _ := fun j => cell_of (look_own b1)
  try simp -implicitDefEqProofs only [opH_sv, opH_su, pureW_sv, opH_nil, pureW_nil, pick_t, pick_f, pick_tp, pick_fp, gd_tt, gd_ft, gd_tf, gd_ff, box_new, regs0, regs1, regs2, regs3, regs4, regs5, regs6, cells_agg, cells_int, cells_bool, cells_ptr, cells_slice, cells_string, cells_func, cells_nilFunc, cells_map, retK_ret, retK_normal, resL_tmp, resL_cell, resL_nil0, resL_nil1, resL_nil2, resL_nil3, resC_ptr, ex0, ex1, ex2, ex0p, ex1p, ex2p, HL.cond_true, HL.cond_false, thenK_normal, thenK_ret, thenK_exit, blockK_normal, blockK_ret, blockK_exit, scopeK_normal, scopeK_ret, scopeK_exit, wpH_pure, bin_add, bin_sub, bin_mul, bin_lss, bin_leq, bin_gtr, bin_geq, bin_quo, bin_rem, bin_quop, bin_remp, wrap_in, bin_addp, bin_subp, bin_mulp, bin_lssp, bin_leqp, bin_gtrp, bin_geqp, un_not, un_notp, un_neg, eq_int, ne_int, eq_intp, ne_intp, callV_fn, add_mk, upd_eq, upd_ne, cell_set_self, Nat.zero_add, Nat.add_zero, Option.some.injEq, exists_eq_left', List.getElem?_cons_succ, List.getElem?_cons_zero, true_and, and_true, bne_self_eq_false, beq_self_eq_true, Bool.not_true, Bool.not_false, Bool.and_true, Bool.and_self, Bool.and_false, Bool.true_and, List.length_cons, List.length_nil, ne_eq, not_false_eq_true, Nat.reduceAdd, Nat.reduceMul, if_true, if_false, oneCell_int, oneCell_bool, oneCell_ptr, oneCell_slice, oneCell_string, oneCell_func, oneCell_map, Int.toNat_natCast, List.set_cons_zero, List.set_cons_succ, Nat.lt_irrefl, Nat.zero_lt_succ, Nat.succ_lt_succ_iff, fa26_0, fa26_0p, fa26_1, fa26_1p, fa26_10, fa26_10p, fa26_11, fa26_11p, fa26_12, fa26_12p, fa26_13, fa26_13p, fa26_14, fa26_14p, fa26_2, fa26_2p, fa26_3, fa26_3p, fa26_4, fa26_4p, fa26_5, fa26_5p, fa26_6, fa26_6p, fa26_7, fa26_7p, fa26_8, fa26_8p, fa26_9, fa26_9p, fa28_0, fa28_0p, fa28_1, fa28_1p, fa30_0, fa30_0p, fa30_1, fa30_1p, fa46_0, fa46_0p, fa46_1, fa46_1p, fa46_2, fa46_2p, fa46_3, fa46_3p, fa46_4, fa46_4p, fa46_5, fa46_5p, fa46_6, fa46_6p, fa86_0, fa86_0p, fa86_1, fa86_1p, fa86_2, fa86_2p, fa95_0, fa95_0p, fa95_1, fa95_1p, ld3, ld3p, ld4, ld4p, ld22, ld22p, ld23, ld23p, ld24, ld24p, ld26, ld26p, ld28, ld28p, ld30, ld30p, ld31, ld31p, ld46, ld46p, ld47, ld47p, ld52, ld52p, ld55, ld55p, ld57, ld57p, ld95, ld95p, st3s, st4s, st22s, st23s, st24s, st26w, st28w, st30w, st46w, st47s, st55s, st95w, ix22, ix22p, ix23, ix23p, ix24, ix24p, ix47, ix47p, ix56, ix56p, ix57, ix57p, ix101, ix101p, ln22, ln22p, ln23, ln23p, ln24, ln24p, ln47, ln47p, ln56, ln56p, ln57, ln57p, al22, al26, al28, al30, al46, al47, al95, cf14, cf15, cf16, cf17, cf18, cf19, cf20, cf21, cf22, cf23, cf24, cf25, cf26, cf27, cf28, cf29, cf30, cf31, cf32, cf33, cf34, cf35, cf36, cf37, cf38, cf39, cf40, cf41, cf42, cf43, cf44, cf45, cf46, cf47, cf48, cf49, cf50, cf51, cf52, cf53, cf54, cf55, cf56, cf57, cf58, cf59, cf60, cf61, cf62, cf63, cf64, cf65, cf66, cf67, cf68, cf69, cf70, cf71, cf72, cf73, cf74, cf75, cf76, cf77, cf78, cf79, cf80, bd26_0_1_2_7_8_9_10_11_12_13_14, bd26_0_1_2_7_8_9_10_11_12_13_14p, bd28_0, bd28_0p, bd28_0_1, bd28_0_1p, bd30_, bd30_p, bd30_0_1, bd30_0_1p, bd30_0, bd30_0p, bd46_0_1_2_3_4, bd46_0_1_2_3_4p, bd46_0_3_4, bd46_0_3_4p, bd86_0_1_2, bd86_0_1_2p, bd87_0_1_2_3, bd87_0_1_2_3p, bd95_0_1, bd95_0_1p, bs22_2_0_1, bs47_1_0, bs22_1_0, bs57_6_0_1_2_3_4_5, bs24_1_0, bs22_4_0_1_2_3, bs56_11_0_1_2_3_4_5_6_7_8_9_10, bs57_11_0_1_2_3_4_5_6_7_8_9_10, eq4, eq4p, eq28, eq28p, eq30, eq30p, eq31n, eq31np, eq31s, eq31sp, eq46, eq46p, eq50n, eq50np, eq50s, eq50sp, eq67n, eq67np, eq67s, eq67sp, ne4, ne4p, ne28, ne28p, ne30, ne30p, ne31n, ne31np, ne31s, ne31sp, ne46, ne46p, cx]
  refine (fits_spec (p := m.f) gs1 st fb).mono ?_
  rintro _ h1 ⟨rfl, rfl⟩
  cases hf : fitsW w k f m.f with
  | false =>
    try simp -implicitDefEqProofs only [un_not, Bool.not_false, HL.cond_true]
    exact WayR.no l1 d1 (by unfold wayB; rw [hf]; rfl)
  | true =>
  try simp -implicitDefEqProofs (maxSteps := 2000000) (disch := first | with_reducible exact Nat.ne_of_beq_eq_false rfl | exact oneCell_int | exact oneCell_bool | omega | rfl | (simp; done) | fail) only [un_not, Bool.not_true, HL.cond_false]
  unfold S63_k1
  try simp -implicitDefEqProofs (maxSteps := 2000000) (disch := first | with_reducible exact Nat.ne_of_beq_eq_false rfl | exact oneCell_int | exact oneCell_bool | omega | rfl | (simp; done) | fail) only [upd_ne, upd_eq, retK_ret, resL_tmp, resL_nil2, opH_sv, fa46_0, add_mk, Nat.add_zero, ld3, cx, List.getElem?_cons_zero, Option.some.injEq, exists_eq_left', ne_int]
  by_cases hk1 : m.k = 1
  · try simp -implicitDefEqProofs (maxSteps := 2000000) (disch := first | with_reducible exact Nat.ne_of_beq_eq_false rfl | exact oneCell_int | exact oneCell_bool | omega | rfl | (simp; done) | fail) only [show (m.k != 1) = false by simp [hk1], pick_f, HL.cond_false, gd_ft, gd_un]
    unfold S63_k2
    try simp -implicitDefEqProofs (maxSteps := 2000000) (disch := first | with_reducible exact Nat.ne_of_beq_eq_false rfl | exact oneCell_int | exact oneCell_bool | omega | rfl | (simp; done) | fail) only [upd_ne, upd_eq, opH_su, opH_sv, al30, fa46_3, add_mk, Nat.zero_add, ld30, Nat.add_zero, Nat.reduceAdd, cf77, fa30_0, ld28, fa46_0, ld3, cx, List.getElem?_cons_zero, Option.some.injEq, exists_eq_left', eq_int, show (m.k == 1) = true by simp [hk1], List.getElem?_cons_succ, st30w, HL.cond_true]
    intro lb hlb glb
    try simp -implicitDefEqProofs (disch := first | with_reducible exact Nat.ne_of_beq_eq_false rfl | omega) only [opH_sv, opH_su, pureW_sv, opH_nil, pureW_nil, pick_t, pick_f, pick_tp, pick_fp, gd_tt, gd_ft, gd_tf, gd_ff, box_new, regs0, regs1, regs2, regs3, regs4, regs5, regs6, cells_agg, cells_int, cells_bool, cells_ptr, cells_slice, cells_string, cells_func, cells_nilFunc, cells_map, retK_ret, retK_normal, resL_tmp, resL_cell, resL_nil0, resL_nil1, resL_nil2, resL_nil3, resC_ptr, ex0, ex1, ex2, ex0p, ex1p, ex2p, HL.cond_true, HL.cond_false, thenK_normal, thenK_ret, thenK_exit, blockK_normal, blockK_ret, blockK_exit, scopeK_normal, scopeK_ret, scopeK_exit, wpH_pure, bin_add, bin_sub, bin_mul, bin_lss, bin_leq, bin_gtr, bin_geq, bin_quo, bin_rem, bin_quop, bin_remp, wrap_in, bin_addp, bin_subp, bin_mulp, bin_lssp, bin_leqp, bin_gtrp, bin_geqp, un_not, un_notp, un_neg, eq_int, ne_int, eq_intp, ne_intp, callV_fn, add_mk, upd_eq, upd_ne, cell_set_self, Nat.zero_add, Nat.add_zero, Option.some.injEq, exists_eq_left', List.getElem?_cons_succ, List.getElem?_cons_zero, true_and, and_true, bne_self_eq_false, beq_self_eq_true, Bool.not_true, Bool.not_false, Bool.and_true, Bool.and_self, Bool.and_false, Bool.true_and, List.length_cons, List.length_nil, ne_eq, not_false_eq_true, Nat.reduceAdd, Nat.reduceMul, if_true, if_false, oneCell_int, oneCell_bool, oneCell_ptr, oneCell_slice, oneCell_string, oneCell_func, oneCell_map, Int.toNat_natCast, List.set_cons_zero, List.set_cons_succ, Nat.lt_irrefl, Nat.zero_lt_succ, Nat.succ_lt_succ_iff, fa26_0, fa26_0p, fa26_1, fa26_1p, fa26_10, fa26_10p, fa26_11, fa26_11p, fa26_12, fa26_12p, fa26_13, fa26_13p, fa26_14, fa26_14p, fa26_2, fa26_2p, fa26_3, fa26_3p, fa26_4, fa26_4p, fa26_5, fa26_5p, fa26_6, fa26_6p, fa26_7, fa26_7p, fa26_8, fa26_8p, fa26_9, fa26_9p, fa28_0, fa28_0p, fa28_1, fa28_1p, fa30_0, fa30_0p, fa30_1, fa30_1p, fa46_0, fa46_0p, fa46_1, fa46_1p, fa46_2, fa46_2p, fa46_3, fa46_3p, fa46_4, fa46_4p, fa46_5, fa46_5p, fa46_6, fa46_6p, fa86_0, fa86_0p, fa86_1, fa86_1p, fa86_2, fa86_2p, fa95_0, fa95_0p, fa95_1, fa95_1p, ld3, ld3p, ld4, ld4p, ld22, ld22p, ld23, ld23p, ld24, ld24p, ld26, ld26p, ld28, ld28p, ld30, ld30p, ld31, ld31p, ld46, ld46p, ld47, ld47p, ld52, ld52p, ld55, ld55p, ld57, ld57p, ld95, ld95p, st3s, st4s, st22s, st23s, st24s, st26w, st28w, st30w, st46w, st47s, st55s, st95w, ix22, ix22p, ix23, ix23p, ix24, ix24p, ix47, ix47p, ix56, ix56p, ix57, ix57p, ix101, ix101p, ln22, ln22p, ln23, ln23p, ln24, ln24p, ln47, ln47p, ln56, ln56p, ln57, ln57p, al22, al26, al28, al30, al46, al47, al95, cf14, cf15, cf16, cf17, cf18, cf19, cf20, cf21, cf22, cf23, cf24, cf25, cf26, cf27, cf28, cf29, cf30, cf31, cf32, cf33, cf34, cf35, cf36, cf37, cf38, cf39, cf40, cf41, cf42, cf43, cf44, cf45, cf46, cf47, cf48, cf49, cf50, cf51, cf52, cf53, cf54, cf55, cf56, cf57, cf58, cf59, cf60, cf61, cf62, cf63, cf64, cf65, cf66, cf67, cf68, cf69, cf70, cf71, cf72, cf73, cf74, cf75, cf76, cf77, cf78, cf79, cf80, bd26_0_1_2_7_8_9_10_11_12_13_14, bd26_0_1_2_7_8_9_10_11_12_13_14p, bd28_0, bd28_0p, bd28_0_1, bd28_0_1p, bd30_, bd30_p, bd30_0_1, bd30_0_1p, bd30_0, bd30_0p, bd46_0_1_2_3_4, bd46_0_1_2_3_4p, bd46_0_3_4, bd46_0_3_4p, bd86_0_1_2, bd86_0_1_2p, bd87_0_1_2_3, bd87_0_1_2_3p, bd95_0_1, bd95_0_1p, bs22_2_0_1, bs47_1_0, bs22_1_0, bs57_6_0_1_2_3_4_5, bs24_1_0, bs22_4_0_1_2_3, bs56_11_0_1_2_3_4_5_6_7_8_9_10, bs57_11_0_1_2_3_4_5_6_7_8_9_10, eq4, eq4p, eq28, eq28p, eq30, eq30p, eq31n, eq31np, eq31s, eq31sp, eq46, eq46p, eq50n, eq50np, eq50s, eq50sp, eq67n, eq67np, eq67s, eq67sp, ne4, ne4p, ne28, ne28p, ne30, ne30p, ne31n, ne31np, ne31s, ne31sp, ne46, ne46p]
    exact way_run gs1 st nb hf hk1 b1 (by simp -implicitDefEqProofs (disch := first | with_reducible exact Nat.ne_of_beq_eq_false rfl | omega) only [upd_ne, regs0]) (by simp -implicitDefEqProofs (disch := first | with_reducible exact Nat.ne_of_beq_eq_false rfl | omega) only [upd_ne, upd_eq]) (by simp -implicitDefEqProofs (maxSteps := 2000000) (disch := first | with_reducible exact Nat.ne_of_beq_eq_false rfl | exact oneCell_int | exact oneCell_bool | omega | rfl | (simp; done) | fail) only [upd_ne, upd_eq]) (by simp -implicitDefEqProofs (maxSteps := 2000000) (disch := first | with_reducible exact Nat.ne_of_beq_eq_false rfl | exact oneCell_int | exact oneCell_bool | omega | rfl | (simp; done) | fail) only [upd_ne, upd_eq]) (by simp -implicitDefEqProofs (maxSteps := 2000000) (disch := first | with_reducible exact Nat.ne_of_beq_eq_false rfl | exact oneCell_int | exact oneCell_bool | omega | rfl | (simp; done) | fail) only [upd_eq]) (Sep.one.new hlb) (d1.set glb) l1
  have ek1 : (m.k != 1) = true := by simp [hk1]
  have ek1' : (m.k == 1) = false := by simp [hk1]
  by_cases hz : m.d = 0 ∧ m.n = 0
  rotate_left
  · have ew : wayB w k f m = false := by
      unfold wayB
      rw [if_neg hk1, decide_eq_false hz]
      simp
    by_cases hd : m.d = 0
    · have hn : (m.n != 0) = true := by
        have : m.n ≠ 0 := fun e => hz ⟨hd, e⟩
        simp [this]
      try simp -implicitDefEqProofs (maxSteps := 2000000) (disch := first | with_reducible exact Nat.ne_of_beq_eq_false rfl | exact oneCell_int | exact oneCell_bool | omega | rfl | (simp; done) | fail) only [ek1, pick_t, gd_tt, opH_sv, fa46_1, add_mk, Nat.zero_add, ld3, cx, List.getElem?_cons_succ, List.getElem?_cons_zero, Option.some.injEq, exists_eq_left', ne_int, show (m.d != 0) = false by simp [hd], pick_f, gd_ff, fa46_2, hn, HL.cond_true]
      exact WayR.no l1 d1 ew
    · try simp -implicitDefEqProofs (maxSteps := 2000000) (disch := first | with_reducible exact Nat.ne_of_beq_eq_false rfl | exact oneCell_int | exact oneCell_bool | omega | rfl | (simp; done) | fail) only [ek1, pick_t, gd_tt, opH_sv, fa46_1, add_mk, Nat.zero_add, ld3, cx, List.getElem?_cons_succ, List.getElem?_cons_zero, Option.some.injEq, exists_eq_left', ne_int, show (m.d != 0) = true by simp [hd], HL.cond_true, gd_tf]
      exact WayR.no l1 d1 ew
  try simp -implicitDefEqProofs (maxSteps := 2000000) (disch := first | with_reducible exact Nat.ne_of_beq_eq_false rfl | exact oneCell_int | exact oneCell_bool | omega | rfl | (simp; done) | fail) only [ek1, pick_t, gd_tt, opH_sv, fa46_1, add_mk, Nat.zero_add, ld3, cx, List.getElem?_cons_succ, List.getElem?_cons_zero, Option.some.injEq, exists_eq_left', ne_int, show (m.d != 0) = false by simp [hz.1], pick_f, gd_ff, fa46_2, show (m.n != 0) = false by simp [hz.2], HL.cond_false]
  unfold S63_k2
  by_cases hk2 : m.k = 2
  · try simp -implicitDefEqProofs (maxSteps := 2000000) (disch := first | with_reducible exact Nat.ne_of_beq_eq_false rfl | exact oneCell_int | exact oneCell_bool | omega | rfl | (simp; done) | fail) only [upd_ne, upd_eq, opH_su, opH_sv, al30, fa46_3, add_mk, Nat.zero_add, ld30, Nat.add_zero, Nat.reduceAdd, cf77, fa30_0, ld28, fa46_0, ld3, cx, List.getElem?_cons_zero, Option.some.injEq, exists_eq_left', eq_int, show (m.k == 2) = true by simp [hk2], HL.cond_true, ek1', List.getElem?_cons_succ, st30w, HL.cond_false]
    refine (square_spec (c := (m.f.x, m.f.y))).mono ?_
    rintro _ h2 ⟨ip, sa, rfl, o, s2, d2⟩
    try simp -implicitDefEqProofs (disch := first | with_reducible exact Nat.ne_of_beq_eq_false rfl | omega) only [ln22]
    exact way_turn gs1 hf hk2 hz b1 (by simp -implicitDefEqProofs (disch := first | with_reducible exact Nat.ne_of_beq_eq_false rfl | omega) only [upd_ne, regs0]) (by simp -implicitDefEqProofs (disch := first | with_reducible exact Nat.ne_of_beq_eq_false rfl | omega) only [upd_ne, upd_eq]) (by simp -implicitDefEqProofs (disch := first | with_reducible exact Nat.ne_of_beq_eq_false rfl | omega) only [upd_ne, upd_eq]) (by simp -implicitDefEqProofs (disch := first | with_reducible exact Nat.ne_of_beq_eq_false rfl | omega) only [upd_ne, upd_eq]) (by simp -implicitDefEqProofs (disch := first | with_reducible exact Nat.ne_of_beq_eq_false rfl | omega) only [upd_ne, upd_eq] <;> rfl) (by simp -implicitDefEqProofs (disch := first | with_reducible exact Nat.ne_of_beq_eq_false rfl | omega) only [upd_eq]) o s2 d2 l1
  have ek2 : (m.k == 2) = false := by simp [hk2]
  by_cases hk34 : m.k = 3 ∨ m.k = 4
  rotate_left
  · have ew : wayB w k f m = false := by
      rw [wayB_else hf hk1 hk2 hz, decide_eq_false hk34]
      rfl
    try simp -implicitDefEqProofs (disch := first | with_reducible exact Nat.ne_of_beq_eq_false rfl | omega) only [upd_ne, upd_eq, opH_su, opH_sv, al30, fa46_3, add_mk, Nat.zero_add, ld30, Nat.add_zero, Nat.reduceAdd, cf77, fa30_0, ld28, fa46_0, ld3, cx, List.getElem?_cons_zero, Option.some.injEq, exists_eq_left', eq_int, show (m.k == 4) = false by simp; omega, show (m.k == 3) = false by simp; omega, HL.cond_false, ek2, ek1', List.getElem?_cons_succ, st30w]
    unfold S63_k13
    try simp -implicitDefEqProofs (maxSteps := 2000000) (disch := first | with_reducible exact Nat.ne_of_beq_eq_false rfl | exact oneCell_int | exact oneCell_bool | omega | rfl | (simp; done) | fail) only [upd_eq, upd_ne, regs0, retK_ret, resL_tmp, resL_nil2, pureW_sv, fa46_3p, add_mk, Nat.zero_add, ld30p, Nat.add_zero, Nat.reduceAdd, fa46_4p, cf21, HL.cond_false]
    unfold S63_k3
    try simp -implicitDefEqProofs (maxSteps := 2000000) (disch := first | with_reducible exact Nat.ne_of_beq_eq_false rfl | exact oneCell_int | exact oneCell_bool | omega | rfl | (simp; done) | fail) only [retK_ret, resL_tmp, upd_ne, upd_eq, resL_nil2]
    exact WayR.no l1 d1 ew
  have k13 : ∀ r : Rg, r 0 = g → r 3 = .pointer (some ⟨x, 0, none⟩) → r 107 = .bool true → S63_k13 G (retK Tryd.prog G [.tmp 4, .tmp 5] (WayR G h w k f m)) r h1 := by
    intro r g0 g3 g107
    unfold S63_k13
    simp -implicitDefEqProofs only [g107, retK_ret, resL_tmp, upd_ne, upd_eq, resL_nil2, pureW_sv, cf21, HL.cond_true]
    refine ⟨h1, Hp.le.refl _, ?_⟩
    try simp -implicitDefEqProofs (disch := first | with_reducible exact Nat.ne_of_beq_eq_false rfl | omega) only [g3, g0, fa46_3p, add_mk, Nat.zero_add, ld30p, Nat.add_zero, cx, List.getElem?_cons_succ, List.getElem?_cons_zero, Option.some.injEq, Nat.reduceAdd, exists_eq_left', fa46_4p, eq30p, Bool.and_true]
    refine (cells_spec (g := g) (p := m.f) st fb).mono ?_
    rintro _ _ ⟨b, rfl, hb, gb, rfl⟩
    refine ⟨le_set hb, ?_⟩
    try simp -implicitDefEqProofs (disch := first | with_reducible exact Nat.ne_of_beq_eq_false rfl | omega) only [pose_beq2]
    refine WayR.less l1 ⟨noHp.set b _, _, cellsP m.f, ?_, ⟨some b, 2, [], rfl, set_self, rfl⟩, Sep.one.new hb, d1.set gb, fun _ => ?_⟩
    · rw [wayB_else hf hk1 hk2 hz, decide_eq_true hk34]
      rfl
    · unfold wayL
      rw [if_neg hk1, if_neg hk2]
  rcases hk34 with h3 | h4
  · try simp -implicitDefEqProofs (maxSteps := 2000000) (disch := first | with_reducible exact Nat.ne_of_beq_eq_false rfl | exact oneCell_int | exact oneCell_bool | omega | rfl | (simp; done) | fail) only [upd_ne, upd_eq, opH_su, opH_sv, al30, fa46_3, add_mk, Nat.zero_add, ld30, Nat.add_zero, Nat.reduceAdd, cf77, fa30_0, ld28, fa46_0, ld3, cx, List.getElem?_cons_zero, Option.some.injEq, exists_eq_left', eq_int, show (m.k == 3) = true by simp [h3], HL.cond_true, ek2, HL.cond_false, ek1', List.getElem?_cons_succ, st30w]
    exact k13 _ (by simp -implicitDefEqProofs (maxSteps := 2000000) (disch := first | with_reducible exact Nat.ne_of_beq_eq_false rfl | exact oneCell_int | exact oneCell_bool | omega | rfl | (simp; done) | fail) only [upd_ne, regs0]) (by simp -implicitDefEqProofs (maxSteps := 2000000) (disch := first | with_reducible exact Nat.ne_of_beq_eq_false rfl | exact oneCell_int | exact oneCell_bool | omega | rfl | (simp; done) | fail) only [upd_ne, upd_eq]) (by simp -implicitDefEqProofs (maxSteps := 2000000) (disch := first | with_reducible exact Nat.ne_of_beq_eq_false rfl | exact oneCell_int | exact oneCell_bool | omega | rfl | (simp; done) | fail) only [upd_eq])
  · try simp -implicitDefEqProofs (maxSteps := 2000000) (disch := first | with_reducible exact Nat.ne_of_beq_eq_false rfl | exact oneCell_int | exact oneCell_bool | omega | rfl | (simp; done) | fail) only [upd_ne, upd_eq, opH_su, opH_sv, al30, fa46_3, add_mk, Nat.zero_add, ld30, Nat.add_zero, Nat.reduceAdd, cf77, fa30_0, ld28, fa46_0, ld3, cx, List.getElem?_cons_zero, Option.some.injEq, exists_eq_left', eq_int, show (m.k == 4) = true by simp [h4], show (m.k == 3) = false by simp [h4], HL.cond_false, ek2, ek1', List.getElem?_cons_succ, st30w]
    exact k13 _ (by simp -implicitDefEqProofs (maxSteps := 2000000) (disch := first | with_reducible exact Nat.ne_of_beq_eq_false rfl | exact oneCell_int | exact oneCell_bool | omega | rfl | (simp; done) | fail) only [upd_ne, regs0]) (by simp -implicitDefEqProofs (maxSteps := 2000000) (disch := first | with_reducible exact Nat.ne_of_beq_eq_false rfl | exact oneCell_int | exact oneCell_bool | omega | rfl | (simp; done) | fail) only [upd_ne, upd_eq]) (by simp -implicitDefEqProofs (maxSteps := 2000000) (disch := first | with_reducible exact Nat.ne_of_beq_eq_false rfl | exact oneCell_int | exact oneCell_bool | omega | rfl | (simp; done) | fail) only [upd_eq])

theorem legal_spec {G h : Hp} {g : Value} {w k : Nat} {f : Nat → Nat → Int} {m : Move} (gs : GS G h g w k f) (st : Steps G) (mb : MB m) : HCalls Tryd.prog G 27 #[g, moveV m] h (fun u h' => u = .bool (wayB w k f m) ∧ h' = h) := by
  refine HCalls.assume fun d => quietly (enter27 (by simp) ?_)
  unfold S27
  simp -implicitDefEqProofs only [regs1, regs0, retK_ret, resL_tmp, upd_eq, resL_nil1, opH_sv, cf63, box_new, cells_agg, ld46, add_mk, Nat.add_zero, cell_set_self, List.getElem?_cons_zero, Option.some.injEq, Nat.zero_add, List.getElem?_cons_succ, exists_eq_left']
  intro x hx gx
  generalize e1 : Hp.set h x _ = h1
  obtain ⟨l1, d1, b1⟩ := boxed e1 hx d gx
  have cx : ∀ j, cellIn G h1 ⟨x, j, none⟩ = _ := fun j => cell_of (look_own b1)
  try simp -implicitDefEqProofs only [opH_sv, opH_su, pureW_sv, opH_nil, pureW_nil, pick_t, pick_f, pick_tp, pick_fp, gd_tt, gd_ft, gd_tf, gd_ff, box_new, regs0, regs1, regs2, regs3, regs4, regs5, regs6, cells_agg, cells_int, cells_bool, cells_ptr, cells_slice, cells_string, cells_func, cells_nilFunc, cells_map, retK_ret, retK_normal, resL_tmp, resL_cell, resL_nil0, resL_nil1, resL_nil2, resL_nil3, resC_ptr, ex0, ex1, ex2, ex0p, ex1p, ex2p, HL.cond_true, HL.cond_false, thenK_normal, thenK_ret, thenK_exit, blockK_normal, blockK_ret, blockK_exit, scopeK_normal, scopeK_ret, scopeK_exit, wpH_pure, bin_add, bin_sub, bin_mul, bin_lss, bin_leq, bin_gtr, bin_geq, bin_quo, bin_rem, bin_quop, bin_remp, wrap_in, bin_addp, bin_subp, bin_mulp, bin_lssp, bin_leqp, bin_gtrp, bin_geqp, un_not, un_notp, un_neg, eq_int, ne_int, eq_intp, ne_intp, callV_fn, add_mk, upd_eq, upd_ne, cell_set_self, Nat.zero_add, Nat.add_zero, Option.some.injEq, exists_eq_left', List.getElem?_cons_succ, List.getElem?_cons_zero, true_and, and_true, bne_self_eq_false, beq_self_eq_true, Bool.not_true, Bool.not_false, Bool.and_true, Bool.and_self, Bool.and_false, Bool.true_and, List.length_cons, List.length_nil, ne_eq, not_false_eq_true, Nat.reduceAdd, Nat.reduceMul, if_true, if_false, oneCell_int, oneCell_bool, oneCell_ptr, oneCell_slice, oneCell_string, oneCell_func, oneCell_map, Int.toNat_natCast, List.set_cons_zero, List.set_cons_succ, Nat.lt_irrefl, Nat.zero_lt_succ, Nat.succ_lt_succ_iff, fa26_0, fa26_0p, fa26_1, fa26_1p, fa26_10, fa26_10p, fa26_11, fa26_11p, fa26_12, fa26_12p, fa26_13, fa26_13p, fa26_14, fa26_14p, fa26_2, fa26_2p, fa26_3, fa26_3p, fa26_4, fa26_4p, fa26_5, fa26_5p, fa26_6, fa26_6p, fa26_7, fa26_7p, fa26_8, fa26_8p, fa26_9, fa26_9p, fa28_0, fa28_0p, fa28_1, fa28_1p, fa30_0, fa30_0p, fa30_1, fa30_1p, fa46_0, fa46_0p, fa46_1, fa46_1p, fa46_2, fa46_2p, fa46_3, fa46_3p, fa46_4, fa46_4p, fa46_5, fa46_5p, fa46_6, fa46_6p, fa86_0, fa86_0p, fa86_1, fa86_1p, fa86_2, fa86_2p, fa95_0, fa95_0p, fa95_1, fa95_1p, ld3, ld3p, ld4, ld4p, ld22, ld22p, ld23, ld23p, ld24, ld24p, ld26, ld26p, ld28, ld28p, ld30, ld30p, ld31, ld31p, ld46, ld46p, ld47, ld47p, ld52, ld52p, ld55, ld55p, ld57, ld57p, ld95, ld95p, st3s, st4s, st22s, st23s, st24s, st26w, st28w, st30w, st46w, st47s, st55s, st95w, ix22, ix22p, ix23, ix23p, ix24, ix24p, ix47, ix47p, ix56, ix56p, ix57, ix57p, ix101, ix101p, ln22, ln22p, ln23, ln23p, ln24, ln24p, ln47, ln47p, ln56, ln56p, ln57, ln57p, al22, al26, al28, al30, al46, al47, al95, cf14, cf15, cf16, cf17, cf18, cf19, cf20, cf21, cf22, cf23, cf24, cf25, cf26, cf27, cf28, cf29, cf30, cf31, cf32, cf33, cf34, cf35, cf36, cf37, cf38, cf39, cf40, cf41, cf42, cf43, cf44, cf45, cf46, cf47, cf48, cf49, cf50, cf51, cf52, cf53, cf54, cf55, cf56, cf57, cf58, cf59, cf60, cf61, cf62, cf63, cf64, cf65, cf66, cf67, cf68, cf69, cf70, cf71, cf72, cf73, cf74, cf75, cf76, cf77, cf78, cf79, cf80, bd26_0_1_2_7_8_9_10_11_12_13_14, bd26_0_1_2_7_8_9_10_11_12_13_14p, bd28_0, bd28_0p, bd28_0_1, bd28_0_1p, bd30_, bd30_p, bd30_0_1, bd30_0_1p, bd30_0, bd30_0p, bd46_0_1_2_3_4, bd46_0_1_2_3_4p, bd46_0_3_4, bd46_0_3_4p, bd86_0_1_2, bd86_0_1_2p, bd87_0_1_2_3, bd87_0_1_2_3p, bd95_0_1, bd95_0_1p, bs22_2_0_1, bs47_1_0, bs22_1_0, bs57_6_0_1_2_3_4_5, bs24_1_0, bs22_4_0_1_2_3, bs56_11_0_1_2_3_4_5_6_7_8_9_10, bs57_11_0_1_2_3_4_5_6_7_8_9_10, eq4, eq4p, eq28, eq28p, eq30, eq30p, eq31n, eq31np, eq31s, eq31sp, eq46, eq46p, eq50n, eq50np, eq50s, eq50sp, eq67n, eq67np, eq67s, eq67sp, ne4, ne4p, ne28, ne28p, ne30, ne30p, ne31n, ne31np, ne31s, ne31sp, ne46, ne46p, cx]
  refine (way_spec (gs.up l1 d1) st mb).mono ?_
  rintro _ h2 ⟨ip, v, L, rfl, o, s2, d2, _⟩
  try simp -implicitDefEqProofs only [ex1, true_and, ex0]
  exact l1.trans (s2.in 1 rfl)

end Go.Proofs.YtnpdploihlgcgaaDoor
end

section
/- A pose's moves, told to any yield; gathered in a row. -/
set_option linter.unusedSimpArgs false
set_option linter.unusedVariables false
set_option maxRecDepth 100000
namespace Go.Proofs.YtnpdploihlgcgaaDoor
open Go Go.HL

theorem _root_.Go.HL.Sep.pack2 {x y h : Hp} {R : List Hp} (s : Sep (x :: y :: R) h) : ∃ b, Sep (b :: R) h ∧ Sep [x, y] b := by
  obtain ⟨s1, ap⟩ := s.join
  exact ⟨_, s1, ⟨fun a ha => by
    simp only [List.mem_cons, List.not_mem_nil, or_false] at ha
    rcases ha with rfl | rfl
    · exact Hp.le_join
    · exact Hp.le_join2 ap, by simp [ap]⟩⟩
theorem _root_.Go.HL.Sep.pack3 {x y z h : Hp} {R : List Hp} (s : Sep (x :: y :: z :: R) h) : ∃ b, Sep (b :: R) h ∧ Sep [x, y, z] b := by
  have s1 : Sep (y :: z :: x :: R) h := s.rot.rot
  obtain ⟨s2, a2⟩ := s1.join
  obtain ⟨s3, a3⟩ := s2.swap.join
  refine ⟨_, s3, fun a ha => ?_, (List.pairwise_append (l₁ := [x, y, z]) (l₂ := R)).1 s.2 |>.1⟩
  simp only [List.mem_cons, List.not_mem_nil, or_false] at ha
  rcases ha with rfl | rfl | rfl
  · exact Hp.le_join
  · exact Hp.le_join.trans (Hp.le_join2 a3)
  · exact (Hp.le_join2 a2).trans (Hp.le_join2 a3)

theorem opE76 {G : Hp} {a b y : Value} {h : Hp} {K : Value → Hp → Prop} : opE Tryd.prog G (xCallV (.func (.func 76) #[] #[a, b]) #[y]) h K = HCalls Tryd.prog G 76 #[y, a, b] h K := by kernel_rfl
theorem setR1 {n d : Nat} {v : Value} {r : Rg} (hd : d < n) : setR n #[d] #[v] r = upd r d v := by
  unfold setR
  simp [putR, hd]

theorem runs_spec {G h : Hp} {gp : Nat} {p : Pose} : HCalls Tryd.prog G 62 #[.pointer (some ⟨gp, 0, none⟩), poseV p] h (fun u h' => ∃ b1 b2, u = .func (.func 76) #[] #[.pointer (some ⟨b1, 0, none⟩), .pointer (some ⟨b2, 0, none⟩)] ∧ h b1 = none ∧ G b1 = none ∧ (h.set b1 (.cells #[.pointer (some ⟨gp, 0, none⟩)] 31 (0, 0))) b2 = none ∧ G b2 = none ∧ h' = (h.set b1 (.cells #[.pointer (some ⟨gp, 0, none⟩)] 31 (0, 0))).set b2 (.cells #[.int .i64 p.x, .int .i64 p.y, .bool p.d] 30 (0, 0))) := by
  refine enter62 (by simp) ?_
  unfold S62
  simp -implicitDefEqProofs only [regs0, regs1, retK_ret, resL_tmp, upd_eq, resL_nil1, opH_sv, box_new, cells_agg, cells_ptr]
  intro x hx gx y hy gy
  exact ⟨x, y, rfl, hx, gx, hy, gy, rfl⟩

def turnM (p : Pose) : Move := ⟨2, 0, 0, p, turnP p, 0, 0⟩
def movesW (w k : Nat) (f : Nat → Nat → Int) (p : Pose) : List Move := if fitsW w k f p = true then runsL w k f p ++ (if wayB w k f (turnM p) = true then [turnM p] else []) else []

/-- The yield within a range over a function: y's box at bx, the loop's record at l. -/
def InY (Y : List Move → Hp → Prop) (eb : Hp) (l : Nat) (o : Obj) (L : List Move) (b : Hp) : Prop := ∃ a, Y L a ∧ Sep [a, eb, noHp.set l o] b

set_option maxHeartbeats 4000000 in
theorem inner_yield {G : Hp} {y y' : Value} {Y Z : List Move → Hp → Prop} {c : List Move → Bool} {bx l : Nat} {o : Option Exit → Obj} {r : Rg} (yl : Yl moveV G y Y Z c) (gl : G l = none) (ho : ∀ e, isCells (o e) = false) (g3 : r 3 = .pointer (some ⟨bx, 0, none⟩))
    (hy : ∀ (args : Array Value) (h1 : Hp) (K1 : Value → Hp → Prop), args.size = 1 → h1 l = some (o none) →
      S61_a3 G (setR 32 #[13] args r) h1 (fun e r2 h2 => e = .normal ∧ h2 l = some (o none) ∧ ∀ ob, isCells ob = false → S61_b3 G r2 (h2.set l ob) (fun e _ h3 => h3 l = some ob ∧ match e with
        | .normal => K1 (.bool true) (h3.set l (o none))
        | .panic _ => False
        | .outgrown => False
        | e => K1 (.bool false) (h3.set l (o (some e))))) →
      opH Tryd.prog G (xCallV y' args) h1 K1) :
    Yl moveV G y' (InY Y (noHp.set bx (.cells #[y] 52 (0, 0))) l (o none)) (InY Z (noHp.set bx (.cells #[y] 52 (0, 0))) l (o (some .ret))) c := by
  rintro L m b q h ⟨a, ya, sb⟩ s d
  have s1 : Sep [q, a, noHp.set bx (.cells #[y] 52 (0, 0)), noHp.set l (o none)] h := by
    have := s.swap.split sb
    simpa using this
  refine hy #[moveV m] h _ rfl (s1.at 3 rfl set_self) ?_
  rw [setR1 (by decide)]
  unfold S61_a3
  simp -implicitDefEqProofs only [upd_eq, true_and, opH_su, opH_sv, al46, st46w]
  intro x hx gx
  try simp -implicitDefEqProofs only [opH_sv, opH_su, pureW_sv, opH_nil, pureW_nil, pick_t, pick_f, pick_tp, pick_fp, gd_tt, gd_ft, gd_tf, gd_ff, box_new, regs0, regs1, regs2, regs3, regs4, regs5, regs6, cells_agg, cells_int, cells_bool, cells_ptr, cells_slice, cells_string, cells_func, cells_nilFunc, cells_map, retK_ret, retK_normal, resL_tmp, resL_cell, resL_nil0, resL_nil1, resL_nil2, resL_nil3, resC_ptr, ex0, ex1, ex2, ex0p, ex1p, ex2p, HL.cond_true, HL.cond_false, thenK_normal, thenK_ret, thenK_exit, blockK_normal, blockK_ret, blockK_exit, scopeK_normal, scopeK_ret, scopeK_exit, wpH_pure, bin_add, bin_sub, bin_mul, bin_lss, bin_leq, bin_gtr, bin_geq, bin_quo, bin_rem, bin_quop, bin_remp, wrap_in, bin_addp, bin_subp, bin_mulp, bin_lssp, bin_leqp, bin_gtrp, bin_geqp, un_not, un_notp, un_neg, eq_int, ne_int, eq_intp, ne_intp, callV_fn, add_mk, upd_eq, upd_ne, cell_set_self, Nat.zero_add, Nat.add_zero, Option.some.injEq, exists_eq_left', List.getElem?_cons_succ, List.getElem?_cons_zero, true_and, and_true, bne_self_eq_false, beq_self_eq_true, Bool.not_true, Bool.not_false, Bool.and_true, Bool.and_self, Bool.and_false, Bool.true_and, List.length_cons, List.length_nil, ne_eq, not_false_eq_true, Nat.reduceAdd, Nat.reduceMul, if_true, if_false, oneCell_int, oneCell_bool, oneCell_ptr, oneCell_slice, oneCell_string, oneCell_func, oneCell_map, Int.toNat_natCast, List.set_cons_zero, List.set_cons_succ, Nat.lt_irrefl, Nat.zero_lt_succ, Nat.succ_lt_succ_iff, fa26_0, fa26_0p, fa26_1, fa26_1p, fa26_10, fa26_10p, fa26_11, fa26_11p, fa26_12, fa26_12p, fa26_13, fa26_13p, fa26_14, fa26_14p, fa26_2, fa26_2p, fa26_3, fa26_3p, fa26_4, fa26_4p, fa26_5, fa26_5p, fa26_6, fa26_6p, fa26_7, fa26_7p, fa26_8, fa26_8p, fa26_9, fa26_9p, fa28_0, fa28_0p, fa28_1, fa28_1p, fa30_0, fa30_0p, fa30_1, fa30_1p, fa46_0, fa46_0p, fa46_1, fa46_1p, fa46_2, fa46_2p, fa46_3, fa46_3p, fa46_4, fa46_4p, fa46_5, fa46_5p, fa46_6, fa46_6p, fa86_0, fa86_0p, fa86_1, fa86_1p, fa86_2, fa86_2p, fa95_0, fa95_0p, fa95_1, fa95_1p, ld3, ld3p, ld4, ld4p, ld22, ld22p, ld23, ld23p, ld24, ld24p, ld26, ld26p, ld28, ld28p, ld30, ld30p, ld31, ld31p, ld46, ld46p, ld47, ld47p, ld52, ld52p, ld55, ld55p, ld57, ld57p, ld95, ld95p, st3s, st4s, st22s, st23s, st24s, st26w, st28w, st30w, st46w, st47s, st55s, st95w, ix22, ix22p, ix23, ix23p, ix24, ix24p, ix47, ix47p, ix56, ix56p, ix57, ix57p, ix101, ix101p, ln22, ln22p, ln23, ln23p, ln24, ln24p, ln47, ln47p, ln56, ln56p, ln57, ln57p, al22, al26, al28, al30, al46, al47, al95, cf14, cf15, cf16, cf17, cf18, cf19, cf20, cf21, cf22, cf23, cf24, cf25, cf26, cf27, cf28, cf29, cf30, cf31, cf32, cf33, cf34, cf35, cf36, cf37, cf38, cf39, cf40, cf41, cf42, cf43, cf44, cf45, cf46, cf47, cf48, cf49, cf50, cf51, cf52, cf53, cf54, cf55, cf56, cf57, cf58, cf59, cf60, cf61, cf62, cf63, cf64, cf65, cf66, cf67, cf68, cf69, cf70, cf71, cf72, cf73, cf74, cf75, cf76, cf77, cf78, cf79, cf80, bd26_0_1_2_7_8_9_10_11_12_13_14, bd26_0_1_2_7_8_9_10_11_12_13_14p, bd28_0, bd28_0p, bd28_0_1, bd28_0_1p, bd30_, bd30_p, bd30_0_1, bd30_0_1p, bd30_0, bd30_0p, bd46_0_1_2_3_4, bd46_0_1_2_3_4p, bd46_0_3_4, bd46_0_3_4p, bd86_0_1_2, bd86_0_1_2p, bd87_0_1_2_3, bd87_0_1_2_3p, bd95_0_1, bd95_0_1p, bs22_2_0_1, bs47_1_0, bs22_1_0, bs57_6_0_1_2_3_4_5, bs24_1_0, bs22_4_0_1_2_3, bs56_11_0_1_2_3_4_5_6_7_8_9_10, bs57_11_0_1_2_3_4_5_6_7_8_9_10, eq4, eq4p, eq28, eq28p, eq30, eq30p, eq31n, eq31np, eq31s, eq31sp, eq46, eq46p, eq50n, eq50np, eq50s, eq50sp, eq67n, eq67np, eq67s, eq67sp, ne4, ne4p, ne28, ne28p, ne30, ne30p, ne31n, ne31np, ne31s, ne31sp, ne46, ne46p]
  have s2 := s1.past (o := moveO m) hx
  have sx := s1.new (o := moveO m) hx
  have d2 := d.set (o := moveO m) gx
  have nlx : l ≠ x := fun e => by rw [← e, s1.at 3 rfl set_self] at hx; cases hx
  refine ⟨by rw [set_other nlx]; exact s1.at 3 rfl set_self, fun ob hob => ?_⟩
  generalize Hp.set h x _ = h2 at s2 sx d2 ⊢
  have s3 : Sep [noHp.set l ob, noHp.set x (moveO m), q, a, noHp.set bx (.cells #[y] 52 (0, 0))] (h2.set l ob) := by
    have := (sx.pick 4 rfl rfl).put (o := ob) set_self
    rw [set_set] at this
    exact this
  have d3 : Dis G (h2.set l ob) := d2.set gl
  generalize Hp.set h2 l ob = h3 at s3 d3 ⊢
  have cb : ∀ j, cellIn G h3 ⟨bx, j, none⟩ = _ := fun j => cell_of (look_own (s3.at 4 rfl set_self))
  have cx : ∀ j, cellIn G h3 ⟨x, j, none⟩ = _ := fun j => cell_of (look_own (s3.at 1 rfl set_self))
  unfold S61_b3
  try simp -implicitDefEqProofs (disch := first | with_reducible exact Nat.ne_of_beq_eq_false rfl | omega) only [upd_ne, g3, upd_eq, opH_sv, ld46, add_mk, Nat.add_zero, Nat.zero_add, ld52, cb, List.getElem?_cons_zero, Option.some.injEq, cx, List.getElem?_cons_succ, exists_eq_left']
  have s4 : Sep [noHp.set bx (.cells #[y] 52 (0, 0)), noHp.set l ob, q, a] h3 := by
    exact (s3.pick 1 rfl rfl).drop.pick 3 rfl rfl
  obtain ⟨Q, s5, sQ⟩ := s4.pack3
  refine opH_mono (fun v h6 H => ?_) (yl L m a Q h3 ya s5.swap d3)
  obtain ⟨a6, rfl, s6, d6, z6⟩ := H
  have s7 : Sep [a6, noHp.set bx (.cells #[y] 52 (0, 0)), noHp.set l ob, q] h6 := by
    have := s6.split sQ
    simpa using this
  have hl6 := s7.at 2 rfl (set_self (h := noHp) (b := l) (o := ob))
  have fin : ∀ oo : Obj, ∃ b', Sep [b', q] (h6.set l oo) ∧ Sep [a6, noHp.set bx (.cells #[y] 52 (0, 0)), noHp.set l oo] b' := by
    intro oo
    have s8 : Sep [noHp.set l oo, a6, noHp.set bx (.cells #[y] 52 (0, 0)), q] (h6.set l oo) := by
      have := (s7.pick 2 rfl rfl).put (o := oo) set_self
      rw [set_set] at this
      exact this
    exact (s8.rot.rot.pack3)
  cases hc : c (L ++ [m]) with
  | false =>
    try simp -implicitDefEqProofs only [true_and, un_not, Bool.not_false, HL.cond_true]
    rw [hc] at z6
    obtain ⟨b', t1, t2⟩ := fin (o (some .ret))
    exact ⟨hl6, b', t1, d6.set gl, a6, z6, t2⟩
  | true =>
    try simp -implicitDefEqProofs only [if_true, true_and, un_not, Bool.not_true, HL.cond_false]
    rw [hc] at z6
    obtain ⟨b', t1, t2⟩ := fin (o none)
    exact ⟨hl6, b', t1, d6.set gl, a6, z6, t2⟩

theorem feed_nil {α : Type} {c : List α → Bool} {L : List α} : feed c L [] = (L, true) := rfl

theorem turn_bd {p : Pose} (hp : PB p) : MB (turnM p) := ⟨⟨show (-9223372036854775808 : Int) ≤ 0 by decide, show (0 : Int) ≤ 9223372036854775807 by decide⟩, hp⟩

/-- Behind the runs: the turn. -/
theorem moves_tail {G h a q : Hp} {y g : Value} {Y Z : List Move → Hp → Prop} {c : List Move → Bool} {L : List Move} {gb pb bx w k : Nat} {f : Nat → Nat → Int} {p : Pose} {T : List Move × Bool} {KK : Exit → Rg → Hp → Prop} {r : Rg}
    (yl : Yl moveV G y Y Z c) (ya : Y L a) (s : Sep [a, noHp.set bx (.cells #[y] 52 (0, 0)), q] h) (d : Dis G h) (hg : q gb = some (.cells #[g] 31 (0, 0))) (hpb : q pb = some (.cells #[.int .i64 p.x, .int .i64 p.y, .bool p.d] 30 (0, 0))) (gs : GS G q g w k f) (st : Steps G) (hp : PB p)
    (g1 : r 1 = .pointer (some ⟨gb, 0, none⟩)) (g2 : r 2 = .pointer (some ⟨pb, 0, none⟩)) (g3 : r 3 = .pointer (some ⟨bx, 0, none⟩))
    (hT : feed c L (if wayB w k f (turnM p) = true then [turnM p] else []) = T) (H : ∀ r h', RunsR G q Y Z T h' → KK .normal r h') : S61_k2 G KK r h := by
  have cp : ∀ j, cellIn G h ⟨pb, j, none⟩ = _ := fun j => cell_of (look_own (s.at 2 rfl hpb))
  unfold S61_k2
  simp -implicitDefEqProofs only [g2, g1, g3, opH_sv, ld52, cf27, ld31, opH_su, al46, ld46, add_mk, Nat.add_zero, Nat.zero_add, fa30_1, ld4, fa30_0, ld28, ld30, cp, List.getElem?_cons_zero, Option.some.injEq, List.getElem?_cons_succ, exists_eq_left', un_not, bd30_0_1, bd46_0_3_4, st46w, cell_set_self]
  intro x hx gx
  have d2 := d.set (o := moveO (turnM p)) gx
  have s2 := s.past (o := moveO (turnM p)) hx
  have hx2 : (h.set x (moveO (turnM p))) x = some (moveO (turnM p)) := set_self
  have e : (h.set x (.cells #[.int .i64 2, .int .i64 0, .int .i64 0, .int .i64 p.x, .int .i64 p.y, .bool p.d, .int .i64 p.x, .int .i64 p.y, .bool !p.d, .int .i64 0, .int .i64 0] 46 (0, 0))) = h.set x (moveO (turnM p)) := rfl
  try simp -implicitDefEqProofs only [opH_sv, opH_su, pureW_sv, opH_nil, pureW_nil, pick_t, pick_f, pick_tp, pick_fp, gd_tt, gd_ft, gd_tf, gd_ff, box_new, regs0, regs1, regs2, regs3, regs4, regs5, regs6, cells_agg, cells_int, cells_bool, cells_ptr, cells_slice, cells_string, cells_func, cells_nilFunc, cells_map, retK_ret, retK_normal, resL_tmp, resL_cell, resL_nil0, resL_nil1, resL_nil2, resL_nil3, resC_ptr, ex0, ex1, ex2, ex0p, ex1p, ex2p, HL.cond_true, HL.cond_false, thenK_normal, thenK_ret, thenK_exit, blockK_normal, blockK_ret, blockK_exit, scopeK_normal, scopeK_ret, scopeK_exit, wpH_pure, bin_add, bin_sub, bin_mul, bin_lss, bin_leq, bin_gtr, bin_geq, bin_quo, bin_rem, bin_quop, bin_remp, wrap_in, bin_addp, bin_subp, bin_mulp, bin_lssp, bin_leqp, bin_gtrp, bin_geqp, un_not, un_notp, un_neg, eq_int, ne_int, eq_intp, ne_intp, callV_fn, add_mk, upd_eq, upd_ne, cell_set_self, Nat.zero_add, Nat.add_zero, Option.some.injEq, exists_eq_left', List.getElem?_cons_succ, List.getElem?_cons_zero, true_and, and_true, bne_self_eq_false, beq_self_eq_true, Bool.not_true, Bool.not_false, Bool.and_true, Bool.and_self, Bool.and_false, Bool.true_and, List.length_cons, List.length_nil, ne_eq, not_false_eq_true, Nat.reduceAdd, Nat.reduceMul, if_true, if_false, oneCell_int, oneCell_bool, oneCell_ptr, oneCell_slice, oneCell_string, oneCell_func, oneCell_map, Int.toNat_natCast, List.set_cons_zero, List.set_cons_succ, Nat.lt_irrefl, Nat.zero_lt_succ, Nat.succ_lt_succ_iff, fa26_0, fa26_0p, fa26_1, fa26_1p, fa26_10, fa26_10p, fa26_11, fa26_11p, fa26_12, fa26_12p, fa26_13, fa26_13p, fa26_14, fa26_14p, fa26_2, fa26_2p, fa26_3, fa26_3p, fa26_4, fa26_4p, fa26_5, fa26_5p, fa26_6, fa26_6p, fa26_7, fa26_7p, fa26_8, fa26_8p, fa26_9, fa26_9p, fa28_0, fa28_0p, fa28_1, fa28_1p, fa30_0, fa30_0p, fa30_1, fa30_1p, fa46_0, fa46_0p, fa46_1, fa46_1p, fa46_2, fa46_2p, fa46_3, fa46_3p, fa46_4, fa46_4p, fa46_5, fa46_5p, fa46_6, fa46_6p, fa86_0, fa86_0p, fa86_1, fa86_1p, fa86_2, fa86_2p, fa95_0, fa95_0p, fa95_1, fa95_1p, ld3, ld3p, ld4, ld4p, ld22, ld22p, ld23, ld23p, ld24, ld24p, ld26, ld26p, ld28, ld28p, ld30, ld30p, ld31, ld31p, ld46, ld46p, ld47, ld47p, ld52, ld52p, ld55, ld55p, ld57, ld57p, ld95, ld95p, st3s, st4s, st22s, st23s, st24s, st26w, st28w, st30w, st46w, st47s, st55s, st95w, ix22, ix22p, ix23, ix23p, ix24, ix24p, ix47, ix47p, ix56, ix56p, ix57, ix57p, ix101, ix101p, ln22, ln22p, ln23, ln23p, ln24, ln24p, ln47, ln47p, ln56, ln56p, ln57, ln57p, al22, al26, al28, al30, al46, al47, al95, cf14, cf15, cf16, cf17, cf18, cf19, cf20, cf21, cf22, cf23, cf24, cf25, cf26, cf27, cf28, cf29, cf30, cf31, cf32, cf33, cf34, cf35, cf36, cf37, cf38, cf39, cf40, cf41, cf42, cf43, cf44, cf45, cf46, cf47, cf48, cf49, cf50, cf51, cf52, cf53, cf54, cf55, cf56, cf57, cf58, cf59, cf60, cf61, cf62, cf63, cf64, cf65, cf66, cf67, cf68, cf69, cf70, cf71, cf72, cf73, cf74, cf75, cf76, cf77, cf78, cf79, cf80, bd26_0_1_2_7_8_9_10_11_12_13_14, bd26_0_1_2_7_8_9_10_11_12_13_14p, bd28_0, bd28_0p, bd28_0_1, bd28_0_1p, bd30_, bd30_p, bd30_0_1, bd30_0_1p, bd30_0, bd30_0p, bd46_0_1_2_3_4, bd46_0_1_2_3_4p, bd46_0_3_4, bd46_0_3_4p, bd86_0_1_2, bd86_0_1_2p, bd87_0_1_2_3, bd87_0_1_2_3p, bd95_0_1, bd95_0_1p, bs22_2_0_1, bs47_1_0, bs22_1_0, bs57_6_0_1_2_3_4_5, bs24_1_0, bs22_4_0_1_2_3, bs56_11_0_1_2_3_4_5_6_7_8_9_10, bs57_11_0_1_2_3_4_5_6_7_8_9_10, eq4, eq4p, eq28, eq28p, eq30, eq30p, eq31n, eq31np, eq31s, eq31sp, eq46, eq46p, eq50n, eq50np, eq50s, eq50sp, eq67n, eq67np, eq67s, eq67sp, ne4, ne4p, ne28, ne28p, ne30, ne30p, ne31n, ne31np, ne31s, ne31sp, ne46, ne46p]
  rw [e]
  generalize e1 : Hp.set h x _ = h1 at s2 d2 hx2 ⊢
  have cg : ∀ j, cellIn G h1 ⟨gb, j, none⟩ = _ := fun j => cell_of (look_own (s2.at 2 rfl hg))
  have cb : ∀ j, cellIn G h1 ⟨bx, j, none⟩ = _ := fun j => cell_of (look_own (s2.at 1 rfl set_self))
  have cx : ∀ j, cellIn G h1 ⟨x, j, none⟩ = _ := fun j => cell_of (look_own hx2)
  try simp -implicitDefEqProofs only [cg, List.getElem?_cons_zero, Option.some.injEq, exists_eq_left']
  refine (legal_spec (m := turnM p) (gs.up (s2.in 2 rfl) d2) st (turn_bd hp)).mono ?_
  rintro _ _ ⟨rfl, rfl⟩
  cases hw : wayB w k f (turnM p) with
  | false =>
    rw [hw, if_neg (by simp), feed_nil] at hT
    try simp -implicitDefEqProofs only [HL.cond_false]
    exact H _ _ (RunsR.go (c := c) (s2.pick 1 rfl rfl).drop d2 ya (by rw [feed_nil]; exact hT))
  | true =>
    rw [hw, if_pos rfl] at hT
    try simp -implicitDefEqProofs only [cb, List.getElem?_cons_zero, Option.some.injEq, cx, List.getElem?_cons_succ, exists_eq_left', HL.cond_true]
    obtain ⟨Q, s5, sQ⟩ := s2.rot.rot.pack2
    refine opH_mono (fun v h6 R => ?_) (yl L (turnM p) a Q _ ya s5.swap d2)
    obtain ⟨a6, rfl, s6, d6, z6⟩ := R
    refine H _ _ ?_
    have s7 : Sep [a6, noHp.set bx (.cells #[y] 52 (0, 0)), q] h6 := by
      have := s6.split sQ
      simpa using this
    refine ⟨a6, (s7.pick 1 rfl rfl).drop, d6, ?_⟩
    rw [← hT]
    cases hc : c (L ++ [turnM p]) with
    | false => rw [feed_f hc]; rw [hc] at z6; exact z6
    | true => rw [feed_t hc]; rw [hc] at z6; exact z6

set_option maxHeartbeats 4000000 in
theorem moves1_spec {G h a q : Hp} {y g : Value} {Y Z : List Move → Hp → Prop} {c : List Move → Bool} {L : List Move} {gb pb w k : Nat} {f : Nat → Nat → Int} {p : Pose} (hyf : ∃ fn a b, y = .func fn a b)
    (yl : Yl moveV G y Y Z c) (ya : Y L a) (s : Sep [a, q] h) (hg : q gb = some (.cells #[g] 31 (0, 0))) (hpb : q pb = some (.cells #[.int .i64 p.x, .int .i64 p.y, .bool p.d] 30 (0, 0))) (gs : GS G q g w k f) (st : Steps G) (hp : PB p) :
    HCalls Tryd.prog G 61 #[y, .pointer (some ⟨gb, 0, none⟩), .pointer (some ⟨pb, 0, none⟩)] h (fun _ h' => RunsR G q Y Z (feed c L (movesW w k f p)) h') := by
  obtain ⟨fn, fa, fb, rfl⟩ := hyf
  obtain ⟨⟨gp, kb, rfl, _⟩, _⟩ := id gs
  refine HCalls.assume fun d => enter61 (by simp) ?_
  unfold S61
  simp -implicitDefEqProofs only [regs0, regs1, regs2, retK_ret, resL_nil0, opH_sv, cf23, ld30, add_mk, Nat.add_zero, Nat.zero_add, ld31, box_new, cells_func]
  intro bx hbx gbx
  have s1 : Sep [a, noHp.set bx (.cells #[.func fn fa fb] 52 (0, 0)), q] (h.set bx (.cells #[.func fn fa fb] 52 (0, 0))) := (s.new hbx).swap
  have d1 := d.set (o := .cells #[.func fn fa fb] 52 (0, 0)) gbx
  generalize Hp.set h bx _ = h1 at s1 d1 ⊢
  have cg : ∀ j, cellIn G h1 ⟨gb, j, none⟩ = _ := fun j => cell_of (look_own (s1.at 2 rfl hg))
  have cp : ∀ j, cellIn G h1 ⟨pb, j, none⟩ = _ := fun j => cell_of (look_own (s1.at 2 rfl hpb))
  try simp -implicitDefEqProofs only [cg, List.getElem?_cons_zero, Option.some.injEq, cp, List.getElem?_cons_succ, exists_eq_left']
  refine (fits_spec (p := p) (gs.up (s1.in 2 rfl) d1) st hp).mono ?_
  rintro _ _ ⟨rfl, rfl⟩
  unfold movesW
  cases hf : fitsW w k f p with
  | false =>
    try simp -implicitDefEqProofs only [un_not, Bool.not_false, HL.cond_true]
    exact ⟨a, (s1.pick 1 rfl rfl).drop, d1, ya⟩
  | true =>
  try simp -implicitDefEqProofs only [if_true, un_not, Bool.not_true, HL.cond_false]
  unfold S61_k1
  try simp -implicitDefEqProofs (maxSteps := 2000000) (disch := first | with_reducible exact Nat.ne_of_beq_eq_false rfl | exact oneCell_int | exact oneCell_bool | omega | rfl | (simp; done) | fail) only [upd_ne, regs1, regs2, cf62, opH_sv, ld30, add_mk, Nat.add_zero, Nat.zero_add, ld31, cg, List.getElem?_cons_zero, Option.some.injEq, cp, List.getElem?_cons_succ, exists_eq_left']
  refine (runs_spec (gp := gp) (p := p)).mono ?_
  rintro _ _ ⟨b1, b2, rfl, hb1, gb1, hb2, gb2, rfl⟩
  have s2 : Sep [(q.set b1 (.cells #[.pointer (some ⟨gp, 0, none⟩)] 31 (0, 0))).set b2 (.cells #[.int .i64 p.x, .int .i64 p.y, .bool p.d] 30 (0, 0)), a, noHp.set bx (.cells #[.func fn fa fb] 52 (0, 0))] _ := ((s1.pick 2 rfl rfl).grow (o := .cells #[.pointer (some ⟨gp, 0, none⟩)] 31 (0, 0)) hb1).grow (o := .cells #[.int .i64 p.x, .int .i64 p.y, .bool p.d] 30 (0, 0)) hb2
  have d2 := (d1.set (o := .cells #[.pointer (some ⟨gp, 0, none⟩)] 31 (0, 0)) gb1).set (o := .cells #[.int .i64 p.x, .int .i64 p.y, .bool p.d] 30 (0, 0)) gb2
  have e12 : b1 ≠ b2 := ne_of_set hb2
  have hq1 : q b1 = none := (s1.in 2 rfl).none hb1
  have lq : q.le ((q.set b1 (.cells #[.pointer (some ⟨gp, 0, none⟩)] 31 (0, 0))).set b2 (.cells #[.int .i64 p.x, .int .i64 p.y, .bool p.d] 30 (0, 0))) := (le_set hq1).trans (le_set (by rw [set_other (Ne.symm e12)]; exact (s1.in 2 rfl).none (none_of_set hb2)))
  have hq1' : ((q.set b1 (.cells #[.pointer (some ⟨gp, 0, none⟩)] 31 (0, 0))).set b2 (.cells #[.int .i64 p.x, .int .i64 p.y, .bool p.d] 30 (0, 0))) b1 = some (.cells #[.pointer (some ⟨gp, 0, none⟩)] 31 (0, 0)) := by rw [set_other e12, set_self]
  have hq2' : ((q.set b1 (.cells #[.pointer (some ⟨gp, 0, none⟩)] 31 (0, 0))).set b2 (.cells #[.int .i64 p.x, .int .i64 p.y, .bool p.d] 30 (0, 0))) b2 = some (.cells #[.int .i64 p.x, .int .i64 p.y, .bool p.d] 30 (0, 0)) := set_self
  generalize (q.set b1 (.cells #[.pointer (some ⟨gp, 0, none⟩)] 31 (0, 0))).set b2 (.cells #[.int .i64 p.x, .int .i64 p.y, .bool p.d] 30 (0, 0)) = q2 at s2 lq hq1' hq2'
  generalize Hp.set (Hp.set _ b1 _) b2 _ = h2 at s2 d2 ⊢
  intro y' l o hl gl ho HY
  rw [opE76]
  have s3 : Sep [a, noHp.set bx (.cells #[.func fn fa fb] 52 (0, 0)), noHp.set l (o none), q2] (h2.set l (o none)) := ((s2.new (o := o none) hl).pick 3 rfl rfl).pick 3 rfl rfl
  have d3 : Dis G (h2.set l (o none)) := d2.set gl
  obtain ⟨B, sB, tB⟩ := s3.pack3
  have gs2 : GS G q2 (.pointer (some ⟨gp, 0, none⟩)) w k f := gs.up lq (fun b o e => d3 b o (sB.in 1 rfl _ _ e))
  refine (runs1_spec (p := p) (inner_yield yl gl ho (by simp -implicitDefEqProofs (disch := first | with_reducible exact Nat.ne_of_beq_eq_false rfl | omega) only [upd_ne, upd_eq]) HY) ⟨a, ya, tB⟩ sB hq1' hq2' gs2 st).mono ?_
  rintro _ h5 ⟨b5, s5, d5, z5⟩
  rw [feed_app]
  unfold Fin at z5
  cases hr : (feed c L (runsL w k f p)).2 with
  | true =>
    rw [hr, if_pos rfl] at z5
    obtain ⟨a5, ya5, t5⟩ := z5
    have s6 : Sep [q2, a5, noHp.set bx (.cells #[.func fn fa fb] 52 (0, 0)), noHp.set l (o none)] h5 := by
      have := s5.swap.split t5
      simpa using this
    obtain ⟨h6, s7, t7⟩ := s6.pack3
    refine ⟨h6, s7.in 0 rfl, ?_, .inl ⟨s7.at 1 rfl set_self, ?_⟩⟩
    · rcases s7.apart (b := noHp.set l (o none)) (by simp) l with e | e
      · exact e
      · rw [set_self] at e; cases e
    try simp -implicitDefEqProofs (disch := first | with_reducible exact Nat.ne_of_beq_eq_false rfl | omega) only [if_true, blockK_normal, thenK_normal]
    have d6 : Dis G h6 := fun b o e => d5 b o (s7.in 0 rfl _ _ e)
    refine moves_tail yl ya5 ((t7.cut lq).rot.rot) d6 hg hpb gs st hp (by simp -implicitDefEqProofs (disch := first | with_reducible exact Nat.ne_of_beq_eq_false rfl | omega) only [upd_ne, regs1]) (by simp -implicitDefEqProofs (disch := first | with_reducible exact Nat.ne_of_beq_eq_false rfl | omega) only [upd_ne, regs2]) (by simp -implicitDefEqProofs (disch := first | with_reducible exact Nat.ne_of_beq_eq_false rfl | omega) only [upd_ne, upd_eq]) rfl fun r h' H => ?_
    try simp -implicitDefEqProofs only [retK_normal, resL_nil0]
    exact H
  | false =>
    rw [hr, if_neg (by simp)] at z5
    obtain ⟨a5, za5, t5⟩ := z5
    have s6 : Sep [q2, a5, noHp.set bx (.cells #[.func fn fa fb] 52 (0, 0)), noHp.set l (o (some .ret))] h5 := by
      have := s5.swap.split t5
      simpa using this
    obtain ⟨h6, s7, t7⟩ := s6.pack3
    refine ⟨h6, s7.in 0 rfl, ?_, .inr ⟨.ret, trivial, s7.at 1 rfl set_self, ?_⟩⟩
    · rcases s7.apart (b := noHp.set l (o (some .ret))) (by simp) l with e | e
      · exact e
      · rw [set_self] at e; cases e
    try simp -implicitDefEqProofs only [blockK_ret, thenK_ret, retK_ret, resL_nil0]
    have d6 : Dis G h6 := fun b o e => d5 b o (s7.in 0 rfl _ _ e)
    refine ⟨a5, ((t7.cut lq).swap.pick 2 rfl rfl).drop, d6, ?_⟩
    unfold Fin
    simp only [Bool.false_eq_true, if_false, hr]
    exact za5

end Go.Proofs.YtnpdploihlgcgaaDoor
end

section
/- A pose's moves gathered in a row. -/
set_option linter.unusedSimpArgs false
set_option linter.unusedVariables false
set_option maxRecDepth 100000
namespace Go.Proofs.YtnpdploihlgcgaaDoor
open Go Go.HL

def moveC : Cod Move := ⟨11, fun m => [.int .i64 m.k, .int .i64 m.d, .int .i64 m.n, .int .i64 m.f.x, .int .i64 m.f.y, .bool m.f.d, .int .i64 m.t.x, .int .i64 m.t.y, .bool m.t.d, .int .i64 m.a, .int .i64 m.e], fun _ => rfl, fun _ v hv => by simp at hv; rcases hv with rfl | rfl | rfl | rfl | rfl | rfl | rfl | rfl | rfl | rfl | rfl <;> rfl⟩
theorem eomove : ElemOk Tryd.prog 46 moveC.n 88 := eo46

/-- What a gathering yield owns: the row so far, its box, the box of how many at most. -/
def GY {α : Type} (c : Cod α) (e T : TypeId) (most : Int) (lb mb : Nat) (L : List α) (a : Hp) : Prop := ∃ ip v, Slc c e ip v L ∧ Sep [ip, noHp.set lb (.cells #[v] T (0, 0)), noHp.set mb (.cells #[.int .i64 most] 3 (0, 0))] a
def GYb {α : Type} (c : Cod α) (e T : TypeId) (most : Int) (lb mb : Nat) (L : List α) (a : Hp) : Prop := GY c e T most lb mb L a ∧ (L.length : Int) < most

theorem store47 {G h : Hp} {lb : Nat} {z : Value} {a : Option Addr} {n c : Nat} {K : Unit → Hp → Prop} (hb : h lb = some (.cells #[z] 47 (0, 0))) :
    wpH Tryd.prog G (Instr.storeAt 47 (.pointer (some ⟨lb, 0, none⟩)) (.slice a n c)) h K = K () (h.set lb (.cells #[.slice a n c] 47 (0, 0))) := by
  rw [store1_eq sz47 rfl hb (by simp)]
  rfl

theorem yield60_spec {G a : Hp} {lb mb : Nat} {most : Int} {L : List Move} {m : Move} (y : GYb moveC 46 47 most lb mb L a) (hm : most ≤ 100000) :
    HCalls Tryd.prog G 60 #[moveV m, .pointer (some ⟨lb, 0, none⟩), .pointer (some ⟨mb, 0, none⟩)] a (fun v a' => v = .bool (lessC most (L ++ [m])) ∧ GY moveC 46 47 most lb mb (L ++ [m]) a') := by
  obtain ⟨⟨ip, v, o, s⟩, hlen⟩ := y
  refine HCalls.assume fun d => enter60 (by simp) ?_
  unfold S60
  simp -implicitDefEqProofs (maxSteps := 2000000) (disch := first | with_reducible exact Nat.ne_of_beq_eq_false rfl | exact oneCell_int | exact oneCell_bool | omega | rfl | (simp; done) | fail) only [regs0, regs1, regs2, retK_ret, resL_tmp, upd_eq, resL_nil1, opH_sv, ld3, ld47, opH_su, box_new, cells_agg, ld46, add_mk, Nat.add_zero, cell_set_self, List.getElem?_cons_zero, Option.some.injEq, Nat.zero_add, List.getElem?_cons_succ, bs47_1_0, exists_eq_left']
  intro x hx gx
  have s1 := s.past (o := moveO m) hx
  have d1 := d.set (o := moveO m) gx
  have hx1 : (a.set x (moveO m)) x = some (moveO m) := set_self
  generalize Hp.set a x _ = h1 at s1 d1 hx1 ⊢
  have clb : ∀ j, cellIn G h1 ⟨lb, j, none⟩ = _ := fun j => cell_of (look_own (s1.at 1 rfl set_self))
  have cx : ∀ j, cellIn G h1 ⟨x, j, none⟩ = _ := fun j => cell_of (look_own hx1)
  try simp -implicitDefEqProofs (maxSteps := 2000000) (disch := first | with_reducible exact Nat.ne_of_beq_eq_false rfl | exact oneCell_int | exact oneCell_bool | omega | rfl | (simp; done) | fail) only [clb, List.getElem?_cons_zero, Option.some.injEq, exists_eq_left']
  intro b hb gb
  have s2 := s1.past (o := moveO m) hb
  have d2 := d1.set (o := moveO m) gb
  have hb2 : (h1.set b (moveO m)) b = some (moveO m) := set_self
  generalize Hp.set h1 b _ = h2 at s2 d2 hb2 ⊢
  refine append_piece moveC (by decide) un47 eomove (by decide) (by decide) (M := [m]) s2 d2 o (Sees.row (c := moveC) (L := [m]) hb2 rfl (Nat.le_refl _)) (by simp; omega) fun v3 a3 h3 o3 s3 d3 => ?_
  obtain ⟨sa, cap, rfl, hcap⟩ := o3.len (by decide)
  have hlb3 := s3.at 1 rfl set_self
  try simp -implicitDefEqProofs (maxSteps := 2000000) (disch := first | with_reducible exact Nat.ne_of_beq_eq_false rfl | exact oneCell_int | exact oneCell_bool | omega | rfl | (simp; done) | fail) only [opH_sv, opH_su, pureW_sv, opH_nil, pureW_nil, pick_t, pick_f, pick_tp, pick_fp, gd_tt, gd_ft, gd_tf, gd_ff, box_new, regs0, regs1, regs2, regs3, regs4, regs5, regs6, cells_agg, cells_int, cells_bool, cells_ptr, cells_slice, cells_string, cells_func, cells_nilFunc, cells_map, retK_ret, retK_normal, resL_tmp, resL_cell, resL_nil0, resL_nil1, resL_nil2, resL_nil3, resC_ptr, ex0, ex1, ex2, ex0p, ex1p, ex2p, HL.cond_true, HL.cond_false, thenK_normal, thenK_ret, thenK_exit, blockK_normal, blockK_ret, blockK_exit, scopeK_normal, scopeK_ret, scopeK_exit, wpH_pure, bin_add, bin_sub, bin_mul, bin_lss, bin_leq, bin_gtr, bin_geq, bin_quo, bin_rem, bin_quop, bin_remp, wrap_in, bin_addp, bin_subp, bin_mulp, bin_lssp, bin_leqp, bin_gtrp, bin_geqp, un_not, un_notp, un_neg, eq_int, ne_int, eq_intp, ne_intp, callV_fn, add_mk, upd_eq, upd_ne, cell_set_self, Nat.zero_add, Nat.add_zero, Option.some.injEq, exists_eq_left', List.getElem?_cons_succ, List.getElem?_cons_zero, true_and, and_true, bne_self_eq_false, beq_self_eq_true, Bool.not_true, Bool.not_false, Bool.and_true, Bool.and_self, Bool.and_false, Bool.true_and, List.length_cons, List.length_nil, ne_eq, not_false_eq_true, Nat.reduceAdd, Nat.reduceMul, if_true, if_false, oneCell_int, oneCell_bool, oneCell_ptr, oneCell_slice, oneCell_string, oneCell_func, oneCell_map, Int.toNat_natCast, List.set_cons_zero, List.set_cons_succ, Nat.lt_irrefl, Nat.zero_lt_succ, Nat.succ_lt_succ_iff, fa26_0, fa26_0p, fa26_1, fa26_1p, fa26_10, fa26_10p, fa26_11, fa26_11p, fa26_12, fa26_12p, fa26_13, fa26_13p, fa26_14, fa26_14p, fa26_2, fa26_2p, fa26_3, fa26_3p, fa26_4, fa26_4p, fa26_5, fa26_5p, fa26_6, fa26_6p, fa26_7, fa26_7p, fa26_8, fa26_8p, fa26_9, fa26_9p, fa28_0, fa28_0p, fa28_1, fa28_1p, fa30_0, fa30_0p, fa30_1, fa30_1p, fa46_0, fa46_0p, fa46_1, fa46_1p, fa46_2, fa46_2p, fa46_3, fa46_3p, fa46_4, fa46_4p, fa46_5, fa46_5p, fa46_6, fa46_6p, fa86_0, fa86_0p, fa86_1, fa86_1p, fa86_2, fa86_2p, fa95_0, fa95_0p, fa95_1, fa95_1p, ld3, ld3p, ld4, ld4p, ld22, ld22p, ld23, ld23p, ld24, ld24p, ld26, ld26p, ld28, ld28p, ld30, ld30p, ld31, ld31p, ld46, ld46p, ld47, ld47p, ld52, ld52p, ld55, ld55p, ld57, ld57p, ld95, ld95p, st3s, st4s, st22s, st23s, st24s, st26w, st28w, st30w, st46w, st47s, st55s, st95w, ix22, ix22p, ix23, ix23p, ix24, ix24p, ix47, ix47p, ix56, ix56p, ix57, ix57p, ix101, ix101p, ln22, ln22p, ln23, ln23p, ln24, ln24p, ln47, ln47p, ln56, ln56p, ln57, ln57p, al22, al26, al28, al30, al46, al47, al95, cf14, cf15, cf16, cf17, cf18, cf19, cf20, cf21, cf22, cf23, cf24, cf25, cf26, cf27, cf28, cf29, cf30, cf31, cf32, cf33, cf34, cf35, cf36, cf37, cf38, cf39, cf40, cf41, cf42, cf43, cf44, cf45, cf46, cf47, cf48, cf49, cf50, cf51, cf52, cf53, cf54, cf55, cf56, cf57, cf58, cf59, cf60, cf61, cf62, cf63, cf64, cf65, cf66, cf67, cf68, cf69, cf70, cf71, cf72, cf73, cf74, cf75, cf76, cf77, cf78, cf79, cf80, bd26_0_1_2_7_8_9_10_11_12_13_14, bd26_0_1_2_7_8_9_10_11_12_13_14p, bd28_0, bd28_0p, bd28_0_1, bd28_0_1p, bd30_, bd30_p, bd30_0_1, bd30_0_1p, bd30_0, bd30_0p, bd46_0_1_2_3_4, bd46_0_1_2_3_4p, bd46_0_3_4, bd46_0_3_4p, bd86_0_1_2, bd86_0_1_2p, bd87_0_1_2_3, bd87_0_1_2_3p, bd95_0_1, bd95_0_1p, bs22_2_0_1, bs47_1_0, bs22_1_0, bs57_6_0_1_2_3_4_5, bs24_1_0, bs22_4_0_1_2_3, bs56_11_0_1_2_3_4_5_6_7_8_9_10, bs57_11_0_1_2_3_4_5_6_7_8_9_10, eq4, eq4p, eq28, eq28p, eq30, eq30p, eq31n, eq31np, eq31s, eq31sp, eq46, eq46p, eq50n, eq50np, eq50s, eq50sp, eq67n, eq67np, eq67s, eq67sp, ne4, ne4p, ne28, ne28p, ne30, ne30p, ne31n, ne31np, ne31s, ne31sp, ne46, ne46p]
  rw [store47 hlb3]
  have s4 := (s3.pick 1 rfl rfl).put (o := .cells #[.slice sa (L ++ [m]).length cap] 47 (0, 0)) set_self
  rw [set_set] at s4
  have clb4 : ∀ j, cellIn G (h3.set lb (.cells #[.slice sa (L ++ [m]).length cap] 47 (0, 0))) ⟨lb, j, none⟩ = _ := fun j => cell_of (look_own (s4.at 0 rfl set_self))
  have cmb4 : ∀ j, cellIn G (h3.set lb (.cells #[.slice sa (L ++ [m]).length cap] 47 (0, 0))) ⟨mb, j, none⟩ = _ := fun j => cell_of (look_own (s4.at 2 rfl set_self))
  try simp -implicitDefEqProofs (maxSteps := 2000000) (disch := first | with_reducible exact Nat.ne_of_beq_eq_false rfl | exact oneCell_int | exact oneCell_bool | omega | rfl | (simp; done) | fail) only [clb4, List.getElem?_cons_zero, Option.some.injEq, exists_eq_left', ln47, cmb4, bin_lss]
  refine ⟨?_, a3, _, o3, s4.swap⟩
  first | rfl | simp [lessC]

theorem gather_yl {G : Hp} {lb mb : Nat} {most : Int} (hm : most ≤ 100000) : Yl moveV G (.func (.func 60) #[] #[.pointer (some ⟨lb, 0, none⟩), .pointer (some ⟨mb, 0, none⟩)]) (GYb moveC 46 47 most lb mb) (GY moveC 46 47 most lb mb) (lessC most) := by
  intro L m a q h y s d
  simp -implicitDefEqProofs (maxSteps := 2000000) (disch := first | with_reducible exact Nat.ne_of_beq_eq_false rfl | exact oneCell_int | exact oneCell_bool | omega | rfl | (simp; done) | fail) only [callV_fn, cf60]
  refine (s.on (yield60_spec y hm)).mono ?_
  rintro v h' ⟨a', ⟨rfl, gy⟩, s', d'⟩
  refine ⟨a', rfl, s', d', ?_⟩
  split
  · rename_i hc
    exact ⟨gy, of_decide_eq_true hc⟩
  · exact gy

theorem moves26_spec {G h : Hp} {gp : Nat} {p : Pose} : HCalls Tryd.prog G 26 #[.pointer (some ⟨gp, 0, none⟩), poseV p] h (fun u h' => ∃ b1 b2, u = .func (.func 61) #[] #[.pointer (some ⟨b1, 0, none⟩), .pointer (some ⟨b2, 0, none⟩)] ∧ h.le h' ∧ Dis G h' ∧ h' b1 = some (.cells #[.pointer (some ⟨gp, 0, none⟩)] 31 (0, 0)) ∧ h' b2 = some (.cells #[.int .i64 p.x, .int .i64 p.y, .bool p.d] 30 (0, 0))) := by
  refine HCalls.assume fun d => enter26 (by simp) ?_
  unfold S26
  simp -implicitDefEqProofs (maxSteps := 2000000) (disch := first | with_reducible exact Nat.ne_of_beq_eq_false rfl | exact oneCell_int | exact oneCell_bool | omega | rfl | (simp; done) | fail) only [regs0, regs1, retK_ret, resL_tmp, upd_eq, resL_nil1, opH_sv, box_new, cells_agg, cells_ptr]
  intro x hx gx y hy gy
  exact ⟨x, y, rfl, (le_set hx).trans (le_set hy), (d.set gx).set gy, by rw [set_other (ne_of_set hy), set_self], set_self⟩

theorem moves25_spec {G h : Hp} {g : Value} {gb pb w k : Nat} {f : Nat → Nat → Int} {p : Pose} {most : Int} (hg : h gb = some (.cells #[g] 31 (0, 0))) (hpb : h pb = some (.cells #[.int .i64 p.x, .int .i64 p.y, .bool p.d] 30 (0, 0))) (gs : GS G h g w k f) (st : Steps G) (hp : PB p) (hm1 : 1 ≤ most) (hm2 : most ≤ 100000) :
    HCalls Tryd.prog G 25 #[.func (.func 61) #[] #[.pointer (some ⟨gb, 0, none⟩), .pointer (some ⟨pb, 0, none⟩)], .int .i64 most] h (fun u h' => ∃ ip, Slc moveC 46 ip u ((movesW w k f p).take most.toNat) ∧ Sep [ip, h] h' ∧ Dis G h') := by
  refine HCalls.assume fun d => enter25 (by simp) ?_
  unfold S25
  simp -implicitDefEqProofs (maxSteps := 2000000) (disch := first | with_reducible exact Nat.ne_of_beq_eq_false rfl | exact oneCell_int | exact oneCell_bool | omega | rfl | (simp; done) | fail) only [regs1, regs0, retK_ret, resL_tmp, upd_eq, resL_nil1, eq50s, pick_f, gd_ff, opH_sv, al47, box_new, cells_int, ld3]
  intro mb hmb gmb lb hlb glb
  have s2 := ((Sep.one (h := h)).new (o := .cells #[.int .i64 most] 3 (0, 0)) hmb).new (o := .cells #[.slice none 0 0] 47 (0, 0)) hlb
  have d2 := (d.set (o := .cells #[.int .i64 most] 3 (0, 0)) gmb).set (o := .cells #[.slice none 0 0] 47 (0, 0)) glb
  generalize Hp.set (Hp.set h mb _) lb _ = h2 at s2 d2 ⊢
  have cmb : ∀ j, cellIn G h2 ⟨mb, j, none⟩ = _ := fun j => cell_of (look_own (s2.at 1 rfl set_self))
  have e1 : decide (most < 1) = false := decide_eq_false (by omega)
  try simp -implicitDefEqProofs (maxSteps := 2000000) (disch := first | with_reducible exact Nat.ne_of_beq_eq_false rfl | exact oneCell_int | exact oneCell_bool | omega | rfl | (simp; done) | fail) only [cmb, List.getElem?_cons_zero, Option.some.injEq, exists_eq_left', bin_lss, e1, HL.cond_false]
  unfold S25_k1
  try simp -implicitDefEqProofs (maxSteps := 2000000) (disch := first | with_reducible exact Nat.ne_of_beq_eq_false rfl | exact oneCell_int | exact oneCell_bool | omega | rfl | (simp; done) | fail) only [upd_ne, regs0, upd_eq, callV_fn, retK_ret, resL_tmp, resL_nil1, opH_sv, ld47, cf61]
  obtain ⟨a, s3, sa⟩ := s2.none.pack3
  have l2 : h.le h2 := s2.in 2 rfl
  have ya : GYb moveC 46 47 most lb mb [] a := ⟨⟨noHp, _, Slc.nil, sa⟩, by simp; omega⟩
  refine (moves1_spec (p := p) ⟨_, _, _, rfl⟩ (gather_yl hm2) ya s3 hg hpb gs st hp).mono ?_
  rintro _ h4 ⟨a4, s4, d4, z4⟩
  rw [feed_less (by simp; omega)] at z4
  have gy : GY moveC 46 47 most lb mb ((movesW w k f p).take most.toNat) a4 := by
    unfold Fin at z4
    simp only [List.nil_append, List.length_nil, Nat.sub_zero] at z4
    split at z4
    · exact z4.1
    · exact z4
  obtain ⟨ip, v, o, t4⟩ := gy
  have s5 : Sep [h, ip, noHp.set lb (.cells #[v] 47 (0, 0)), noHp.set mb (.cells #[.int .i64 most] 3 (0, 0))] h4 := by
    have := s4.swap.split t4
    simpa using this
  have clb : ∀ j, cellIn G h4 ⟨lb, j, none⟩ = _ := fun j => cell_of (look_own (s5.at 2 rfl set_self))
  try simp -implicitDefEqProofs (maxSteps := 2000000) (disch := first | with_reducible exact Nat.ne_of_beq_eq_false rfl | exact oneCell_int | exact oneCell_bool | omega | rfl | (simp; done) | fail) only [clb, List.getElem?_cons_zero, Option.some.injEq, exists_eq_left']
  exact ⟨ip, o, (s5.take 2 rfl).swap, d4⟩

end Go.Proofs.YtnpdploihlgcgaaDoor
end

section
/- A text of the proofs. -/
set_option linter.unusedVariables false
set_option maxRecDepth 100000
namespace Go.Proofs.YtnpdploihlgcgaaDoor
open Go Go.HL
def md64 : Nat → Hint
  | _ => ⟨false, [], [], [], [], false⟩
def S64 (G : Hp) (K : Exit → Rg → Hp → Prop) (r : Rg) (h : Hp) : Prop :=
  opH Tryd.prog G (sv (binOp .sub 3 (r 0) (r 1))) h fun v0 h0 =>
  opH Tryd.prog G (sv (binOp .sub 3 (r 1) (r 0))) h0 fun v1 h1 =>
  opH Tryd.prog G (sv (Builtin.max_ #[3, 3] 3 #[v0, v1])) h1 fun v2 h2 =>
  K .ret (upd (upd (upd (upd (upd (upd (upd (upd (upd r 4 (.int .i64 0)) 5 (r 0)) 6 (r 1)) 7 v0) 8 (r 1)) 9 (r 0)) 10 v1) 11 v2) 4 v2) h2
theorem S64_eq (G : Hp) (K : Exit → Rg → Hp → Prop) (r : Rg) (h : Hp) : wpC Tryd.prog G 12 md64 true (Tryd.f64.body.getD .skip) r h K = S64 G K r h := by kernel_rfl
theorem enter64 {G : Hp} {h : Hp} {args : Array Value} {R : Value → Hp → Prop} (hn : args.size ≤ 12) (H : S64 G (retK Tryd.prog G [.tmp 4] R) (regs args) h) : HCalls Tryd.prog G 64 args h R :=
  HCalls.enter (md := md64) mixed Tryd.func64 rfl hn (by rw [← S64_eq] at H; exact H)

end Go.Proofs.YtnpdploihlgcgaaDoor
end

section
/- The stack cells, told to any yield; cells gathered in a row. -/
set_option linter.unusedSimpArgs false
set_option linter.unusedVariables false
set_option maxRecDepth 100000
namespace Go.Proofs.YtnpdploihlgcgaaDoor
open Go Go.HL

def pickFrom {α : Type} (p : Nat → Bool) (mk : Nat → α) : Nat → Nat → List α
  | _, 0 => []
  | n, k + 1 => if p n = true then mk n :: pickFrom p mk (n + 1) k else pickFrom p mk (n + 1) k
end Go.Proofs.YtnpdploihlgcgaaDoor
end

section
/- The plain law: the program's grid and the reference let in the same configs, and their kinds of cells agree. -/
set_option linter.unusedSimpArgs false
set_option linter.unusedVariables false
namespace Go.Proofs.YtnpdploihlgcgaaDoor
open Go Go.HL

theorem few_below : ∀ (n : Nat) (L : List Nat), L.Nodup → (∀ x ∈ L, x < n) → L.length ≤ n
  | 0, L, _, h => by
    cases L with
    | nil => simp
    | cons x L => exact absurd (h x (.head _)) (by omega)
  | n + 1, L, hn, h => by
    by_cases hm : n ∈ L
    · have h1 := few_below n (L.erase n) (hn.erase n) (fun x hx => by
        have h2 := h x (List.mem_of_mem_erase hx)
        have h3 : x ≠ n := (List.Nodup.mem_erase_iff hn).1 hx |>.1
        omega)
      rw [List.length_erase_of_mem hm] at h1
      have := List.length_pos_of_mem hm
      omega
    · have := few_below n L hn (fun x hx => by
        have h2 := h x hx
        have h3 : x ≠ n := fun e => hm (e ▸ hx)
        omega)
      omega

theorem few_cells {w k : Nat} {L : List Cell} (hn : L.Nodup) (h : ∀ c ∈ L, inW w k c = true) : L.length ≤ w * k := by
  have h1 := few_below (w * k) (L.map fun c => c.2.toNat * w + c.1.toNat) ?_ ?_
  · simpa using h1
  · rw [List.nodup_iff_pairwise_ne, List.pairwise_map]
    rw [List.nodup_iff_pairwise_ne] at hn
    refine List.Pairwise.imp_of_mem ?_ hn
    intro a b ha hb hab e
    apply hab
    obtain ⟨a1, a2, a3, a4⟩ := inW_iff.1 (h a ha)
    obtain ⟨b1, b2, b3, b4⟩ := inW_iff.1 (h b hb)
    have hw : 0 < w := by omega
    obtain ⟨x1, y1⟩ := (cellN (n := b.2.toNat * w + b.1.toNat) hw (show a.1.toNat < w by omega)).1 e
    obtain ⟨x2, y2⟩ := (cellN (n := b.2.toNat * w + b.1.toNat) hw (show b.1.toNat < w by omega)).1 rfl
    have e1 : a.1.toNat = b.1.toNat := by rw [x1, ← x2]
    have e2 : a.2.toNat = b.2.toNat := by rw [y1, ← y2]
    exact Prod.ext (by omega) (by omega)
  · intro x hx
    obtain ⟨c, hc, rfl⟩ := List.mem_map.1 hx
    exact (numI_nat (h c hc)).2.2.2

section
variable {C : Conf}

theorem within_wk (hw : withinB C.w 1 16 = true) (hk : withinB C.h 1 16 = true) : C.w = (wC C : Int) ∧ C.h = (kC C : Int) ∧ 1 ≤ wC C ∧ wC C ≤ 16 ∧ 1 ≤ kC C ∧ kC C ≤ 16 := by
  unfold withinB at hw hk
  simp only [Bool.and_eq_true, decide_eq_true_eq] at hw hk
  unfold wC kC
  omega

theorem inW_inB (hw : withinB C.w 1 16 = true) (hk : withinB C.h 1 16 = true) (c : Cell) : inW (wC C) (kC C) c = inB C c := by
  obtain ⟨e1, e2, _⟩ := within_wk hw hk
  rw [Bool.eq_iff_iff, inW_iff]
  unfold inB
  simp only [Bool.and_eq_true, decide_eq_true_eq]
  rw [e1, e2]
  constructor
  · rintro ⟨a, b, c, d⟩; exact ⟨a, c, b, d⟩
  · rintro ⟨a, b, c, d⟩; exact ⟨a, c, b, d⟩

/-- What was laid at a cell of the hive. -/
theorem f0_at {c : Cell} (h1 : 0 ≤ c.1) (h2 : 0 ≤ c.2) : fAt (f0C C) c = if c ∈ C.bl then -1 else if c ∈ C.po then (C.po.idxOf c : Int) + 1 else 0 := by
  have e : ((c.1.toNat : Int), (c.2.toNat : Int)) = c := by rw [Int.toNat_of_nonneg h1, Int.toNat_of_nonneg h2]
  unfold fAt f0C kd
  rw [e]
  by_cases hb : c ∈ C.bl
  · rw [if_pos (List.mem_append_left _ hb), if_pos hb, List.idxOf_append, if_pos hb, if_pos (List.idxOf_lt_length_of_mem hb)]
  · rw [if_neg hb]
    by_cases hp : c ∈ C.po
    · rw [if_pos (List.mem_append_right _ hp), if_pos hp, List.idxOf_append, if_neg hb, if_neg (by omega)]
      omega
    · rw [if_neg (by simp [hb, hp]), if_neg hp]

theorem open_eq (hw : withinB C.w 1 16 = true) (hk : withinB C.h 1 16 = true) (c : Cell) : openW (wC C) (kC C) (f0C C) c = openB C c := by
  unfold openW openB
  rw [inW_inB hw hk]
  cases hc : inB C c with
  | false => rfl
  | true =>
    have hc' := hc
    rw [← inW_inB hw hk] at hc'
    obtain ⟨a1, a2, a3, a4⟩ := inW_iff.1 hc'
    rw [f0_at a1 a3]
    simp only [Bool.true_and]
    rw [Bool.eq_iff_iff]
    by_cases hb : c ∈ C.bl
    · simp [hb, List.count_eq_zero]
    · have : List.count c C.bl = 0 := List.count_eq_zero.2 hb
      rw [if_neg hb]
      simp only [this, beq_self_eq_true, iff_true]
      split
      · simp; omega
      · simp

theorem fits_eq (hw : withinB C.w 1 16 = true) (hk : withinB C.h 1 16 = true) (p : Pose) : fitsW (wC C) (kC C) (f0C C) p = fitsB C p := by
  unfold fitsW fitsB
  rw [open_eq hw hk, open_eq hw hk]

/-- Which cells of the hive keep their kind. -/
theorem keep_eq (hw : withinB C.w 1 16 = true) (hk : withinB C.h 1 16 = true) {c : Cell} (hc : inB C c = true) : keepB (wC C) (kC C) (f0C C) c.1.toNat c.2.toNat = (decide (c ∈ C.bl) || besideB C c) := by
  have hc' := hc
  rw [← inW_inB hw hk] at hc'
  obtain ⟨a1, a2, a3, a4⟩ := inW_iff.1 hc'
  have e1 : (c.1.toNat : Int) = c.1 := Int.toNat_of_nonneg a1
  have e2 : (c.2.toNat : Int) = c.2 := Int.toNat_of_nonneg a3
  have hf := f0_at (C := C) a1 a3
  unfold keepB
  rw [fits_eq hw hk, fits_eq hw hk]
  rw [show f0C C c.1.toNat c.2.toNat = fAt (f0C C) c from rfl, hf]
  unfold fitsB east besideB
  simp only [e1, e2]
  by_cases hb : c ∈ C.bl
  · simp [hb]
  · have ho : openB C (c.1, c.2) = true := by
      unfold openB
      rw [show ((c.1, c.2) : Cell) = c from rfl, hc]
      simp [List.count_eq_zero.2 hb]
    rw [if_neg hb, ho]
    have hne : ((if c ∈ C.po then (C.po.idxOf c : Int) + 1 else 0) == -1) = false := by
      split
      · simp; omega
      · rfl
    rw [hne]
    simp [hb]

theorem home_iff {c : Cell} : homeB C c = true ↔ c ∈ C.ro.flatMap cellsP := by
  unfold homeB
  rw [List.any_eq_true, List.mem_flatMap]
  refine exists_congr fun p => and_congr_right fun _ => ?_
  rw [decide_eq_true_eq, ← List.count_pos_iff]
  omega

theorem port_iff {c : Cell} : portI C c < 0 ↔ c ∉ C.po := by
  unfold portI
  split
  · rename_i h; simp [h] <;> omega
  · rename_i h; simp [h]

theorem f1_at (hw : withinB C.w 1 16 = true) (hk : withinB C.h 1 16 = true) {c : Cell} (hc : inB C c = true) : fAt (f1 (wC C) (kC C) (f0C C)) c = if c ∈ C.bl then -1 else if besideB C c = true then (if c ∈ C.po then (C.po.idxOf c : Int) + 1 else 0) else -2 := by
  have hc' := hc
  rw [← inW_inB hw hk] at hc'
  obtain ⟨a1, a2, a3, a4⟩ := inW_iff.1 hc'
  unfold fAt f1
  rw [keep_eq hw hk hc, show f0C C c.1.toNat c.2.toNat = fAt (f0C C) c from rfl, f0_at a1 a3]
  by_cases hb : c ∈ C.bl
  · simp [hb]
  · by_cases hs : besideB C c = true
    · simp [hb, hs]
    · simp [hb, hs]

theorem f3_at (hw : withinB C.w 1 16 = true) (hk : withinB C.h 1 16 = true) {c : Cell} (hc : inB C c = true) : fAt (f3C C) c = if homeB C c = true then -2 else if c ∈ C.bl then -1 else if besideB C c = true then (if c ∈ C.po then (C.po.idxOf c : Int) + 1 else 0) else -2 := by
  have hc' := hc
  rw [← inW_inB hw hk] at hc'
  obtain ⟨a1, a2, a3, a4⟩ := inW_iff.1 hc'
  have e : ((c.1.toNat : Int), (c.2.toNat : Int)) = c := by rw [Int.toNat_of_nonneg a1, Int.toNat_of_nonneg a3]
  have h1 := f1_at hw hk hc
  unfold f3C fAt f2
  rw [e]
  by_cases hh : c ∈ C.ro.flatMap cellsP
  · rw [if_pos hh, if_pos (home_iff.2 hh)]
  · rw [if_neg hh, if_neg (fun q => hh (home_iff.1 q))]
    exact h1

theorem stacked_eq (hw : withinB C.w 1 16 = true) (hk : withinB C.h 1 16 = true) (c : Cell) : (inW (wC C) (kC C) c = true ∧ fAt (f3C C) c = 0) ↔ stackedB C c = true := by
  rw [inW_inB hw hk]
  unfold stackedB openB
  cases hc : inB C c with
  | false => simp
  | true =>
    rw [f3_at hw hk hc]
    simp only [Bool.true_and, true_and, Bool.and_eq_true, decide_eq_true_eq, beq_iff_eq, Bool.not_eq_true', port_iff, List.count_eq_zero]
    by_cases hh : homeB C c = true
    · simp [hh]
    · have hh' : homeB C c = false := by simpa using hh
      by_cases hb : c ∈ C.bl
      · simp [hh', hb]
      · by_cases hs : besideB C c = true
        · by_cases hp : c ∈ C.po
          · simp [hh', hb, hs, hp]; omega
          · simp [hh', hb, hs, hp]
        · have hs' : besideB C c = false := by simpa using hs
          simp [hh', hb, hs']

theorem six_iff : (∀ n ∈ [C.un, C.ac, C.sp, C.tu, C.ho, C.re], withinB n 1 1000 = true) ↔ withinB C.un 1 1000 = true ∧ withinB C.ac 1 1000 = true ∧ withinB C.sp 1 1000 = true ∧ withinB C.tu 1 1000 = true ∧ withinB C.ho 1 1000 = true ∧ withinB C.re 1 1000 = true := by
  simp only [List.mem_cons, List.not_mem_nil, or_false, forall_eq_or_imp, forall_eq]

theorem made_may : MadeOk C ↔ MayOk C := by
  constructor
  · intro M
    have hw := M.laid.w
    have hk := M.laid.h
    obtain ⟨e1, e2, w1, w2, k1, k2⟩ := within_wk hw hk
    have hm : wC C * kC C ≤ 16 * 16 := Nat.mul_le_mul w2 k2
    obtain ⟨s1, s2, s3, s4, s5, s6⟩ := six_iff.1 M.six
    have hnd := List.nodup_append.1 M.laid.once
    have hall := M.laid.all
    have hin : ∀ c ∈ C.bl ++ C.po, inB C c = true := fun c hc => by rw [← inW_inB hw hk]; exact hall c hc
    have hpb : ∀ c ∈ C.po, besideB C c = true := fun c hc => by
      have hcin := hin c (List.mem_append_right _ hc)
      have hcw := hall c (List.mem_append_right _ hc)
      obtain ⟨a1, a2, a3, a4⟩ := inW_iff.1 hcw
      have hnb : c ∉ C.bl := fun hb => hnd.2.2 c hb c hc rfl
      have hkeep := keep_eq hw hk hcin
      cases hs : besideB C c with
      | true => rfl
      | false =>
        exfalso
        have := M.rob.plain c.1.toNat c.2.toNat (by omega) (by omega) (by rw [hkeep, hs]; simp [hnb])
        rw [show f0C C c.1.toNat c.2.toNat = fAt (f0C C) c from rfl, f0_at a1 a3, if_neg hnb, if_pos hc] at this
        omega
    refine ⟨?_, M.laid.po8, M.rob.r8, ?_, fun c hc => ⟨hin c (List.mem_append_left _ hc), List.nodup_iff_count.1 hnd.1 c, List.count_eq_zero.2 fun hp => hnd.2.2 c hc c hp rfl⟩,
      fun c hc => ⟨hin c (List.mem_append_right _ hc), List.nodup_iff_count.1 hnd.2.1 c, ?_, hpb c hc⟩, fun p hp => by rw [← fits_eq hw hk]; exact M.rob.fit p hp, fun c _ => List.nodup_iff_count.1 M.rob.once c, ?_⟩
    · unfold numbersB
      simp [hw, hk, M.ht, M.qu, M.bu, s1, s2, s3, s4, s5, s6]
    · have := few_cells (w := wC C) (k := kC C) hnd.1 (fun c hc => hall c (List.mem_append_left _ hc))
      omega
    · cases hh : homeB C c with
      | false => rfl
      | true =>
        exfalso
        have := M.rob.low c (home_iff.1 hh)
        rw [f1_at hw hk (hin c (List.mem_append_right _ hc)), if_neg (fun hb => hnd.2.2 c hb c hc rfl), if_pos (hpb c hc), if_pos hc] at this
        omega
    · refine ⟨?_, fun s hs => ?_, M.sta.apart, M.sta.most, M.sta.nums, M.sta.once⟩
      · have := few_cells (w := wC C) (k := kC C) M.sta.apart (fun c hc => by
          obtain ⟨s, hs, rfl⟩ := List.mem_map.1 hc
          exact (M.sta.each s hs).1)
        rw [List.length_map] at this
        omega
      · obtain ⟨q1, q2, q3⟩ := M.sta.each s hs
        exact ⟨(stacked_eq hw hk s.1).1 ⟨q1, q2⟩, q3⟩
  · intro M
    have hn := M.nums
    unfold numbersB at hn
    simp only [Bool.and_eq_true] at hn
    obtain ⟨hw, hk, hht, s1, s2, s3, s4, s5, s6, hqu, hbu⟩ := hn
    obtain ⟨e1, e2, w1, w2, k1, k2⟩ := within_wk hw hk
    have hin : ∀ c ∈ C.bl ++ C.po, inW (wC C) (kC C) c = true := fun c hc => by
      rw [inW_inB hw hk]
      rcases List.mem_append.1 hc with h | h
      · exact (M.blk c h).1
      · exact (M.prt c h).1
    have hnb : C.bl.Nodup := List.nodup_iff_count.2 fun c => by
      by_cases hc : c ∈ C.bl
      · exact (M.blk c hc).2.1
      · rw [List.count_eq_zero.2 hc]; omega
    have hnp : C.po.Nodup := List.nodup_iff_count.2 fun c => by
      by_cases hc : c ∈ C.po
      · exact (M.prt c hc).2.1
      · rw [List.count_eq_zero.2 hc]; omega
    have hdis : ∀ a ∈ C.bl, ∀ b ∈ C.po, a ≠ b := fun a ha b hb e => by
      have := (M.blk a ha).2.2
      rw [List.count_eq_zero] at this
      exact this (e ▸ hb)
    have hnd : (C.bl ++ C.po).Nodup := List.nodup_append.2 ⟨hnb, hnp, hdis⟩
    have hlaid : LaidOk C := ⟨hw, hk, M.po8, by
      have := few_cells (w := wC C) (k := kC C) hnb (fun c hc => hin c (List.mem_append_left _ hc))
      rw [e1, e2, ← Int.natCast_mul]; omega, hin, hnd⟩
    have hro : ∀ c ∈ C.ro.flatMap cellsP, inB C c = true ∧ c ∉ C.bl := fun c hc => by
      obtain ⟨p, hp, hcp⟩ := List.mem_flatMap.1 hc
      have hf := M.fit p hp
      rw [← fits_eq hw hk] at hf
      obtain ⟨q1, q2⟩ := fits_cells hf c hcp
      obtain ⟨a1, a2, a3, a4⟩ := inW_iff.1 q1
      refine ⟨by rw [← inW_inB hw hk]; exact q1, fun hb => q2 ?_⟩
      rw [f0_at a1 a3, if_pos hb]
    refine ⟨six_iff.2 ⟨s1, s2, s3, s4, s5, s6⟩, hht, hqu, hbu, hlaid, ⟨M.ro8, fun x y hx hy hkp => ?_, fun p hp => by rw [fits_eq hw hk]; exact M.fit p hp, fun c hc => ?_, ?_⟩, ⟨fun s hs => ?_, M.bins.apart, M.bins.nums, M.bins.once, M.bins.most⟩⟩
    · have hcw : inW (wC C) (kC C) ((x : Int), (y : Int)) = true := inW_iff.2 ⟨by simp, by simpa using hx, by simp, by simpa using hy⟩
      have hcb := hcw
      rw [inW_inB hw hk] at hcb
      have hkeep := keep_eq hw hk hcb
      simp only [Int.toNat_natCast] at hkeep
      rw [hkp] at hkeep
      have h0 := f0_at (C := C) (c := ((x : Int), (y : Int))) (by simp) (by simp)
      unfold fAt at h0
      simp only [Int.toNat_natCast] at h0
      rw [h0]
      by_cases hp : ((x : Int), (y : Int)) ∈ C.po
      · have := (M.prt _ hp).2.2.2
        rw [this] at hkeep
        simp at hkeep
      · rw [if_neg hp]
        split <;> omega
    · obtain ⟨q1, q2⟩ := hro c hc
      rw [f1_at hw hk q1, if_neg q2]
      split
      · have hnp' : c ∉ C.po := fun hp => by
          have := (M.prt c hp).2.2.1
          rw [home_iff.2 hc] at this
          cases this
        rw [if_neg hnp']
        exact Int.le_refl _
      · omega
    · exact List.nodup_iff_count.2 fun c => by
        by_cases hc : c ∈ C.ro.flatMap cellsP
        · exact M.once c hc
        · rw [List.count_eq_zero.2 hc]; omega
    · obtain ⟨q1, q2⟩ := M.bins.each s hs
      obtain ⟨q3, q4⟩ := (stacked_eq hw hk s.1).2 q1
      exact ⟨q3, q4, q2⟩
end
end Go.Proofs.YtnpdploihlgcgaaDoor
end

section
/- The program's grid answers as the reference's. -/
set_option linter.unusedSimpArgs false
set_option linter.unusedVariables false
namespace Go.Proofs.YtnpdploihlgcgaaDoor
open Go Go.HL

variable {C : Conf}

theorem f3_open (m : MadeOk C) (x y : Nat) : f3C C x y = -1 ↔ f0C C x y = -1 := by
  unfold f3C
  refine f2_open (fun c hc => ?_) x y
  obtain ⟨p, hp, hcp⟩ := List.mem_flatMap.1 hc
  exact (fits_cells (m.rob.fit p hp) c hcp).2

theorem open3_eq (m : MadeOk C) (c : Cell) : openW (wC C) (kC C) (f3C C) c = openB C c := by
  rw [← open_eq m.laid.w m.laid.h]
  exact openW_congr (fun x y _ _ => f3_open m x y) c
theorem fits3_eq (m : MadeOk C) (p : Pose) : fitsW (wC C) (kC C) (f3C C) p = fitsB C p := by
  rw [← fits_eq m.laid.w m.laid.h]
  exact fitsW_congr (fun x y _ _ => f3_open m x y) p
end Go.Proofs.YtnpdploihlgcgaaDoor
end

section
/- The reference: which moves are legal. -/
set_option linter.unusedSimpArgs false
set_option linter.unusedVariables false
set_option maxRecDepth 100000
namespace Go.Proofs.YtnpdploihlgcgaaDoor
open Go Go.HL

def rstepB (C : Conf) (m : Move) (i : Nat) : Bool := fitsB C (shiftR m.f m.d ((i : Int) + 1))
def legalR (C : Conf) (m : Move) : Bool := fitsB C m.f &&
  (if m.k = 1 then withinB m.n 1 16 && (withinB m.d 0 3 && (decide (m.t = shiftR m.f m.d m.n) && (List.range m.n.toNat).all (rstepB C m)))
   else if m.k = 2 then (squareL (m.f.x, m.f.y)).all (openB C) && (decide (m.n = 0) && (decide (m.d = 0) && decide (m.t = turnP m.f)))
   else decide (m.k = 3 ∨ m.k = 4) && (decide (m.n = 0) && (decide (m.d = 0) && decide (m.t = m.f))))

end Go.Proofs.YtnpdploihlgcgaaDoor
end

section
/- The program's moves, stack cells as the reference's. -/
set_option linter.unusedSimpArgs false
set_option linter.unusedVariables false
namespace Go.Proofs.YtnpdploihlgcgaaDoor
open Go Go.HL

variable {C : Conf}

theorem shiftP_zero {p : Pose} (hp : PB p) {d : Int} : shiftP p d 0 = p := by
  obtain ⟨h1, h2⟩ := hp
  unfold shiftP
  rw [Int.zero_mul, Int.zero_mul, Int.add_zero, Int.add_zero, wr_in h1, wr_in h2]

theorem all_range_succ {s : Nat → Bool} {n : Nat} : (List.range (n + 1)).all s = (s 0 && (List.range n).all fun i => s (i + 1)) := by
  rw [List.range_succ_eq_map, List.all_cons, List.all_map]
  rfl

theorem legal_eq (m : MadeOk C) {v : Move} (hp : PB v.f) : wayB (wC C) (kC C) (f3C C) v = legalR C v := by
  have ho := open3_eq m
  have hf := fits3_eq m
  unfold wayB legalR
  rw [hf]
  cases hfp : fitsB C v.f with
  | false => rfl
  | true =>
  rw [Bool.true_and, Bool.true_and]
  by_cases hk1 : v.k = 1
  · rw [if_pos hk1, if_pos hk1, all_range_succ]
    have e0 : stepB (wC C) (kC C) (f3C C) v 0 = withinB v.d 0 3 := by
      unfold stepB okS
      rw [hf, show ((0 : Nat) : Int) = 0 from rfl, shiftP_zero hp, hfp, show withinB 0 0 16 = true from rfl]
      simp
    rw [e0]
    cases hd : withinB v.d 0 3 with
    | false => simp
    | true =>
    have hd2 := withinB_iff.1 hd
    by_cases hn : 1 ≤ v.n
    · by_cases hn2 : v.n ≤ 16
      · rw [decide_eq_true hn, show withinB v.n 1 16 = true from withinB_iff.2 ⟨hn, hn2⟩, shiftR_eq hp hd2]
        have : ((List.range v.n.toNat).all fun i => stepB (wC C) (kC C) (f3C C) v (i + 1)) = (List.range v.n.toNat).all (rstepB C v) := by
          rw [Bool.eq_iff_iff, List.all_eq_true, List.all_eq_true]
          have e : ∀ i ∈ List.range v.n.toNat, stepB (wC C) (kC C) (f3C C) v (i + 1) = rstepB C v i := by
            intro i hi
            have hi := List.mem_range.1 hi
            unfold stepB rstepB okS
            rw [hd, show withinB ((i + 1 : Nat) : Int) 0 16 = true from withinB_iff.2 (by omega), hf, shiftR_eq hp hd2]
            rfl
          exact ⟨fun h i hi => by rw [← e i hi]; exact h i hi, fun h i hi => by rw [e i hi]; exact h i hi⟩
        rw [this]
        simp only [Bool.true_and]
        rw [Bool.and_comm]
      · have h1 : ((List.range v.n.toNat).all fun i => stepB (wC C) (kC C) (f3C C) v (i + 1)) = false := by
          rw [List.all_eq_false]
          refine ⟨16, List.mem_range.2 (by omega), ?_⟩
          unfold stepB okS
          rw [show withinB ((16 + 1 : Nat) : Int) 0 16 = false from rfl]
          simp
        have h2 : withinB v.n 1 16 = false := by
          cases h : withinB v.n 1 16 with
          | false => rfl
          | true => exact absurd (withinB_iff.1 h).2 hn2
        rw [h1, h2]
        simp
    · have h2 : withinB v.n 1 16 = false := by
        cases h : withinB v.n 1 16 with
        | false => rfl
        | true => exact absurd (withinB_iff.1 h).1 hn
      rw [decide_eq_false hn, h2]
      simp
  · rw [if_neg hk1, if_neg hk1]
    have e1 : decide (v.d = 0 ∧ v.n = 0) = (decide (v.n = 0) && decide (v.d = 0)) := by
      rw [Bool.eq_iff_iff]; simp [and_comm]
    rw [e1]
    by_cases hk2 : v.k = 2
    · rw [if_pos hk2, if_pos hk2]
      have e2 : (squareL (v.f.x, v.f.y)).all (openW (wC C) (kC C) (f3C C)) = (squareL (v.f.x, v.f.y)).all (openB C) := by
        congr 1
        funext c
        exact ho c
      rw [e2]
      cases decide (v.n = 0) <;> cases decide (v.d = 0) <;> simp
    · rw [if_neg hk2, if_neg hk2]
      cases decide (v.n = 0) <;> cases decide (v.d = 0) <;> simp

def mkR (p : Pose) (d n : Nat) : Move := ⟨1, d, n, p, shiftR p d n, 0, 0⟩
def rrunD (C : Conf) (p : Pose) (d : Nat) : List Move := runFrom (fun n => legalR C (mkR p d n)) (mkR p d) 1 16
def rmovesL (C : Conf) (p : Pose) : List Move := if fitsB C p = true then dirsL (rrunD C p) 0 4 ++ (if legalR C (turnM p) = true then [turnM p] else []) else []

theorem dirsL_congr {α : Type} {D E : Nat → List α} : ∀ {k i : Nat}, (∀ j, i ≤ j → j < i + k → D j = E j) → dirsL D i k = dirsL E i k
  | 0, i, _ => rfl
  | k + 1, i, h => by
    unfold dirsL
    rw [h i (Nat.le_refl _) (by omega), dirsL_congr fun j h1 h2 => h j (by omega) (by omega)]

theorem run_eq (m : MadeOk C) {p : Pose} (hp : PB p) (hf : fitsB C p = true) {d : Nat} (hd : d < 4) : ∀ (k n : Nat), 1 ≤ n → n + k ≤ 17 → (∀ j, 1 ≤ j → j < n → fitsB C (shiftR p d j) = true) →
    runFrom (okRun (wC C) (kC C) (f3C C) p d) (mkRun p d) n k = runFrom (fun n => legalR C (mkR p d n)) (mkR p d) n k
  | 0, n, _, _, _ => rfl
  | k + 1, n, h1, h2, h3 => by
    have hd2 : (0 : Int) ≤ (d : Int) ∧ (d : Int) ≤ 3 := by omega
    have e1 : okRun (wC C) (kC C) (f3C C) p d n = fitsB C (shiftR p d n) := by
      unfold okRun
      rw [fits3_eq m, shiftR_eq hp hd2]
    have e2 : mkRun p d n = mkR p d n := by
      unfold mkRun mkR
      rw [shiftR_eq hp hd2]
    have e3 : legalR C (mkR p d n) = fitsB C (shiftR p d n) := by
      unfold legalR
      rw [show (mkR p d n).f = p from rfl, hf, Bool.true_and, if_pos (show (mkR p d n).k = 1 from rfl), show withinB (mkR p d n).n 1 16 = true from withinB_iff.2 (show (1 : Int) ≤ (n : Int) ∧ (n : Int) ≤ 16 by omega), show withinB (mkR p d n).d 0 3 = true from withinB_iff.2 hd2, show decide ((mkR p d n).t = shiftR p (mkR p d n).d (mkR p d n).n) = true from decide_eq_true rfl, show (mkR p d n).n.toNat = (n - 1) + 1 from (by show (n : Int).toNat = _; omega), List.range_succ, List.all_append]
      have e4 : (List.range (n - 1)).all (rstepB C (mkR p d n)) = true := by
        rw [List.all_eq_true]
        intro i hi
        have hi := List.mem_range.1 hi
        exact h3 (i + 1) (by omega) (by omega)
      rw [e4]
      show (true && (true && (true && (true && (fitsB C (shiftR p d (((n - 1 : Nat) : Int) + 1)) && true))))) = _
      rw [show ((n - 1 : Nat) : Int) + 1 = (n : Int) by omega]
      simp
    unfold runFrom
    rw [e1, e2, e3]
    cases hb : fitsB C (shiftR p d n) with
    | false => rfl
    | true =>
      rw [if_pos rfl, if_pos rfl, run_eq m hp hf hd k (n + 1) (by omega) (by omega) fun j a b => by
        by_cases hj : j < n
        · exact h3 j a hj
        · obtain rfl : j = n := by omega
          exact hb]

theorem moves_eq (m : MadeOk C) {p : Pose} (hp : PB p) : movesW (wC C) (kC C) (f3C C) p = rmovesL C p := by
  unfold movesW rmovesL
  rw [fits3_eq m, legal_eq m (v := turnM p) hp]
  cases hf : fitsB C p with
  | false => rfl
  | true =>
    rw [if_pos rfl, if_pos rfl]
    congr 1
    unfold runsL
    exact dirsL_congr fun j _ hj => run_eq m hp hf (by omega) 16 1 (Nat.le_refl _) (by decide) fun j a b => absurd b (by omega)

theorem pick_succ {α : Type} {p : Nat → Bool} {mk : Nat → α} {n k : Nat} : pickFrom p mk n (k + 1) = if p n = true then mk n :: pickFrom p mk (n + 1) k else pickFrom p mk (n + 1) k := rfl
end Go.Proofs.YtnpdploihlgcgaaDoor
end

section
/- The cells of a way in the grid's order, each once: the plain law. -/
set_option linter.unusedVariables false
namespace Go.Proofs.YtnpdploihlgcgaaDoor
open Go Go.HL

/-- Each run of equal ones once. -/
def compactL : List Cell → List Cell
  | [] => []
  | a :: L => match L with
    | [] => [a]
    | b :: _ => if a = b then compactL L else a :: compactL L

theorem compact_cons {a b : Cell} {L : List Cell} : compactL (a :: b :: L) = if a = b then compactL (b :: L) else a :: compactL (b :: L) := rfl

theorem compact_mem {x : Cell} : ∀ {L : List Cell}, x ∈ compactL L ↔ x ∈ L := by
  intro L
  induction L with
  | nil => exact Iff.rfl
  | cons a L ih =>
    cases L with
    | nil => exact Iff.rfl
    | cons b L =>
      rw [compact_cons]
      by_cases h : a = b
      · rw [if_pos h, ih]
        subst h
        simp
      · rw [if_neg h, List.mem_cons, ih, List.mem_cons (a := x) (b := a)]

theorem compact_sorted {n : Cell → Int} (inj : ∀ {L : List Cell}, True) : ∀ {L : List Cell}, (∀ a ∈ L, ∀ b ∈ L, n a = n b → a = b) → L.Pairwise (fun a b => n a ≤ n b) → (compactL L).Pairwise (fun a b => n a < n b) := by
  intro L
  induction L with
  | nil => intro _ _; exact .nil
  | cons a L ih =>
    intro hi hp
    obtain ⟨h1, h2⟩ := List.pairwise_cons.1 hp
    cases L with
    | nil => exact List.pairwise_singleton _ _
    | cons b L =>
      have rest := ih (fun x hx y hy => hi x (.tail _ hx) y (.tail _ hy)) h2
      rw [compact_cons]
      by_cases h : a = b
      · rw [if_pos h]; exact rest
      · rw [if_neg h]
        refine List.pairwise_cons.2 ⟨fun x hx => ?_, rest⟩
        rw [compact_mem] at hx
        have hab : n a < n b := by
          have := h1 b (.head _)
          have : n a ≠ n b := fun e => h (hi a (.head _) b (.tail _ (.head _)) e)
          omega
        rcases List.mem_cons.1 hx with rfl | hx'
        · exact hab
        · have := (List.pairwise_cons.1 h2).1 x hx'; omega

/-- Rising lists with the same members are one. -/
theorem rising_ext {n : Cell → Int} : ∀ {L M : List Cell}, L.Pairwise (fun a b => n a < n b) → M.Pairwise (fun a b => n a < n b) → (∀ x, x ∈ L ↔ x ∈ M) → L = M := by
  intro L
  induction L with
  | nil =>
    intro M _ _ h
    cases M with
    | nil => rfl
    | cons a M => exact absurd ((h a).2 (.head _)) (by simp)
  | cons a L ih =>
    intro M hL hM h
    cases M with
    | nil => exact absurd ((h a).1 (.head _)) (by simp)
    | cons b M =>
      obtain ⟨l1, l2⟩ := List.pairwise_cons.1 hL
      obtain ⟨m1, m2⟩ := List.pairwise_cons.1 hM
      have e : a = b := by
        rcases List.mem_cons.1 ((h a).1 (.head _)) with e | e
        · exact e
        · rcases List.mem_cons.1 ((h b).2 (.head _)) with e' | e'
          · exact e'.symm
          · have := m1 a e; have := l1 b e'; omega
      subst e
      rw [ih l2 m2 fun x => ?_]
      constructor
      · intro hx
        rcases List.mem_cons.1 ((h x).1 (.tail _ hx)) with rfl | h2
        · have := l1 _ hx; omega
        · exact h2
      · intro hx
        rcases List.mem_cons.1 ((h x).2 (.tail _ hx)) with rfl | h2
        · have := m1 _ hx; omega
        · exact h2

/-- The reference's way to tell them: through all cells. -/
def sweptL (w k : Nat) (W : List Cell) : List Cell := dirsL (fun y => pickFrom (fun x => decide ((((x : Nat) : Int), ((y : Nat) : Int)) ∈ W)) (fun x => (((x : Nat) : Int), ((y : Nat) : Int))) 0 w) 0 k
def numW (w : Nat) (c : Cell) : Int := c.2 * w + c.1

theorem pick_mem {α : Type} {p : Nat → Bool} {mk : Nat → α} {x : α} : ∀ {k n : Nat}, x ∈ pickFrom p mk n k ↔ ∃ j, n ≤ j ∧ j < n + k ∧ p j = true ∧ x = mk j := by
  intro k
  induction k with
  | zero => intro n; simp [pickFrom]; intro j h1 h2; omega
  | succ k ih =>
    intro n
    rw [pick_succ]
    constructor
    · intro h
      split at h
      · rename_i hp
        rcases List.mem_cons.1 h with rfl | h'
        · exact ⟨n, Nat.le_refl _, by omega, hp, rfl⟩
        · obtain ⟨j, a, b, c, e⟩ := ih.1 h'
          exact ⟨j, by omega, by omega, c, e⟩
      · obtain ⟨j, a, b, c, e⟩ := ih.1 h
        exact ⟨j, by omega, by omega, c, e⟩
    · rintro ⟨j, a, b, c, rfl⟩
      by_cases hj : j = n
      · subst hj
        rw [if_pos c]
        exact .head _
      · have := (ih (n := n + 1)).2 ⟨j, by omega, by omega, c, rfl⟩
        split
        · exact .tail _ this
        · exact this

theorem pick_pw {α : Type} {p : Nat → Bool} {mk : Nat → α} {R : α → α → Prop} (h : ∀ i j, i < j → R (mk i) (mk j)) : ∀ {k n : Nat}, (pickFrom p mk n k).Pairwise R := by
  intro k
  induction k with
  | zero => intro n; exact .nil
  | succ k ih =>
    intro n
    rw [pick_succ]
    split
    · refine List.pairwise_cons.2 ⟨fun x hx => ?_, ih⟩
      obtain ⟨j, a, _, _, rfl⟩ := pick_mem.1 hx
      exact h n j (by omega)
    · exact ih

theorem swept_mem {w k : Nat} {W : List Cell} {x : Cell} : x ∈ sweptL w k W ↔ (0 ≤ x.1 ∧ x.1 < w ∧ 0 ≤ x.2 ∧ x.2 < k) ∧ x ∈ W := by
  unfold sweptL
  suffices H : ∀ (n i : Nat), x ∈ dirsL (fun y => pickFrom (fun x => decide ((((x : Nat) : Int), ((y : Nat) : Int)) ∈ W)) (fun x => (((x : Nat) : Int), ((y : Nat) : Int))) 0 w) i n ↔ ∃ y, i ≤ y ∧ y < i + n ∧ x ∈ pickFrom (fun x => decide ((((x : Nat) : Int), ((y : Nat) : Int)) ∈ W)) (fun x => (((x : Nat) : Int), ((y : Nat) : Int))) 0 w by
    rw [H]
    constructor
    · rintro ⟨y, _, h2, h3⟩
      obtain ⟨j, _, j2, j3, rfl⟩ := pick_mem.1 h3
      exact ⟨⟨by simp, by simp; omega, by simp, by simp; omega⟩, by simpa using j3⟩
    · rintro ⟨⟨a, b, c, d⟩, h⟩
      obtain ⟨x1, x2⟩ := x
      refine ⟨x2.toNat, by omega, by simp at d c; omega, pick_mem.2 ⟨x1.toNat, by omega, by simp at a b; omega, ?_, ?_⟩⟩
      · simp only at a c
        rw [show ((x1.toNat : Nat) : Int) = x1 by omega, show ((x2.toNat : Nat) : Int) = x2 by omega]
        simpa using h
      · simp only at a c
        rw [show ((x1.toNat : Nat) : Int) = x1 by omega, show ((x2.toNat : Nat) : Int) = x2 by omega]
  intro n
  induction n with
  | zero => intro i; simp [dirsL]; intro y h1 h2; omega
  | succ n ih =>
    intro i
    rw [dirsL, List.mem_append, ih]
    constructor
    · rintro (h | ⟨y, a, b, c⟩)
      · exact ⟨i, Nat.le_refl _, by omega, h⟩
      · exact ⟨y, by omega, by omega, c⟩
    · rintro ⟨y, a, b, c⟩
      by_cases e : y = i
      · subst e; exact .inl c
      · exact .inr ⟨y, by omega, by omega, c⟩

theorem swept_rising {w k : Nat} {W : List Cell} : (sweptL w k W).Pairwise (fun a b => numW w a < numW w b) := by
  unfold sweptL
  suffices H : ∀ (n i : Nat), (dirsL (fun y => pickFrom (fun x => decide ((((x : Nat) : Int), ((y : Nat) : Int)) ∈ W)) (fun x => (((x : Nat) : Int), ((y : Nat) : Int))) 0 w) i n).Pairwise (fun a b => numW w a < numW w b) ∧
      ∀ x ∈ dirsL (fun y => pickFrom (fun x => decide ((((x : Nat) : Int), ((y : Nat) : Int)) ∈ W)) (fun x => (((x : Nat) : Int), ((y : Nat) : Int))) 0 w) i n, ((i * w : Nat) : Int) ≤ numW w x from (H k 0).1
  intro n
  induction n with
  | zero => intro i; exact ⟨.nil, fun _ h => by cases h⟩
  | succ n ih =>
    intro i
    rw [dirsL]
    obtain ⟨h1, h2⟩ := ih (i + 1)
    have hrow : ∀ x ∈ pickFrom (fun x => decide ((((x : Nat) : Int), ((i : Nat) : Int)) ∈ W)) (fun x => (((x : Nat) : Int), ((i : Nat) : Int))) 0 w, ((i * w : Nat) : Int) ≤ numW w x ∧ numW w x < (((i + 1) * w : Nat) : Int) := by
      intro x hx
      obtain ⟨j, _, j2, _, rfl⟩ := pick_mem.1 hx
      unfold numW
      simp only
      have e1 : (((i + 1) * w : Nat) : Int) = ((i * w : Nat) : Int) + (w : Int) := by rw [Nat.succ_mul]; push_cast; rfl
      have e2 : ((i : Nat) : Int) * (w : Int) = ((i * w : Nat) : Int) := by push_cast; rfl
      rw [e1, e2]
      omega
    refine ⟨List.pairwise_append.2 ⟨pick_pw fun a b hab => ?_, h1, fun a ha b hb => ?_⟩, fun x hx => ?_⟩
    · unfold numW
      simp only
      omega
    · have := (hrow a ha).2
      have := h2 b hb
      omega
    · rcases List.mem_append.1 hx with h | h
      · exact (hrow x h).1
      · have := h2 x h
        have e1 : (((i + 1) * w : Nat) : Int) = ((i * w : Nat) : Int) + (w : Int) := by rw [Nat.succ_mul]; push_cast; rfl
        omega

/-- **Sorted, each once: what the reference tells.** -/
theorem compact_swept {w k : Nat} {W S : List Cell} (hw : 0 < w) (hin : ∀ c ∈ W, 0 ≤ c.1 ∧ c.1 < w ∧ 0 ≤ c.2 ∧ c.2 < k) (hp : S.Perm W) (hs : S.Pairwise fun a b => numW w a ≤ numW w b) : compactL S = sweptL w k W := by
  refine rising_ext (n := numW w) (compact_sorted (fun {_} => trivial) (fun a ha b hb e => ?_) hs) swept_rising fun x => ?_
  · obtain ⟨a1, a2, a3, a4⟩ := hin a (hp.mem_iff.1 ha)
    obtain ⟨b1, b2, b3, b4⟩ := hin b (hp.mem_iff.1 hb)
    obtain ⟨x, y⟩ := a
    obtain ⟨x', y'⟩ := b
    unfold numW at e
    simp only at *
    have ey : y = y' := by
      rcases Int.lt_trichotomy y y' with h | h | h
      · have : (y + 1) * (w : Int) ≤ y' * w := Int.mul_le_mul_of_nonneg_right (by omega) (by omega)
        rw [Int.add_mul, Int.one_mul] at this
        omega
      · exact h
      · have : (y' + 1) * (w : Int) ≤ y * w := Int.mul_le_mul_of_nonneg_right (by omega) (by omega)
        rw [Int.add_mul, Int.one_mul] at this
        omega
    subst ey
    rw [show x = x' by omega]
  · rw [compact_mem, swept_mem, hp.mem_iff]
    exact ⟨fun h => ⟨hin x h, h⟩, fun h => h.2⟩

end Go.Proofs.YtnpdploihlgcgaaDoor
end

section
/- slices.Compact of cells; the cells that a move sweeps. -/
set_option linter.unusedSimpArgs false
set_option linter.unusedVariables false
set_option maxRecDepth 100000
namespace Go.Proofs.YtnpdploihlgcgaaDoor
open Go Go.HL

/-- clear of a part of a row of one's own: what lies ahead stays. -/
theorem clear_own {P : Program} {G h : Hp} {α : Type} (c : Cod α) (d0 : α) {T e : TypeId} (hu : P.underlying T = some (.slice e)) (hn : 0 < c.n) (hz : ((P.info? e).bind (·.zero)).map (·.cells.toList) = some (c.enc d0)) {ty : TypeId} {b off n cap : Nat} {l : List Value} {e' : TypeId}
    (hb : h b = some (.cells l.toArray e' (0, 0))) (h0 : 0 < n) (hfit : off + n * c.n ≤ l.length) {K : Value → Hp → Prop}
    (H : ∀ l' : List Value, l'.length = l.length → l'.take off = l.take off → K (.tuple #[]) (h.set b (.cells l'.toArray e' (0, 0)))) :
    wpH P G (Builtin.clear_ #[T] ty #[.slice (some ⟨b, off, none⟩) n cap]) h K := by
  cases hi : P.info? e with
  | none => rw [hi] at hz; cases hz
  | some inf =>
  rw [hi] at hz
  simp only [Option.bind_some] at hz
  cases hzz : inf.zero with
  | none => rw [hzz] at hz; cases hz
  | some z =>
  rw [hzz] at hz
  simp only [Option.map_some, Option.some.injEq] at hz
  obtain ⟨n', rfl⟩ : ∃ n', n = n' + 1 := ⟨n - 1, by omega⟩
  have hrow := rows_replicate c d0 (n' + 1) z.cells hz.symm hn
  have hsz : z.cells.size = c.n := by rw [← Array.length_toList, hz, c.len]
  have hcells : (Builtin.zeroCells z.cells (n' + 1)).toList = c.rows (List.replicate (n' + 1) d0) := by
    refine Eq.trans ?_ ((congrArg Array.toList hrow).trans (by simp))
    rw [← hsz]
    rfl
  have key : wpH P G (storeCells ⟨b, off, none⟩ (c.rows (List.replicate (n' + 1) d0))) h (fun _ h' => K (.tuple #[]) h') := by
    rw [storeCells_eq _ (k := 0) hb (by rw [c.rows_length, List.length_replicate]; omega) (c.rows_one _)]
    exact H _ (putL_length _ _ _) (by
      rw [putL_eq _ _ _ (by rw [c.rows_length, List.length_replicate]; omega), List.append_assoc, List.take_append_of_le_length (by rw [List.length_take]; omega), Nat.add_zero, List.take_take, Nat.min_self])
  unfold Builtin.clear_ underlying
  simp only [List.getElem?_toArray, List.getElem?_cons_zero, bind, wpH_bind, program, wpH, hu, pure]
  simp only [zeroValue, typeInfo, program, bind, wpH_bind, wpH, hi, hzz, pure]
  rw [hcells]
  exact key

theorem comp_snoc {y x : Cell} : ∀ {T : List Cell}, compactL (T ++ [y, x]) = if y = x then compactL (T ++ [y]) else compactL (T ++ [y]) ++ [x]
  | [] => by
    show compactL (y :: [x]) = if y = x then compactL [y] else compactL [y] ++ [x]
    rw [compact_cons]
    by_cases h : y = x <;> simp [h, compactL]
  | [a] => by
    show compactL (a :: y :: [x]) = if y = x then compactL (a :: y :: []) else compactL (a :: y :: []) ++ [x]
    simp only [compact_cons]
    by_cases h1 : a = y <;> by_cases h2 : y = x <;> simp [h1, h2, compactL]
  | a :: b :: T => by
    show compactL (a :: b :: (T ++ [y, x])) = if y = x then compactL (a :: b :: (T ++ [y])) else compactL (a :: b :: (T ++ [y])) ++ [x]
    rw [compact_cons, compact_cons]
    have ih := comp_snoc (y := y) (x := x) (T := b :: T)
    simp only [List.cons_append] at ih
    rw [ih]
    by_cases h1 : a = b <;> by_cases h2 : y = x <;> simp [h1, h2]
theorem comp_step {L : List Cell} {k : Nat} {y x : Cell} (hk : 1 ≤ k) (hy : L[k - 1]? = some y) (hx : L[k]? = some x) : compactL (L.take (k + 1)) = if y = x then compactL (L.take k) else compactL (L.take k) ++ [x] := by
  obtain ⟨j, rfl⟩ : ∃ j, k = j + 1 := ⟨k - 1, by omega⟩
  rw [Nat.add_sub_cancel] at hy
  rw [List.take_add_one, List.take_add_one, hx, hy]
  simp only [Option.toList, List.append_assoc, List.cons_append, List.nil_append]
  exact comp_snoc
theorem comp_short {L : List Cell} (h : L.length < 2) : compactL L = L := by
  match L, h with
  | [], _ => rfl
  | [a], _ => rfl

theorem st_elem {G h : Hp} {b i : Nat} {M : List Cell} {t : List Value} {x : Cell} {K : Unit → Hp → Prop} (hb : h b = some (.cells (cellC.rows M ++ t).toArray 28 (0, 0))) (hi : i < M.length) :
    wpH Tryd.prog G (Instr.storeAt 28 (.pointer (some ⟨b, i * 2, none⟩)) (.agg #[.int .i64 x.1, .int .i64 x.2])) h K = K () (h.set b (.cells (cellC.rows (M.set i x) ++ t).toArray 28 (0, 0))) := by
  rw [store_eq (n := 2) sz28 hb rfl (by rw [List.length_append, cellC.rows_length, show cellC.n = 2 from rfl]; omega) (by intro v hv; simp [Value.cells] at hv; rcases hv with rfl | rfl <;> rfl)]
  have := cellC.rows_put (t := t) (x := x) hi
  rw [← this]
  rfl
theorem row_cell {G h : Hp} {b : Nat} {M : List Cell} {t : List Value} (hb : HL.look G h b = some (.cells (cellC.rows M ++ t).toArray 28 (0, 0))) {i : Nat} {x : Cell} (hx : M[i]? = some x) : cellIn G h ⟨b, i * 2, none⟩ = some (.int .i64 x.1) ∧ cellIn G h ⟨b, i * 2 + 1, none⟩ = some (.int .i64 x.2) := by
  have g0 := cellC.rows_get (t := t) hx (j := 0) (by decide)
  have g1 := cellC.rows_get (t := t) hx (j := 1) (by decide)
  rw [show cellC.n = 2 from rfl] at g0 g1
  exact ⟨(cell_of hb).trans g0, (cell_of hb).trans g1⟩

set_option maxHeartbeats 8000000 in
theorem compact_spec {G h a : Hp} {R : List Hp} {v : Value} {L : List Cell} (s : HL.Sep (a :: R) h) (o : Slc cellC 28 a v L) (hL : L.length ≤ 100000) : HCalls Tryd.prog G 71 #[v] h (fun u h' => ∃ a', Slc cellC 28 a' u (compactL L) ∧ HL.Sep (a' :: R) h' ∧ Dis G h') := by
  refine HCalls.assume fun d => enter71 (by simp) ?_
  unfold S71
  obtain ⟨sa, cap, rfl, hcap⟩ := o.len (by decide)
  simp -implicitDefEqProofs only [regs0, retK_ret, resL_tmp, upd_eq, resL_nil1, opH_sv, ln22, bin_lss]
  refine cond_dec (fun hlt => ?_) (fun hge => ?_)
  · try simp -implicitDefEqProofs only [opH_sv, opH_su, pureW_sv, opH_nil, pureW_nil, pick_t, pick_f, pick_tp, pick_fp, gd_tt, gd_ft, gd_tf, gd_ff, box_new, regs0, regs1, regs2, regs3, regs4, regs5, regs6, cells_agg, cells_int, cells_bool, cells_ptr, cells_slice, cells_string, cells_func, cells_nilFunc, cells_map, retK_ret, retK_normal, resL_tmp, resL_cell, resL_nil0, resL_nil1, resL_nil2, resL_nil3, resC_ptr, ex0, ex1, ex2, ex0p, ex1p, ex2p, HL.cond_true, HL.cond_false, thenK_normal, thenK_ret, thenK_exit, blockK_normal, blockK_ret, blockK_exit, scopeK_normal, scopeK_ret, scopeK_exit, wpH_pure, bin_add, bin_sub, bin_mul, bin_lss, bin_leq, bin_gtr, bin_geq, bin_quo, bin_rem, bin_quop, bin_remp, wrap_in, bin_addp, bin_subp, bin_mulp, bin_lssp, bin_leqp, bin_gtrp, bin_geqp, un_not, un_notp, un_neg, eq_int, ne_int, eq_intp, ne_intp, callV_fn, add_mk, upd_eq, upd_ne, cell_set_self, Nat.zero_add, Nat.add_zero, Option.some.injEq, exists_eq_left', List.getElem?_cons_succ, List.getElem?_cons_zero, true_and, and_true, bne_self_eq_false, beq_self_eq_true, Bool.not_true, Bool.not_false, Bool.and_true, Bool.and_self, Bool.and_false, Bool.true_and, List.length_cons, List.length_nil, ne_eq, not_false_eq_true, Nat.reduceAdd, Nat.reduceMul, if_true, if_false, oneCell_int, oneCell_bool, oneCell_ptr, oneCell_slice, oneCell_string, oneCell_func, oneCell_map, Int.toNat_natCast, List.set_cons_zero, List.set_cons_succ, Nat.lt_irrefl, Nat.zero_lt_succ, Nat.succ_lt_succ_iff, fa26_0, fa26_0p, fa26_1, fa26_1p, fa26_10, fa26_10p, fa26_11, fa26_11p, fa26_12, fa26_12p, fa26_13, fa26_13p, fa26_14, fa26_14p, fa26_2, fa26_2p, fa26_3, fa26_3p, fa26_4, fa26_4p, fa26_5, fa26_5p, fa26_6, fa26_6p, fa26_7, fa26_7p, fa26_8, fa26_8p, fa26_9, fa26_9p, fa28_0, fa28_0p, fa28_1, fa28_1p, fa30_0, fa30_0p, fa30_1, fa30_1p, fa46_0, fa46_0p, fa46_1, fa46_1p, fa46_2, fa46_2p, fa46_3, fa46_3p, fa46_4, fa46_4p, fa46_5, fa46_5p, fa46_6, fa46_6p, fa86_0, fa86_0p, fa86_1, fa86_1p, fa86_2, fa86_2p, fa95_0, fa95_0p, fa95_1, fa95_1p, ld3, ld3p, ld4, ld4p, ld22, ld22p, ld23, ld23p, ld24, ld24p, ld26, ld26p, ld28, ld28p, ld30, ld30p, ld31, ld31p, ld46, ld46p, ld47, ld47p, ld52, ld52p, ld55, ld55p, ld57, ld57p, ld95, ld95p, st3s, st4s, st22s, st23s, st24s, st26w, st28w, st30w, st46w, st47s, st55s, st95w, ix22, ix22p, ix23, ix23p, ix24, ix24p, ix47, ix47p, ix56, ix56p, ix57, ix57p, ix101, ix101p, ln22, ln22p, ln23, ln23p, ln24, ln24p, ln47, ln47p, ln56, ln56p, ln57, ln57p, al22, al26, al28, al30, al46, al47, al95, cf14, cf15, cf16, cf17, cf18, cf19, cf20, cf21, cf22, cf23, cf24, cf25, cf26, cf27, cf28, cf29, cf30, cf31, cf32, cf33, cf34, cf35, cf36, cf37, cf38, cf39, cf40, cf41, cf42, cf43, cf44, cf45, cf46, cf47, cf48, cf49, cf50, cf51, cf52, cf53, cf54, cf55, cf56, cf57, cf58, cf59, cf60, cf61, cf62, cf63, cf64, cf65, cf66, cf67, cf68, cf69, cf70, cf71, cf72, cf73, cf74, cf75, cf76, cf77, cf78, cf79, cf80, bd26_0_1_2_7_8_9_10_11_12_13_14, bd26_0_1_2_7_8_9_10_11_12_13_14p, bd28_0, bd28_0p, bd28_0_1, bd28_0_1p, bd30_, bd30_p, bd30_0_1, bd30_0_1p, bd30_0, bd30_0p, bd46_0_1_2_3_4, bd46_0_1_2_3_4p, bd46_0_3_4, bd46_0_3_4p, bd86_0_1_2, bd86_0_1_2p, bd87_0_1_2_3, bd87_0_1_2_3p, bd95_0_1, bd95_0_1p, bs22_2_0_1, bs47_1_0, bs22_1_0, bs57_6_0_1_2_3_4_5, bs24_1_0, bs22_4_0_1_2_3, bs56_11_0_1_2_3_4_5_6_7_8_9_10, bs57_11_0_1_2_3_4_5_6_7_8_9_10, eq4, eq4p, eq28, eq28p, eq30, eq30p, eq31n, eq31np, eq31s, eq31sp, eq46, eq46p, eq50n, eq50np, eq50s, eq50sp, eq67n, eq67np, eq67s, eq67sp, ne4, ne4p, ne28, ne28p, ne30, ne30p, ne31n, ne31np, ne31s, ne31sp, ne46, ne46p, al76]
    exact ⟨a, by rw [comp_short (by omega)]; exact o, s, d⟩
  unfold S71_k1
  obtain ⟨ob, o'⟩ := id o
  cases ob with
  | none => exact absurd o'.2 (fun e => by rw [e] at hge; simp at hge)
  | some b =>
  obtain ⟨cap', t, e9, hb, hbl⟩ := o'
  simp only [Value.slice.injEq, true_and] at e9
  obtain ⟨rfl, rfl⟩ := e9
  have hbh := s.at 0 rfl hb
  have rd := fun {i : Nat} {x : Cell} (hx : L[i]? = some x) => row_cell (G := G) (look_own hbh) hx
  try simp -implicitDefEqProofs only [opH_sv, opH_su, pureW_sv, opH_nil, pureW_nil, pick_t, pick_f, pick_tp, pick_fp, gd_tt, gd_ft, gd_tf, gd_ff, box_new, regs0, regs1, regs2, regs3, regs4, regs5, regs6, cells_agg, cells_int, cells_bool, cells_ptr, cells_slice, cells_string, cells_func, cells_nilFunc, cells_map, retK_ret, retK_normal, resL_tmp, resL_cell, resL_nil0, resL_nil1, resL_nil2, resL_nil3, resC_ptr, ex0, ex1, ex2, ex0p, ex1p, ex2p, HL.cond_true, HL.cond_false, thenK_normal, thenK_ret, thenK_exit, blockK_normal, blockK_ret, blockK_exit, scopeK_normal, scopeK_ret, scopeK_exit, wpH_pure, bin_add, bin_sub, bin_mul, bin_lss, bin_leq, bin_gtr, bin_geq, bin_quo, bin_rem, bin_quop, bin_remp, wrap_in, bin_addp, bin_subp, bin_mulp, bin_lssp, bin_leqp, bin_gtrp, bin_geqp, un_not, un_notp, un_neg, eq_int, ne_int, eq_intp, ne_intp, callV_fn, add_mk, upd_eq, upd_ne, cell_set_self, Nat.zero_add, Nat.add_zero, Option.some.injEq, exists_eq_left', List.getElem?_cons_succ, List.getElem?_cons_zero, true_and, and_true, bne_self_eq_false, beq_self_eq_true, Bool.not_true, Bool.not_false, Bool.and_true, Bool.and_self, Bool.and_false, Bool.true_and, List.length_cons, List.length_nil, ne_eq, not_false_eq_true, Nat.reduceAdd, Nat.reduceMul, if_true, if_false, oneCell_int, oneCell_bool, oneCell_ptr, oneCell_slice, oneCell_string, oneCell_func, oneCell_map, Int.toNat_natCast, List.set_cons_zero, List.set_cons_succ, Nat.lt_irrefl, Nat.zero_lt_succ, Nat.succ_lt_succ_iff, fa26_0, fa26_0p, fa26_1, fa26_1p, fa26_10, fa26_10p, fa26_11, fa26_11p, fa26_12, fa26_12p, fa26_13, fa26_13p, fa26_14, fa26_14p, fa26_2, fa26_2p, fa26_3, fa26_3p, fa26_4, fa26_4p, fa26_5, fa26_5p, fa26_6, fa26_6p, fa26_7, fa26_7p, fa26_8, fa26_8p, fa26_9, fa26_9p, fa28_0, fa28_0p, fa28_1, fa28_1p, fa30_0, fa30_0p, fa30_1, fa30_1p, fa46_0, fa46_0p, fa46_1, fa46_1p, fa46_2, fa46_2p, fa46_3, fa46_3p, fa46_4, fa46_4p, fa46_5, fa46_5p, fa46_6, fa46_6p, fa86_0, fa86_0p, fa86_1, fa86_1p, fa86_2, fa86_2p, fa95_0, fa95_0p, fa95_1, fa95_1p, ld3, ld3p, ld4, ld4p, ld22, ld22p, ld23, ld23p, ld24, ld24p, ld26, ld26p, ld28, ld28p, ld30, ld30p, ld31, ld31p, ld46, ld46p, ld47, ld47p, ld52, ld52p, ld55, ld55p, ld57, ld57p, ld95, ld95p, st3s, st4s, st22s, st23s, st24s, st26w, st28w, st30w, st46w, st47s, st55s, st95w, ix22, ix22p, ix23, ix23p, ix24, ix24p, ix47, ix47p, ix56, ix56p, ix57, ix57p, ix101, ix101p, ln22, ln22p, ln23, ln23p, ln24, ln24p, ln47, ln47p, ln56, ln56p, ln57, ln57p, al22, al26, al28, al30, al46, al47, al95, cf14, cf15, cf16, cf17, cf18, cf19, cf20, cf21, cf22, cf23, cf24, cf25, cf26, cf27, cf28, cf29, cf30, cf31, cf32, cf33, cf34, cf35, cf36, cf37, cf38, cf39, cf40, cf41, cf42, cf43, cf44, cf45, cf46, cf47, cf48, cf49, cf50, cf51, cf52, cf53, cf54, cf55, cf56, cf57, cf58, cf59, cf60, cf61, cf62, cf63, cf64, cf65, cf66, cf67, cf68, cf69, cf70, cf71, cf72, cf73, cf74, cf75, cf76, cf77, cf78, cf79, cf80, bd26_0_1_2_7_8_9_10_11_12_13_14, bd26_0_1_2_7_8_9_10_11_12_13_14p, bd28_0, bd28_0p, bd28_0_1, bd28_0_1p, bd30_, bd30_p, bd30_0_1, bd30_0_1p, bd30_0, bd30_0p, bd46_0_1_2_3_4, bd46_0_1_2_3_4p, bd46_0_3_4, bd46_0_3_4p, bd86_0_1_2, bd86_0_1_2p, bd87_0_1_2_3, bd87_0_1_2_3p, bd95_0_1, bd95_0_1p, bs22_2_0_1, bs47_1_0, bs22_1_0, bs57_6_0_1_2_3_4_5, bs24_1_0, bs22_4_0_1_2_3, bs56_11_0_1_2_3_4_5_6_7_8_9_10, bs57_11_0_1_2_3_4_5_6_7_8_9_10, eq4, eq4p, eq28, eq28p, eq30, eq30p, eq31n, eq31np, eq31s, eq31sp, eq46, eq46p, eq50n, eq50np, eq50s, eq50sp, eq67n, eq67np, eq67s, eq67sp, ne4, ne4p, ne28, ne28p, ne30, ne30p, ne31n, ne31np, ne31s, ne31sp, ne46, ne46p, al76]
  generalize hKK : retK Tryd.prog G _ _ = KK
  refine loop_I (fun m q h3 => ∃ k : Nat, m = L.length - k ∧ 1 ≤ k ∧ k ≤ L.length ∧ q 0 = .slice (some ⟨b, 0, none⟩) L.length cap ∧ q 3 = .int .i64 k ∧ h3 = h ∧ compactL (L.take k) = L.take k) ?_
    (m := L.length - 1) ⟨1, rfl, Nat.le_refl _, by omega, by simp -implicitDefEqProofs (disch := first | with_reducible exact Nat.ne_of_beq_eq_false rfl | omega) only [upd_ne, regs0], by simp -implicitDefEqProofs only [upd_eq] <;> rfl, rfl, comp_short (by rw [List.length_take]; omega)⟩
  rintro m q h3 ⟨k, rfl, h1, hk, q0, q3, rfl, hc⟩ X HX
  unfold S71_l3
  simp -implicitDefEqProofs only [q0, q3, thenK_exit, blockK_exit, thenK_normal, if_true, opH_sv, ln22, bin_lss]
  refine cond_dec (fun hlt => ?_) (fun hge2 => ?_)
  rotate_left
  · obtain rfl : k = L.length := by omega
    rw [List.take_of_length_le (Nat.le_refl _)] at hc
    try simp -implicitDefEqProofs only [opH_sv, opH_su, pureW_sv, opH_nil, pureW_nil, pick_t, pick_f, pick_tp, pick_fp, gd_tt, gd_ft, gd_tf, gd_ff, box_new, regs0, regs1, regs2, regs3, regs4, regs5, regs6, cells_agg, cells_int, cells_bool, cells_ptr, cells_slice, cells_string, cells_func, cells_nilFunc, cells_map, retK_ret, retK_normal, resL_tmp, resL_cell, resL_nil0, resL_nil1, resL_nil2, resL_nil3, resC_ptr, ex0, ex1, ex2, ex0p, ex1p, ex2p, HL.cond_true, HL.cond_false, thenK_normal, thenK_ret, thenK_exit, blockK_normal, blockK_ret, blockK_exit, scopeK_normal, scopeK_ret, scopeK_exit, wpH_pure, bin_add, bin_sub, bin_mul, bin_lss, bin_leq, bin_gtr, bin_geq, bin_quo, bin_rem, bin_quop, bin_remp, wrap_in, bin_addp, bin_subp, bin_mulp, bin_lssp, bin_leqp, bin_gtrp, bin_geqp, un_not, un_notp, un_neg, eq_int, ne_int, eq_intp, ne_intp, callV_fn, add_mk, upd_eq, upd_ne, cell_set_self, Nat.zero_add, Nat.add_zero, Option.some.injEq, exists_eq_left', List.getElem?_cons_succ, List.getElem?_cons_zero, true_and, and_true, bne_self_eq_false, beq_self_eq_true, Bool.not_true, Bool.not_false, Bool.and_true, Bool.and_self, Bool.and_false, Bool.true_and, List.length_cons, List.length_nil, ne_eq, not_false_eq_true, Nat.reduceAdd, Nat.reduceMul, if_true, if_false, oneCell_int, oneCell_bool, oneCell_ptr, oneCell_slice, oneCell_string, oneCell_func, oneCell_map, Int.toNat_natCast, List.set_cons_zero, List.set_cons_succ, Nat.lt_irrefl, Nat.zero_lt_succ, Nat.succ_lt_succ_iff, fa26_0, fa26_0p, fa26_1, fa26_1p, fa26_10, fa26_10p, fa26_11, fa26_11p, fa26_12, fa26_12p, fa26_13, fa26_13p, fa26_14, fa26_14p, fa26_2, fa26_2p, fa26_3, fa26_3p, fa26_4, fa26_4p, fa26_5, fa26_5p, fa26_6, fa26_6p, fa26_7, fa26_7p, fa26_8, fa26_8p, fa26_9, fa26_9p, fa28_0, fa28_0p, fa28_1, fa28_1p, fa30_0, fa30_0p, fa30_1, fa30_1p, fa46_0, fa46_0p, fa46_1, fa46_1p, fa46_2, fa46_2p, fa46_3, fa46_3p, fa46_4, fa46_4p, fa46_5, fa46_5p, fa46_6, fa46_6p, fa86_0, fa86_0p, fa86_1, fa86_1p, fa86_2, fa86_2p, fa95_0, fa95_0p, fa95_1, fa95_1p, ld3, ld3p, ld4, ld4p, ld22, ld22p, ld23, ld23p, ld24, ld24p, ld26, ld26p, ld28, ld28p, ld30, ld30p, ld31, ld31p, ld46, ld46p, ld47, ld47p, ld52, ld52p, ld55, ld55p, ld57, ld57p, ld95, ld95p, st3s, st4s, st22s, st23s, st24s, st26w, st28w, st30w, st46w, st47s, st55s, st95w, ix22, ix22p, ix23, ix23p, ix24, ix24p, ix47, ix47p, ix56, ix56p, ix57, ix57p, ix101, ix101p, ln22, ln22p, ln23, ln23p, ln24, ln24p, ln47, ln47p, ln56, ln56p, ln57, ln57p, al22, al26, al28, al30, al46, al47, al95, cf14, cf15, cf16, cf17, cf18, cf19, cf20, cf21, cf22, cf23, cf24, cf25, cf26, cf27, cf28, cf29, cf30, cf31, cf32, cf33, cf34, cf35, cf36, cf37, cf38, cf39, cf40, cf41, cf42, cf43, cf44, cf45, cf46, cf47, cf48, cf49, cf50, cf51, cf52, cf53, cf54, cf55, cf56, cf57, cf58, cf59, cf60, cf61, cf62, cf63, cf64, cf65, cf66, cf67, cf68, cf69, cf70, cf71, cf72, cf73, cf74, cf75, cf76, cf77, cf78, cf79, cf80, bd26_0_1_2_7_8_9_10_11_12_13_14, bd26_0_1_2_7_8_9_10_11_12_13_14p, bd28_0, bd28_0p, bd28_0_1, bd28_0_1p, bd30_, bd30_p, bd30_0_1, bd30_0_1p, bd30_0, bd30_0p, bd46_0_1_2_3_4, bd46_0_1_2_3_4p, bd46_0_3_4, bd46_0_3_4p, bd86_0_1_2, bd86_0_1_2p, bd87_0_1_2_3, bd87_0_1_2_3p, bd95_0_1, bd95_0_1p, bs22_2_0_1, bs47_1_0, bs22_1_0, bs57_6_0_1_2_3_4_5, bs24_1_0, bs22_4_0_1_2_3, bs56_11_0_1_2_3_4_5_6_7_8_9_10, bs57_11_0_1_2_3_4_5_6_7_8_9_10, eq4, eq4p, eq28, eq28p, eq30, eq30p, eq31n, eq31np, eq31s, eq31sp, eq46, eq46p, eq50n, eq50np, eq50s, eq50sp, eq67n, eq67np, eq67s, eq67sp, ne4, ne4p, ne28, ne28p, ne30, ne30p, ne31n, ne31np, ne31s, ne31sp, ne46, ne46p, al76]
    unfold S71_k2
    rw [← hKK]
    try simp -implicitDefEqProofs (disch := first | with_reducible exact Nat.ne_of_beq_eq_false rfl | omega) only [upd_ne, q0, retK_ret, resL_tmp, upd_eq, resL_nil1]
    exact ⟨a, by rw [hc]; exact o, s, d⟩
  obtain ⟨x, hx⟩ : ∃ x, L[k]? = some x := ⟨_, List.getElem?_eq_getElem (by omega)⟩
  obtain ⟨y, hy⟩ : ∃ y, L[k - 1]? = some y := ⟨_, List.getElem?_eq_getElem (by omega)⟩
  obtain ⟨x0, x1⟩ := rd hx
  obtain ⟨y0, y1⟩ := rd hy
  have ek : (k : Int) - 1 = ((k - 1 : Nat) : Int) := by omega
  unfold S71_l3_k4
  try simp -implicitDefEqProofs (disch := first | with_reducible exact Nat.ne_of_beq_eq_false rfl | omega) only [upd_ne, q0, q3, opH_sv, pureW_sv, bin_subp, ek, wrap_in, ix22p (Int.natCast_nonneg (k - 1)) (show ((k - 1 : Nat) : Int) < (L.length : Nat) by omega), Int.toNat_natCast, add_mk, Nat.zero_add, ld28p, Nat.add_zero, y0, Option.some.injEq, y1, exists_eq_left', ix22p (Int.natCast_nonneg k) hlt, x0, x1, eq28p, Bool.and_true, cell_beq]
  refine cond_bool (fun hb2 => ?_) (fun hb2 => ?_)
  rotate_left
  · unfold S71_l3_k5
    try simp -implicitDefEqProofs (disch := first | with_reducible exact Nat.ne_of_beq_eq_false rfl | omega) only [upd_ne, q3, thenK_normal, opH_sv, bin_add, wrap_in]
    refine HX (L.length - (k + 1)) _ _ (by omega) ⟨k + 1, rfl, by omega, by omega, by simp -implicitDefEqProofs (disch := first | with_reducible exact Nat.ne_of_beq_eq_false rfl | omega) only [upd_ne, q0], by simp -implicitDefEqProofs (disch := first | with_reducible exact Nat.ne_of_beq_eq_false rfl | omega) only [upd_eq] <;> rfl, rfl, ?_⟩
    rw [comp_step h1 hy hx, if_neg (fun e => by rw [e, beq_self_eq_true] at hb2; cases hb2), hc, List.take_add_one, hx]
    rfl
  have exy : y = x := (eq_of_beq hb2).symm
  try simp -implicitDefEqProofs only [opH_sv, opH_su, pureW_sv, opH_nil, pureW_nil, pick_t, pick_f, pick_tp, pick_fp, gd_tt, gd_ft, gd_tf, gd_ff, box_new, regs0, regs1, regs2, regs3, regs4, regs5, regs6, cells_agg, cells_int, cells_bool, cells_ptr, cells_slice, cells_string, cells_func, cells_nilFunc, cells_map, retK_ret, retK_normal, resL_tmp, resL_cell, resL_nil0, resL_nil1, resL_nil2, resL_nil3, resC_ptr, ex0, ex1, ex2, ex0p, ex1p, ex2p, HL.cond_true, HL.cond_false, thenK_normal, thenK_ret, thenK_exit, blockK_normal, blockK_ret, blockK_exit, scopeK_normal, scopeK_ret, scopeK_exit, wpH_pure, bin_add, bin_sub, bin_mul, bin_lss, bin_leq, bin_gtr, bin_geq, bin_quo, bin_rem, bin_quop, bin_remp, wrap_in, bin_addp, bin_subp, bin_mulp, bin_lssp, bin_leqp, bin_gtrp, bin_geqp, un_not, un_notp, un_neg, eq_int, ne_int, eq_intp, ne_intp, callV_fn, add_mk, upd_eq, upd_ne, cell_set_self, Nat.zero_add, Nat.add_zero, Option.some.injEq, exists_eq_left', List.getElem?_cons_succ, List.getElem?_cons_zero, true_and, and_true, bne_self_eq_false, beq_self_eq_true, Bool.not_true, Bool.not_false, Bool.and_true, Bool.and_self, Bool.and_false, Bool.true_and, List.length_cons, List.length_nil, ne_eq, not_false_eq_true, Nat.reduceAdd, Nat.reduceMul, if_true, if_false, oneCell_int, oneCell_bool, oneCell_ptr, oneCell_slice, oneCell_string, oneCell_func, oneCell_map, Int.toNat_natCast, List.set_cons_zero, List.set_cons_succ, Nat.lt_irrefl, Nat.zero_lt_succ, Nat.succ_lt_succ_iff, fa26_0, fa26_0p, fa26_1, fa26_1p, fa26_10, fa26_10p, fa26_11, fa26_11p, fa26_12, fa26_12p, fa26_13, fa26_13p, fa26_14, fa26_14p, fa26_2, fa26_2p, fa26_3, fa26_3p, fa26_4, fa26_4p, fa26_5, fa26_5p, fa26_6, fa26_6p, fa26_7, fa26_7p, fa26_8, fa26_8p, fa26_9, fa26_9p, fa28_0, fa28_0p, fa28_1, fa28_1p, fa30_0, fa30_0p, fa30_1, fa30_1p, fa46_0, fa46_0p, fa46_1, fa46_1p, fa46_2, fa46_2p, fa46_3, fa46_3p, fa46_4, fa46_4p, fa46_5, fa46_5p, fa46_6, fa46_6p, fa86_0, fa86_0p, fa86_1, fa86_1p, fa86_2, fa86_2p, fa95_0, fa95_0p, fa95_1, fa95_1p, ld3, ld3p, ld4, ld4p, ld22, ld22p, ld23, ld23p, ld24, ld24p, ld26, ld26p, ld28, ld28p, ld30, ld30p, ld31, ld31p, ld46, ld46p, ld47, ld47p, ld52, ld52p, ld55, ld55p, ld57, ld57p, ld95, ld95p, st3s, st4s, st22s, st23s, st24s, st26w, st28w, st30w, st46w, st47s, st55s, st95w, ix22, ix22p, ix23, ix23p, ix24, ix24p, ix47, ix47p, ix56, ix56p, ix57, ix57p, ix101, ix101p, ln22, ln22p, ln23, ln23p, ln24, ln24p, ln47, ln47p, ln56, ln56p, ln57, ln57p, al22, al26, al28, al30, al46, al47, al95, cf14, cf15, cf16, cf17, cf18, cf19, cf20, cf21, cf22, cf23, cf24, cf25, cf26, cf27, cf28, cf29, cf30, cf31, cf32, cf33, cf34, cf35, cf36, cf37, cf38, cf39, cf40, cf41, cf42, cf43, cf44, cf45, cf46, cf47, cf48, cf49, cf50, cf51, cf52, cf53, cf54, cf55, cf56, cf57, cf58, cf59, cf60, cf61, cf62, cf63, cf64, cf65, cf66, cf67, cf68, cf69, cf70, cf71, cf72, cf73, cf74, cf75, cf76, cf77, cf78, cf79, cf80, bd26_0_1_2_7_8_9_10_11_12_13_14, bd26_0_1_2_7_8_9_10_11_12_13_14p, bd28_0, bd28_0p, bd28_0_1, bd28_0_1p, bd30_, bd30_p, bd30_0_1, bd30_0_1p, bd30_0, bd30_0p, bd46_0_1_2_3_4, bd46_0_1_2_3_4p, bd46_0_3_4, bd46_0_3_4p, bd86_0_1_2, bd86_0_1_2p, bd87_0_1_2_3, bd87_0_1_2_3p, bd95_0_1, bd95_0_1p, bs22_2_0_1, bs47_1_0, bs22_1_0, bs57_6_0_1_2_3_4_5, bs24_1_0, bs22_4_0_1_2_3, bs56_11_0_1_2_3_4_5_6_7_8_9_10, bs57_11_0_1_2_3_4_5_6_7_8_9_10, eq4, eq4p, eq28, eq28p, eq30, eq30p, eq31n, eq31np, eq31s, eq31sp, eq46, eq46p, eq50n, eq50np, eq50s, eq50sp, eq67n, eq67np, eq67s, eq67sp, ne4, ne4p, ne28, ne28p, ne30, ne30p, ne31n, ne31np, ne31s, ne31sp, ne46, ne46p, al76, q0, q3]
  rw [slice_from un22 sz28 (by omega) (by omega) hcap]
  rw [Int.toNat_natCast, if_neg (show ¬ cap = k by omega), add_mk, Nat.zero_add]
  have hmax : (cellC.rows L ++ t).length = cap * 2 := hbl
  try simp -implicitDefEqProofs (disch := first | with_reducible exact Nat.ne_of_beq_eq_false rfl | omega) only [opH_sv, opH_su, pureW_sv, opH_nil, pureW_nil, pick_t, pick_f, pick_tp, pick_fp, gd_tt, gd_ft, gd_tf, gd_ff, box_new, regs0, regs1, regs2, regs3, regs4, regs5, regs6, cells_agg, cells_int, cells_bool, cells_ptr, cells_slice, cells_string, cells_func, cells_nilFunc, cells_map, retK_ret, retK_normal, resL_tmp, resL_cell, resL_nil0, resL_nil1, resL_nil2, resL_nil3, resC_ptr, ex0, ex1, ex2, ex0p, ex1p, ex2p, HL.cond_true, HL.cond_false, thenK_normal, thenK_ret, thenK_exit, blockK_normal, blockK_ret, blockK_exit, scopeK_normal, scopeK_ret, scopeK_exit, wpH_pure, bin_add, bin_sub, bin_mul, bin_lss, bin_leq, bin_gtr, bin_geq, bin_quo, bin_rem, bin_quop, bin_remp, wrap_in, bin_addp, bin_subp, bin_mulp, bin_lssp, bin_leqp, bin_gtrp, bin_geqp, un_not, un_notp, un_neg, eq_int, ne_int, eq_intp, ne_intp, callV_fn, add_mk, upd_eq, upd_ne, cell_set_self, Nat.zero_add, Nat.add_zero, Option.some.injEq, exists_eq_left', List.getElem?_cons_succ, List.getElem?_cons_zero, true_and, and_true, bne_self_eq_false, beq_self_eq_true, Bool.not_true, Bool.not_false, Bool.and_true, Bool.and_self, Bool.and_false, Bool.true_and, List.length_cons, List.length_nil, ne_eq, not_false_eq_true, Nat.reduceAdd, Nat.reduceMul, if_true, if_false, oneCell_int, oneCell_bool, oneCell_ptr, oneCell_slice, oneCell_string, oneCell_func, oneCell_map, Int.toNat_natCast, List.set_cons_zero, List.set_cons_succ, Nat.lt_irrefl, Nat.zero_lt_succ, Nat.succ_lt_succ_iff, fa26_0, fa26_0p, fa26_1, fa26_1p, fa26_10, fa26_10p, fa26_11, fa26_11p, fa26_12, fa26_12p, fa26_13, fa26_13p, fa26_14, fa26_14p, fa26_2, fa26_2p, fa26_3, fa26_3p, fa26_4, fa26_4p, fa26_5, fa26_5p, fa26_6, fa26_6p, fa26_7, fa26_7p, fa26_8, fa26_8p, fa26_9, fa26_9p, fa28_0, fa28_0p, fa28_1, fa28_1p, fa30_0, fa30_0p, fa30_1, fa30_1p, fa46_0, fa46_0p, fa46_1, fa46_1p, fa46_2, fa46_2p, fa46_3, fa46_3p, fa46_4, fa46_4p, fa46_5, fa46_5p, fa46_6, fa46_6p, fa86_0, fa86_0p, fa86_1, fa86_1p, fa86_2, fa86_2p, fa95_0, fa95_0p, fa95_1, fa95_1p, ld3, ld3p, ld4, ld4p, ld22, ld22p, ld23, ld23p, ld24, ld24p, ld26, ld26p, ld28, ld28p, ld30, ld30p, ld31, ld31p, ld46, ld46p, ld47, ld47p, ld52, ld52p, ld55, ld55p, ld57, ld57p, ld95, ld95p, st3s, st4s, st22s, st23s, st24s, st26w, st28w, st30w, st46w, st47s, st55s, st95w, ix22, ix22p, ix23, ix23p, ix24, ix24p, ix47, ix47p, ix56, ix56p, ix57, ix57p, ix101, ix101p, ln22, ln22p, ln23, ln23p, ln24, ln24p, ln47, ln47p, ln56, ln56p, ln57, ln57p, al22, al26, al28, al30, al46, al47, al95, cf14, cf15, cf16, cf17, cf18, cf19, cf20, cf21, cf22, cf23, cf24, cf25, cf26, cf27, cf28, cf29, cf30, cf31, cf32, cf33, cf34, cf35, cf36, cf37, cf38, cf39, cf40, cf41, cf42, cf43, cf44, cf45, cf46, cf47, cf48, cf49, cf50, cf51, cf52, cf53, cf54, cf55, cf56, cf57, cf58, cf59, cf60, cf61, cf62, cf63, cf64, cf65, cf66, cf67, cf68, cf69, cf70, cf71, cf72, cf73, cf74, cf75, cf76, cf77, cf78, cf79, cf80, bd26_0_1_2_7_8_9_10_11_12_13_14, bd26_0_1_2_7_8_9_10_11_12_13_14p, bd28_0, bd28_0p, bd28_0_1, bd28_0_1p, bd30_, bd30_p, bd30_0_1, bd30_0_1p, bd30_0, bd30_0p, bd46_0_1_2_3_4, bd46_0_1_2_3_4p, bd46_0_3_4, bd46_0_3_4p, bd86_0_1_2, bd86_0_1_2p, bd87_0_1_2_3, bd87_0_1_2_3p, bd95_0_1, bd95_0_1p, bs22_2_0_1, bs47_1_0, bs22_1_0, bs57_6_0_1_2_3_4_5, bs24_1_0, bs22_4_0_1_2_3, bs56_11_0_1_2_3_4_5_6_7_8_9_10, bs57_11_0_1_2_3_4_5_6_7_8_9_10, eq4, eq4p, eq28, eq28p, eq30, eq30p, eq31n, eq31np, eq31s, eq31sp, eq46, eq46p, eq50n, eq50np, eq50s, eq50sp, eq67n, eq67np, eq67s, eq67sp, ne4, ne4p, ne28, ne28p, ne30, ne30p, ne31n, ne31np, ne31s, ne31sp, ne46, ne46p, al76]
  refine loop_I (fun m q h4 => ∃ (w j : Nat) (M : List Cell) (a : Hp), m = L.length - j ∧ k ≤ w ∧ w < j ∧ k + 1 ≤ j ∧ j ≤ L.length ∧ M.length = L.length ∧ q 0 = .slice (some ⟨b, 0, none⟩) L.length cap ∧ q 3 = .int .i64 w ∧ q 4 = .slice (some ⟨b, k * 2, none⟩) (L.length - k) (cap - k) ∧ q 5 = .int .i64 (((j - k : Nat) : Nat) : Int) ∧
      a b = some (.cells (cellC.rows M ++ t).toArray 28 (0, 0)) ∧ HL.Sep (a :: R) h4 ∧ Dis G h4 ∧ M.take w = compactL (L.take j) ∧ ∀ p, j - 1 ≤ p → M[p]? = L[p]?) ?_
    (m := L.length - (k + 1)) ⟨k, k + 1, L, a, rfl, Nat.le_refl _, by omega, Nat.le_refl _, by omega, rfl, by simp -implicitDefEqProofs (disch := first | with_reducible exact Nat.ne_of_beq_eq_false rfl | omega) only [upd_ne, q0], by simp -implicitDefEqProofs (disch := first | with_reducible exact Nat.ne_of_beq_eq_false rfl | omega) only [upd_ne, q3], by simp -implicitDefEqProofs (disch := first | with_reducible exact Nat.ne_of_beq_eq_false rfl | omega) only [upd_ne, upd_eq], by simp -implicitDefEqProofs (disch := first | with_reducible exact Nat.ne_of_beq_eq_false rfl | omega) only [upd_eq] <;> (rw [show k + 1 - k = 1 by omega]; rfl), hb, s, d, by rw [comp_step h1 hy hx, if_pos exy, hc], fun p _ => rfl⟩
  clear HX q0 q3 x0 x1 y0 y1 hc hx hy exy hb2 ek rd hbh hb o s d
  rintro m q h4 ⟨w, j, M, a, rfl, hkw, hwj, hkj, hj, hM, q0, q3, q4, q5, hb, s, d, htk, hsame⟩ X HX
  have hbh := s.at 0 rfl hb
  have rd := fun {i : Nat} {x : Cell} (hx : M[i]? = some x) => row_cell (G := G) (look_own hbh) hx
  unfold S71_l3_l7
  simp -implicitDefEqProofs (maxSteps := 2000000) (disch := first | with_reducible exact Nat.ne_of_beq_eq_false rfl | exact oneCell_int | exact oneCell_bool | omega | rfl | (simp; done) | fail) only [q4, q5, thenK_exit, blockK_exit, thenK_normal, if_true, opH_sv, ln22, bin_lss]
  refine cond_dec (fun hlt2 => ?_) (fun hge3 => ?_)
  · obtain ⟨x, hx⟩ : ∃ x, L[j]? = some x := ⟨_, List.getElem?_eq_getElem (by omega)⟩
    obtain ⟨y, hy⟩ : ∃ y, L[j - 1]? = some y := ⟨_, List.getElem?_eq_getElem (by omega)⟩
    obtain ⟨x0, x1⟩ := rd ((hsame j (by omega)).trans hx)
    obtain ⟨y0, y1⟩ := rd ((hsame (j - 1) (Nat.le_refl _)).trans hy)
    have ej : j * 2 = k * 2 + (j - k) * 2 := by omega
    have ej1 : (j - 1) * 2 = k * 2 + (j - k - 1) * 2 := by omega
    rw [ej] at x0 x1
    rw [ej1] at y0 y1
    have e5 : (((j - k : Nat) : Nat) : Int) - 1 = ((j - k - 1 : Nat) : Int) := by omega
    unfold S71_l3_l7_k8
    try simp -implicitDefEqProofs (maxSteps := 2000000) (disch := first | with_reducible exact Nat.ne_of_beq_eq_false rfl | exact oneCell_int | exact oneCell_bool | omega | rfl | (simp; done) | fail) only [upd_ne, q4, q5, opH_sv, opH_su, ix22, Int.toNat_natCast, add_mk, ld28, Nat.add_zero, pureW_sv, bin_subp, e5, wrap_in, ix22p (Int.natCast_nonneg (j - k - 1)) (show ((j - k - 1 : Nat) : Int) < ((L.length - k : Nat) : Int) by omega), ld28p, y0, Option.some.injEq, y1, exists_eq_left', ix22p (Int.natCast_nonneg (j - k)) hlt2, x0, x1, ne28p, Bool.and_true, cell_beq]
    have nxt : (((j - k : Nat) : Nat) : Int) + 1 = ((j + 1 - k : Nat) : Int) := by omega
    cases hxy : (x == y) with
    | true =>
      try simp -implicitDefEqProofs (maxSteps := 2000000) (disch := first | with_reducible exact Nat.ne_of_beq_eq_false rfl | exact oneCell_int | exact oneCell_bool | omega | rfl | (simp; done) | fail) only [Bool.not_true, HL.cond_false]
      unfold S71_l3_l7_k9
      try simp -implicitDefEqProofs (maxSteps := 2000000) (disch := first | with_reducible exact Nat.ne_of_beq_eq_false rfl | exact oneCell_int | exact oneCell_bool | omega | rfl | (simp; done) | fail) only [upd_ne, q5, thenK_normal, opH_sv, bin_add, wrap_in]
      refine HX (L.length - (j + 1)) _ _ (by omega) ⟨w, j + 1, M, a, rfl, hkw, by omega, by omega, by omega, hM, by simp -implicitDefEqProofs (maxSteps := 2000000) (disch := first | with_reducible exact Nat.ne_of_beq_eq_false rfl | exact oneCell_int | exact oneCell_bool | omega | rfl | (simp; done) | fail) only [upd_ne, q0], by simp -implicitDefEqProofs (maxSteps := 2000000) (disch := first | with_reducible exact Nat.ne_of_beq_eq_false rfl | exact oneCell_int | exact oneCell_bool | omega | rfl | (simp; done) | fail) only [upd_ne, q3], by simp -implicitDefEqProofs (maxSteps := 2000000) (disch := first | with_reducible exact Nat.ne_of_beq_eq_false rfl | exact oneCell_int | exact oneCell_bool | omega | rfl | (simp; done) | fail) only [upd_ne, q4], by simp -implicitDefEqProofs (maxSteps := 2000000) (disch := first | with_reducible exact Nat.ne_of_beq_eq_false rfl | exact oneCell_int | exact oneCell_bool | omega | rfl | (simp; done) | fail) only [upd_eq] <;> rw [nxt], hb, s, d, ?_, fun p hp => hsame p (by omega)⟩
      rw [htk, comp_step (by omega) hy hx, if_pos (eq_of_beq hxy).symm]
    | false =>
      have hwl : (w : Int) < (L.length : Nat) := by omega
      try simp -implicitDefEqProofs (maxSteps := 2000000) (disch := first | with_reducible exact Nat.ne_of_beq_eq_false rfl | exact oneCell_int | exact oneCell_bool | omega | rfl | (simp; done) | fail) only [Bool.not_false, q0, q3, bin_add, wrap_in, ix22 (Int.natCast_nonneg w) hwl, Int.toNat_natCast, add_mk, Nat.zero_add, HL.cond_true]
      rw [st_elem (x := x) hbh (by omega)]
      have s5 := s.put (o := .cells (cellC.rows (M.set w x) ++ t).toArray 28 (0, 0)) hb
      have d5 := d.set (o := .cells (cellC.rows (M.set w x) ++ t).toArray 28 (0, 0)) (d _ _ hbh)
      generalize Hp.set h4 b _ = h5 at s5 d5 ⊢
      try simp -implicitDefEqProofs (disch := first | with_reducible exact Nat.ne_of_beq_eq_false rfl | omega) only [opH_sv, opH_su, pureW_sv, opH_nil, pureW_nil, pick_t, pick_f, pick_tp, pick_fp, gd_tt, gd_ft, gd_tf, gd_ff, box_new, regs0, regs1, regs2, regs3, regs4, regs5, regs6, cells_agg, cells_int, cells_bool, cells_ptr, cells_slice, cells_string, cells_func, cells_nilFunc, cells_map, retK_ret, retK_normal, resL_tmp, resL_cell, resL_nil0, resL_nil1, resL_nil2, resL_nil3, resC_ptr, ex0, ex1, ex2, ex0p, ex1p, ex2p, HL.cond_true, HL.cond_false, thenK_normal, thenK_ret, thenK_exit, blockK_normal, blockK_ret, blockK_exit, scopeK_normal, scopeK_ret, scopeK_exit, wpH_pure, bin_add, bin_sub, bin_mul, bin_lss, bin_leq, bin_gtr, bin_geq, bin_quo, bin_rem, bin_quop, bin_remp, wrap_in, bin_addp, bin_subp, bin_mulp, bin_lssp, bin_leqp, bin_gtrp, bin_geqp, un_not, un_notp, un_neg, eq_int, ne_int, eq_intp, ne_intp, callV_fn, add_mk, upd_eq, upd_ne, cell_set_self, Nat.zero_add, Nat.add_zero, Option.some.injEq, exists_eq_left', List.getElem?_cons_succ, List.getElem?_cons_zero, true_and, and_true, bne_self_eq_false, beq_self_eq_true, Bool.not_true, Bool.not_false, Bool.and_true, Bool.and_self, Bool.and_false, Bool.true_and, List.length_cons, List.length_nil, ne_eq, not_false_eq_true, Nat.reduceAdd, Nat.reduceMul, if_true, if_false, oneCell_int, oneCell_bool, oneCell_ptr, oneCell_slice, oneCell_string, oneCell_func, oneCell_map, Int.toNat_natCast, List.set_cons_zero, List.set_cons_succ, Nat.lt_irrefl, Nat.zero_lt_succ, Nat.succ_lt_succ_iff, fa26_0, fa26_0p, fa26_1, fa26_1p, fa26_10, fa26_10p, fa26_11, fa26_11p, fa26_12, fa26_12p, fa26_13, fa26_13p, fa26_14, fa26_14p, fa26_2, fa26_2p, fa26_3, fa26_3p, fa26_4, fa26_4p, fa26_5, fa26_5p, fa26_6, fa26_6p, fa26_7, fa26_7p, fa26_8, fa26_8p, fa26_9, fa26_9p, fa28_0, fa28_0p, fa28_1, fa28_1p, fa30_0, fa30_0p, fa30_1, fa30_1p, fa46_0, fa46_0p, fa46_1, fa46_1p, fa46_2, fa46_2p, fa46_3, fa46_3p, fa46_4, fa46_4p, fa46_5, fa46_5p, fa46_6, fa46_6p, fa86_0, fa86_0p, fa86_1, fa86_1p, fa86_2, fa86_2p, fa95_0, fa95_0p, fa95_1, fa95_1p, ld3, ld3p, ld4, ld4p, ld22, ld22p, ld23, ld23p, ld24, ld24p, ld26, ld26p, ld28, ld28p, ld30, ld30p, ld31, ld31p, ld46, ld46p, ld47, ld47p, ld52, ld52p, ld55, ld55p, ld57, ld57p, ld95, ld95p, st3s, st4s, st22s, st23s, st24s, st26w, st28w, st30w, st46w, st47s, st55s, st95w, ix22, ix22p, ix23, ix23p, ix24, ix24p, ix47, ix47p, ix56, ix56p, ix57, ix57p, ix101, ix101p, ln22, ln22p, ln23, ln23p, ln24, ln24p, ln47, ln47p, ln56, ln56p, ln57, ln57p, al22, al26, al28, al30, al46, al47, al95, cf14, cf15, cf16, cf17, cf18, cf19, cf20, cf21, cf22, cf23, cf24, cf25, cf26, cf27, cf28, cf29, cf30, cf31, cf32, cf33, cf34, cf35, cf36, cf37, cf38, cf39, cf40, cf41, cf42, cf43, cf44, cf45, cf46, cf47, cf48, cf49, cf50, cf51, cf52, cf53, cf54, cf55, cf56, cf57, cf58, cf59, cf60, cf61, cf62, cf63, cf64, cf65, cf66, cf67, cf68, cf69, cf70, cf71, cf72, cf73, cf74, cf75, cf76, cf77, cf78, cf79, cf80, bd26_0_1_2_7_8_9_10_11_12_13_14, bd26_0_1_2_7_8_9_10_11_12_13_14p, bd28_0, bd28_0p, bd28_0_1, bd28_0_1p, bd30_, bd30_p, bd30_0_1, bd30_0_1p, bd30_0, bd30_0p, bd46_0_1_2_3_4, bd46_0_1_2_3_4p, bd46_0_3_4, bd46_0_3_4p, bd86_0_1_2, bd86_0_1_2p, bd87_0_1_2_3, bd87_0_1_2_3p, bd95_0_1, bd95_0_1p, bs22_2_0_1, bs47_1_0, bs22_1_0, bs57_6_0_1_2_3_4_5, bs24_1_0, bs22_4_0_1_2_3, bs56_11_0_1_2_3_4_5_6_7_8_9_10, bs57_11_0_1_2_3_4_5_6_7_8_9_10, eq4, eq4p, eq28, eq28p, eq30, eq30p, eq31n, eq31np, eq31s, eq31sp, eq46, eq46p, eq50n, eq50np, eq50s, eq50sp, eq67n, eq67np, eq67s, eq67sp, ne4, ne4p, ne28, ne28p, ne30, ne30p, ne31n, ne31np, ne31s, ne31sp, ne46, ne46p, al76, q3]
      unfold S71_l3_l7_k9
      try simp -implicitDefEqProofs (disch := first | with_reducible exact Nat.ne_of_beq_eq_false rfl | omega) only [upd_ne, q5, thenK_normal, opH_sv, bin_add, wrap_in]
      refine HX (L.length - (j + 1)) _ _ (by omega) ⟨w + 1, j + 1, M.set w x, _, rfl, by omega, by omega, by omega, by omega, by rw [List.length_set, hM], by simp -implicitDefEqProofs (disch := first | with_reducible exact Nat.ne_of_beq_eq_false rfl | omega) only [upd_ne, q0], by simp -implicitDefEqProofs (disch := first | with_reducible exact Nat.ne_of_beq_eq_false rfl | omega) only [upd_ne, upd_eq] <;> rfl, by simp -implicitDefEqProofs (disch := first | with_reducible exact Nat.ne_of_beq_eq_false rfl | omega) only [upd_ne, q4], by simp -implicitDefEqProofs (disch := first | with_reducible exact Nat.ne_of_beq_eq_false rfl | omega) only [upd_eq] <;> rw [nxt], set_self, s5, d5, ?_, fun p hp => ?_⟩
      · rw [comp_step (by omega) hy hx, if_neg (fun e => by rw [e, beq_self_eq_true] at hxy; cases hxy), ← htk, List.take_add_one, List.getElem?_set_self (by omega), List.take_set_of_le (Nat.le_refl _)]
        rfl
      · rw [List.getElem?_set_ne (by omega)]
        exact hsame p (by omega)
  · obtain rfl : j = L.length := by omega
    rw [List.take_of_length_le (Nat.le_refl _)] at htk
    clear HX
    have hwl : w < L.length := hwj
    try simp -implicitDefEqProofs (disch := first | with_reducible exact Nat.ne_of_beq_eq_false rfl | omega) only [opH_sv, opH_su, pureW_sv, opH_nil, pureW_nil, pick_t, pick_f, pick_tp, pick_fp, gd_tt, gd_ft, gd_tf, gd_ff, box_new, regs0, regs1, regs2, regs3, regs4, regs5, regs6, cells_agg, cells_int, cells_bool, cells_ptr, cells_slice, cells_string, cells_func, cells_nilFunc, cells_map, retK_ret, retK_normal, resL_tmp, resL_cell, resL_nil0, resL_nil1, resL_nil2, resL_nil3, resC_ptr, ex0, ex1, ex2, ex0p, ex1p, ex2p, HL.cond_true, HL.cond_false, thenK_normal, thenK_ret, thenK_exit, blockK_normal, blockK_ret, blockK_exit, scopeK_normal, scopeK_ret, scopeK_exit, wpH_pure, bin_add, bin_sub, bin_mul, bin_lss, bin_leq, bin_gtr, bin_geq, bin_quo, bin_rem, bin_quop, bin_remp, wrap_in, bin_addp, bin_subp, bin_mulp, bin_lssp, bin_leqp, bin_gtrp, bin_geqp, un_not, un_notp, un_neg, eq_int, ne_int, eq_intp, ne_intp, callV_fn, add_mk, upd_eq, upd_ne, cell_set_self, Nat.zero_add, Nat.add_zero, Option.some.injEq, exists_eq_left', List.getElem?_cons_succ, List.getElem?_cons_zero, true_and, and_true, bne_self_eq_false, beq_self_eq_true, Bool.not_true, Bool.not_false, Bool.and_true, Bool.and_self, Bool.and_false, Bool.true_and, List.length_cons, List.length_nil, ne_eq, not_false_eq_true, Nat.reduceAdd, Nat.reduceMul, if_true, if_false, oneCell_int, oneCell_bool, oneCell_ptr, oneCell_slice, oneCell_string, oneCell_func, oneCell_map, Int.toNat_natCast, List.set_cons_zero, List.set_cons_succ, Nat.lt_irrefl, Nat.zero_lt_succ, Nat.succ_lt_succ_iff, fa26_0, fa26_0p, fa26_1, fa26_1p, fa26_10, fa26_10p, fa26_11, fa26_11p, fa26_12, fa26_12p, fa26_13, fa26_13p, fa26_14, fa26_14p, fa26_2, fa26_2p, fa26_3, fa26_3p, fa26_4, fa26_4p, fa26_5, fa26_5p, fa26_6, fa26_6p, fa26_7, fa26_7p, fa26_8, fa26_8p, fa26_9, fa26_9p, fa28_0, fa28_0p, fa28_1, fa28_1p, fa30_0, fa30_0p, fa30_1, fa30_1p, fa46_0, fa46_0p, fa46_1, fa46_1p, fa46_2, fa46_2p, fa46_3, fa46_3p, fa46_4, fa46_4p, fa46_5, fa46_5p, fa46_6, fa46_6p, fa86_0, fa86_0p, fa86_1, fa86_1p, fa86_2, fa86_2p, fa95_0, fa95_0p, fa95_1, fa95_1p, ld3, ld3p, ld4, ld4p, ld22, ld22p, ld23, ld23p, ld24, ld24p, ld26, ld26p, ld28, ld28p, ld30, ld30p, ld31, ld31p, ld46, ld46p, ld47, ld47p, ld52, ld52p, ld55, ld55p, ld57, ld57p, ld95, ld95p, st3s, st4s, st22s, st23s, st24s, st26w, st28w, st30w, st46w, st47s, st55s, st95w, ix22, ix22p, ix23, ix23p, ix24, ix24p, ix47, ix47p, ix56, ix56p, ix57, ix57p, ix101, ix101p, ln22, ln22p, ln23, ln23p, ln24, ln24p, ln47, ln47p, ln56, ln56p, ln57, ln57p, al22, al26, al28, al30, al46, al47, al95, cf14, cf15, cf16, cf17, cf18, cf19, cf20, cf21, cf22, cf23, cf24, cf25, cf26, cf27, cf28, cf29, cf30, cf31, cf32, cf33, cf34, cf35, cf36, cf37, cf38, cf39, cf40, cf41, cf42, cf43, cf44, cf45, cf46, cf47, cf48, cf49, cf50, cf51, cf52, cf53, cf54, cf55, cf56, cf57, cf58, cf59, cf60, cf61, cf62, cf63, cf64, cf65, cf66, cf67, cf68, cf69, cf70, cf71, cf72, cf73, cf74, cf75, cf76, cf77, cf78, cf79, cf80, bd26_0_1_2_7_8_9_10_11_12_13_14, bd26_0_1_2_7_8_9_10_11_12_13_14p, bd28_0, bd28_0p, bd28_0_1, bd28_0_1p, bd30_, bd30_p, bd30_0_1, bd30_0_1p, bd30_0, bd30_0p, bd46_0_1_2_3_4, bd46_0_1_2_3_4p, bd46_0_3_4, bd46_0_3_4p, bd86_0_1_2, bd86_0_1_2p, bd87_0_1_2_3, bd87_0_1_2_3p, bd95_0_1, bd95_0_1p, bs22_2_0_1, bs47_1_0, bs22_1_0, bs57_6_0_1_2_3_4_5, bs24_1_0, bs22_4_0_1_2_3, bs56_11_0_1_2_3_4_5_6_7_8_9_10, bs57_11_0_1_2_3_4_5_6_7_8_9_10, eq4, eq4p, eq28, eq28p, eq30, eq30p, eq31n, eq31np, eq31s, eq31sp, eq46, eq46p, eq50n, eq50np, eq50s, eq50sp, eq67n, eq67np, eq67s, eq67sp, ne4, ne4p, ne28, ne28p, ne30, ne30p, ne31n, ne31np, ne31s, ne31sp, ne46, ne46p, al76]
    unfold S71_l3_k6
    try simp -implicitDefEqProofs (disch := first | with_reducible exact Nat.ne_of_beq_eq_false rfl | omega) only [upd_ne, q0, q3, thenK_ret, blockK_ret, opH_sv]
    rw [slice_from un22 sz28 (by omega) (by omega) hcap]
    rw [Int.toNat_natCast, if_neg (show ¬ cap = w by omega), add_mk, Nat.zero_add]
    try simp -implicitDefEqProofs only [opH_sv, opH_su, pureW_sv, opH_nil, pureW_nil, pick_t, pick_f, pick_tp, pick_fp, gd_tt, gd_ft, gd_tf, gd_ff, box_new, regs0, regs1, regs2, regs3, regs4, regs5, regs6, cells_agg, cells_int, cells_bool, cells_ptr, cells_slice, cells_string, cells_func, cells_nilFunc, cells_map, retK_ret, retK_normal, resL_tmp, resL_cell, resL_nil0, resL_nil1, resL_nil2, resL_nil3, resC_ptr, ex0, ex1, ex2, ex0p, ex1p, ex2p, HL.cond_true, HL.cond_false, thenK_normal, thenK_ret, thenK_exit, blockK_normal, blockK_ret, blockK_exit, scopeK_normal, scopeK_ret, scopeK_exit, wpH_pure, bin_add, bin_sub, bin_mul, bin_lss, bin_leq, bin_gtr, bin_geq, bin_quo, bin_rem, bin_quop, bin_remp, wrap_in, bin_addp, bin_subp, bin_mulp, bin_lssp, bin_leqp, bin_gtrp, bin_geqp, un_not, un_notp, un_neg, eq_int, ne_int, eq_intp, ne_intp, callV_fn, add_mk, upd_eq, upd_ne, cell_set_self, Nat.zero_add, Nat.add_zero, Option.some.injEq, exists_eq_left', List.getElem?_cons_succ, List.getElem?_cons_zero, true_and, and_true, bne_self_eq_false, beq_self_eq_true, Bool.not_true, Bool.not_false, Bool.and_true, Bool.and_self, Bool.and_false, Bool.true_and, List.length_cons, List.length_nil, ne_eq, not_false_eq_true, Nat.reduceAdd, Nat.reduceMul, if_true, if_false, oneCell_int, oneCell_bool, oneCell_ptr, oneCell_slice, oneCell_string, oneCell_func, oneCell_map, Int.toNat_natCast, List.set_cons_zero, List.set_cons_succ, Nat.lt_irrefl, Nat.zero_lt_succ, Nat.succ_lt_succ_iff, fa26_0, fa26_0p, fa26_1, fa26_1p, fa26_10, fa26_10p, fa26_11, fa26_11p, fa26_12, fa26_12p, fa26_13, fa26_13p, fa26_14, fa26_14p, fa26_2, fa26_2p, fa26_3, fa26_3p, fa26_4, fa26_4p, fa26_5, fa26_5p, fa26_6, fa26_6p, fa26_7, fa26_7p, fa26_8, fa26_8p, fa26_9, fa26_9p, fa28_0, fa28_0p, fa28_1, fa28_1p, fa30_0, fa30_0p, fa30_1, fa30_1p, fa46_0, fa46_0p, fa46_1, fa46_1p, fa46_2, fa46_2p, fa46_3, fa46_3p, fa46_4, fa46_4p, fa46_5, fa46_5p, fa46_6, fa46_6p, fa86_0, fa86_0p, fa86_1, fa86_1p, fa86_2, fa86_2p, fa95_0, fa95_0p, fa95_1, fa95_1p, ld3, ld3p, ld4, ld4p, ld22, ld22p, ld23, ld23p, ld24, ld24p, ld26, ld26p, ld28, ld28p, ld30, ld30p, ld31, ld31p, ld46, ld46p, ld47, ld47p, ld52, ld52p, ld55, ld55p, ld57, ld57p, ld95, ld95p, st3s, st4s, st22s, st23s, st24s, st26w, st28w, st30w, st46w, st47s, st55s, st95w, ix22, ix22p, ix23, ix23p, ix24, ix24p, ix47, ix47p, ix56, ix56p, ix57, ix57p, ix101, ix101p, ln22, ln22p, ln23, ln23p, ln24, ln24p, ln47, ln47p, ln56, ln56p, ln57, ln57p, al22, al26, al28, al30, al46, al47, al95, cf14, cf15, cf16, cf17, cf18, cf19, cf20, cf21, cf22, cf23, cf24, cf25, cf26, cf27, cf28, cf29, cf30, cf31, cf32, cf33, cf34, cf35, cf36, cf37, cf38, cf39, cf40, cf41, cf42, cf43, cf44, cf45, cf46, cf47, cf48, cf49, cf50, cf51, cf52, cf53, cf54, cf55, cf56, cf57, cf58, cf59, cf60, cf61, cf62, cf63, cf64, cf65, cf66, cf67, cf68, cf69, cf70, cf71, cf72, cf73, cf74, cf75, cf76, cf77, cf78, cf79, cf80, bd26_0_1_2_7_8_9_10_11_12_13_14, bd26_0_1_2_7_8_9_10_11_12_13_14p, bd28_0, bd28_0p, bd28_0_1, bd28_0_1p, bd30_, bd30_p, bd30_0_1, bd30_0_1p, bd30_0, bd30_0p, bd46_0_1_2_3_4, bd46_0_1_2_3_4p, bd46_0_3_4, bd46_0_3_4p, bd86_0_1_2, bd86_0_1_2p, bd87_0_1_2_3, bd87_0_1_2_3p, bd95_0_1, bd95_0_1p, bs22_2_0_1, bs47_1_0, bs22_1_0, bs57_6_0_1_2_3_4_5, bs24_1_0, bs22_4_0_1_2_3, bs56_11_0_1_2_3_4_5_6_7_8_9_10, bs57_11_0_1_2_3_4_5_6_7_8_9_10, eq4, eq4p, eq28, eq28p, eq30, eq30p, eq31n, eq31np, eq31s, eq31sp, eq46, eq46p, eq50n, eq50np, eq50s, eq50sp, eq67n, eq67np, eq67s, eq67sp, ne4, ne4p, ne28, ne28p, ne30, ne30p, ne31n, ne31np, ne31s, ne31sp, ne46, ne46p, al76]
    have hlen : (cellC.rows M ++ t).length = cap * 2 := by
      rw [List.length_append, cellC.rows_length, hM, ← cellC.rows_length, ← List.length_append, hmax]
    refine clear_own cellC ((0, 0) : Cell) un22 (by decide) (by kernel_rfl) hbh (by omega) (by rw [hlen, show cellC.n = 2 from rfl]; omega) fun l' hl1 hl2 => ?_
    have s5 := s.put (o := .cells l'.toArray 28 (0, 0)) hb
    have d5 := d.set (o := .cells l'.toArray 28 (0, 0)) (d _ _ hbh)
    generalize Hp.set h4 b _ = h5 at s5 d5 ⊢
    try simp -implicitDefEqProofs only [opH_sv, opH_su, pureW_sv, opH_nil, pureW_nil, pick_t, pick_f, pick_tp, pick_fp, gd_tt, gd_ft, gd_tf, gd_ff, box_new, regs0, regs1, regs2, regs3, regs4, regs5, regs6, cells_agg, cells_int, cells_bool, cells_ptr, cells_slice, cells_string, cells_func, cells_nilFunc, cells_map, retK_ret, retK_normal, resL_tmp, resL_cell, resL_nil0, resL_nil1, resL_nil2, resL_nil3, resC_ptr, ex0, ex1, ex2, ex0p, ex1p, ex2p, HL.cond_true, HL.cond_false, thenK_normal, thenK_ret, thenK_exit, blockK_normal, blockK_ret, blockK_exit, scopeK_normal, scopeK_ret, scopeK_exit, wpH_pure, bin_add, bin_sub, bin_mul, bin_lss, bin_leq, bin_gtr, bin_geq, bin_quo, bin_rem, bin_quop, bin_remp, wrap_in, bin_addp, bin_subp, bin_mulp, bin_lssp, bin_leqp, bin_gtrp, bin_geqp, un_not, un_notp, un_neg, eq_int, ne_int, eq_intp, ne_intp, callV_fn, add_mk, upd_eq, upd_ne, cell_set_self, Nat.zero_add, Nat.add_zero, Option.some.injEq, exists_eq_left', List.getElem?_cons_succ, List.getElem?_cons_zero, true_and, and_true, bne_self_eq_false, beq_self_eq_true, Bool.not_true, Bool.not_false, Bool.and_true, Bool.and_self, Bool.and_false, Bool.true_and, List.length_cons, List.length_nil, ne_eq, not_false_eq_true, Nat.reduceAdd, Nat.reduceMul, if_true, if_false, oneCell_int, oneCell_bool, oneCell_ptr, oneCell_slice, oneCell_string, oneCell_func, oneCell_map, Int.toNat_natCast, List.set_cons_zero, List.set_cons_succ, Nat.lt_irrefl, Nat.zero_lt_succ, Nat.succ_lt_succ_iff, fa26_0, fa26_0p, fa26_1, fa26_1p, fa26_10, fa26_10p, fa26_11, fa26_11p, fa26_12, fa26_12p, fa26_13, fa26_13p, fa26_14, fa26_14p, fa26_2, fa26_2p, fa26_3, fa26_3p, fa26_4, fa26_4p, fa26_5, fa26_5p, fa26_6, fa26_6p, fa26_7, fa26_7p, fa26_8, fa26_8p, fa26_9, fa26_9p, fa28_0, fa28_0p, fa28_1, fa28_1p, fa30_0, fa30_0p, fa30_1, fa30_1p, fa46_0, fa46_0p, fa46_1, fa46_1p, fa46_2, fa46_2p, fa46_3, fa46_3p, fa46_4, fa46_4p, fa46_5, fa46_5p, fa46_6, fa46_6p, fa86_0, fa86_0p, fa86_1, fa86_1p, fa86_2, fa86_2p, fa95_0, fa95_0p, fa95_1, fa95_1p, ld3, ld3p, ld4, ld4p, ld22, ld22p, ld23, ld23p, ld24, ld24p, ld26, ld26p, ld28, ld28p, ld30, ld30p, ld31, ld31p, ld46, ld46p, ld47, ld47p, ld52, ld52p, ld55, ld55p, ld57, ld57p, ld95, ld95p, st3s, st4s, st22s, st23s, st24s, st26w, st28w, st30w, st46w, st47s, st55s, st95w, ix22, ix22p, ix23, ix23p, ix24, ix24p, ix47, ix47p, ix56, ix56p, ix57, ix57p, ix101, ix101p, ln22, ln22p, ln23, ln23p, ln24, ln24p, ln47, ln47p, ln56, ln56p, ln57, ln57p, al22, al26, al28, al30, al46, al47, al95, cf14, cf15, cf16, cf17, cf18, cf19, cf20, cf21, cf22, cf23, cf24, cf25, cf26, cf27, cf28, cf29, cf30, cf31, cf32, cf33, cf34, cf35, cf36, cf37, cf38, cf39, cf40, cf41, cf42, cf43, cf44, cf45, cf46, cf47, cf48, cf49, cf50, cf51, cf52, cf53, cf54, cf55, cf56, cf57, cf58, cf59, cf60, cf61, cf62, cf63, cf64, cf65, cf66, cf67, cf68, cf69, cf70, cf71, cf72, cf73, cf74, cf75, cf76, cf77, cf78, cf79, cf80, bd26_0_1_2_7_8_9_10_11_12_13_14, bd26_0_1_2_7_8_9_10_11_12_13_14p, bd28_0, bd28_0p, bd28_0_1, bd28_0_1p, bd30_, bd30_p, bd30_0_1, bd30_0_1p, bd30_0, bd30_0p, bd46_0_1_2_3_4, bd46_0_1_2_3_4p, bd46_0_3_4, bd46_0_3_4p, bd86_0_1_2, bd86_0_1_2p, bd87_0_1_2_3, bd87_0_1_2_3p, bd95_0_1, bd95_0_1p, bs22_2_0_1, bs47_1_0, bs22_1_0, bs57_6_0_1_2_3_4_5, bs24_1_0, bs22_4_0_1_2_3, bs56_11_0_1_2_3_4_5_6_7_8_9_10, bs57_11_0_1_2_3_4_5_6_7_8_9_10, eq4, eq4p, eq28, eq28p, eq30, eq30p, eq31n, eq31np, eq31s, eq31sp, eq46, eq46p, eq50n, eq50np, eq50s, eq50sp, eq67n, eq67np, eq67s, eq67sp, ne4, ne4p, ne28, ne28p, ne30, ne30p, ne31n, ne31np, ne31s, ne31sp, ne46, ne46p, al76, q0, q3]
    rw [slice_to un22 sz28 (by omega) (by omega)]
    rw [Int.toNat_natCast]
    rw [← hKK]
    try simp -implicitDefEqProofs only [retK_ret, resL_tmp, upd_eq, resL_nil1]
    have hcl : compactL L = M.take w := htk.symm
    have hml : (M.take w).length = w := by rw [List.length_take]; omega
    have hl3 : l' = cellC.rows (compactL L) ++ l'.drop (w * 2) := by
      rw [hcl]
      have := cellC.rows_take (L := M) (t := t) (k := w) (by omega)
      rw [show cellC.n = 2 from rfl] at this
      rw [← this, ← hl2, List.take_append_drop]
    refine ⟨_, ⟨some b, cap, l'.drop (w * 2), by rw [hcl, hml], ?_, ?_⟩, s5, d5⟩
    · rw [← hl3]; exact set_self
    · rw [← hl3, hl1, hlen]; rfl

end Go.Proofs.YtnpdploihlgcgaaDoor
end

section
/- slices.SortFunc of cells: where the library's text lies in this program (printed by the shelf's own layer). -/
set_option linter.unusedVariables false
set_option maxRecDepth 100000
namespace Go.Proofs.YtnpdploihlgcgaaDoor
open Go Go.HL Go.Proofs
def sortCells_ren : Go.Shelf.Ren := ⟨fun | 6 => 69 | 15 => 79 | 14 => 78 | 28 => 89 | 29 => 90 | 20 => 81 | 21 => 82 | 22 => 83 | 23 => 84 | 24 => 85 | 25 => 86 | 26 => 87 | 27 => 88 | 46 => 91 | 47 => 92 | 48 => 93 | 49 => 94 | 50 => 95 | 57 => 96 | n => n, fun | 22 => 22 | 24 => 28 | 25 => 64 | 3 => 3 | 39 => 100 | 0 => 0 | 53 => 112 | 55 => 114 | 4 => 4 | 46 => 105 | 45 => 104 | 50 => 109 | 5 => 5 | 9 => 9 | 66 => 115 | 70 => 55 | 76 => 120 | 77 => 121 | n => n, fun | n => n⟩
theorem sortCells : Go.Proofs.SlLaysF0.n6 Tryd.prog sortCells_ren where
  mixed := by kernel_rfl
  f6 := ⟨ "slices.SortFunc[[]skep/api.Cell,skep/api.Cell]", by decide, Tryd.func69.trans (congrArg some (by kernel_rfl))⟩
  f14 := ⟨ "slices.pdqsortCmpFunc[skep/api.Cell]", by decide, Tryd.func78.trans (congrArg some (by kernel_rfl))⟩
  f15 := Tryd.func79.trans (congrArg some (by kernel_rfl))
  f20 := ⟨ "slices.insertionSortCmpFunc[skep/api.Cell]", by decide, Tryd.func81.trans (congrArg some (by kernel_rfl))⟩
  f21 := ⟨ "slices.heapSortCmpFunc[skep/api.Cell]", by decide, Tryd.func82.trans (congrArg some (by kernel_rfl))⟩
  f22 := ⟨ "slices.breakPatternsCmpFunc[skep/api.Cell]", by decide, Tryd.func83.trans (congrArg some (by kernel_rfl))⟩
  f23 := ⟨ "slices.choosePivotCmpFunc[skep/api.Cell]", by decide, Tryd.func84.trans (congrArg some (by kernel_rfl))⟩
  f24 := ⟨ "slices.reverseRangeCmpFunc[skep/api.Cell]", by decide, Tryd.func85.trans (congrArg some (by kernel_rfl))⟩
  f25 := ⟨ "slices.partialInsertionSortCmpFunc[skep/api.Cell]", by decide, Tryd.func86.trans (congrArg some (by kernel_rfl))⟩
  f26 := ⟨ "slices.partitionEqualCmpFunc[skep/api.Cell]", by decide, Tryd.func87.trans (congrArg some (by kernel_rfl))⟩
  f27 := ⟨ "slices.partitionCmpFunc[skep/api.Cell]", by decide, Tryd.func88.trans (congrArg some (by kernel_rfl))⟩
  f28 := Tryd.func89.trans (congrArg some (by kernel_rfl))
  f29 := Tryd.func90.trans (congrArg some (by kernel_rfl))
  f46 := ⟨ "slices.siftDownCmpFunc[skep/api.Cell]", by decide, Tryd.func91.trans (congrArg some (by kernel_rfl))⟩
  f47 := Tryd.func92.trans (congrArg some (by kernel_rfl))
  f48 := Tryd.func93.trans (congrArg some (by kernel_rfl))
  f49 := ⟨ "slices.medianAdjacentCmpFunc[skep/api.Cell]", by decide, Tryd.func94.trans (congrArg some (by kernel_rfl))⟩
  f50 := ⟨ "slices.medianCmpFunc[skep/api.Cell]", by decide, Tryd.func95.trans (congrArg some (by kernel_rfl))⟩
  f57 := ⟨ "slices.order2CmpFunc[skep/api.Cell]", by decide, Tryd.func96.trans (congrArg some (by kernel_rfl))⟩
  t0 := Tryd.underlying0
  a0 := Tryd.isAgg0
  z0 := Tryd.sizeOf0
  v0 := Tryd.zeroValue0
  t3 := Tryd.underlying3
  a3 := Tryd.isAgg3
  z3 := Tryd.sizeOf3
  v3 := Tryd.zeroValue3
  t4 := Tryd.underlying4
  a4 := Tryd.isAgg4
  z4 := Tryd.sizeOf4
  v4 := Tryd.zeroValue4
  t5 := Tryd.underlying5
  a5 := Tryd.isAgg5
  z5 := Tryd.sizeOf5
  v5 := Tryd.zeroValue5
  t9 := Tryd.underlying9
  a9 := Tryd.isAgg9
  z9 := Tryd.sizeOf9
  v9 := Tryd.zeroValue9
  t22 := Tryd.underlying22
  a22 := Tryd.isAgg22
  z22 := Tryd.sizeOf22
  v22 := Tryd.zeroValue22
  t25 := Tryd.underlying64
  a25 := Tryd.isAgg64
  z25 := Tryd.sizeOf64
  v25 := Tryd.zeroValue64
  t39 := Tryd.underlying100
  a39 := Tryd.isAgg100
  z39 := Tryd.sizeOf100
  v39 := Tryd.zeroValue100
  t45 := Tryd.underlying104
  a45 := Tryd.isAgg104
  z45 := Tryd.sizeOf104
  v45 := Tryd.zeroValue104
  t46 := Tryd.underlying105
  a46 := Tryd.isAgg105
  z46 := Tryd.sizeOf105
  v46 := Tryd.zeroValue105
  t50 := Tryd.underlying109
  a50 := Tryd.isAgg109
  z50 := Tryd.sizeOf109
  v50 := Tryd.zeroValue109
  t53 := Tryd.underlying112
  a53 := Tryd.isAgg112
  z53 := Tryd.sizeOf112
  v53 := Tryd.zeroValue112
  t55 := Tryd.underlying114
  a55 := Tryd.isAgg114
  z55 := Tryd.sizeOf114
  v55 := Tryd.zeroValue114
  t66 := Tryd.underlying115
  a66 := Tryd.isAgg115
  z66 := Tryd.sizeOf115
  v66 := Tryd.zeroValue115
  t70 := Tryd.underlying55
  a70 := Tryd.isAgg55
  z70 := Tryd.sizeOf55
  v70 := Tryd.zeroValue55
  t76 := Tryd.underlying120
  a76 := Tryd.isAgg120
  z76 := Tryd.sizeOf120
  v76 := Tryd.zeroValue120
  t77 := Tryd.underlying121
  a77 := Tryd.isAgg121
  z77 := Tryd.sizeOf121
  v77 := Tryd.zeroValue121
end Go.Proofs.YtnpdploihlgcgaaDoor
end
