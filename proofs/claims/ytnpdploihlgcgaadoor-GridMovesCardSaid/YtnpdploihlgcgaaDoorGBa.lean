/- The stack cells, told to any yield; cells gathered in a row. -/
import Derived.Test.YtnpdploihlgcgaaDoorGW
import Derived.Test.YtnpdploihlgcgaaDoorGLS
set_option linter.unusedSimpArgs false
set_option linter.unusedVariables false
set_option maxRecDepth 100000
namespace Go.Proofs.YtnpdploihlgcgaaDoor
open Go Go.HL

theorem store22 {G h : Hp} {lb : Nat} {z : Value} {a : Option Addr} {n c : Nat} {K : Unit → Hp → Prop} (hb : h lb = some (.cells #[z] 22 (0, 0))) :
    wpH Tryd.prog G (Instr.storeAt 22 (.pointer (some ⟨lb, 0, none⟩)) (.slice a n c)) h K = K () (h.set lb (.cells #[.slice a n c] 22 (0, 0))) := by
  rw [store1_eq sz22 rfl hb (by simp)]
  rfl

abbrev cellO (c : Cell) : Obj := .cells #[.int .i64 c.1, .int .i64 c.2] 28 (0, 0)

theorem yield67_spec {G a : Hp} {lb mb : Nat} {most : Int} {L : List Cell} {m : Cell} (y : GYb cellC 28 22 most lb mb L a) (hm : most ≤ 100000) :
    HCalls Tryd.prog G 67 #[cellV m, .pointer (some ⟨lb, 0, none⟩), .pointer (some ⟨mb, 0, none⟩)] a (fun v a' => v = .bool (lessC most (L ++ [m])) ∧ GY cellC 28 22 most lb mb (L ++ [m]) a') := by
  obtain ⟨⟨ip, v, o, s⟩, hlen⟩ := y
  refine HCalls.assume fun d => enter67 (by simp) ?_
  unfold S67
  simp -implicitDefEqProofs (maxSteps := 2000000) (disch := first | with_reducible exact Nat.ne_of_beq_eq_false rfl | exact oneCell_int | exact oneCell_bool | omega | rfl | (simp; done) | fail) only [regs0, regs1, regs2, retK_ret, resL_tmp, upd_eq, resL_nil1, opH_sv, ld3, ld22, opH_su, box_new, cells_agg, ld28, add_mk, Nat.add_zero, cell_set_self, List.getElem?_cons_zero, Option.some.injEq, Nat.zero_add, List.getElem?_cons_succ, bs22_1_0, exists_eq_left']
  intro x hx gx
  have s1 := s.past (o := cellO m) hx
  have d1 := d.set (o := cellO m) gx
  have hx1 : (a.set x (cellO m)) x = some (cellO m) := set_self
  generalize Hp.set a x _ = h1 at s1 d1 hx1 ⊢
  have clb : ∀ j, cellIn G h1 ⟨lb, j, none⟩ = _ := fun j => cell_of (look_own (s1.at 1 rfl set_self))
  have cx : ∀ j, cellIn G h1 ⟨x, j, none⟩ = _ := fun j => cell_of (look_own hx1)
  try simp -implicitDefEqProofs (maxSteps := 2000000) (disch := first | with_reducible exact Nat.ne_of_beq_eq_false rfl | exact oneCell_int | exact oneCell_bool | omega | rfl | (simp; done) | fail) only [clb, List.getElem?_cons_zero, Option.some.injEq, exists_eq_left']
  intro b hb gb
  have s2 := s1.past (o := cellO m) hb
  have d2 := d1.set (o := cellO m) gb
  have hb2 : (h1.set b (cellO m)) b = some (cellO m) := set_self
  generalize Hp.set h1 b _ = h2 at s2 d2 hb2 ⊢
  refine append_piece cellC (by decide) un22 eocell (by decide) (by decide) (M := [m]) s2 d2 o (Sees.row (c := cellC) (L := [m]) hb2 rfl (Nat.le_refl _)) (by simp; omega) fun v3 a3 h3 o3 s3 d3 => ?_
  obtain ⟨sa, cap, rfl, hcap⟩ := o3.len (by decide)
  have hlb3 := s3.at 1 rfl set_self
  try simp -implicitDefEqProofs (maxSteps := 2000000) (disch := first | with_reducible exact Nat.ne_of_beq_eq_false rfl | exact oneCell_int | exact oneCell_bool | omega | rfl | (simp; done) | fail) only [opH_sv, opH_su, pureW_sv, opH_nil, pureW_nil, pick_t, pick_f, pick_tp, pick_fp, gd_tt, gd_ft, gd_tf, gd_ff, box_new, regs0, regs1, regs2, regs3, regs4, regs5, regs6, cells_agg, cells_int, cells_bool, cells_ptr, cells_slice, cells_string, cells_func, cells_nilFunc, cells_map, retK_ret, retK_normal, resL_tmp, resL_cell, resL_nil0, resL_nil1, resL_nil2, resL_nil3, resC_ptr, ex0, ex1, ex2, ex0p, ex1p, ex2p, HL.cond_true, HL.cond_false, thenK_normal, thenK_ret, thenK_exit, blockK_normal, blockK_ret, blockK_exit, scopeK_normal, scopeK_ret, scopeK_exit, wpH_pure, bin_add, bin_sub, bin_mul, bin_lss, bin_leq, bin_gtr, bin_geq, bin_quo, bin_rem, bin_quop, bin_remp, wrap_in, bin_addp, bin_subp, bin_mulp, bin_lssp, bin_leqp, bin_gtrp, bin_geqp, un_not, un_notp, un_neg, eq_int, ne_int, eq_intp, ne_intp, callV_fn, add_mk, upd_eq, upd_ne, cell_set_self, Nat.zero_add, Nat.add_zero, Option.some.injEq, exists_eq_left', List.getElem?_cons_succ, List.getElem?_cons_zero, true_and, and_true, bne_self_eq_false, beq_self_eq_true, Bool.not_true, Bool.not_false, Bool.and_true, Bool.and_self, Bool.and_false, Bool.true_and, List.length_cons, List.length_nil, ne_eq, not_false_eq_true, Nat.reduceAdd, Nat.reduceMul, if_true, if_false, oneCell_int, oneCell_bool, oneCell_ptr, oneCell_slice, oneCell_string, oneCell_func, oneCell_map, Int.toNat_natCast, List.set_cons_zero, List.set_cons_succ, Nat.lt_irrefl, Nat.zero_lt_succ, Nat.succ_lt_succ_iff, fa26_0, fa26_0p, fa26_1, fa26_1p, fa26_10, fa26_10p, fa26_11, fa26_11p, fa26_12, fa26_12p, fa26_13, fa26_13p, fa26_14, fa26_14p, fa26_2, fa26_2p, fa26_3, fa26_3p, fa26_4, fa26_4p, fa26_5, fa26_5p, fa26_6, fa26_6p, fa26_7, fa26_7p, fa26_8, fa26_8p, fa26_9, fa26_9p, fa28_0, fa28_0p, fa28_1, fa28_1p, fa30_0, fa30_0p, fa30_1, fa30_1p, fa46_0, fa46_0p, fa46_1, fa46_1p, fa46_2, fa46_2p, fa46_3, fa46_3p, fa46_4, fa46_4p, fa46_5, fa46_5p, fa46_6, fa46_6p, fa86_0, fa86_0p, fa86_1, fa86_1p, fa86_2, fa86_2p, fa95_0, fa95_0p, fa95_1, fa95_1p, ld3, ld3p, ld4, ld4p, ld22, ld22p, ld23, ld23p, ld24, ld24p, ld26, ld26p, ld28, ld28p, ld30, ld30p, ld31, ld31p, ld46, ld46p, ld47, ld47p, ld52, ld52p, ld55, ld55p, ld57, ld57p, ld95, ld95p, st3s, st4s, st22s, st23s, st24s, st26w, st28w, st30w, st46w, st47s, st55s, st95w, ix22, ix22p, ix23, ix23p, ix24, ix24p, ix47, ix47p, ix56, ix56p, ix57, ix57p, ix101, ix101p, ln22, ln22p, ln23, ln23p, ln24, ln24p, ln47, ln47p, ln56, ln56p, ln57, ln57p, al22, al26, al28, al30, al46, al47, al95, cf14, cf15, cf16, cf17, cf18, cf19, cf20, cf21, cf22, cf23, cf24, cf25, cf26, cf27, cf28, cf29, cf30, cf31, cf32, cf33, cf34, cf35, cf36, cf37, cf38, cf39, cf40, cf41, cf42, cf43, cf44, cf45, cf46, cf47, cf48, cf49, cf50, cf51, cf52, cf53, cf54, cf55, cf56, cf57, cf58, cf59, cf60, cf61, cf62, cf63, cf64, cf65, cf66, cf67, cf68, cf69, cf70, cf71, cf72, cf73, cf74, cf75, cf76, cf77, cf78, cf79, cf80, bd26_0_1_2_7_8_9_10_11_12_13_14, bd26_0_1_2_7_8_9_10_11_12_13_14p, bd28_0, bd28_0p, bd28_0_1, bd28_0_1p, bd30_, bd30_p, bd30_0_1, bd30_0_1p, bd30_0, bd30_0p, bd46_0_1_2_3_4, bd46_0_1_2_3_4p, bd46_0_3_4, bd46_0_3_4p, bd86_0_1_2, bd86_0_1_2p, bd87_0_1_2_3, bd87_0_1_2_3p, bd95_0_1, bd95_0_1p, bs22_2_0_1, bs47_1_0, bs22_1_0, bs57_6_0_1_2_3_4_5, bs24_1_0, bs22_4_0_1_2_3, bs56_11_0_1_2_3_4_5_6_7_8_9_10, bs57_11_0_1_2_3_4_5_6_7_8_9_10, eq4, eq4p, eq28, eq28p, eq30, eq30p, eq31n, eq31np, eq31s, eq31sp, eq46, eq46p, eq50n, eq50np, eq50s, eq50sp, eq67n, eq67np, eq67s, eq67sp, ne4, ne4p, ne28, ne28p, ne30, ne30p, ne31n, ne31np, ne31s, ne31sp, ne46, ne46p]
  rw [store22 hlb3]
  have s4 := (s3.pick 1 rfl rfl).put (o := .cells #[.slice sa (L ++ [m]).length cap] 22 (0, 0)) set_self
  rw [set_set] at s4
  have clb4 : ∀ j, cellIn G (h3.set lb (.cells #[.slice sa (L ++ [m]).length cap] 22 (0, 0))) ⟨lb, j, none⟩ = _ := fun j => cell_of (look_own (s4.at 0 rfl set_self))
  have cmb4 : ∀ j, cellIn G (h3.set lb (.cells #[.slice sa (L ++ [m]).length cap] 22 (0, 0))) ⟨mb, j, none⟩ = _ := fun j => cell_of (look_own (s4.at 2 rfl set_self))
  try simp -implicitDefEqProofs (maxSteps := 2000000) (disch := first | with_reducible exact Nat.ne_of_beq_eq_false rfl | exact oneCell_int | exact oneCell_bool | omega | rfl | (simp; done) | fail) only [clb4, List.getElem?_cons_zero, Option.some.injEq, exists_eq_left', ln22, cmb4, bin_lss]
  refine ⟨?_, a3, _, o3, s4.swap⟩
  first | rfl | simp [lessC]

theorem gather_cl {G : Hp} {lb mb : Nat} {most : Int} (hm : most ≤ 100000) : Yl cellV G (.func (.func 67) #[] #[.pointer (some ⟨lb, 0, none⟩), .pointer (some ⟨mb, 0, none⟩)]) (GYb cellC 28 22 most lb mb) (GY cellC 28 22 most lb mb) (lessC most) := by
  intro L m a q h y s d
  simp -implicitDefEqProofs (maxSteps := 2000000) (disch := first | with_reducible exact Nat.ne_of_beq_eq_false rfl | exact oneCell_int | exact oneCell_bool | omega | rfl | (simp; done) | fail) only [callV_fn, cf67]
  refine (s.on (yield67_spec y hm)).mono ?_
  rintro v h' ⟨a', ⟨rfl, gy⟩, s', d'⟩
  refine ⟨a', rfl, s', d', ?_⟩
  split
  · rename_i hc
    exact ⟨gy, of_decide_eq_true hc⟩
  · exact gy

def pickFrom {α : Type} (p : Nat → Bool) (mk : Nat → α) : Nat → Nat → List α
  | _, 0 => []
  | n, k + 1 => if p n = true then mk n :: pickFrom p mk (n + 1) k else pickFrom p mk (n + 1) k
def stP (w : Nat) (f : Nat → Nat → Int) (n : Nat) : Bool := f (n % w) (n / w) == 0
def stM (w : Nat) (n : Nat) : Cell := (((n % w : Nat) : Int), ((n / w : Nat) : Int))
def stacksW (w k : Nat) (f : Nat → Nat → Int) : List Cell := pickFrom (stP w f) (stM w) 0 (w * k)

def CellsR (G q : Hp) (Y Z : List Cell → Hp → Prop) (T : List Cell × Bool) (h' : Hp) : Prop := ∃ a', Sep [a', q] h' ∧ Dis G h' ∧ Fin T Y Z a'

set_option maxHeartbeats 2000000 in
theorem stacks1_spec {G h a q : Hp} {y g : Value} {Y Z : List Cell → Hp → Prop} {c : List Cell → Bool} {L : List Cell} {gb w k : Nat} {f : Nat → Nat → Int}
    (yl : Yl cellV G y Y Z c) (ya : Y L a) (s : Sep [a, q] h) (hg : q gb = some (.cells #[g] 31 (0, 0))) (gs : GS G q g w k f) :
    HCalls Tryd.prog G 66 #[y, .pointer (some ⟨gb, 0, none⟩)] h (fun _ h' => CellsR G q Y Z (feed c L (stacksW w k f)) h') := by
  refine HCalls.assume fun d => enter66 (by simp) ?_
  unfold S66
  have gsq := gs
  obtain ⟨⟨gp, kb, rfl, g1, g2⟩, w1, w2, k1, k2⟩ := gs
  have cg : ∀ {h3 : Hp} {a : Hp}, Sep [a, q] h3 → ∀ j, cellIn G h3 ⟨gb, j, none⟩ = _ := fun s j => cell_of (look_own (s.at 1 rfl hg))
  have cw : ∀ {h3 : Hp} {a : Hp}, Sep [a, q] h3 → Dis G h3 → cellIn G h3 ⟨gp, 0, none⟩ = some (.int .i64 w) := fun s d => cell_up (s.in 1 rfl) d (g1 0 (by decide))
  have ck : cellIn G h ⟨gp, 2, none⟩ = some (.slice (some ⟨kb, 0, none⟩) (w * k) (w * k)) := cell_up (s.in 1 rfl) d (g1 2 (by decide))
  try simp -implicitDefEqProofs (maxSteps := 2000000) (disch := first | with_reducible exact Nat.ne_of_beq_eq_false rfl | exact oneCell_int | exact oneCell_bool | omega | rfl | (simp; done) | fail) only [regs1, retK_ret, resL_nil0, opH_sv, ld31, cg s, List.getElem?_cons_zero, Option.some.injEq, exists_eq_left', eq31s, HL.cond_false]
  unfold S66_k1
  try simp -implicitDefEqProofs (maxSteps := 2000000) (disch := first | with_reducible exact Nat.ne_of_beq_eq_false rfl | exact oneCell_int | exact oneCell_bool | omega | rfl | (simp; done) | fail) only [upd_ne, regs1, opH_sv, ld31, cg s, List.getElem?_cons_zero, Option.some.injEq, exists_eq_left', opH_nil, fa86_2, add_mk, Nat.zero_add, ld57, ck, ln57]
  generalize hT : feed c L (stacksW w k f) = T
  refine loop_I (fun m r h3 => ∃ (i : Nat) (a : Hp) (L : List Cell), m = w * k - i ∧ i ≤ w * k ∧ r 0 = y ∧ r 1 = .pointer (some ⟨gb, 0, none⟩) ∧ r 10 = .slice (some ⟨kb, 0, none⟩) (w * k) (w * k) ∧ r 11 = .int .i64 ((w * k : Nat) : Int) ∧ r 12 = .int .i64 i ∧ Sep [a, q] h3 ∧ Dis G h3 ∧ Y L a ∧ feed c L (pickFrom (stP w f) (stM w) i (w * k - i)) = T) ?_
    (m := w * k) ⟨0, a, L, rfl, Nat.zero_le _, by simp -implicitDefEqProofs (maxSteps := 2000000) (disch := first | with_reducible exact Nat.ne_of_beq_eq_false rfl | exact oneCell_int | exact oneCell_bool | omega | rfl | (simp; done) | fail) only [upd_ne, regs0], by simp -implicitDefEqProofs (maxSteps := 2000000) (disch := first | with_reducible exact Nat.ne_of_beq_eq_false rfl | exact oneCell_int | exact oneCell_bool | omega | rfl | (simp; done) | fail) only [upd_ne, regs1], by simp -implicitDefEqProofs (maxSteps := 2000000) (disch := first | with_reducible exact Nat.ne_of_beq_eq_false rfl | exact oneCell_int | exact oneCell_bool | omega | rfl | (simp; done) | fail) only [upd_ne, upd_eq], by simp -implicitDefEqProofs (maxSteps := 2000000) (disch := first | with_reducible exact Nat.ne_of_beq_eq_false rfl | exact oneCell_int | exact oneCell_bool | omega | rfl | (simp; done) | fail) only [upd_ne, upd_eq], by simp -implicitDefEqProofs (maxSteps := 2000000) (disch := first | with_reducible exact Nat.ne_of_beq_eq_false rfl | exact oneCell_int | exact oneCell_bool | omega | rfl | (simp; done) | fail) only [upd_eq] <;> rfl, s, d, ya, hT⟩
  rintro m r h3 ⟨i, a, L, rfl, hi, q0, q1, q10, q11, q12, s, d, ya, hT⟩ X HX
  unfold S66_l2
  simp -implicitDefEqProofs (maxSteps := 2000000) (disch := first | with_reducible exact Nat.ne_of_beq_eq_false rfl | exact oneCell_int | exact oneCell_bool | omega | rfl | (simp; done) | fail) only [q12, q11, thenK_exit, blockK_exit, retK_normal, resL_nil0, if_true, opH_sv, bin_lss]
  refine cond_dec (fun hlt => ?_) (fun hge => ?_)
  rotate_left
  · obtain rfl : i = w * k := by omega
    rw [Nat.sub_self] at hT
    try simp -implicitDefEqProofs (maxSteps := 2000000) (disch := first | with_reducible exact Nat.ne_of_beq_eq_false rfl | exact oneCell_int | exact oneCell_bool | omega | rfl | (simp; done) | fail) only [opH_sv, opH_su, pureW_sv, opH_nil, pureW_nil, pick_t, pick_f, pick_tp, pick_fp, gd_tt, gd_ft, gd_tf, gd_ff, box_new, regs0, regs1, regs2, regs3, regs4, regs5, regs6, cells_agg, cells_int, cells_bool, cells_ptr, cells_slice, cells_string, cells_func, cells_nilFunc, cells_map, retK_ret, retK_normal, resL_tmp, resL_cell, resL_nil0, resL_nil1, resL_nil2, resL_nil3, resC_ptr, ex0, ex1, ex2, ex0p, ex1p, ex2p, HL.cond_true, HL.cond_false, thenK_normal, thenK_ret, thenK_exit, blockK_normal, blockK_ret, blockK_exit, scopeK_normal, scopeK_ret, scopeK_exit, wpH_pure, bin_add, bin_sub, bin_mul, bin_lss, bin_leq, bin_gtr, bin_geq, bin_quo, bin_rem, bin_quop, bin_remp, wrap_in, bin_addp, bin_subp, bin_mulp, bin_lssp, bin_leqp, bin_gtrp, bin_geqp, un_not, un_notp, un_neg, eq_int, ne_int, eq_intp, ne_intp, callV_fn, add_mk, upd_eq, upd_ne, cell_set_self, Nat.zero_add, Nat.add_zero, Option.some.injEq, exists_eq_left', List.getElem?_cons_succ, List.getElem?_cons_zero, true_and, and_true, bne_self_eq_false, beq_self_eq_true, Bool.not_true, Bool.not_false, Bool.and_true, Bool.and_self, Bool.and_false, Bool.true_and, List.length_cons, List.length_nil, ne_eq, not_false_eq_true, Nat.reduceAdd, Nat.reduceMul, if_true, if_false, oneCell_int, oneCell_bool, oneCell_ptr, oneCell_slice, oneCell_string, oneCell_func, oneCell_map, Int.toNat_natCast, List.set_cons_zero, List.set_cons_succ, Nat.lt_irrefl, Nat.zero_lt_succ, Nat.succ_lt_succ_iff, fa26_0, fa26_0p, fa26_1, fa26_1p, fa26_10, fa26_10p, fa26_11, fa26_11p, fa26_12, fa26_12p, fa26_13, fa26_13p, fa26_14, fa26_14p, fa26_2, fa26_2p, fa26_3, fa26_3p, fa26_4, fa26_4p, fa26_5, fa26_5p, fa26_6, fa26_6p, fa26_7, fa26_7p, fa26_8, fa26_8p, fa26_9, fa26_9p, fa28_0, fa28_0p, fa28_1, fa28_1p, fa30_0, fa30_0p, fa30_1, fa30_1p, fa46_0, fa46_0p, fa46_1, fa46_1p, fa46_2, fa46_2p, fa46_3, fa46_3p, fa46_4, fa46_4p, fa46_5, fa46_5p, fa46_6, fa46_6p, fa86_0, fa86_0p, fa86_1, fa86_1p, fa86_2, fa86_2p, fa95_0, fa95_0p, fa95_1, fa95_1p, ld3, ld3p, ld4, ld4p, ld22, ld22p, ld23, ld23p, ld24, ld24p, ld26, ld26p, ld28, ld28p, ld30, ld30p, ld31, ld31p, ld46, ld46p, ld47, ld47p, ld52, ld52p, ld55, ld55p, ld57, ld57p, ld95, ld95p, st3s, st4s, st22s, st23s, st24s, st26w, st28w, st30w, st46w, st47s, st55s, st95w, ix22, ix22p, ix23, ix23p, ix24, ix24p, ix47, ix47p, ix56, ix56p, ix57, ix57p, ix101, ix101p, ln22, ln22p, ln23, ln23p, ln24, ln24p, ln47, ln47p, ln56, ln56p, ln57, ln57p, al22, al26, al28, al30, al46, al47, al95, cf14, cf15, cf16, cf17, cf18, cf19, cf20, cf21, cf22, cf23, cf24, cf25, cf26, cf27, cf28, cf29, cf30, cf31, cf32, cf33, cf34, cf35, cf36, cf37, cf38, cf39, cf40, cf41, cf42, cf43, cf44, cf45, cf46, cf47, cf48, cf49, cf50, cf51, cf52, cf53, cf54, cf55, cf56, cf57, cf58, cf59, cf60, cf61, cf62, cf63, cf64, cf65, cf66, cf67, cf68, cf69, cf70, cf71, cf72, cf73, cf74, cf75, cf76, cf77, cf78, cf79, cf80, bd26_0_1_2_7_8_9_10_11_12_13_14, bd26_0_1_2_7_8_9_10_11_12_13_14p, bd28_0, bd28_0p, bd28_0_1, bd28_0_1p, bd30_, bd30_p, bd30_0_1, bd30_0_1p, bd30_0, bd30_0p, bd46_0_1_2_3_4, bd46_0_1_2_3_4p, bd46_0_3_4, bd46_0_3_4p, bd86_0_1_2, bd86_0_1_2p, bd87_0_1_2_3, bd87_0_1_2_3p, bd95_0_1, bd95_0_1p, bs22_2_0_1, bs47_1_0, bs22_1_0, bs57_6_0_1_2_3_4_5, bs24_1_0, bs22_4_0_1_2_3, bs56_11_0_1_2_3_4_5_6_7_8_9_10, bs57_11_0_1_2_3_4_5_6_7_8_9_10, eq4, eq4p, eq28, eq28p, eq30, eq30p, eq31n, eq31np, eq31s, eq31sp, eq46, eq46p, eq50n, eq50np, eq50s, eq50sp, eq67n, eq67np, eq67s, eq67sp, ne4, ne4p, ne28, ne28p, ne30, ne30p, ne31n, ne31np, ne31s, ne31sp, ne46, ne46p]
    refine ⟨a, s, d, ?_⟩
    rw [← hT]
    exact ya
  have hlt' : i < w * k := by omega
  have hwk : w * k ≤ 16 * 16 := Nat.mul_le_mul w2 k2
  have kk : cellIn G h3 ⟨kb, i, none⟩ = some (.int .i64 (f (i % w) (i / w))) := cell_up (s.in 1 rfl) d (g2 i _ (gridL_at hlt'))
  have erest : pickFrom (stP w f) (stM w) i (w * k - i) = if stP w f i = true then stM w i :: pickFrom (stP w f) (stM w) (i + 1) (w * k - (i + 1)) else pickFrom (stP w f) (stM w) (i + 1) (w * k - (i + 1)) := by
    rw [show w * k - i = (w * k - (i + 1)) + 1 by omega]
    rfl
  rw [erest] at hT
  unfold S66_l2_k3
  simp -implicitDefEqProofs (maxSteps := 2000000) (disch := first | with_reducible exact Nat.ne_of_beq_eq_false rfl | exact oneCell_int | exact oneCell_bool | omega | rfl | (simp; done) | fail) only [upd_ne, q10, q12, q0, q1, thenK_ret, blockK_ret, retK_ret, resL_nil0, opH_sv, ix57n hlt', ld3, kk, Option.some.injEq, exists_eq_left', eq_intp]
  have next : ∀ (r3 : Rg) h5 (a : Hp) (L : List Cell), r3 0 = r 0 → r3 1 = r 1 → r3 10 = r 10 → r3 11 = r 11 → r3 12 = r 12 → Sep [a, q] h5 → Dis G h5 → Y L a → feed c L (pickFrom (stP w f) (stM w) (i + 1) (w * k - (i + 1))) = T →
      S66_l2_k4 G (thenK X (blockK 0 (retK Tryd.prog G [] fun x h' => CellsR G q Y Z T h'))) r3 h5 := by
    intro r3 h5 a L v0 v1 v10 v11 v12 s5 d5 ya5 hT5
    unfold S66_l2_k4
    have v12' := v12.trans q12
    simp -implicitDefEqProofs (maxSteps := 2000000) (disch := first | with_reducible exact Nat.ne_of_beq_eq_false rfl | exact oneCell_int | exact oneCell_bool | omega | rfl | (simp; done) | fail) only [v12', thenK_normal, opH_sv, bin_add, wrap_in]
    refine HX (w * k - (i + 1)) _ _ (by omega) ⟨i + 1, a, L, rfl, hlt', by simp -implicitDefEqProofs (maxSteps := 2000000) (disch := first | with_reducible exact Nat.ne_of_beq_eq_false rfl | exact oneCell_int | exact oneCell_bool | omega | rfl | (simp; done) | fail) only [upd_ne, v0, q0], by simp -implicitDefEqProofs (maxSteps := 2000000) (disch := first | with_reducible exact Nat.ne_of_beq_eq_false rfl | exact oneCell_int | exact oneCell_bool | omega | rfl | (simp; done) | fail) only [upd_ne, v1, q1], by simp -implicitDefEqProofs (maxSteps := 2000000) (disch := first | with_reducible exact Nat.ne_of_beq_eq_false rfl | exact oneCell_int | exact oneCell_bool | omega | rfl | (simp; done) | fail) only [upd_ne, v10, q10], by simp -implicitDefEqProofs (maxSteps := 2000000) (disch := first | with_reducible exact Nat.ne_of_beq_eq_false rfl | exact oneCell_int | exact oneCell_bool | omega | rfl | (simp; done) | fail) only [upd_ne, v11, q11], by simp -implicitDefEqProofs (maxSteps := 2000000) (disch := first | with_reducible exact Nat.ne_of_beq_eq_false rfl | exact oneCell_int | exact oneCell_bool | omega | rfl | (simp; done) | fail) only [upd_eq] <;> rfl, s5, d5, ya5, hT5⟩
  by_cases hz : f (i % w) (i / w) = 0
  · have hp : stP w f i = true := by unfold stP; rw [hz]; rfl
    rw [hp, if_pos rfl] at hT
    have e1 : ((i : Int)).tmod (w : Int) = ((i % w : Nat) : Int) := by rw [Int.tmod_eq_emod_of_nonneg (by omega)]; rfl
    have e2 : ((i : Int)).tdiv (w : Int) = ((i / w : Nat) : Int) := by rw [Int.tdiv_eq_ediv_of_nonneg (by omega)]; rfl
    have hdiv : i / w ≤ i := Nat.div_le_self _ _
    have ew : IntKind.i64.wrap ((i / w : Nat) : Int) = ((i / w : Nat) : Int) := by
      generalize i / w = z at hdiv ⊢
      exact wrap_in (by omega) (by omega)
    try simp -implicitDefEqProofs (maxSteps := 2000000) (disch := first | with_reducible exact Nat.ne_of_beq_eq_false rfl | exact oneCell_int | exact oneCell_bool | omega | rfl | (simp; done) | fail) only [hz, beq_self_eq_true, pick_tp, gd_tt, pureW_sv, ld31p, cg s, List.getElem?_cons_zero, Option.some.injEq, exists_eq_left', pureW_nil, fa86_0p, add_mk, Nat.add_zero, ld3p, cw s d, bin_quop, e2, ew, bin_remp, e1, bd28_0_1p]
    refine opH_mono (fun v h6 H => ?_) (yl L (stM w i) a q h3 ya s d)
    obtain ⟨a6, rfl, s6, d6, z6⟩ := H
    cases hc : c (L ++ [stM w i]) with
    | false =>
      try simp -implicitDefEqProofs (maxSteps := 2000000) (disch := first | with_reducible exact Nat.ne_of_beq_eq_false rfl | exact oneCell_int | exact oneCell_bool | omega | rfl | (simp; done) | fail) only [un_notp, Bool.not_false, HL.cond_true]
      rw [hc] at z6
      rw [feed_f hc] at hT
      refine ⟨a6, s6, d6, ?_⟩
      rw [← hT]
      exact z6
    | true =>
      try simp -implicitDefEqProofs (maxSteps := 2000000) (disch := first | with_reducible exact Nat.ne_of_beq_eq_false rfl | exact oneCell_int | exact oneCell_bool | omega | rfl | (simp; done) | fail) only [un_notp, Bool.not_true, HL.cond_false]
      rw [hc] at z6
      rw [feed_t hc] at hT
      exact next _ _ a6 _ (by simp -implicitDefEqProofs (maxSteps := 2000000) (disch := first | with_reducible exact Nat.ne_of_beq_eq_false rfl | exact oneCell_int | exact oneCell_bool | omega | rfl | (simp; done) | fail) only [upd_ne]) (by simp -implicitDefEqProofs (maxSteps := 2000000) (disch := first | with_reducible exact Nat.ne_of_beq_eq_false rfl | exact oneCell_int | exact oneCell_bool | omega | rfl | (simp; done) | fail) only [upd_ne]) (by simp -implicitDefEqProofs (maxSteps := 2000000) (disch := first | with_reducible exact Nat.ne_of_beq_eq_false rfl | exact oneCell_int | exact oneCell_bool | omega | rfl | (simp; done) | fail) only [upd_ne]) (by simp -implicitDefEqProofs (maxSteps := 2000000) (disch := first | with_reducible exact Nat.ne_of_beq_eq_false rfl | exact oneCell_int | exact oneCell_bool | omega | rfl | (simp; done) | fail) only [upd_ne]) (by simp -implicitDefEqProofs (maxSteps := 2000000) (disch := first | with_reducible exact Nat.ne_of_beq_eq_false rfl | exact oneCell_int | exact oneCell_bool | omega | rfl | (simp; done) | fail) only [upd_ne]) s6 d6 z6 hT
  · have hp : stP w f i = false := by unfold stP; simpa using hz
    rw [hp, if_neg (by simp)] at hT
    try simp -implicitDefEqProofs (maxSteps := 2000000) (disch := first | with_reducible exact Nat.ne_of_beq_eq_false rfl | exact oneCell_int | exact oneCell_bool | omega | rfl | (simp; done) | fail) only [show (f (i % w) (i / w) == 0) = false by simpa using hz, pick_fp, HL.cond_false, gd_ft]
    exact next _ _ a L (by simp -implicitDefEqProofs (maxSteps := 2000000) (disch := first | with_reducible exact Nat.ne_of_beq_eq_false rfl | exact oneCell_int | exact oneCell_bool | omega | rfl | (simp; done) | fail) only [upd_ne]) (by simp -implicitDefEqProofs (maxSteps := 2000000) (disch := first | with_reducible exact Nat.ne_of_beq_eq_false rfl | exact oneCell_int | exact oneCell_bool | omega | rfl | (simp; done) | fail) only [upd_ne]) (by simp -implicitDefEqProofs (maxSteps := 2000000) (disch := first | with_reducible exact Nat.ne_of_beq_eq_false rfl | exact oneCell_int | exact oneCell_bool | omega | rfl | (simp; done) | fail) only [upd_ne]) (by simp -implicitDefEqProofs (maxSteps := 2000000) (disch := first | with_reducible exact Nat.ne_of_beq_eq_false rfl | exact oneCell_int | exact oneCell_bool | omega | rfl | (simp; done) | fail) only [upd_ne]) (by simp -implicitDefEqProofs (maxSteps := 2000000) (disch := first | with_reducible exact Nat.ne_of_beq_eq_false rfl | exact oneCell_int | exact oneCell_bool | omega | rfl | (simp; done) | fail) only [upd_ne]) s d ya hT

theorem stacks41_spec {G h : Hp} {gp : Nat} : HCalls Tryd.prog G 41 #[.pointer (some ⟨gp, 0, none⟩)] h (fun u h' => ∃ b1, u = .func (.func 66) #[] #[.pointer (some ⟨b1, 0, none⟩)] ∧ h.le h' ∧ Dis G h' ∧ h' b1 = some (.cells #[.pointer (some ⟨gp, 0, none⟩)] 31 (0, 0))) := by
  refine HCalls.assume fun d => enter41 (by simp) ?_
  unfold S41
  simp -implicitDefEqProofs (maxSteps := 2000000) (disch := first | with_reducible exact Nat.ne_of_beq_eq_false rfl | exact oneCell_int | exact oneCell_bool | omega | rfl | (simp; done) | fail) only [regs0, retK_ret, resL_tmp, upd_eq, resL_nil1, opH_sv, box_new, cells_ptr]
  intro x hx gx
  exact ⟨x, rfl, le_set hx, d.set gx, set_self⟩

theorem cells45_spec {G h : Hp} {g : Value} {gb w k : Nat} {f : Nat → Nat → Int} {most : Int} (hg : h gb = some (.cells #[g] 31 (0, 0))) (gs : GS G h g w k f) (hm1 : 1 ≤ most) (hm2 : most ≤ 100000) :
    HCalls Tryd.prog G 45 #[.func (.func 66) #[] #[.pointer (some ⟨gb, 0, none⟩)], .int .i64 most] h (fun u h' => ∃ ip, Slc cellC 28 ip u ((stacksW w k f).take most.toNat) ∧ Sep [ip, h] h' ∧ Dis G h') := by
  refine HCalls.assume fun d => enter45 (by simp) ?_
  unfold S45
  simp -implicitDefEqProofs (maxSteps := 2000000) (disch := first | with_reducible exact Nat.ne_of_beq_eq_false rfl | exact oneCell_int | exact oneCell_bool | omega | rfl | (simp; done) | fail) only [regs1, regs0, retK_ret, resL_tmp, upd_eq, resL_nil1, eq67s, pick_f, gd_ff, opH_sv, al22, box_new, cells_int, ld3]
  intro mb hmb gmb lb hlb glb
  have s2 := ((Sep.one (h := h)).new (o := .cells #[.int .i64 most] 3 (0, 0)) hmb).new (o := .cells #[.slice none 0 0] 22 (0, 0)) hlb
  have d2 := (d.set (o := .cells #[.int .i64 most] 3 (0, 0)) gmb).set (o := .cells #[.slice none 0 0] 22 (0, 0)) glb
  generalize Hp.set (Hp.set h mb _) lb _ = h2 at s2 d2 ⊢
  have cmb : ∀ j, cellIn G h2 ⟨mb, j, none⟩ = _ := fun j => cell_of (look_own (s2.at 1 rfl set_self))
  have e1 : decide (most < 1) = false := decide_eq_false (by omega)
  try simp -implicitDefEqProofs (maxSteps := 2000000) (disch := first | with_reducible exact Nat.ne_of_beq_eq_false rfl | exact oneCell_int | exact oneCell_bool | omega | rfl | (simp; done) | fail) only [cmb, List.getElem?_cons_zero, Option.some.injEq, exists_eq_left', bin_lss, e1, HL.cond_false]
  unfold S45_k1
  try simp -implicitDefEqProofs (maxSteps := 2000000) (disch := first | with_reducible exact Nat.ne_of_beq_eq_false rfl | exact oneCell_int | exact oneCell_bool | omega | rfl | (simp; done) | fail) only [upd_ne, regs0, upd_eq, callV_fn, retK_ret, resL_tmp, resL_nil1, opH_sv, ld22, cf66]
  obtain ⟨a, s3, sa⟩ := s2.none.pack3
  have ya : GYb cellC 28 22 most lb mb [] a := ⟨⟨noHp, _, Slc.nil, sa⟩, by simp; omega⟩
  refine (stacks1_spec (gather_cl hm2) ya s3 hg gs).mono ?_
  rintro _ h4 ⟨a4, s4, d4, z4⟩
  rw [feed_less (by simp; omega)] at z4
  have gy : GY cellC 28 22 most lb mb ((stacksW w k f).take most.toNat) a4 := by
    unfold Fin at z4
    simp only [List.nil_append, List.length_nil, Nat.sub_zero] at z4
    split at z4
    · exact z4.1
    · exact z4
  obtain ⟨ip, v, o, t4⟩ := gy
  have s5 : Sep [h, ip, noHp.set lb (.cells #[v] 22 (0, 0)), noHp.set mb (.cells #[.int .i64 most] 3 (0, 0))] h4 := by
    have := s4.swap.split t4
    simpa using this
  have clb : ∀ j, cellIn G h4 ⟨lb, j, none⟩ = _ := fun j => cell_of (look_own (s5.at 2 rfl set_self))
  try simp -implicitDefEqProofs (maxSteps := 2000000) (disch := first | with_reducible exact Nat.ne_of_beq_eq_false rfl | exact oneCell_int | exact oneCell_bool | omega | rfl | (simp; done) | fail) only [clb, List.getElem?_cons_zero, Option.some.injEq, exists_eq_left']
  exact ⟨ip, o, (s5.take 2 rfl).swap, d4⟩

theorem samemoves_spec {G h : Hp} {u v : Value} {L M : List Move} (hL : Sees moveC G h u L) (hM : Sees moveC G h v M) (hlen : L.length ≤ 100000000000000) :
    HCalls Tryd.prog G 44 #[u, v] h (fun w h' => w = .bool (decide (L = M)) ∧ h' = h) := by
  refine quietly (enter44 (by simp) ?_)
  obtain ⟨sa, cap, rfl⟩ := hL.len
  obtain ⟨sb, cap', rfl⟩ := hM.len
  unfold S44
  simp -implicitDefEqProofs (maxSteps := 2000000) (disch := first | with_reducible exact Nat.ne_of_beq_eq_false rfl | exact oneCell_int | exact oneCell_bool | omega | rfl | (simp; done) | fail) only [regs0, regs1, retK_ret, resL_tmp, upd_eq, resL_nil1, opH_sv, ln47, ne_int]
  by_cases hlm : L.length = M.length
  · rw [show ((L.length : Int) != (M.length : Int)) = false by simp [hlm]]
    simp -implicitDefEqProofs (maxSteps := 2000000) (disch := first | with_reducible exact Nat.ne_of_beq_eq_false rfl | exact oneCell_int | exact oneCell_bool | omega | rfl | (simp; done) | fail) only [HL.cond_false]
    unfold S44_k1
    refine loop_I (fun m r h3 => ∃ (i : Nat), m = L.length - i ∧ i ≤ L.length ∧ r 0 = .slice sa L.length cap ∧ r 1 = .slice sb M.length cap' ∧ r 5 = .int .i64 i ∧ h3 = h ∧ L.take i = M.take i) ?_
     (m := L.length) ⟨0, rfl, Nat.zero_le _, by simp -implicitDefEqProofs (maxSteps := 2000000) (disch := first | with_reducible exact Nat.ne_of_beq_eq_false rfl | exact oneCell_int | exact oneCell_bool | omega | rfl | (simp; done) | fail) only [upd_ne, regs0], by simp -implicitDefEqProofs (maxSteps := 2000000) (disch := first | with_reducible exact Nat.ne_of_beq_eq_false rfl | exact oneCell_int | exact oneCell_bool | omega | rfl | (simp; done) | fail) only [upd_ne, regs1], by simp -implicitDefEqProofs (maxSteps := 2000000) (disch := first | with_reducible exact Nat.ne_of_beq_eq_false rfl | exact oneCell_int | exact oneCell_bool | omega | rfl | (simp; done) | fail) only [upd_eq]; rfl, rfl, by simp⟩
    rintro m r h ⟨i, rfl, hi, g0, g1, g5, rfl, htk⟩ X HX
    unfold S44_l3
    simp -implicitDefEqProofs (maxSteps := 2000000) (disch := first | with_reducible exact Nat.ne_of_beq_eq_false rfl | exact oneCell_int | exact oneCell_bool | omega | rfl | (simp; done) | fail) only [g0, g5, thenK_exit, blockK_exit, thenK_normal, if_true, opH_sv, ln47, bin_lss]
    refine cond_dec (fun hlt => ?_) (fun hge => ?_)
    · have hlt' : i < L.length := by omega
      obtain ⟨x, hx⟩ : ∃ x, L[i]? = some x := ⟨_, List.getElem?_eq_getElem hlt'⟩
      obtain ⟨y, hy⟩ : ∃ x, M[i]? = some x := ⟨_, List.getElem?_eq_getElem (by omega)⟩
      obtain ⟨b, o, c, e1, e2⟩ := hL.get hx
      obtain ⟨b', o', c', e3, e4⟩ := hM.get hy
      simp only [Value.slice.injEq] at e1 e3
      obtain ⟨rfl, -, -⟩ := e1
      obtain ⟨rfl, -, -⟩ := e3
      have x0 := e2 0 (by decide)
      have x1 := e2 1 (by decide)
      have x2 := e2 2 (by decide)
      have x3 := e2 3 (by decide)
      have x4 := e2 4 (by decide)
      have x5 := e2 5 (by decide)
      have x6 := e2 6 (by decide)
      have x7 := e2 7 (by decide)
      have x8 := e2 8 (by decide)
      have x9 := e2 9 (by decide)
      have x10 := e2 10 (by decide)
      have y0 := e4 0 (by decide)
      have y1 := e4 1 (by decide)
      have y2 := e4 2 (by decide)
      have y3 := e4 3 (by decide)
      have y4 := e4 4 (by decide)
      have y5 := e4 5 (by decide)
      have y6 := e4 6 (by decide)
      have y7 := e4 7 (by decide)
      have y8 := e4 8 (by decide)
      have y9 := e4 9 (by decide)
      have y10 := e4 10 (by decide)
      simp only [moveC, Nat.add_zero, List.getElem?_cons_zero, List.getElem?_cons_succ] at x0 x1 x2 x3 x4 x5 x6 x7 x8 x9 x10 y0 y1 y2 y3 y4 y5 y6 y7 y8 y9 y10
      unfold S44_l3_k4
      simp -implicitDefEqProofs (maxSteps := 2000000) (disch := first | with_reducible exact Nat.ne_of_beq_eq_false rfl | exact oneCell_int | exact oneCell_bool | omega | rfl | (simp; done) | fail) only [upd_ne, g0, g5, g1, thenK_ret, blockK_ret, retK_ret, resL_tmp, upd_eq, resL_nil1, pureW_sv, ix47p (Int.natCast_nonneg i) (show (i : Int) < M.length by omega), Int.toNat_natCast, add_mk, ld46p, Nat.add_zero, y0, Option.some.injEq, y1, y2, y3, y4, y5, y6, y7, y8, y9, y10, exists_eq_left', ix47p (Int.natCast_nonneg i) hlt, x0, x1, x2, x3, x4, x5, x6, x7, x8, x9, x10, ne46p, Bool.and_true]
      refine cond_bool (fun e => ?_) (fun e => ?_)
      · refine ⟨?_, Hp.le.refl h⟩
        have hne : x ≠ y := by
          rintro rfl
          simp at e
        congr 1
        symm
        apply dec_f
        rintro rfl
        rw [hx] at hy
        cases hy
        exact hne rfl
      · unfold S44_l3_k5
        simp -implicitDefEqProofs (maxSteps := 2000000) (disch := first | with_reducible exact Nat.ne_of_beq_eq_false rfl | exact oneCell_int | exact oneCell_bool | omega | rfl | (simp; done) | fail) only [upd_ne, g5, thenK_normal, opH_sv, bin_add, wrap_in]
        have hxy : x = y := by
          obtain ⟨a0, a1, a2, ⟨a3, a4, a5⟩, ⟨a6, a7, a8⟩, a9, a10⟩ := x
          obtain ⟨b0, b1, b2, ⟨b3, b4, b5⟩, ⟨b6, b7, b8⟩, b9, b10⟩ := y
          simp at e
          simp only [Move.mk.injEq, Pose.mk.injEq]
          simp only [e, and_self]
        refine HX (L.length - (i + 1)) _ _ (by omega) ⟨i + 1, rfl, hlt', by simp -implicitDefEqProofs (maxSteps := 2000000) (disch := first | with_reducible exact Nat.ne_of_beq_eq_false rfl | exact oneCell_int | exact oneCell_bool | omega | rfl | (simp; done) | fail) only [upd_ne, g0], by simp -implicitDefEqProofs (maxSteps := 2000000) (disch := first | with_reducible exact Nat.ne_of_beq_eq_false rfl | exact oneCell_int | exact oneCell_bool | omega | rfl | (simp; done) | fail) only [upd_ne, g1], by simp -implicitDefEqProofs (maxSteps := 2000000) (disch := first | with_reducible exact Nat.ne_of_beq_eq_false rfl | exact oneCell_int | exact oneCell_bool | omega | rfl | (simp; done) | fail) only [upd_eq]; rfl, rfl, ?_⟩
        rw [List.take_add_one, List.take_add_one, hx, hy, htk, hxy]
    · obtain rfl : i = L.length := by omega
      show S44_k2 _ _ _ _
      unfold S44_k2
      simp -implicitDefEqProofs (maxSteps := 2000000) (disch := first | with_reducible exact Nat.ne_of_beq_eq_false rfl | exact oneCell_int | exact oneCell_bool | omega | rfl | (simp; done) | fail) only [retK_ret, resL_tmp, upd_eq, resL_nil1]
      rw [List.take_of_length_le (Nat.le_refl _), List.take_of_length_le (by omega)] at htk
      exact ⟨by rw [dec_t htk], Hp.le.refl h⟩
  · rw [show ((L.length : Int) != (M.length : Int)) = true by simp; omega]
    simp -implicitDefEqProofs (maxSteps := 2000000) (disch := first | with_reducible exact Nat.ne_of_beq_eq_false rfl | exact oneCell_int | exact oneCell_bool | omega | rfl | (simp; done) | fail) only [HL.cond_true]
    exact ⟨by rw [dec_f (fun e => hlm (by rw [e]))], Hp.le.refl h⟩

end Go.Proofs.YtnpdploihlgcgaaDoor
