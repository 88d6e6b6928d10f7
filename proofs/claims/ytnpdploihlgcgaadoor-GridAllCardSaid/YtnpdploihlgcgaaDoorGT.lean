/- What a pose's iterator of runs tells, to any yield. -/
import Derived.Test.YtnpdploihlgcgaaDoorGR
set_option linter.unusedSimpArgs false
set_option linter.unusedVariables false
set_option maxRecDepth 100000
namespace Go.Proofs.YtnpdploihlgcgaaDoor
open Go Go.HL

structure Move where
  k : Int
  d : Int
  n : Int
  f : Pose
  t : Pose
  a : Int
  e : Int
  deriving DecidableEq
abbrev moveV (m : Move) : Value := .agg #[.int .i64 m.k, .int .i64 m.d, .int .i64 m.n, .int .i64 m.f.x, .int .i64 m.f.y, .bool m.f.d, .int .i64 m.t.x, .int .i64 m.t.y, .bool m.t.d, .int .i64 m.a, .int .i64 m.e]

/-- A yield: Y between two calls, Z behind the one that stopped; c: does it go on? Any piece that it does not own stays. -/
def Yl {α : Type} (enc : α → Value) (G : Hp) (y : Value) (Y Z : List α → Hp → Prop) (c : List α → Bool) : Prop :=
  ∀ (L : List α) (m : α) (a q h : Hp), Y L a → Sep [a, q] h → Dis G h →
    opH Tryd.prog G (xCallV y #[enc m]) h (fun v h' => ∃ a', v = .bool (c (L ++ [m])) ∧ Sep [a', q] h' ∧ Dis G h' ∧ (if c (L ++ [m]) = true then Y (L ++ [m]) a' else Z (L ++ [m]) a'))

/-- What is told of M behind L. -/
def feed {α : Type} (c : List α → Bool) : List α → List α → List α × Bool
  | L, [] => (L, true)
  | L, m :: M => if c (L ++ [m]) = true then feed c (L ++ [m]) M else (L ++ [m], false)
theorem feed_t {α : Type} {c : List α → Bool} {L M : List α} {m : α} (h : c (L ++ [m]) = true) : feed c L (m :: M) = feed c (L ++ [m]) M := by rw [feed, if_pos h]
theorem feed_f {α : Type} {c : List α → Bool} {L M : List α} {m : α} (h : c (L ++ [m]) = false) : feed c L (m :: M) = (L ++ [m], false) := by rw [feed, if_neg (by simp [h])]
theorem feed_app {α : Type} {c : List α → Bool} : ∀ {M N L : List α}, feed c L (M ++ N) = if (feed c L M).2 = true then feed c (feed c L M).1 N else feed c L M
  | [], N, L => by simp [feed]
  | m :: M, N, L => by
    rw [List.cons_append]
    cases h : c (L ++ [m]) with
    | true => rw [feed_t h, feed_t h, feed_app]
    | false => rw [feed_f h, feed_f h]; simp
/-- The yield that goes on while fewer than k were told. -/
def lessC {α : Type} (k : Int) (L : List α) : Bool := decide ((L.length : Int) < k)
theorem feed_less {α : Type} {k : Int} : ∀ {M L : List α}, (L.length : Int) < k → feed (lessC k) L M = (L ++ M.take (k.toNat - L.length), decide (((L ++ M).length : Int) < k))
  | [], L, h => by simp [feed, h]
  | m :: M, L, h => by
    have e1 : k.toNat - L.length = (k.toNat - (L ++ [m]).length) + 1 := by rw [List.length_append, List.length_singleton]; omega
    by_cases h2 : ((L ++ [m]).length : Int) < k
    · rw [feed_t (by unfold lessC; exact decide_eq_true h2), feed_less h2, e1, List.take_succ_cons]
      simp
    · rw [feed_f (by unfold lessC; exact decide_eq_false h2)]
      rw [List.length_append, List.length_singleton] at h2
      have e2 : k.toNat - (L ++ [m]).length = 0 := by rw [List.length_append, List.length_singleton]; omega
      rw [e1, e2]
      simp only [List.take_succ_cons, List.take_zero, List.length_append, List.length_cons, Prod.mk.injEq, true_and]
      symm
      apply decide_eq_false
      omega

def Fin {α : Type} (T : List α × Bool) (Y Z : List α → Hp → Prop) (a : Hp) : Prop := if T.2 = true then Y T.1 a else Z T.1 a

def runFrom {α : Type} (ok : Nat → Bool) (mk : Nat → α) : Nat → Nat → List α
  | _, 0 => []
  | n, k + 1 => if ok n = true then mk n :: runFrom ok mk (n + 1) k else []
def dirsL {α : Type} (D : Nat → List α) : Nat → Nat → List α
  | _, 0 => []
  | i, k + 1 => D i ++ dirsL D (i + 1) k

def okRun (w k : Nat) (f : Nat → Nat → Int) (p : Pose) (d n : Nat) : Bool := fitsW w k f (shiftP p d n)
def mkRun (p : Pose) (d n : Nat) : Move := ⟨1, d, n, p, shiftP p d n, 0, 0⟩
def runD (w k : Nat) (f : Nat → Nat → Int) (p : Pose) (d : Nat) : List Move := runFrom (okRun w k f p d) (mkRun p d) 1 16
def runsL (w k : Nat) (f : Nat → Nat → Int) (p : Pose) : List Move := dirsL (runD w k f p) 0 4

def RunsR (G q : Hp) (Y Z : List Move → Hp → Prop) (T : List Move × Bool) (h' : Hp) : Prop := ∃ a', Sep [a', q] h' ∧ Dis G h' ∧ Fin T Y Z a'

theorem RunsR.go {G q a h' : Hp} {Y Z : List Move → Hp → Prop} {T : List Move × Bool} {L : List Move} {c : List Move → Bool} (s : Sep [a, q] h') (d : Dis G h') (y : Y L a) (e : feed c L [] = T) : RunsR G q Y Z T h' := by
  subst e
  exact ⟨a, s, d, y⟩

set_option maxHeartbeats 2000000 in
theorem runs1_spec {G h a q : Hp} {y g : Value} {Y Z : List Move → Hp → Prop} {c : List Move → Bool} {L : List Move} {gb pb w k : Nat} {f : Nat → Nat → Int} {p : Pose}
    (yl : Yl moveV G y Y Z c) (ya : Y L a) (s : Sep [a, q] h) (hg : q gb = some (.cells #[g] 31 (0, 0))) (hpb : q pb = some (.cells #[.int .i64 p.x, .int .i64 p.y, .bool p.d] 30 (0, 0))) (gs : GS G q g w k f) (st : Steps G) :
    HCalls Tryd.prog G 76 #[y, .pointer (some ⟨gb, 0, none⟩), .pointer (some ⟨pb, 0, none⟩)] h (fun _ h' => RunsR G q Y Z (feed c L (runsL w k f p)) h') := by
  refine HCalls.assume fun d => enter76 (by simp) ?_
  unfold S76
  generalize hT : feed c L (runsL w k f p) = T
  refine loop_I (fun m r h3 => ∃ (i : Nat) (a : Hp) (L : List Move), m = 4 - i ∧ i ≤ 4 ∧ r 0 = y ∧ r 1 = .pointer (some ⟨gb, 0, none⟩) ∧ r 2 = .pointer (some ⟨pb, 0, none⟩) ∧ r 8 = .int .i64 i ∧ Sep [a, q] h3 ∧ Dis G h3 ∧ Y L a ∧ feed c L (dirsL (runD w k f p) i (4 - i)) = T) ?_
    (m := 4) ⟨0, a, L, rfl, by decide, by simp -implicitDefEqProofs (maxSteps := 2000000) (disch := first | with_reducible exact Nat.ne_of_beq_eq_false rfl | exact oneCell_int | exact oneCell_bool | omega | rfl | (simp; done) | fail) only [upd_ne, regs0], by simp -implicitDefEqProofs (maxSteps := 2000000) (disch := first | with_reducible exact Nat.ne_of_beq_eq_false rfl | exact oneCell_int | exact oneCell_bool | omega | rfl | (simp; done) | fail) only [upd_ne, regs1], by simp -implicitDefEqProofs (maxSteps := 2000000) (disch := first | with_reducible exact Nat.ne_of_beq_eq_false rfl | exact oneCell_int | exact oneCell_bool | omega | rfl | (simp; done) | fail) only [upd_ne, regs2], by simp -implicitDefEqProofs (maxSteps := 2000000) (disch := first | with_reducible exact Nat.ne_of_beq_eq_false rfl | exact oneCell_int | exact oneCell_bool | omega | rfl | (simp; done) | fail) only [upd_eq] <;> rfl, s, d, ya, hT⟩
  rintro m r h3 ⟨i, a, L, rfl, hi, g0, g1, g2, g8, s, d, ya, hT⟩ X HX
  unfold S76_l1
  simp -implicitDefEqProofs (maxSteps := 2000000) (disch := first | with_reducible exact Nat.ne_of_beq_eq_false rfl | exact oneCell_int | exact oneCell_bool | omega | rfl | (simp; done) | fail) only [g8, thenK_exit, blockK_exit, scopeK_normal, retK_normal, resL_nil0, scopeK_exit, if_true, opH_sv, bin_lss]
  refine cond_dec (fun hlt => ?_) (fun hge => ?_)
  rotate_left
  · obtain rfl : i = 4 := by omega
    try simp -implicitDefEqProofs (maxSteps := 2000000) (disch := first | with_reducible exact Nat.ne_of_beq_eq_false rfl | exact oneCell_int | exact oneCell_bool | omega | rfl | (simp; done) | fail) only [opH_sv, opH_su, pureW_sv, opH_nil, pureW_nil, pick_t, pick_f, pick_tp, pick_fp, gd_tt, gd_ft, gd_tf, gd_ff, box_new, regs0, regs1, regs2, regs3, regs4, regs5, regs6, cells_agg, cells_int, cells_bool, cells_ptr, cells_slice, cells_string, cells_func, cells_nilFunc, cells_map, retK_ret, retK_normal, resL_tmp, resL_cell, resL_nil0, resL_nil1, resL_nil2, resL_nil3, resC_ptr, ex0, ex1, ex2, ex0p, ex1p, ex2p, HL.cond_true, HL.cond_false, thenK_normal, thenK_ret, thenK_exit, blockK_normal, blockK_ret, blockK_exit, scopeK_normal, scopeK_ret, scopeK_exit, wpH_pure, bin_add, bin_sub, bin_mul, bin_lss, bin_leq, bin_gtr, bin_geq, bin_quo, bin_rem, bin_quop, bin_remp, wrap_in, bin_addp, bin_subp, bin_mulp, bin_lssp, bin_leqp, bin_gtrp, bin_geqp, un_not, un_notp, un_neg, eq_int, ne_int, eq_intp, ne_intp, callV_fn, add_mk, upd_eq, upd_ne, cell_set_self, Nat.zero_add, Nat.add_zero, Option.some.injEq, exists_eq_left', List.getElem?_cons_succ, List.getElem?_cons_zero, true_and, and_true, bne_self_eq_false, beq_self_eq_true, Bool.not_true, Bool.not_false, Bool.and_true, Bool.and_self, Bool.and_false, Bool.true_and, List.length_cons, List.length_nil, ne_eq, not_false_eq_true, Nat.reduceAdd, Nat.reduceMul, if_true, if_false, oneCell_int, oneCell_bool, oneCell_ptr, oneCell_slice, oneCell_string, oneCell_func, oneCell_map, Int.toNat_natCast, List.set_cons_zero, List.set_cons_succ, Nat.lt_irrefl, Nat.zero_lt_succ, Nat.succ_lt_succ_iff, fa26_0, fa26_0p, fa26_1, fa26_1p, fa26_10, fa26_10p, fa26_11, fa26_11p, fa26_12, fa26_12p, fa26_13, fa26_13p, fa26_14, fa26_14p, fa26_2, fa26_2p, fa26_3, fa26_3p, fa26_4, fa26_4p, fa26_5, fa26_5p, fa26_6, fa26_6p, fa26_7, fa26_7p, fa26_8, fa26_8p, fa26_9, fa26_9p, fa28_0, fa28_0p, fa28_1, fa28_1p, fa30_0, fa30_0p, fa30_1, fa30_1p, fa46_0, fa46_0p, fa46_1, fa46_1p, fa46_2, fa46_2p, fa46_3, fa46_3p, fa46_4, fa46_4p, fa46_5, fa46_5p, fa46_6, fa46_6p, fa86_0, fa86_0p, fa86_1, fa86_1p, fa86_2, fa86_2p, fa95_0, fa95_0p, fa95_1, fa95_1p, ld3, ld3p, ld4, ld4p, ld22, ld22p, ld23, ld23p, ld24, ld24p, ld26, ld26p, ld28, ld28p, ld30, ld30p, ld31, ld31p, ld46, ld46p, ld47, ld47p, ld52, ld52p, ld55, ld55p, ld57, ld57p, ld95, ld95p, st3s, st4s, st22s, st23s, st24s, st26w, st28w, st30w, st46w, st47s, st55s, st95w, ix22, ix22p, ix23, ix23p, ix24, ix24p, ix47, ix47p, ix56, ix56p, ix57, ix57p, ix101, ix101p, ln22, ln22p, ln23, ln23p, ln24, ln24p, ln47, ln47p, ln56, ln56p, ln57, ln57p, al22, al26, al28, al30, al46, al47, al95, cf14, cf15, cf16, cf17, cf18, cf19, cf20, cf21, cf22, cf23, cf24, cf25, cf26, cf27, cf28, cf29, cf30, cf31, cf32, cf33, cf34, cf35, cf36, cf37, cf38, cf39, cf40, cf41, cf42, cf43, cf44, cf45, cf46, cf47, cf48, cf49, cf50, cf51, cf52, cf53, cf54, cf55, cf56, cf57, cf58, cf59, cf60, cf61, cf62, cf63, cf64, cf65, cf66, cf67, cf68, cf69, cf70, cf71, cf72, cf73, cf74, cf75, cf76, cf77, cf78, cf79, cf80, bd26_0_1_2_7_8_9_10_11_12_13_14, bd26_0_1_2_7_8_9_10_11_12_13_14p, bd28_0, bd28_0p, bd28_0_1, bd28_0_1p, bd30_, bd30_p, bd30_0_1, bd30_0_1p, bd30_0, bd30_0p, bd46_0_1_2_3_4, bd46_0_1_2_3_4p, bd46_0_3_4, bd46_0_3_4p, bd86_0_1_2, bd86_0_1_2p, bd87_0_1_2_3, bd87_0_1_2_3p, bd95_0_1, bd95_0_1p, bs22_2_0_1, bs47_1_0, bs22_1_0, bs57_6_0_1_2_3_4_5, bs24_1_0, bs22_4_0_1_2_3, bs56_11_0_1_2_3_4_5_6_7_8_9_10, bs57_11_0_1_2_3_4_5_6_7_8_9_10, eq4, eq4p, eq28, eq28p, eq30, eq30p, eq31n, eq31np, eq31s, eq31sp, eq46, eq46p, eq50n, eq50np, eq50s, eq50sp, eq67n, eq67np, eq67s, eq67sp, ne4, ne4p, ne28, ne28p, ne30, ne30p, ne31n, ne31np, ne31s, ne31sp, ne46, ne46p]
    exact RunsR.go s d ya hT
  have hlt' : i < 4 := by omega
  unfold S76_l1_k2
  refine loop_I (fun m r2 h3 => ∃ (n : Nat) (a : Hp) (L : List Move), m = 17 - n ∧ 1 ≤ n ∧ n ≤ 17 ∧ r2 0 = y ∧ r2 1 = .pointer (some ⟨gb, 0, none⟩) ∧ r2 2 = .pointer (some ⟨pb, 0, none⟩) ∧ r2 4 = .int .i64 i ∧ r2 5 = .int .i64 n ∧ r2 8 = .int .i64 i ∧ Sep [a, q] h3 ∧ Dis G h3 ∧ Y L a ∧ feed c L (runFrom (okRun w k f p i) (mkRun p i) n (17 - n) ++ dirsL (runD w k f p) (i + 1) (3 - i)) = T) ?_
    (m := 16) ⟨1, a, L, rfl, by decide, by decide, by simp -implicitDefEqProofs (maxSteps := 2000000) (disch := first | with_reducible exact Nat.ne_of_beq_eq_false rfl | exact oneCell_int | exact oneCell_bool | omega | rfl | (simp; done) | fail) only [upd_ne, g0], by simp -implicitDefEqProofs (maxSteps := 2000000) (disch := first | with_reducible exact Nat.ne_of_beq_eq_false rfl | exact oneCell_int | exact oneCell_bool | omega | rfl | (simp; done) | fail) only [upd_ne, g1], by simp -implicitDefEqProofs (maxSteps := 2000000) (disch := first | with_reducible exact Nat.ne_of_beq_eq_false rfl | exact oneCell_int | exact oneCell_bool | omega | rfl | (simp; done) | fail) only [upd_ne, g2], by simp -implicitDefEqProofs (maxSteps := 2000000) (disch := first | with_reducible exact Nat.ne_of_beq_eq_false rfl | exact oneCell_int | exact oneCell_bool | omega | rfl | (simp; done) | fail) only [upd_ne, g8, upd_eq], by simp -implicitDefEqProofs (maxSteps := 2000000) (disch := first | with_reducible exact Nat.ne_of_beq_eq_false rfl | exact oneCell_int | exact oneCell_bool | omega | rfl | (simp; done) | fail) only [upd_ne, upd_eq] <;> rfl, by simp -implicitDefEqProofs (maxSteps := 2000000) (disch := first | with_reducible exact Nat.ne_of_beq_eq_false rfl | exact oneCell_int | exact oneCell_bool | omega | rfl | (simp; done) | fail) only [upd_ne, g8], s, d, ya, by rw [← hT, show 4 - i = (3 - i) + 1 by omega]; rfl⟩
  rintro m r2 h3 ⟨n, a, L, rfl, hn1, hn2, q0, q1, q2, q4, q5, q8, s, d, ya, hT⟩ X2 HX2
  have hgh := s.at 1 rfl hg
  have hph := s.at 1 rfl hpb
  have cg : ∀ j, cellIn G h3 ⟨gb, j, none⟩ = _ := fun j => cell_of (look_own hgh)
  have cp : ∀ j, cellIn G h3 ⟨pb, j, none⟩ = _ := fun j => cell_of (look_own hph)
  unfold S76_l1_l4
  simp -implicitDefEqProofs (maxSteps := 2000000) (disch := first | with_reducible exact Nat.ne_of_beq_eq_false rfl | exact oneCell_int | exact oneCell_bool | omega | rfl | (simp; done) | fail) only [q1, q2, q4, q5, thenK_exit, blockK_exit, blockK_normal, thenK_normal, scopeK_normal, retK_normal, resL_nil0, scopeK_exit, if_true, opH_sv, opH_su, al30, cf18, ld30, add_mk, Nat.add_zero, Nat.zero_add, ld31, cg, List.getElem?_cons_zero, Option.some.injEq, cp, List.getElem?_cons_succ, exists_eq_left']
  have next : ∀ (r3 : Rg) h5 (a : Hp) (L : List Move), r3 0 = r2 0 → r3 1 = r2 1 → r3 2 = r2 2 → r3 8 = r2 8 → Sep [a, q] h5 → Dis G h5 → Y L a → feed c L (dirsL (runD w k f p) (i + 1) (3 - i)) = T →
      S76_l1_k3 G (thenK X (blockK 0 (scopeK (retK Tryd.prog G [] fun x h' => RunsR G q Y Z T h')))) r3 h5 := by
    intro r3 h5 a L w0 w1 w2 w8 s5 d5 ya5 hT5
    unfold S76_l1_k3
    have w8' := w8.trans q8
    simp -implicitDefEqProofs (maxSteps := 2000000) (disch := first | with_reducible exact Nat.ne_of_beq_eq_false rfl | exact oneCell_int | exact oneCell_bool | omega | rfl | (simp; done) | fail) only [w8', thenK_normal, opH_sv, bin_add, wrap_in]
    refine HX (4 - (i + 1)) _ _ (by omega) ⟨i + 1, a, L, rfl, hlt', by simp -implicitDefEqProofs (maxSteps := 2000000) (disch := first | with_reducible exact Nat.ne_of_beq_eq_false rfl | exact oneCell_int | exact oneCell_bool | omega | rfl | (simp; done) | fail) only [upd_ne, w0, q0], by simp -implicitDefEqProofs (maxSteps := 2000000) (disch := first | with_reducible exact Nat.ne_of_beq_eq_false rfl | exact oneCell_int | exact oneCell_bool | omega | rfl | (simp; done) | fail) only [upd_ne, w1, q1], by simp -implicitDefEqProofs (maxSteps := 2000000) (disch := first | with_reducible exact Nat.ne_of_beq_eq_false rfl | exact oneCell_int | exact oneCell_bool | omega | rfl | (simp; done) | fail) only [upd_ne, w2, q2], by simp -implicitDefEqProofs (maxSteps := 2000000) (disch := first | with_reducible exact Nat.ne_of_beq_eq_false rfl | exact oneCell_int | exact oneCell_bool | omega | rfl | (simp; done) | fail) only [upd_eq] <;> rfl, s5, d5, ya5, by rw [← hT5, show 4 - (i + 1) = 3 - i by omega]⟩
  refine (shift_spec (p := p) (dir := (i : Int)) (n := (n : Int)) st).mono ?_
  rintro _ h4 ⟨rfl, rfl⟩
  simp -implicitDefEqProofs (maxSteps := 2000000) (disch := first | with_reducible exact Nat.ne_of_beq_eq_false rfl | exact oneCell_int | exact oneCell_bool | omega | rfl | (simp; done) | fail) only [ex1, un_not, ex0, st30w]
  intro x hx gx
  generalize e5 : Hp.set h4 x _ = h5
  obtain ⟨l5, d5, b5⟩ := boxed e5 hx d gx
  have s5 := s.le l5
  by_cases hn : n = 17
  · subst hn
    have ok : okS (i : Int) ((17 : Nat) : Int) = false := by
      unfold okS
      rw [show withinB ((17 : Nat) : Int) 0 16 = false from rfl]
      rfl
    try simp -implicitDefEqProofs (maxSteps := 2000000) (disch := first | with_reducible exact Nat.ne_of_beq_eq_false rfl | exact oneCell_int | exact oneCell_bool | omega | rfl | (simp; done) | fail) only [ok, Bool.not_false, if_neg (show ¬(1 : Nat) = 2 by decide), pick_t, HL.cond_true, gd_tf]
    exact next _ _ a L (by simp -implicitDefEqProofs (maxSteps := 2000000) (disch := first | with_reducible exact Nat.ne_of_beq_eq_false rfl | exact oneCell_int | exact oneCell_bool | omega | rfl | (simp; done) | fail) only [upd_ne]) (by simp -implicitDefEqProofs (maxSteps := 2000000) (disch := first | with_reducible exact Nat.ne_of_beq_eq_false rfl | exact oneCell_int | exact oneCell_bool | omega | rfl | (simp; done) | fail) only [upd_ne]) (by simp -implicitDefEqProofs (maxSteps := 2000000) (disch := first | with_reducible exact Nat.ne_of_beq_eq_false rfl | exact oneCell_int | exact oneCell_bool | omega | rfl | (simp; done) | fail) only [upd_ne]) (by simp -implicitDefEqProofs (maxSteps := 2000000) (disch := first | with_reducible exact Nat.ne_of_beq_eq_false rfl | exact oneCell_int | exact oneCell_bool | omega | rfl | (simp; done) | fail) only [upd_ne]) s5 d5 ya hT
  have ok : okS (i : Int) (n : Int) = true := by
    unfold okS
    rw [Bool.and_eq_true, withinB_iff, withinB_iff]
    omega
  have esh : shiftA p i n = shiftP p i n := by unfold shiftA; rw [if_pos ok]
  rw [esh] at b5
  have cx5 : ∀ j, cellIn G h5 ⟨x, j, none⟩ = _ := fun j => cell_of (look_own b5)
  have cg5 : ∀ j, cellIn G h5 ⟨gb, j, none⟩ = _ := fun j => cell_of (look_own (l5 _ _ hgh))
  have cp5 : ∀ j, cellIn G h5 ⟨pb, j, none⟩ = _ := fun j => cell_of (look_own (l5 _ _ hph))
  try simp -implicitDefEqProofs (maxSteps := 2000000) (disch := first | with_reducible exact Nat.ne_of_beq_eq_false rfl | exact oneCell_int | exact oneCell_bool | omega | rfl | (simp; done) | fail) only [ok, Bool.not_true, pick_f, gd_ff, opH_sv, cf23, ld30, add_mk, Nat.add_zero, Nat.zero_add, ld31, cg5, List.getElem?_cons_zero, Option.some.injEq, cx5, List.getElem?_cons_succ, exists_eq_left']
  refine (fits_spec (p := shiftP p i n) (gs.up (s5.in 1 rfl) d5) st shiftP_bd).mono ?_
  rintro _ h5 ⟨rfl, rfl⟩
  have erun : runFrom (okRun w k f p i) (mkRun p i) n (17 - n) = if fitsW w k f (shiftP p i n) = true then mkRun p i n :: runFrom (okRun w k f p i) (mkRun p i) (n + 1) (17 - (n + 1)) else [] := by
    rw [show 17 - n = (17 - (n + 1)) + 1 by omega]
    rfl
  rw [erun] at hT
  cases hf : fitsW w k f (shiftP p i n) with
  | false =>
    try simp -implicitDefEqProofs (maxSteps := 2000000) (disch := first | with_reducible exact Nat.ne_of_beq_eq_false rfl | exact oneCell_int | exact oneCell_bool | omega | rfl | (simp; done) | fail) only [if_neg (show ¬(1 : Nat) = 2 by decide), un_not, Bool.not_false, HL.cond_true]
    rw [hf] at hT
    exact next _ _ a L (by simp -implicitDefEqProofs (maxSteps := 2000000) (disch := first | with_reducible exact Nat.ne_of_beq_eq_false rfl | exact oneCell_int | exact oneCell_bool | omega | rfl | (simp; done) | fail) only [upd_ne]) (by simp -implicitDefEqProofs (maxSteps := 2000000) (disch := first | with_reducible exact Nat.ne_of_beq_eq_false rfl | exact oneCell_int | exact oneCell_bool | omega | rfl | (simp; done) | fail) only [upd_ne]) (by simp -implicitDefEqProofs (maxSteps := 2000000) (disch := first | with_reducible exact Nat.ne_of_beq_eq_false rfl | exact oneCell_int | exact oneCell_bool | omega | rfl | (simp; done) | fail) only [upd_ne]) (by simp -implicitDefEqProofs (maxSteps := 2000000) (disch := first | with_reducible exact Nat.ne_of_beq_eq_false rfl | exact oneCell_int | exact oneCell_bool | omega | rfl | (simp; done) | fail) only [upd_ne]) s5 d5 ya hT
  | true =>
  rw [hf, if_pos rfl, List.cons_append] at hT
  try simp -implicitDefEqProofs (maxSteps := 2000000) (disch := first | with_reducible exact Nat.ne_of_beq_eq_false rfl | exact oneCell_int | exact oneCell_bool | omega | rfl | (simp; done) | fail) only [un_not, Bool.not_true, HL.cond_false]
  unfold S76_l1_l4_k6
  try simp -implicitDefEqProofs (maxSteps := 2000000) (disch := first | with_reducible exact Nat.ne_of_beq_eq_false rfl | exact oneCell_int | exact oneCell_bool | omega | rfl | (simp; done) | fail) only [upd_ne, q2, upd_eq, q4, q5, q0, thenK_ret, blockK_ret, scopeK_ret, retK_ret, resL_nil0, opH_sv, ld30, add_mk, Nat.add_zero, Nat.zero_add, cp5, List.getElem?_cons_zero, Option.some.injEq, List.getElem?_cons_succ, cx5, bd46_0_1_2_3_4, exists_eq_left']
  refine opH_mono (fun v h6 H => ?_) (yl L (mkRun p i n) a q h5 ya s5 d5)
  obtain ⟨a6, rfl, s6, d6, z6⟩ := H
  cases hc : c (L ++ [mkRun p i n]) with
  | false =>
    try simp -implicitDefEqProofs (maxSteps := 2000000) (disch := first | with_reducible exact Nat.ne_of_beq_eq_false rfl | exact oneCell_int | exact oneCell_bool | omega | rfl | (simp; done) | fail) only [un_not, Bool.not_false, HL.cond_true]
    rw [hc] at z6
    rw [feed_f hc] at hT
    refine ⟨a6, s6, d6, ?_⟩
    rw [← hT]
    exact z6
  | true =>
    try simp -implicitDefEqProofs (maxSteps := 2000000) (disch := first | with_reducible exact Nat.ne_of_beq_eq_false rfl | exact oneCell_int | exact oneCell_bool | omega | rfl | (simp; done) | fail) only [un_not, Bool.not_true, HL.cond_false]
    rw [hc] at z6
    rw [feed_t hc] at hT
    unfold S76_l1_l4_k5
    simp -implicitDefEqProofs (maxSteps := 2000000) (disch := first | with_reducible exact Nat.ne_of_beq_eq_false rfl | exact oneCell_int | exact oneCell_bool | omega | rfl | (simp; done) | fail) only [upd_ne, q5, thenK_normal, opH_sv, bin_add, wrap_in]
    refine HX2 (17 - (n + 1)) _ _ (by omega) ⟨n + 1, a6, L ++ [mkRun p i n], rfl, by omega, by omega, by simp -implicitDefEqProofs (maxSteps := 2000000) (disch := first | with_reducible exact Nat.ne_of_beq_eq_false rfl | exact oneCell_int | exact oneCell_bool | omega | rfl | (simp; done) | fail) only [upd_ne, q0], by simp -implicitDefEqProofs (maxSteps := 2000000) (disch := first | with_reducible exact Nat.ne_of_beq_eq_false rfl | exact oneCell_int | exact oneCell_bool | omega | rfl | (simp; done) | fail) only [upd_ne, q1], by simp -implicitDefEqProofs (maxSteps := 2000000) (disch := first | with_reducible exact Nat.ne_of_beq_eq_false rfl | exact oneCell_int | exact oneCell_bool | omega | rfl | (simp; done) | fail) only [upd_ne, q2], by simp -implicitDefEqProofs (maxSteps := 2000000) (disch := first | with_reducible exact Nat.ne_of_beq_eq_false rfl | exact oneCell_int | exact oneCell_bool | omega | rfl | (simp; done) | fail) only [upd_ne, q4], by simp -implicitDefEqProofs (maxSteps := 2000000) (disch := first | with_reducible exact Nat.ne_of_beq_eq_false rfl | exact oneCell_int | exact oneCell_bool | omega | rfl | (simp; done) | fail) only [upd_eq] <;> rfl, by simp -implicitDefEqProofs (maxSteps := 2000000) (disch := first | with_reducible exact Nat.ne_of_beq_eq_false rfl | exact oneCell_int | exact oneCell_bool | omega | rfl | (simp; done) | fail) only [upd_ne, q8], s6, d6, z6, hT⟩

end Go.Proofs.YtnpdploihlgcgaaDoor
