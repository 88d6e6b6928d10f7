/- A pose's moves, told to any yield; gathered in a row. -/
import Derived.Test.YtnpdploihlgcgaaDoorGU
set_option linter.unusedSimpArgs false
set_option linter.unusedVariables false
set_option maxRecDepth 100000
namespace Go.Proofs.YtnpdploihlgcgaaDoor
open Go Go.HL

theorem _root_.Go.HL.Sep.pack2 {x y h : Hp} {R : List Hp} (s : Sep (x :: y :: R) h) : ∃ b, Sep (b :: R) h ∧ Sep [x, y] b := by
  obtain ⟨s1, ap⟩ := s.join
  exact ⟨_, s1, ⟨fun a ha => by
    simp only [List.mem_cons, List.not_mem_nil, or_false] at ha
    rcases ha with rfl | rfl
    · exact Hp.le_join
    · exact Hp.le_join2 ap, by simp [ap]⟩⟩
theorem _root_.Go.HL.Sep.pack3 {x y z h : Hp} {R : List Hp} (s : Sep (x :: y :: z :: R) h) : ∃ b, Sep (b :: R) h ∧ Sep [x, y, z] b := by
  have s1 : Sep (y :: z :: x :: R) h := s.rot.rot
  obtain ⟨s2, a2⟩ := s1.join
  obtain ⟨s3, a3⟩ := s2.swap.join
  refine ⟨_, s3, fun a ha => ?_, (List.pairwise_append (l₁ := [x, y, z]) (l₂ := R)).1 s.2 |>.1⟩
  simp only [List.mem_cons, List.not_mem_nil, or_false] at ha
  rcases ha with rfl | rfl | rfl
  · exact Hp.le_join
  · exact Hp.le_join.trans (Hp.le_join2 a3)
  · exact (Hp.le_join2 a2).trans (Hp.le_join2 a3)

theorem opE76 {G : Hp} {a b y : Value} {h : Hp} {K : Value → Hp → Prop} : opE Tryd.prog G (xCallV (.func (.func 76) #[] #[a, b]) #[y]) h K = HCalls Tryd.prog G 76 #[y, a, b] h K := by kernel_rfl
theorem setR1 {n d : Nat} {v : Value} {r : Rg} (hd : d < n) : setR n #[d] #[v] r = upd r d v := by
  unfold setR
  simp [putR, hd]

theorem runs_spec {G h : Hp} {gp : Nat} {p : Pose} : HCalls Tryd.prog G 62 #[.pointer (some ⟨gp, 0, none⟩), poseV p] h (fun u h' => ∃ b1 b2, u = .func (.func 76) #[] #[.pointer (some ⟨b1, 0, none⟩), .pointer (some ⟨b2, 0, none⟩)] ∧ h b1 = none ∧ G b1 = none ∧ (h.set b1 (.cells #[.pointer (some ⟨gp, 0, none⟩)] 31 (0, 0))) b2 = none ∧ G b2 = none ∧ h' = (h.set b1 (.cells #[.pointer (some ⟨gp, 0, none⟩)] 31 (0, 0))).set b2 (.cells #[.int .i64 p.x, .int .i64 p.y, .bool p.d] 30 (0, 0))) := by
  refine enter62 (by simp) ?_
  unfold S62
  simp -implicitDefEqProofs (maxSteps := 2000000) (disch := first | with_reducible exact Nat.ne_of_beq_eq_false rfl | exact oneCell_int | exact oneCell_bool | omega | rfl | (simp; done) | fail) only [regs0, regs1, retK_ret, resL_tmp, upd_eq, resL_nil1, opH_sv, box_new, cells_agg, cells_ptr]
  intro x hx gx y hy gy
  exact ⟨x, y, rfl, hx, gx, hy, gy, rfl⟩

def turnM (p : Pose) : Move := ⟨2, 0, 0, p, turnP p, 0, 0⟩
def movesW (w k : Nat) (f : Nat → Nat → Int) (p : Pose) : List Move := if fitsW w k f p = true then runsL w k f p ++ (if wayB w k f (turnM p) = true then [turnM p] else []) else []

/-- The yield within a range over a function: y's box at bx, the loop's record at l. -/
def InY (Y : List Move → Hp → Prop) (eb : Hp) (l : Nat) (o : Obj) (L : List Move) (b : Hp) : Prop := ∃ a, Y L a ∧ Sep [a, eb, noHp.set l o] b

set_option maxHeartbeats 4000000 in
theorem inner_yield {G : Hp} {y y' : Value} {Y Z : List Move → Hp → Prop} {c : List Move → Bool} {bx l : Nat} {o : Option Exit → Obj} {r : Rg} (yl : Yl moveV G y Y Z c) (gl : G l = none) (ho : ∀ e, isCells (o e) = false) (g3 : r 3 = .pointer (some ⟨bx, 0, none⟩))
    (hy : ∀ (args : Array Value) (h1 : Hp) (K1 : Value → Hp → Prop), args.size = 1 → h1 l = some (o none) →
      S61_a3 G (setR 32 #[13] args r) h1 (fun e r2 h2 => e = .normal ∧ h2 l = some (o none) ∧ ∀ ob, isCells ob = false → S61_b3 G r2 (h2.set l ob) (fun e _ h3 => h3 l = some ob ∧ match e with
        | .normal => K1 (.bool true) (h3.set l (o none))
        | .panic _ => False
        | .outgrown => False
        | e => K1 (.bool false) (h3.set l (o (some e))))) →
      opH Tryd.prog G (xCallV y' args) h1 K1) :
    Yl moveV G y' (InY Y (noHp.set bx (.cells #[y] 52 (0, 0))) l (o none)) (InY Z (noHp.set bx (.cells #[y] 52 (0, 0))) l (o (some .ret))) c := by
  rintro L m b q h ⟨a, ya, sb⟩ s d
  have s1 : Sep [q, a, noHp.set bx (.cells #[y] 52 (0, 0)), noHp.set l (o none)] h := by
    have := s.swap.split sb
    simpa using this
  refine hy #[moveV m] h _ rfl (s1.at 3 rfl set_self) ?_
  rw [setR1 (by decide)]
  unfold S61_a3
  simp -implicitDefEqProofs (maxSteps := 2000000) (disch := first | with_reducible exact Nat.ne_of_beq_eq_false rfl | exact oneCell_int | exact oneCell_bool | omega | rfl | (simp; done) | fail) only [upd_eq, true_and, opH_su, opH_sv, al46, st46w]
  intro x hx gx
  try simp -implicitDefEqProofs (maxSteps := 2000000) (disch := first | with_reducible exact Nat.ne_of_beq_eq_false rfl | exact oneCell_int | exact oneCell_bool | omega | rfl | (simp; done) | fail) only [opH_sv, opH_su, pureW_sv, opH_nil, pureW_nil, pick_t, pick_f, pick_tp, pick_fp, gd_tt, gd_ft, gd_tf, gd_ff, box_new, regs0, regs1, regs2, regs3, regs4, regs5, regs6, cells_agg, cells_int, cells_bool, cells_ptr, cells_slice, cells_string, cells_func, cells_nilFunc, cells_map, retK_ret, retK_normal, resL_tmp, resL_cell, resL_nil0, resL_nil1, resL_nil2, resL_nil3, resC_ptr, ex0, ex1, ex2, ex0p, ex1p, ex2p, HL.cond_true, HL.cond_false, thenK_normal, thenK_ret, thenK_exit, blockK_normal, blockK_ret, blockK_exit, scopeK_normal, scopeK_ret, scopeK_exit, wpH_pure, bin_add, bin_sub, bin_mul, bin_lss, bin_leq, bin_gtr, bin_geq, bin_quo, bin_rem, bin_quop, bin_remp, wrap_in, bin_addp, bin_subp, bin_mulp, bin_lssp, bin_leqp, bin_gtrp, bin_geqp, un_not, un_notp, un_neg, eq_int, ne_int, eq_intp, ne_intp, callV_fn, add_mk, upd_eq, upd_ne, cell_set_self, Nat.zero_add, Nat.add_zero, Option.some.injEq, exists_eq_left', List.getElem?_cons_succ, List.getElem?_cons_zero, true_and, and_true, bne_self_eq_false, beq_self_eq_true, Bool.not_true, Bool.not_false, Bool.and_true, Bool.and_self, Bool.and_false, Bool.true_and, List.length_cons, List.length_nil, ne_eq, not_false_eq_true, Nat.reduceAdd, Nat.reduceMul, if_true, if_false, oneCell_int, oneCell_bool, oneCell_ptr, oneCell_slice, oneCell_string, oneCell_func, oneCell_map, Int.toNat_natCast, List.set_cons_zero, List.set_cons_succ, Nat.lt_irrefl, Nat.zero_lt_succ, Nat.succ_lt_succ_iff, fa26_0, fa26_0p, fa26_1, fa26_1p, fa26_10, fa26_10p, fa26_11, fa26_11p, fa26_12, fa26_12p, fa26_13, fa26_13p, fa26_14, fa26_14p, fa26_2, fa26_2p, fa26_3, fa26_3p, fa26_4, fa26_4p, fa26_5, fa26_5p, fa26_6, fa26_6p, fa26_7, fa26_7p, fa26_8, fa26_8p, fa26_9, fa26_9p, fa28_0, fa28_0p, fa28_1, fa28_1p, fa30_0, fa30_0p, fa30_1, fa30_1p, fa46_0, fa46_0p, fa46_1, fa46_1p, fa46_2, fa46_2p, fa46_3, fa46_3p, fa46_4, fa46_4p, fa46_5, fa46_5p, fa46_6, fa46_6p, fa86_0, fa86_0p, fa86_1, fa86_1p, fa86_2, fa86_2p, fa95_0, fa95_0p, fa95_1, fa95_1p, ld3, ld3p, ld4, ld4p, ld22, ld22p, ld23, ld23p, ld24, ld24p, ld26, ld26p, ld28, ld28p, ld30, ld30p, ld31, ld31p, ld46, ld46p, ld47, ld47p, ld52, ld52p, ld55, ld55p, ld57, ld57p, ld95, ld95p, st3s, st4s, st22s, st23s, st24s, st26w, st28w, st30w, st46w, st47s, st55s, st95w, ix22, ix22p, ix23, ix23p, ix24, ix24p, ix47, ix47p, ix56, ix56p, ix57, ix57p, ix101, ix101p, ln22, ln22p, ln23, ln23p, ln24, ln24p, ln47, ln47p, ln56, ln56p, ln57, ln57p, al22, al26, al28, al30, al46, al47, al95, cf14, cf15, cf16, cf17, cf18, cf19, cf20, cf21, cf22, cf23, cf24, cf25, cf26, cf27, cf28, cf29, cf30, cf31, cf32, cf33, cf34, cf35, cf36, cf37, cf38, cf39, cf40, cf41, cf42, cf43, cf44, cf45, cf46, cf47, cf48, cf49, cf50, cf51, cf52, cf53, cf54, cf55, cf56, cf57, cf58, cf59, cf60, cf61, cf62, cf63, cf64, cf65, cf66, cf67, cf68, cf69, cf70, cf71, cf72, cf73, cf74, cf75, cf76, cf77, cf78, cf79, cf80, bd26_0_1_2_7_8_9_10_11_12_13_14, bd26_0_1_2_7_8_9_10_11_12_13_14p, bd28_0, bd28_0p, bd28_0_1, bd28_0_1p, bd30_, bd30_p, bd30_0_1, bd30_0_1p, bd30_0, bd30_0p, bd46_0_1_2_3_4, bd46_0_1_2_3_4p, bd46_0_3_4, bd46_0_3_4p, bd86_0_1_2, bd86_0_1_2p, bd87_0_1_2_3, bd87_0_1_2_3p, bd95_0_1, bd95_0_1p, bs22_2_0_1, bs47_1_0, bs22_1_0, bs57_6_0_1_2_3_4_5, bs24_1_0, bs22_4_0_1_2_3, bs56_11_0_1_2_3_4_5_6_7_8_9_10, bs57_11_0_1_2_3_4_5_6_7_8_9_10, eq4, eq4p, eq28, eq28p, eq30, eq30p, eq31n, eq31np, eq31s, eq31sp, eq46, eq46p, eq50n, eq50np, eq50s, eq50sp, eq67n, eq67np, eq67s, eq67sp, ne4, ne4p, ne28, ne28p, ne30, ne30p, ne31n, ne31np, ne31s, ne31sp, ne46, ne46p]
  have s2 := s1.past (o := moveO m) hx
  have sx := s1.new (o := moveO m) hx
  have d2 := d.set (o := moveO m) gx
  have nlx : l ≠ x := fun e => by rw [← e, s1.at 3 rfl set_self] at hx; cases hx
  refine ⟨by rw [set_other nlx]; exact s1.at 3 rfl set_self, fun ob hob => ?_⟩
  generalize Hp.set h x _ = h2 at s2 sx d2 ⊢
  have s3 : Sep [noHp.set l ob, noHp.set x (moveO m), q, a, noHp.set bx (.cells #[y] 52 (0, 0))] (h2.set l ob) := by
    have := (sx.pick 4 rfl rfl).put (o := ob) set_self
    rw [set_set] at this
    exact this
  have d3 : Dis G (h2.set l ob) := d2.set gl
  generalize Hp.set h2 l ob = h3 at s3 d3 ⊢
  have cb : ∀ j, cellIn G h3 ⟨bx, j, none⟩ = _ := fun j => cell_of (look_own (s3.at 4 rfl set_self))
  have cx : ∀ j, cellIn G h3 ⟨x, j, none⟩ = _ := fun j => cell_of (look_own (s3.at 1 rfl set_self))
  unfold S61_b3
  try simp -implicitDefEqProofs (maxSteps := 2000000) (disch := first | with_reducible exact Nat.ne_of_beq_eq_false rfl | exact oneCell_int | exact oneCell_bool | omega | rfl | (simp; done) | fail) only [upd_ne, g3, upd_eq, opH_sv, ld46, add_mk, Nat.add_zero, Nat.zero_add, ld52, cb, List.getElem?_cons_zero, Option.some.injEq, cx, List.getElem?_cons_succ, exists_eq_left']
  have s4 : Sep [noHp.set bx (.cells #[y] 52 (0, 0)), noHp.set l ob, q, a] h3 := by
    exact (s3.pick 1 rfl rfl).drop.pick 3 rfl rfl
  obtain ⟨Q, s5, sQ⟩ := s4.pack3
  refine opH_mono (fun v h6 H => ?_) (yl L m a Q h3 ya s5.swap d3)
  obtain ⟨a6, rfl, s6, d6, z6⟩ := H
  have s7 : Sep [a6, noHp.set bx (.cells #[y] 52 (0, 0)), noHp.set l ob, q] h6 := by
    have := s6.split sQ
    simpa using this
  have hl6 := s7.at 2 rfl (set_self (h := noHp) (b := l) (o := ob))
  have fin : ∀ oo : Obj, ∃ b', Sep [b', q] (h6.set l oo) ∧ Sep [a6, noHp.set bx (.cells #[y] 52 (0, 0)), noHp.set l oo] b' := by
    intro oo
    have s8 : Sep [noHp.set l oo, a6, noHp.set bx (.cells #[y] 52 (0, 0)), q] (h6.set l oo) := by
      have := (s7.pick 2 rfl rfl).put (o := oo) set_self
      rw [set_set] at this
      exact this
    exact (s8.rot.rot.pack3)
  cases hc : c (L ++ [m]) with
  | false =>
    try simp -implicitDefEqProofs (maxSteps := 2000000) (disch := first | with_reducible exact Nat.ne_of_beq_eq_false rfl | exact oneCell_int | exact oneCell_bool | omega | rfl | (simp; done) | fail) only [true_and, un_not, Bool.not_false, HL.cond_true]
    rw [hc] at z6
    obtain ⟨b', t1, t2⟩ := fin (o (some .ret))
    exact ⟨hl6, b', t1, d6.set gl, a6, z6, t2⟩
  | true =>
    try simp -implicitDefEqProofs (maxSteps := 2000000) (disch := first | with_reducible exact Nat.ne_of_beq_eq_false rfl | exact oneCell_int | exact oneCell_bool | omega | rfl | (simp; done) | fail) only [if_true, true_and, un_not, Bool.not_true, HL.cond_false]
    rw [hc] at z6
    obtain ⟨b', t1, t2⟩ := fin (o none)
    exact ⟨hl6, b', t1, d6.set gl, a6, z6, t2⟩

theorem feed_nil {α : Type} {c : List α → Bool} {L : List α} : feed c L [] = (L, true) := rfl

theorem turn_bd {p : Pose} (hp : PB p) : MB (turnM p) := ⟨⟨show (-9223372036854775808 : Int) ≤ 0 by decide, show (0 : Int) ≤ 9223372036854775807 by decide⟩, hp⟩

/-- Behind the runs: the turn. -/
theorem moves_tail {G h a q : Hp} {y g : Value} {Y Z : List Move → Hp → Prop} {c : List Move → Bool} {L : List Move} {gb pb bx w k : Nat} {f : Nat → Nat → Int} {p : Pose} {T : List Move × Bool} {KK : Exit → Rg → Hp → Prop} {r : Rg}
    (yl : Yl moveV G y Y Z c) (ya : Y L a) (s : Sep [a, noHp.set bx (.cells #[y] 52 (0, 0)), q] h) (d : Dis G h) (hg : q gb = some (.cells #[g] 31 (0, 0))) (hpb : q pb = some (.cells #[.int .i64 p.x, .int .i64 p.y, .bool p.d] 30 (0, 0))) (gs : GS G q g w k f) (st : Steps G) (hp : PB p)
    (g1 : r 1 = .pointer (some ⟨gb, 0, none⟩)) (g2 : r 2 = .pointer (some ⟨pb, 0, none⟩)) (g3 : r 3 = .pointer (some ⟨bx, 0, none⟩))
    (hT : feed c L (if wayB w k f (turnM p) = true then [turnM p] else []) = T) (H : ∀ r h', RunsR G q Y Z T h' → KK .normal r h') : S61_k2 G KK r h := by
  have cp : ∀ j, cellIn G h ⟨pb, j, none⟩ = _ := fun j => cell_of (look_own (s.at 2 rfl hpb))
  unfold S61_k2
  simp -implicitDefEqProofs (maxSteps := 2000000) (disch := first | with_reducible exact Nat.ne_of_beq_eq_false rfl | exact oneCell_int | exact oneCell_bool | omega | rfl | (simp; done) | fail) only [g2, g1, g3, opH_sv, ld52, cf27, ld31, opH_su, al46, ld46, add_mk, Nat.add_zero, Nat.zero_add, fa30_1, ld4, fa30_0, ld28, ld30, cp, List.getElem?_cons_zero, Option.some.injEq, List.getElem?_cons_succ, exists_eq_left', un_not, bd30_0_1, bd46_0_3_4, st46w, cell_set_self]
  intro x hx gx
  have d2 := d.set (o := moveO (turnM p)) gx
  have s2 := s.past (o := moveO (turnM p)) hx
  have hx2 : (h.set x (moveO (turnM p))) x = some (moveO (turnM p)) := set_self
  have e : (h.set x (.cells #[.int .i64 2, .int .i64 0, .int .i64 0, .int .i64 p.x, .int .i64 p.y, .bool p.d, .int .i64 p.x, .int .i64 p.y, .bool !p.d, .int .i64 0, .int .i64 0] 46 (0, 0))) = h.set x (moveO (turnM p)) := rfl
  try simp -implicitDefEqProofs (maxSteps := 2000000) (disch := first | with_reducible exact Nat.ne_of_beq_eq_false rfl | exact oneCell_int | exact oneCell_bool | omega | rfl | (simp; done) | fail) only [opH_sv, opH_su, pureW_sv, opH_nil, pureW_nil, pick_t, pick_f, pick_tp, pick_fp, gd_tt, gd_ft, gd_tf, gd_ff, box_new, regs0, regs1, regs2, regs3, regs4, regs5, regs6, cells_agg, cells_int, cells_bool, cells_ptr, cells_slice, cells_string, cells_func, cells_nilFunc, cells_map, retK_ret, retK_normal, resL_tmp, resL_cell, resL_nil0, resL_nil1, resL_nil2, resL_nil3, resC_ptr, ex0, ex1, ex2, ex0p, ex1p, ex2p, HL.cond_true, HL.cond_false, thenK_normal, thenK_ret, thenK_exit, blockK_normal, blockK_ret, blockK_exit, scopeK_normal, scopeK_ret, scopeK_exit, wpH_pure, bin_add, bin_sub, bin_mul, bin_lss, bin_leq, bin_gtr, bin_geq, bin_quo, bin_rem, bin_quop, bin_remp, wrap_in, bin_addp, bin_subp, bin_mulp, bin_lssp, bin_leqp, bin_gtrp, bin_geqp, un_not, un_notp, un_neg, eq_int, ne_int, eq_intp, ne_intp, callV_fn, add_mk, upd_eq, upd_ne, cell_set_self, Nat.zero_add, Nat.add_zero, Option.some.injEq, exists_eq_left', List.getElem?_cons_succ, List.getElem?_cons_zero, true_and, and_true, bne_self_eq_false, beq_self_eq_true, Bool.not_true, Bool.not_false, Bool.and_true, Bool.and_self, Bool.and_false, Bool.true_and, List.length_cons, List.length_nil, ne_eq, not_false_eq_true, Nat.reduceAdd, Nat.reduceMul, if_true, if_false, oneCell_int, oneCell_bool, oneCell_ptr, oneCell_slice, oneCell_string, oneCell_func, oneCell_map, Int.toNat_natCast, List.set_cons_zero, List.set_cons_succ, Nat.lt_irrefl, Nat.zero_lt_succ, Nat.succ_lt_succ_iff, fa26_0, fa26_0p, fa26_1, fa26_1p, fa26_10, fa26_10p, fa26_11, fa26_11p, fa26_12, fa26_12p, fa26_13, fa26_13p, fa26_14, fa26_14p, fa26_2, fa26_2p, fa26_3, fa26_3p, fa26_4, fa26_4p, fa26_5, fa26_5p, fa26_6, fa26_6p, fa26_7, fa26_7p, fa26_8, fa26_8p, fa26_9, fa26_9p, fa28_0, fa28_0p, fa28_1, fa28_1p, fa30_0, fa30_0p, fa30_1, fa30_1p, fa46_0, fa46_0p, fa46_1, fa46_1p, fa46_2, fa46_2p, fa46_3, fa46_3p, fa46_4, fa46_4p, fa46_5, fa46_5p, fa46_6, fa46_6p, fa86_0, fa86_0p, fa86_1, fa86_1p, fa86_2, fa86_2p, fa95_0, fa95_0p, fa95_1, fa95_1p, ld3, ld3p, ld4, ld4p, ld22, ld22p, ld23, ld23p, ld24, ld24p, ld26, ld26p, ld28, ld28p, ld30, ld30p, ld31, ld31p, ld46, ld46p, ld47, ld47p, ld52, ld52p, ld55, ld55p, ld57, ld57p, ld95, ld95p, st3s, st4s, st22s, st23s, st24s, st26w, st28w, st30w, st46w, st47s, st55s, st95w, ix22, ix22p, ix23, ix23p, ix24, ix24p, ix47, ix47p, ix56, ix56p, ix57, ix57p, ix101, ix101p, ln22, ln22p, ln23, ln23p, ln24, ln24p, ln47, ln47p, ln56, ln56p, ln57, ln57p, al22, al26, al28, al30, al46, al47, al95, cf14, cf15, cf16, cf17, cf18, cf19, cf20, cf21, cf22, cf23, cf24, cf25, cf26, cf27, cf28, cf29, cf30, cf31, cf32, cf33, cf34, cf35, cf36, cf37, cf38, cf39, cf40, cf41, cf42, cf43, cf44, cf45, cf46, cf47, cf48, cf49, cf50, cf51, cf52, cf53, cf54, cf55, cf56, cf57, cf58, cf59, cf60, cf61, cf62, cf63, cf64, cf65, cf66, cf67, cf68, cf69, cf70, cf71, cf72, cf73, cf74, cf75, cf76, cf77, cf78, cf79, cf80, bd26_0_1_2_7_8_9_10_11_12_13_14, bd26_0_1_2_7_8_9_10_11_12_13_14p, bd28_0, bd28_0p, bd28_0_1, bd28_0_1p, bd30_, bd30_p, bd30_0_1, bd30_0_1p, bd30_0, bd30_0p, bd46_0_1_2_3_4, bd46_0_1_2_3_4p, bd46_0_3_4, bd46_0_3_4p, bd86_0_1_2, bd86_0_1_2p, bd87_0_1_2_3, bd87_0_1_2_3p, bd95_0_1, bd95_0_1p, bs22_2_0_1, bs47_1_0, bs22_1_0, bs57_6_0_1_2_3_4_5, bs24_1_0, bs22_4_0_1_2_3, bs56_11_0_1_2_3_4_5_6_7_8_9_10, bs57_11_0_1_2_3_4_5_6_7_8_9_10, eq4, eq4p, eq28, eq28p, eq30, eq30p, eq31n, eq31np, eq31s, eq31sp, eq46, eq46p, eq50n, eq50np, eq50s, eq50sp, eq67n, eq67np, eq67s, eq67sp, ne4, ne4p, ne28, ne28p, ne30, ne30p, ne31n, ne31np, ne31s, ne31sp, ne46, ne46p]
  rw [e]
  generalize e1 : Hp.set h x _ = h1 at s2 d2 hx2 ⊢
  have cg : ∀ j, cellIn G h1 ⟨gb, j, none⟩ = _ := fun j => cell_of (look_own (s2.at 2 rfl hg))
  have cb : ∀ j, cellIn G h1 ⟨bx, j, none⟩ = _ := fun j => cell_of (look_own (s2.at 1 rfl set_self))
  have cx : ∀ j, cellIn G h1 ⟨x, j, none⟩ = _ := fun j => cell_of (look_own hx2)
  try simp -implicitDefEqProofs (maxSteps := 2000000) (disch := first | with_reducible exact Nat.ne_of_beq_eq_false rfl | exact oneCell_int | exact oneCell_bool | omega | rfl | (simp; done) | fail) only [cg, List.getElem?_cons_zero, Option.some.injEq, exists_eq_left']
  refine (legal_spec (m := turnM p) (gs.up (s2.in 2 rfl) d2) st (turn_bd hp)).mono ?_
  rintro _ _ ⟨rfl, rfl⟩
  cases hw : wayB w k f (turnM p) with
  | false =>
    rw [hw, if_neg (by simp), feed_nil] at hT
    try simp -implicitDefEqProofs (maxSteps := 2000000) (disch := first | with_reducible exact Nat.ne_of_beq_eq_false rfl | exact oneCell_int | exact oneCell_bool | omega | rfl | (simp; done) | fail) only [HL.cond_false]
    exact H _ _ (RunsR.go (c := c) (s2.pick 1 rfl rfl).drop d2 ya (by rw [feed_nil]; exact hT))
  | true =>
    rw [hw, if_pos rfl] at hT
    try simp -implicitDefEqProofs (maxSteps := 2000000) (disch := first | with_reducible exact Nat.ne_of_beq_eq_false rfl | exact oneCell_int | exact oneCell_bool | omega | rfl | (simp; done) | fail) only [cb, List.getElem?_cons_zero, Option.some.injEq, cx, List.getElem?_cons_succ, exists_eq_left', HL.cond_true]
    obtain ⟨Q, s5, sQ⟩ := s2.rot.rot.pack2
    refine opH_mono (fun v h6 R => ?_) (yl L (turnM p) a Q _ ya s5.swap d2)
    obtain ⟨a6, rfl, s6, d6, z6⟩ := R
    refine H _ _ ?_
    have s7 : Sep [a6, noHp.set bx (.cells #[y] 52 (0, 0)), q] h6 := by
      have := s6.split sQ
      simpa using this
    refine ⟨a6, (s7.pick 1 rfl rfl).drop, d6, ?_⟩
    rw [← hT]
    cases hc : c (L ++ [turnM p]) with
    | false => rw [feed_f hc]; rw [hc] at z6; exact z6
    | true => rw [feed_t hc]; rw [hc] at z6; exact z6

set_option maxHeartbeats 4000000 in
theorem moves1_spec {G h a q : Hp} {y g : Value} {Y Z : List Move → Hp → Prop} {c : List Move → Bool} {L : List Move} {gb pb w k : Nat} {f : Nat → Nat → Int} {p : Pose} (hyf : ∃ fn a b, y = .func fn a b)
    (yl : Yl moveV G y Y Z c) (ya : Y L a) (s : Sep [a, q] h) (hg : q gb = some (.cells #[g] 31 (0, 0))) (hpb : q pb = some (.cells #[.int .i64 p.x, .int .i64 p.y, .bool p.d] 30 (0, 0))) (gs : GS G q g w k f) (st : Steps G) (hp : PB p) :
    HCalls Tryd.prog G 61 #[y, .pointer (some ⟨gb, 0, none⟩), .pointer (some ⟨pb, 0, none⟩)] h (fun _ h' => RunsR G q Y Z (feed c L (movesW w k f p)) h') := by
  obtain ⟨fn, fa, fb, rfl⟩ := hyf
  obtain ⟨⟨gp, kb, rfl, _⟩, _⟩ := id gs
  refine HCalls.assume fun d => enter61 (by simp) ?_
  unfold S61
  simp -implicitDefEqProofs (maxSteps := 2000000) (disch := first | with_reducible exact Nat.ne_of_beq_eq_false rfl | exact oneCell_int | exact oneCell_bool | omega | rfl | (simp; done) | fail) only [regs0, regs1, regs2, retK_ret, resL_nil0, opH_sv, cf23, ld30, add_mk, Nat.add_zero, Nat.zero_add, ld31, box_new, cells_func]
  intro bx hbx gbx
  have s1 : Sep [a, noHp.set bx (.cells #[.func fn fa fb] 52 (0, 0)), q] (h.set bx (.cells #[.func fn fa fb] 52 (0, 0))) := (s.new hbx).swap
  have d1 := d.set (o := .cells #[.func fn fa fb] 52 (0, 0)) gbx
  generalize Hp.set h bx _ = h1 at s1 d1 ⊢
  have cg : ∀ j, cellIn G h1 ⟨gb, j, none⟩ = _ := fun j => cell_of (look_own (s1.at 2 rfl hg))
  have cp : ∀ j, cellIn G h1 ⟨pb, j, none⟩ = _ := fun j => cell_of (look_own (s1.at 2 rfl hpb))
  try simp -implicitDefEqProofs (maxSteps := 2000000) (disch := first | with_reducible exact Nat.ne_of_beq_eq_false rfl | exact oneCell_int | exact oneCell_bool | omega | rfl | (simp; done) | fail) only [cg, List.getElem?_cons_zero, Option.some.injEq, cp, List.getElem?_cons_succ, exists_eq_left']
  refine (fits_spec (p := p) (gs.up (s1.in 2 rfl) d1) st hp).mono ?_
  rintro _ _ ⟨rfl, rfl⟩
  unfold movesW
  cases hf : fitsW w k f p with
  | false =>
    try simp -implicitDefEqProofs (maxSteps := 2000000) (disch := first | with_reducible exact Nat.ne_of_beq_eq_false rfl | exact oneCell_int | exact oneCell_bool | omega | rfl | (simp; done) | fail) only [un_not, Bool.not_false, HL.cond_true]
    exact ⟨a, (s1.pick 1 rfl rfl).drop, d1, ya⟩
  | true =>
  try simp -implicitDefEqProofs (maxSteps := 2000000) (disch := first | with_reducible exact Nat.ne_of_beq_eq_false rfl | exact oneCell_int | exact oneCell_bool | omega | rfl | (simp; done) | fail) only [if_true, un_not, Bool.not_true, HL.cond_false]
  unfold S61_k1
  try simp -implicitDefEqProofs (maxSteps := 2000000) (disch := first | with_reducible exact Nat.ne_of_beq_eq_false rfl | exact oneCell_int | exact oneCell_bool | omega | rfl | (simp; done) | fail) only [upd_ne, regs1, regs2, cf62, opH_sv, ld30, add_mk, Nat.add_zero, Nat.zero_add, ld31, cg, List.getElem?_cons_zero, Option.some.injEq, cp, List.getElem?_cons_succ, exists_eq_left']
  refine (runs_spec (gp := gp) (p := p)).mono ?_
  rintro _ _ ⟨b1, b2, rfl, hb1, gb1, hb2, gb2, rfl⟩
  have s2 : Sep [(q.set b1 (.cells #[.pointer (some ⟨gp, 0, none⟩)] 31 (0, 0))).set b2 (.cells #[.int .i64 p.x, .int .i64 p.y, .bool p.d] 30 (0, 0)), a, noHp.set bx (.cells #[.func fn fa fb] 52 (0, 0))] _ := ((s1.pick 2 rfl rfl).grow (o := .cells #[.pointer (some ⟨gp, 0, none⟩)] 31 (0, 0)) hb1).grow (o := .cells #[.int .i64 p.x, .int .i64 p.y, .bool p.d] 30 (0, 0)) hb2
  have d2 := (d1.set (o := .cells #[.pointer (some ⟨gp, 0, none⟩)] 31 (0, 0)) gb1).set (o := .cells #[.int .i64 p.x, .int .i64 p.y, .bool p.d] 30 (0, 0)) gb2
  have e12 : b1 ≠ b2 := ne_of_set hb2
  have hq1 : q b1 = none := (s1.in 2 rfl).none hb1
  have lq : q.le ((q.set b1 (.cells #[.pointer (some ⟨gp, 0, none⟩)] 31 (0, 0))).set b2 (.cells #[.int .i64 p.x, .int .i64 p.y, .bool p.d] 30 (0, 0))) := (le_set hq1).trans (le_set (by rw [set_other (Ne.symm e12)]; exact (s1.in 2 rfl).none (none_of_set hb2)))
  have hq1' : ((q.set b1 (.cells #[.pointer (some ⟨gp, 0, none⟩)] 31 (0, 0))).set b2 (.cells #[.int .i64 p.x, .int .i64 p.y, .bool p.d] 30 (0, 0))) b1 = some (.cells #[.pointer (some ⟨gp, 0, none⟩)] 31 (0, 0)) := by rw [set_other e12, set_self]
  have hq2' : ((q.set b1 (.cells #[.pointer (some ⟨gp, 0, none⟩)] 31 (0, 0))).set b2 (.cells #[.int .i64 p.x, .int .i64 p.y, .bool p.d] 30 (0, 0))) b2 = some (.cells #[.int .i64 p.x, .int .i64 p.y, .bool p.d] 30 (0, 0)) := set_self
  generalize (q.set b1 (.cells #[.pointer (some ⟨gp, 0, none⟩)] 31 (0, 0))).set b2 (.cells #[.int .i64 p.x, .int .i64 p.y, .bool p.d] 30 (0, 0)) = q2 at s2 lq hq1' hq2'
  generalize Hp.set (Hp.set _ b1 _) b2 _ = h2 at s2 d2 ⊢
  intro y' l o hl gl ho HY
  rw [opE76]
  have s3 : Sep [a, noHp.set bx (.cells #[.func fn fa fb] 52 (0, 0)), noHp.set l (o none), q2] (h2.set l (o none)) := ((s2.new (o := o none) hl).pick 3 rfl rfl).pick 3 rfl rfl
  have d3 : Dis G (h2.set l (o none)) := d2.set gl
  obtain ⟨B, sB, tB⟩ := s3.pack3
  have gs2 : GS G q2 (.pointer (some ⟨gp, 0, none⟩)) w k f := gs.up lq (fun b o e => d3 b o (sB.in 1 rfl _ _ e))
  refine (runs1_spec (p := p) (inner_yield yl gl ho (by simp -implicitDefEqProofs (maxSteps := 2000000) (disch := first | with_reducible exact Nat.ne_of_beq_eq_false rfl | exact oneCell_int | exact oneCell_bool | omega | rfl | (simp; done) | fail) only [upd_ne, upd_eq]) HY) ⟨a, ya, tB⟩ sB hq1' hq2' gs2 st).mono ?_
  rintro _ h5 ⟨b5, s5, d5, z5⟩
  rw [feed_app]
  unfold Fin at z5
  cases hr : (feed c L (runsL w k f p)).2 with
  | true =>
    rw [hr, if_pos rfl] at z5
    obtain ⟨a5, ya5, t5⟩ := z5
    have s6 : Sep [q2, a5, noHp.set bx (.cells #[.func fn fa fb] 52 (0, 0)), noHp.set l (o none)] h5 := by
      have := s5.swap.split t5
      simpa using this
    obtain ⟨h6, s7, t7⟩ := s6.pack3
    refine ⟨h6, s7.in 0 rfl, ?_, .inl ⟨s7.at 1 rfl set_self, ?_⟩⟩
    · rcases s7.apart (b := noHp.set l (o none)) (by simp) l with e | e
      · exact e
      · rw [set_self] at e; cases e
    try simp -implicitDefEqProofs (maxSteps := 2000000) (disch := first | with_reducible exact Nat.ne_of_beq_eq_false rfl | exact oneCell_int | exact oneCell_bool | omega | rfl | (simp; done) | fail) only [if_true, blockK_normal, thenK_normal]
    have d6 : Dis G h6 := fun b o e => d5 b o (s7.in 0 rfl _ _ e)
    refine moves_tail yl ya5 ((t7.cut lq).rot.rot) d6 hg hpb gs st hp (by simp -implicitDefEqProofs (maxSteps := 2000000) (disch := first | with_reducible exact Nat.ne_of_beq_eq_false rfl | exact oneCell_int | exact oneCell_bool | omega | rfl | (simp; done) | fail) only [upd_ne, regs1]) (by simp -implicitDefEqProofs (maxSteps := 2000000) (disch := first | with_reducible exact Nat.ne_of_beq_eq_false rfl | exact oneCell_int | exact oneCell_bool | omega | rfl | (simp; done) | fail) only [upd_ne, regs2]) (by simp -implicitDefEqProofs (maxSteps := 2000000) (disch := first | with_reducible exact Nat.ne_of_beq_eq_false rfl | exact oneCell_int | exact oneCell_bool | omega | rfl | (simp; done) | fail) only [upd_ne, upd_eq]) rfl fun r h' H => ?_
    try simp -implicitDefEqProofs (maxSteps := 2000000) (disch := first | with_reducible exact Nat.ne_of_beq_eq_false rfl | exact oneCell_int | exact oneCell_bool | omega | rfl | (simp; done) | fail) only [retK_normal, resL_nil0]
    exact H
  | false =>
    rw [hr, if_neg (by simp)] at z5
    obtain ⟨a5, za5, t5⟩ := z5
    have s6 : Sep [q2, a5, noHp.set bx (.cells #[.func fn fa fb] 52 (0, 0)), noHp.set l (o (some .ret))] h5 := by
      have := s5.swap.split t5
      simpa using this
    obtain ⟨h6, s7, t7⟩ := s6.pack3
    refine ⟨h6, s7.in 0 rfl, ?_, .inr ⟨.ret, trivial, s7.at 1 rfl set_self, ?_⟩⟩
    · rcases s7.apart (b := noHp.set l (o (some .ret))) (by simp) l with e | e
      · exact e
      · rw [set_self] at e; cases e
    try simp -implicitDefEqProofs (maxSteps := 2000000) (disch := first | with_reducible exact Nat.ne_of_beq_eq_false rfl | exact oneCell_int | exact oneCell_bool | omega | rfl | (simp; done) | fail) only [blockK_ret, thenK_ret, retK_ret, resL_nil0]
    have d6 : Dis G h6 := fun b o e => d5 b o (s7.in 0 rfl _ _ e)
    refine ⟨a5, ((t7.cut lq).swap.pick 2 rfl rfl).drop, d6, ?_⟩
    unfold Fin
    simp only [Bool.false_eq_true, if_false, hr]
    exact za5

end Go.Proofs.YtnpdploihlgcgaaDoor
