/- Texts of the proof, one behind the other. -/
import Derived.Test.YtnpdploihlgcgaaDoorM4
import Derived.Test.YtnpdploihlgcgaaDoorM1
import Derived.Test.YtnpdploihlgcgaaDoorHZ
import Derived.Test.YtnpdploihlgcgaaDoorH4
import Derived.Test.YtnpdploihlgcgaaDoorH3
section
/- A pose's moves, told to any yield; gathered in a row. -/
set_option linter.unusedSimpArgs false
set_option linter.unusedVariables false
set_option maxRecDepth 100000
namespace Go.Proofs.YtnpdploihlgcgaaDoor
open Go Go.HL

theorem _root_.Go.HL.Sep.pack2 {x y h : Hp} {R : List Hp} (s : Sep (x :: y :: R) h) : ∃ b, Sep (b :: R) h ∧ Sep [x, y] b := by
  obtain ⟨s1, ap⟩ := s.join
  exact ⟨_, s1, ⟨fun a ha => by
    simp only [List.mem_cons, List.not_mem_nil, or_false] at ha
    rcases ha with rfl | rfl
    · exact Hp.le_join
    · exact Hp.le_join2 ap, by simp [ap]⟩⟩
theorem _root_.Go.HL.Sep.pack3 {x y z h : Hp} {R : List Hp} (s : Sep (x :: y :: z :: R) h) : ∃ b, Sep (b :: R) h ∧ Sep [x, y, z] b := by
  have s1 : Sep (y :: z :: x :: R) h := s.rot.rot
  obtain ⟨s2, a2⟩ := s1.join
  obtain ⟨s3, a3⟩ := s2.swap.join
  refine ⟨_, s3, fun a ha => ?_, (List.pairwise_append (l₁ := [x, y, z]) (l₂ := R)).1 s.2 |>.1⟩
  simp only [List.mem_cons, List.not_mem_nil, or_false] at ha
  rcases ha with rfl | rfl | rfl
  · exact Hp.le_join
  · exact Hp.le_join.trans (Hp.le_join2 a3)
  · exact (Hp.le_join2 a2).trans (Hp.le_join2 a3)

theorem opE76 {G : Hp} {a b y : Value} {h : Hp} {K : Value → Hp → Prop} : opE Tryd.prog G (xCallV (.func (.func 76) #[] #[a, b]) #[y]) h K = HCalls Tryd.prog G 76 #[y, a, b] h K := by kernel_rfl
theorem setR1 {n d : Nat} {v : Value} {r : Rg} (hd : d < n) : setR n #[d] #[v] r = upd r d v := by
  unfold setR
  simp [putR, hd]

theorem runs_spec {G h : Hp} {gp : Nat} {p : Pose} : HCalls Tryd.prog G 62 #[.pointer (some ⟨gp, 0, none⟩), poseV p] h (fun u h' => ∃ b1 b2, u = .func (.func 76) #[] #[.pointer (some ⟨b1, 0, none⟩), .pointer (some ⟨b2, 0, none⟩)] ∧ h b1 = none ∧ G b1 = none ∧ (h.set b1 (.cells #[.pointer (some ⟨gp, 0, none⟩)] 31 (0, 0))) b2 = none ∧ G b2 = none ∧ h' = (h.set b1 (.cells #[.pointer (some ⟨gp, 0, none⟩)] 31 (0, 0))).set b2 (.cells #[.int .i64 p.x, .int .i64 p.y, .bool p.d] 30 (0, 0))) := by
  refine enter62 (by simp) ?_
  unfold S62
  simp -implicitDefEqProofs only [regs0, regs1, retK_ret, resL_tmp, upd_eq, resL_nil1, opH_sv, box_new, cells_agg, cells_ptr]
  intro x hx gx y hy gy
  exact ⟨x, y, rfl, hx, gx, hy, gy, rfl⟩

def turnM (p : Pose) : Move := ⟨2, 0, 0, p, turnP p, 0, 0⟩
def movesW (w k : Nat) (f : Nat → Nat → Int) (p : Pose) : List Move := if fitsW w k f p = true then runsL w k f p ++ (if wayB w k f (turnM p) = true then [turnM p] else []) else []

/-- The yield within a range over a function: y's box at bx, the loop's record at l. -/
def InY (Y : List Move → Hp → Prop) (eb : Hp) (l : Nat) (o : Obj) (L : List Move) (b : Hp) : Prop := ∃ a, Y L a ∧ Sep [a, eb, noHp.set l o] b

set_option maxHeartbeats 4000000 in
theorem inner_yield {G : Hp} {y y' : Value} {Y Z : List Move → Hp → Prop} {c : List Move → Bool} {bx l : Nat} {o : Option Exit → Obj} {r : Rg} (yl : Yl moveV G y Y Z c) (gl : G l = none) (ho : ∀ e, isCells (o e) = false) (g3 : r 3 = .pointer (some ⟨bx, 0, none⟩))
    (hy : ∀ (args : Array Value) (h1 : Hp) (K1 : Value → Hp → Prop), args.size = 1 → h1 l = some (o none) →
      S61_a3 G (setR 32 #[13] args r) h1 (fun e r2 h2 => e = .normal ∧ h2 l = some (o none) ∧ ∀ ob, isCells ob = false → S61_b3 G r2 (h2.set l ob) (fun e _ h3 => h3 l = some ob ∧ match e with
        | .normal => K1 (.bool true) (h3.set l (o none))
        | .panic _ => False
        | .outgrown => False
        | e => K1 (.bool false) (h3.set l (o (some e))))) →
      opH Tryd.prog G (xCallV y' args) h1 K1) :
    Yl moveV G y' (InY Y (noHp.set bx (.cells #[y] 52 (0, 0))) l (o none)) (InY Z (noHp.set bx (.cells #[y] 52 (0, 0))) l (o (some .ret))) c := by
  rintro L m b q h ⟨a, ya, sb⟩ s d
  have s1 : Sep [q, a, noHp.set bx (.cells #[y] 52 (0, 0)), noHp.set l (o none)] h := by
    have := s.swap.split sb
    simpa using this
  refine hy #[moveV m] h _ rfl (s1.at 3 rfl set_self) ?_
  rw [setR1 (by decide)]
  unfold S61_a3
  simp -implicitDefEqProofs only [upd_eq, true_and, opH_su, opH_sv, al46, st46w]
  intro x hx gx
  try simp -implicitDefEqProofs only [opH_sv, opH_su, pureW_sv, opH_nil, pureW_nil, pick_t, pick_f, pick_tp, pick_fp, gd_tt, gd_ft, gd_tf, gd_ff, box_new, regs0, regs1, regs2, regs3, regs4, regs5, regs6, cells_agg, cells_int, cells_bool, cells_ptr, cells_slice, cells_string, cells_func, cells_nilFunc, cells_map, retK_ret, retK_normal, resL_tmp, resL_cell, resL_nil0, resL_nil1, resL_nil2, resL_nil3, resC_ptr, ex0, ex1, ex2, ex0p, ex1p, ex2p, HL.cond_true, HL.cond_false, thenK_normal, thenK_ret, thenK_exit, blockK_normal, blockK_ret, blockK_exit, scopeK_normal, scopeK_ret, scopeK_exit, wpH_pure, bin_add, bin_sub, bin_mul, bin_lss, bin_leq, bin_gtr, bin_geq, bin_quo, bin_rem, bin_quop, bin_remp, wrap_in, bin_addp, bin_subp, bin_mulp, bin_lssp, bin_leqp, bin_gtrp, bin_geqp, un_not, un_notp, un_neg, eq_int, ne_int, eq_intp, ne_intp, callV_fn, add_mk, upd_eq, upd_ne, cell_set_self, Nat.zero_add, Nat.add_zero, Option.some.injEq, exists_eq_left', List.getElem?_cons_succ, List.getElem?_cons_zero, true_and, and_true, bne_self_eq_false, beq_self_eq_true, Bool.not_true, Bool.not_false, Bool.and_true, Bool.and_self, Bool.and_false, Bool.true_and, List.length_cons, List.length_nil, ne_eq, not_false_eq_true, Nat.reduceAdd, Nat.reduceMul, if_true, if_false, oneCell_int, oneCell_bool, oneCell_ptr, oneCell_slice, oneCell_string, oneCell_func, oneCell_map, Int.toNat_natCast, List.set_cons_zero, List.set_cons_succ, Nat.lt_irrefl, Nat.zero_lt_succ, Nat.succ_lt_succ_iff, fa26_0, fa26_0p, fa26_1, fa26_1p, fa26_10, fa26_10p, fa26_11, fa26_11p, fa26_12, fa26_12p, fa26_13, fa26_13p, fa26_14, fa26_14p, fa26_2, fa26_2p, fa26_3, fa26_3p, fa26_4, fa26_4p, fa26_5, fa26_5p, fa26_6, fa26_6p, fa26_7, fa26_7p, fa26_8, fa26_8p, fa26_9, fa26_9p, fa28_0, fa28_0p, fa28_1, fa28_1p, fa30_0, fa30_0p, fa30_1, fa30_1p, fa46_0, fa46_0p, fa46_1, fa46_1p, fa46_2, fa46_2p, fa46_3, fa46_3p, fa46_4, fa46_4p, fa46_5, fa46_5p, fa46_6, fa46_6p, fa86_0, fa86_0p, fa86_1, fa86_1p, fa86_2, fa86_2p, fa95_0, fa95_0p, fa95_1, fa95_1p, ld3, ld3p, ld4, ld4p, ld22, ld22p, ld23, ld23p, ld24, ld24p, ld26, ld26p, ld28, ld28p, ld30, ld30p, ld31, ld31p, ld46, ld46p, ld47, ld47p, ld52, ld52p, ld55, ld55p, ld57, ld57p, ld95, ld95p, st3s, st4s, st22s, st23s, st24s, st26w, st28w, st30w, st46w, st47s, st55s, st95w, ix22, ix22p, ix23, ix23p, ix24, ix24p, ix47, ix47p, ix56, ix56p, ix57, ix57p, ix101, ix101p, ln22, ln22p, ln23, ln23p, ln24, ln24p, ln47, ln47p, ln56, ln56p, ln57, ln57p, al22, al26, al28, al30, al46, al47, al95, cf14, cf15, cf16, cf17, cf18, cf19, cf20, cf21, cf22, cf23, cf24, cf25, cf26, cf27, cf28, cf29, cf30, cf31, cf32, cf33, cf34, cf35, cf36, cf37, cf38, cf39, cf40, cf41, cf42, cf43, cf44, cf45, cf46, cf47, cf48, cf49, cf50, cf51, cf52, cf53, cf54, cf55, cf56, cf57, cf58, cf59, cf60, cf61, cf62, cf63, cf64, cf65, cf66, cf67, cf68, cf69, cf70, cf71, cf72, cf73, cf74, cf75, cf76, cf77, cf78, cf79, cf80, bd26_0_1_2_7_8_9_10_11_12_13_14, bd26_0_1_2_7_8_9_10_11_12_13_14p, bd28_0, bd28_0p, bd28_0_1, bd28_0_1p, bd30_, bd30_p, bd30_0_1, bd30_0_1p, bd30_0, bd30_0p, bd46_0_1_2_3_4, bd46_0_1_2_3_4p, bd46_0_3_4, bd46_0_3_4p, bd86_0_1_2, bd86_0_1_2p, bd87_0_1_2_3, bd87_0_1_2_3p, bd95_0_1, bd95_0_1p, bs22_2_0_1, bs47_1_0, bs22_1_0, bs57_6_0_1_2_3_4_5, bs24_1_0, bs22_4_0_1_2_3, bs56_11_0_1_2_3_4_5_6_7_8_9_10, bs57_11_0_1_2_3_4_5_6_7_8_9_10, eq4, eq4p, eq28, eq28p, eq30, eq30p, eq31n, eq31np, eq31s, eq31sp, eq46, eq46p, eq50n, eq50np, eq50s, eq50sp, eq67n, eq67np, eq67s, eq67sp, ne4, ne4p, ne28, ne28p, ne30, ne30p, ne31n, ne31np, ne31s, ne31sp, ne46, ne46p]
  have s2 := s1.past (o := moveO m) hx
  have sx := s1.new (o := moveO m) hx
  have d2 := d.set (o := moveO m) gx
  have nlx : l ≠ x := fun e => by rw [← e, s1.at 3 rfl set_self] at hx; cases hx
  refine ⟨by rw [set_other nlx]; exact s1.at 3 rfl set_self, fun ob hob => ?_⟩
  generalize Hp.set h x _ = h2 at s2 sx d2 ⊢
  have s3 : Sep [noHp.set l ob, noHp.set x (moveO m), q, a, noHp.set bx (.cells #[y] 52 (0, 0))] (h2.set l ob) := by
    have := (sx.pick 4 rfl rfl).put (o := ob) set_self
    rw [set_set] at this
    exact this
  have d3 : Dis G (h2.set l ob) := d2.set gl
  generalize Hp.set h2 l ob = h3 at s3 d3 ⊢
  have cb : ∀ j, cellIn G h3 ⟨bx, j, none⟩ = _ := fun j => cell_of (look_own (s3.at 4 rfl set_self))
  have cx : ∀ j, cellIn G h3 ⟨x, j, none⟩ = _ := fun j => cell_of (look_own (s3.at 1 rfl set_self))
  unfold S61_b3
  try simp -implicitDefEqProofs (disch := first | with_reducible exact Nat.ne_of_beq_eq_false rfl | omega) only [upd_ne, g3, upd_eq, opH_sv, ld46, add_mk, Nat.add_zero, Nat.zero_add, ld52, cb, List.getElem?_cons_zero, Option.some.injEq, cx, List.getElem?_cons_succ, exists_eq_left']
  have s4 : Sep [noHp.set bx (.cells #[y] 52 (0, 0)), noHp.set l ob, q, a] h3 := by
    exact (s3.pick 1 rfl rfl).drop.pick 3 rfl rfl
  obtain ⟨Q, s5, sQ⟩ := s4.pack3
  refine opH_mono (fun v h6 H => ?_) (yl L m a Q h3 ya s5.swap d3)
  obtain ⟨a6, rfl, s6, d6, z6⟩ := H
  have s7 : Sep [a6, noHp.set bx (.cells #[y] 52 (0, 0)), noHp.set l ob, q] h6 := by
    have := s6.split sQ
    simpa using this
  have hl6 := s7.at 2 rfl (set_self (h := noHp) (b := l) (o := ob))
  have fin : ∀ oo : Obj, ∃ b', Sep [b', q] (h6.set l oo) ∧ Sep [a6, noHp.set bx (.cells #[y] 52 (0, 0)), noHp.set l oo] b' := by
    intro oo
    have s8 : Sep [noHp.set l oo, a6, noHp.set bx (.cells #[y] 52 (0, 0)), q] (h6.set l oo) := by
      have := (s7.pick 2 rfl rfl).put (o := oo) set_self
      rw [set_set] at this
      exact this
    exact (s8.rot.rot.pack3)
  cases hc : c (L ++ [m]) with
  | false =>
    try simp -implicitDefEqProofs only [true_and, un_not, Bool.not_false, HL.cond_true]
    rw [hc] at z6
    obtain ⟨b', t1, t2⟩ := fin (o (some .ret))
    exact ⟨hl6, b', t1, d6.set gl, a6, z6, t2⟩
  | true =>
    try simp -implicitDefEqProofs only [if_true, true_and, un_not, Bool.not_true, HL.cond_false]
    rw [hc] at z6
    obtain ⟨b', t1, t2⟩ := fin (o none)
    exact ⟨hl6, b', t1, d6.set gl, a6, z6, t2⟩

theorem feed_nil {α : Type} {c : List α → Bool} {L : List α} : feed c L [] = (L, true) := rfl

theorem turn_bd {p : Pose} (hp : PB p) : MB (turnM p) := ⟨⟨show (-9223372036854775808 : Int) ≤ 0 by decide, show (0 : Int) ≤ 9223372036854775807 by decide⟩, hp⟩

/-- Behind the runs: the turn. -/
theorem moves_tail {G h a q : Hp} {y g : Value} {Y Z : List Move → Hp → Prop} {c : List Move → Bool} {L : List Move} {gb pb bx w k : Nat} {f : Nat → Nat → Int} {p : Pose} {T : List Move × Bool} {KK : Exit → Rg → Hp → Prop} {r : Rg}
    (yl : Yl moveV G y Y Z c) (ya : Y L a) (s : Sep [a, noHp.set bx (.cells #[y] 52 (0, 0)), q] h) (d : Dis G h) (hg : q gb = some (.cells #[g] 31 (0, 0))) (hpb : q pb = some (.cells #[.int .i64 p.x, .int .i64 p.y, .bool p.d] 30 (0, 0))) (gs : GS G q g w k f) (st : Steps G) (hp : PB p)
    (g1 : r 1 = .pointer (some ⟨gb, 0, none⟩)) (g2 : r 2 = .pointer (some ⟨pb, 0, none⟩)) (g3 : r 3 = .pointer (some ⟨bx, 0, none⟩))
    (hT : feed c L (if wayB w k f (turnM p) = true then [turnM p] else []) = T) (H : ∀ r h', RunsR G q Y Z T h' → KK .normal r h') : S61_k2 G KK r h := by
  have cp : ∀ j, cellIn G h ⟨pb, j, none⟩ = _ := fun j => cell_of (look_own (s.at 2 rfl hpb))
  unfold S61_k2
  simp -implicitDefEqProofs only [g2, g1, g3, opH_sv, ld52, cf27, ld31, opH_su, al46, ld46, add_mk, Nat.add_zero, Nat.zero_add, fa30_1, ld4, fa30_0, ld28, ld30, cp, List.getElem?_cons_zero, Option.some.injEq, List.getElem?_cons_succ, exists_eq_left', un_not, bd30_0_1, bd46_0_3_4, st46w, cell_set_self]
  intro x hx gx
  have d2 := d.set (o := moveO (turnM p)) gx
  have s2 := s.past (o := moveO (turnM p)) hx
  have hx2 : (h.set x (moveO (turnM p))) x = some (moveO (turnM p)) := set_self
  have e : (h.set x (.cells #[.int .i64 2, .int .i64 0, .int .i64 0, .int .i64 p.x, .int .i64 p.y, .bool p.d, .int .i64 p.x, .int .i64 p.y, .bool !p.d, .int .i64 0, .int .i64 0] 46 (0, 0))) = h.set x (moveO (turnM p)) := rfl
  try simp -implicitDefEqProofs only [opH_sv, opH_su, pureW_sv, opH_nil, pureW_nil, pick_t, pick_f, pick_tp, pick_fp, gd_tt, gd_ft, gd_tf, gd_ff, box_new, regs0, regs1, regs2, regs3, regs4, regs5, regs6, cells_agg, cells_int, cells_bool, cells_ptr, cells_slice, cells_string, cells_func, cells_nilFunc, cells_map, retK_ret, retK_normal, resL_tmp, resL_cell, resL_nil0, resL_nil1, resL_nil2, resL_nil3, resC_ptr, ex0, ex1, ex2, ex0p, ex1p, ex2p, HL.cond_true, HL.cond_false, thenK_normal, thenK_ret, thenK_exit, blockK_normal, blockK_ret, blockK_exit, scopeK_normal, scopeK_ret, scopeK_exit, wpH_pure, bin_add, bin_sub, bin_mul, bin_lss, bin_leq, bin_gtr, bin_geq, bin_quo, bin_rem, bin_quop, bin_remp, wrap_in, bin_addp, bin_subp, bin_mulp, bin_lssp, bin_leqp, bin_gtrp, bin_geqp, un_not, un_notp, un_neg, eq_int, ne_int, eq_intp, ne_intp, callV_fn, add_mk, upd_eq, upd_ne, cell_set_self, Nat.zero_add, Nat.add_zero, Option.some.injEq, exists_eq_left', List.getElem?_cons_succ, List.getElem?_cons_zero, true_and, and_true, bne_self_eq_false, beq_self_eq_true, Bool.not_true, Bool.not_false, Bool.and_true, Bool.and_self, Bool.and_false, Bool.true_and, List.length_cons, List.length_nil, ne_eq, not_false_eq_true, Nat.reduceAdd, Nat.reduceMul, if_true, if_false, oneCell_int, oneCell_bool, oneCell_ptr, oneCell_slice, oneCell_string, oneCell_func, oneCell_map, Int.toNat_natCast, List.set_cons_zero, List.set_cons_succ, Nat.lt_irrefl, Nat.zero_lt_succ, Nat.succ_lt_succ_iff, fa26_0, fa26_0p, fa26_1, fa26_1p, fa26_10, fa26_10p, fa26_11, fa26_11p, fa26_12, fa26_12p, fa26_13, fa26_13p, fa26_14, fa26_14p, fa26_2, fa26_2p, fa26_3, fa26_3p, fa26_4, fa26_4p, fa26_5, fa26_5p, fa26_6, fa26_6p, fa26_7, fa26_7p, fa26_8, fa26_8p, fa26_9, fa26_9p, fa28_0, fa28_0p, fa28_1, fa28_1p, fa30_0, fa30_0p, fa30_1, fa30_1p, fa46_0, fa46_0p, fa46_1, fa46_1p, fa46_2, fa46_2p, fa46_3, fa46_3p, fa46_4, fa46_4p, fa46_5, fa46_5p, fa46_6, fa46_6p, fa86_0, fa86_0p, fa86_1, fa86_1p, fa86_2, fa86_2p, fa95_0, fa95_0p, fa95_1, fa95_1p, ld3, ld3p, ld4, ld4p, ld22, ld22p, ld23, ld23p, ld24, ld24p, ld26, ld26p, ld28, ld28p, ld30, ld30p, ld31, ld31p, ld46, ld46p, ld47, ld47p, ld52, ld52p, ld55, ld55p, ld57, ld57p, ld95, ld95p, st3s, st4s, st22s, st23s, st24s, st26w, st28w, st30w, st46w, st47s, st55s, st95w, ix22, ix22p, ix23, ix23p, ix24, ix24p, ix47, ix47p, ix56, ix56p, ix57, ix57p, ix101, ix101p, ln22, ln22p, ln23, ln23p, ln24, ln24p, ln47, ln47p, ln56, ln56p, ln57, ln57p, al22, al26, al28, al30, al46, al47, al95, cf14, cf15, cf16, cf17, cf18, cf19, cf20, cf21, cf22, cf23, cf24, cf25, cf26, cf27, cf28, cf29, cf30, cf31, cf32, cf33, cf34, cf35, cf36, cf37, cf38, cf39, cf40, cf41, cf42, cf43, cf44, cf45, cf46, cf47, cf48, cf49, cf50, cf51, cf52, cf53, cf54, cf55, cf56, cf57, cf58, cf59, cf60, cf61, cf62, cf63, cf64, cf65, cf66, cf67, cf68, cf69, cf70, cf71, cf72, cf73, cf74, cf75, cf76, cf77, cf78, cf79, cf80, bd26_0_1_2_7_8_9_10_11_12_13_14, bd26_0_1_2_7_8_9_10_11_12_13_14p, bd28_0, bd28_0p, bd28_0_1, bd28_0_1p, bd30_, bd30_p, bd30_0_1, bd30_0_1p, bd30_0, bd30_0p, bd46_0_1_2_3_4, bd46_0_1_2_3_4p, bd46_0_3_4, bd46_0_3_4p, bd86_0_1_2, bd86_0_1_2p, bd87_0_1_2_3, bd87_0_1_2_3p, bd95_0_1, bd95_0_1p, bs22_2_0_1, bs47_1_0, bs22_1_0, bs57_6_0_1_2_3_4_5, bs24_1_0, bs22_4_0_1_2_3, bs56_11_0_1_2_3_4_5_6_7_8_9_10, bs57_11_0_1_2_3_4_5_6_7_8_9_10, eq4, eq4p, eq28, eq28p, eq30, eq30p, eq31n, eq31np, eq31s, eq31sp, eq46, eq46p, eq50n, eq50np, eq50s, eq50sp, eq67n, eq67np, eq67s, eq67sp, ne4, ne4p, ne28, ne28p, ne30, ne30p, ne31n, ne31np, ne31s, ne31sp, ne46, ne46p]
  rw [e]
  generalize e1 : Hp.set h x _ = h1 at s2 d2 hx2 ⊢
  have cg : ∀ j, cellIn G h1 ⟨gb, j, none⟩ = _ := fun j => cell_of (look_own (s2.at 2 rfl hg))
  have cb : ∀ j, cellIn G h1 ⟨bx, j, none⟩ = _ := fun j => cell_of (look_own (s2.at 1 rfl set_self))
  have cx : ∀ j, cellIn G h1 ⟨x, j, none⟩ = _ := fun j => cell_of (look_own hx2)
  try simp -implicitDefEqProofs only [cg, List.getElem?_cons_zero, Option.some.injEq, exists_eq_left']
  refine (legal_spec (m := turnM p) (gs.up (s2.in 2 rfl) d2) st (turn_bd hp)).mono ?_
  rintro _ _ ⟨rfl, rfl⟩
  cases hw : wayB w k f (turnM p) with
  | false =>
    rw [hw, if_neg (by simp), feed_nil] at hT
    try simp -implicitDefEqProofs only [HL.cond_false]
    exact H _ _ (RunsR.go (c := c) (s2.pick 1 rfl rfl).drop d2 ya (by rw [feed_nil]; exact hT))
  | true =>
    rw [hw, if_pos rfl] at hT
    try simp -implicitDefEqProofs only [cb, List.getElem?_cons_zero, Option.some.injEq, cx, List.getElem?_cons_succ, exists_eq_left', HL.cond_true]
    obtain ⟨Q, s5, sQ⟩ := s2.rot.rot.pack2
    refine opH_mono (fun v h6 R => ?_) (yl L (turnM p) a Q _ ya s5.swap d2)
    obtain ⟨a6, rfl, s6, d6, z6⟩ := R
    refine H _ _ ?_
    have s7 : Sep [a6, noHp.set bx (.cells #[y] 52 (0, 0)), q] h6 := by
      have := s6.split sQ
      simpa using this
    refine ⟨a6, (s7.pick 1 rfl rfl).drop, d6, ?_⟩
    rw [← hT]
    cases hc : c (L ++ [turnM p]) with
    | false => rw [feed_f hc]; rw [hc] at z6; exact z6
    | true => rw [feed_t hc]; rw [hc] at z6; exact z6

set_option maxHeartbeats 4000000 in
theorem moves1_spec {G h a q : Hp} {y g : Value} {Y Z : List Move → Hp → Prop} {c : List Move → Bool} {L : List Move} {gb pb w k : Nat} {f : Nat → Nat → Int} {p : Pose} (hyf : ∃ fn a b, y = .func fn a b)
    (yl : Yl moveV G y Y Z c) (ya : Y L a) (s : Sep [a, q] h) (hg : q gb = some (.cells #[g] 31 (0, 0))) (hpb : q pb = some (.cells #[.int .i64 p.x, .int .i64 p.y, .bool p.d] 30 (0, 0))) (gs : GS G q g w k f) (st : Steps G) (hp : PB p) :
    HCalls Tryd.prog G 61 #[y, .pointer (some ⟨gb, 0, none⟩), .pointer (some ⟨pb, 0, none⟩)] h (fun _ h' => RunsR G q Y Z (feed c L (movesW w k f p)) h') := by
  obtain ⟨fn, fa, fb, rfl⟩ := hyf
  obtain ⟨⟨gp, kb, rfl, _⟩, _⟩ := id gs
  refine HCalls.assume fun d => enter61 (by simp) ?_
  unfold S61
  simp -implicitDefEqProofs only [regs0, regs1, regs2, retK_ret, resL_nil0, opH_sv, cf23, ld30, add_mk, Nat.add_zero, Nat.zero_add, ld31, box_new, cells_func]
  intro bx hbx gbx
  have s1 : Sep [a, noHp.set bx (.cells #[.func fn fa fb] 52 (0, 0)), q] (h.set bx (.cells #[.func fn fa fb] 52 (0, 0))) := (s.new hbx).swap
  have d1 := d.set (o := .cells #[.func fn fa fb] 52 (0, 0)) gbx
  generalize Hp.set h bx _ = h1 at s1 d1 ⊢
  have cg : ∀ j, cellIn G h1 ⟨gb, j, none⟩ = _ := fun j => cell_of (look_own (s1.at 2 rfl hg))
  have cp : ∀ j, cellIn G h1 ⟨pb, j, none⟩ = _ := fun j => cell_of (look_own (s1.at 2 rfl hpb))
  try simp -implicitDefEqProofs only [cg, List.getElem?_cons_zero, Option.some.injEq, cp, List.getElem?_cons_succ, exists_eq_left']
  refine (fits_spec (p := p) (gs.up (s1.in 2 rfl) d1) st hp).mono ?_
  rintro _ _ ⟨rfl, rfl⟩
  unfold movesW
  cases hf : fitsW w k f p with
  | false =>
    try simp -implicitDefEqProofs only [un_not, Bool.not_false, HL.cond_true]
    exact ⟨a, (s1.pick 1 rfl rfl).drop, d1, ya⟩
  | true =>
  try simp -implicitDefEqProofs only [if_true, un_not, Bool.not_true, HL.cond_false]
  unfold S61_k1
  try simp -implicitDefEqProofs (maxSteps := 2000000) (disch := first | with_reducible exact Nat.ne_of_beq_eq_false rfl | exact oneCell_int | exact oneCell_bool | omega | rfl | (simp; done) | fail) only [upd_ne, regs1, regs2, cf62, opH_sv, ld30, add_mk, Nat.add_zero, Nat.zero_add, ld31, cg, List.getElem?_cons_zero, Option.some.injEq, cp, List.getElem?_cons_succ, exists_eq_left']
  refine (runs_spec (gp := gp) (p := p)).mono ?_
  rintro _ _ ⟨b1, b2, rfl, hb1, gb1, hb2, gb2, rfl⟩
  have s2 : Sep [(q.set b1 (.cells #[.pointer (some ⟨gp, 0, none⟩)] 31 (0, 0))).set b2 (.cells #[.int .i64 p.x, .int .i64 p.y, .bool p.d] 30 (0, 0)), a, noHp.set bx (.cells #[.func fn fa fb] 52 (0, 0))] _ := ((s1.pick 2 rfl rfl).grow (o := .cells #[.pointer (some ⟨gp, 0, none⟩)] 31 (0, 0)) hb1).grow (o := .cells #[.int .i64 p.x, .int .i64 p.y, .bool p.d] 30 (0, 0)) hb2
  have d2 := (d1.set (o := .cells #[.pointer (some ⟨gp, 0, none⟩)] 31 (0, 0)) gb1).set (o := .cells #[.int .i64 p.x, .int .i64 p.y, .bool p.d] 30 (0, 0)) gb2
  have e12 : b1 ≠ b2 := ne_of_set hb2
  have hq1 : q b1 = none := (s1.in 2 rfl).none hb1
  have lq : q.le ((q.set b1 (.cells #[.pointer (some ⟨gp, 0, none⟩)] 31 (0, 0))).set b2 (.cells #[.int .i64 p.x, .int .i64 p.y, .bool p.d] 30 (0, 0))) := (le_set hq1).trans (le_set (by rw [set_other (Ne.symm e12)]; exact (s1.in 2 rfl).none (none_of_set hb2)))
  have hq1' : ((q.set b1 (.cells #[.pointer (some ⟨gp, 0, none⟩)] 31 (0, 0))).set b2 (.cells #[.int .i64 p.x, .int .i64 p.y, .bool p.d] 30 (0, 0))) b1 = some (.cells #[.pointer (some ⟨gp, 0, none⟩)] 31 (0, 0)) := by rw [set_other e12, set_self]
  have hq2' : ((q.set b1 (.cells #[.pointer (some ⟨gp, 0, none⟩)] 31 (0, 0))).set b2 (.cells #[.int .i64 p.x, .int .i64 p.y, .bool p.d] 30 (0, 0))) b2 = some (.cells #[.int .i64 p.x, .int .i64 p.y, .bool p.d] 30 (0, 0)) := set_self
  generalize (q.set b1 (.cells #[.pointer (some ⟨gp, 0, none⟩)] 31 (0, 0))).set b2 (.cells #[.int .i64 p.x, .int .i64 p.y, .bool p.d] 30 (0, 0)) = q2 at s2 lq hq1' hq2'
  generalize Hp.set (Hp.set _ b1 _) b2 _ = h2 at s2 d2 ⊢
  intro y' l o hl gl ho HY
  rw [opE76]
  have s3 : Sep [a, noHp.set bx (.cells #[.func fn fa fb] 52 (0, 0)), noHp.set l (o none), q2] (h2.set l (o none)) := ((s2.new (o := o none) hl).pick 3 rfl rfl).pick 3 rfl rfl
  have d3 : Dis G (h2.set l (o none)) := d2.set gl
  obtain ⟨B, sB, tB⟩ := s3.pack3
  have gs2 : GS G q2 (.pointer (some ⟨gp, 0, none⟩)) w k f := gs.up lq (fun b o e => d3 b o (sB.in 1 rfl _ _ e))
  refine (runs1_spec (p := p) (inner_yield yl gl ho (by simp -implicitDefEqProofs (disch := first | with_reducible exact Nat.ne_of_beq_eq_false rfl | omega) only [upd_ne, upd_eq]) HY) ⟨a, ya, tB⟩ sB hq1' hq2' gs2 st).mono ?_
  rintro _ h5 ⟨b5, s5, d5, z5⟩
  rw [feed_app]
  unfold Fin at z5
  cases hr : (feed c L (runsL w k f p)).2 with
  | true =>
    rw [hr, if_pos rfl] at z5
    obtain ⟨a5, ya5, t5⟩ := z5
    have s6 : Sep [q2, a5, noHp.set bx (.cells #[.func fn fa fb] 52 (0, 0)), noHp.set l (o none)] h5 := by
      have := s5.swap.split t5
      simpa using this
    obtain ⟨h6, s7, t7⟩ := s6.pack3
    refine ⟨h6, s7.in 0 rfl, ?_, .inl ⟨s7.at 1 rfl set_self, ?_⟩⟩
    · rcases s7.apart (b := noHp.set l (o none)) (by simp) l with e | e
      · exact e
      · rw [set_self] at e; cases e
    try simp -implicitDefEqProofs (disch := first | with_reducible exact Nat.ne_of_beq_eq_false rfl | omega) only [if_true, blockK_normal, thenK_normal]
    have d6 : Dis G h6 := fun b o e => d5 b o (s7.in 0 rfl _ _ e)
    refine moves_tail yl ya5 ((t7.cut lq).rot.rot) d6 hg hpb gs st hp (by simp -implicitDefEqProofs (disch := first | with_reducible exact Nat.ne_of_beq_eq_false rfl | omega) only [upd_ne, regs1]) (by simp -implicitDefEqProofs (disch := first | with_reducible exact Nat.ne_of_beq_eq_false rfl | omega) only [upd_ne, regs2]) (by simp -implicitDefEqProofs (disch := first | with_reducible exact Nat.ne_of_beq_eq_false rfl | omega) only [upd_ne, upd_eq]) rfl fun r h' H => ?_
    try simp -implicitDefEqProofs only [retK_normal, resL_nil0]
    exact H
  | false =>
    rw [hr, if_neg (by simp)] at z5
    obtain ⟨a5, za5, t5⟩ := z5
    have s6 : Sep [q2, a5, noHp.set bx (.cells #[.func fn fa fb] 52 (0, 0)), noHp.set l (o (some .ret))] h5 := by
      have := s5.swap.split t5
      simpa using this
    obtain ⟨h6, s7, t7⟩ := s6.pack3
    refine ⟨h6, s7.in 0 rfl, ?_, .inr ⟨.ret, trivial, s7.at 1 rfl set_self, ?_⟩⟩
    · rcases s7.apart (b := noHp.set l (o (some .ret))) (by simp) l with e | e
      · exact e
      · rw [set_self] at e; cases e
    try simp -implicitDefEqProofs only [blockK_ret, thenK_ret, retK_ret, resL_nil0]
    have d6 : Dis G h6 := fun b o e => d5 b o (s7.in 0 rfl _ _ e)
    refine ⟨a5, ((t7.cut lq).swap.pick 2 rfl rfl).drop, d6, ?_⟩
    unfold Fin
    simp only [Bool.false_eq_true, if_false, hr]
    exact za5

end Go.Proofs.YtnpdploihlgcgaaDoor
end

section
/- A pose's moves gathered in a row. -/
set_option linter.unusedSimpArgs false
set_option linter.unusedVariables false
set_option maxRecDepth 100000
namespace Go.Proofs.YtnpdploihlgcgaaDoor
open Go Go.HL

def moveC : Cod Move := ⟨11, fun m => [.int .i64 m.k, .int .i64 m.d, .int .i64 m.n, .int .i64 m.f.x, .int .i64 m.f.y, .bool m.f.d, .int .i64 m.t.x, .int .i64 m.t.y, .bool m.t.d, .int .i64 m.a, .int .i64 m.e], fun _ => rfl, fun _ v hv => by simp at hv; rcases hv with rfl | rfl | rfl | rfl | rfl | rfl | rfl | rfl | rfl | rfl | rfl <;> rfl⟩
theorem eomove : ElemOk Tryd.prog 46 moveC.n 88 := eo46

/-- What a gathering yield owns: the row so far, its box, the box of how many at most. -/
def GY {α : Type} (c : Cod α) (e T : TypeId) (most : Int) (lb mb : Nat) (L : List α) (a : Hp) : Prop := ∃ ip v, Slc c e ip v L ∧ Sep [ip, noHp.set lb (.cells #[v] T (0, 0)), noHp.set mb (.cells #[.int .i64 most] 3 (0, 0))] a
def GYb {α : Type} (c : Cod α) (e T : TypeId) (most : Int) (lb mb : Nat) (L : List α) (a : Hp) : Prop := GY c e T most lb mb L a ∧ (L.length : Int) < most

theorem store47 {G h : Hp} {lb : Nat} {z : Value} {a : Option Addr} {n c : Nat} {K : Unit → Hp → Prop} (hb : h lb = some (.cells #[z] 47 (0, 0))) :
    wpH Tryd.prog G (Instr.storeAt 47 (.pointer (some ⟨lb, 0, none⟩)) (.slice a n c)) h K = K () (h.set lb (.cells #[.slice a n c] 47 (0, 0))) := by
  rw [store1_eq sz47 rfl hb (by simp)]
  rfl

theorem yield60_spec {G a : Hp} {lb mb : Nat} {most : Int} {L : List Move} {m : Move} (y : GYb moveC 46 47 most lb mb L a) (hm : most ≤ 100000) :
    HCalls Tryd.prog G 60 #[moveV m, .pointer (some ⟨lb, 0, none⟩), .pointer (some ⟨mb, 0, none⟩)] a (fun v a' => v = .bool (lessC most (L ++ [m])) ∧ GY moveC 46 47 most lb mb (L ++ [m]) a') := by
  obtain ⟨⟨ip, v, o, s⟩, hlen⟩ := y
  refine HCalls.assume fun d => enter60 (by simp) ?_
  unfold S60
  simp -implicitDefEqProofs (maxSteps := 2000000) (disch := first | with_reducible exact Nat.ne_of_beq_eq_false rfl | exact oneCell_int | exact oneCell_bool | omega | rfl | (simp; done) | fail) only [regs0, regs1, regs2, retK_ret, resL_tmp, upd_eq, resL_nil1, opH_sv, ld3, ld47, opH_su, box_new, cells_agg, ld46, add_mk, Nat.add_zero, cell_set_self, List.getElem?_cons_zero, Option.some.injEq, Nat.zero_add, List.getElem?_cons_succ, bs47_1_0, exists_eq_left']
  intro x hx gx
  have s1 := s.past (o := moveO m) hx
  have d1 := d.set (o := moveO m) gx
  have hx1 : (a.set x (moveO m)) x = some (moveO m) := set_self
  generalize Hp.set a x _ = h1 at s1 d1 hx1 ⊢
  have clb : ∀ j, cellIn G h1 ⟨lb, j, none⟩ = _ := fun j => cell_of (look_own (s1.at 1 rfl set_self))
  have cx : ∀ j, cellIn G h1 ⟨x, j, none⟩ = _ := fun j => cell_of (look_own hx1)
  try simp -implicitDefEqProofs (maxSteps := 2000000) (disch := first | with_reducible exact Nat.ne_of_beq_eq_false rfl | exact oneCell_int | exact oneCell_bool | omega | rfl | (simp; done) | fail) only [clb, List.getElem?_cons_zero, Option.some.injEq, exists_eq_left']
  intro b hb gb
  have s2 := s1.past (o := moveO m) hb
  have d2 := d1.set (o := moveO m) gb
  have hb2 : (h1.set b (moveO m)) b = some (moveO m) := set_self
  generalize Hp.set h1 b _ = h2 at s2 d2 hb2 ⊢
  refine append_piece moveC (by decide) un47 eomove (by decide) (by decide) (M := [m]) s2 d2 o (Sees.row (c := moveC) (L := [m]) hb2 rfl (Nat.le_refl _)) (by simp; omega) fun v3 a3 h3 o3 s3 d3 => ?_
  obtain ⟨sa, cap, rfl, hcap⟩ := o3.len (by decide)
  have hlb3 := s3.at 1 rfl set_self
  try simp -implicitDefEqProofs (maxSteps := 2000000) (disch := first | with_reducible exact Nat.ne_of_beq_eq_false rfl | exact oneCell_int | exact oneCell_bool | omega | rfl | (simp; done) | fail) only [opH_sv, opH_su, pureW_sv, opH_nil, pureW_nil, pick_t, pick_f, pick_tp, pick_fp, gd_tt, gd_ft, gd_tf, gd_ff, box_new, regs0, regs1, regs2, regs3, regs4, regs5, regs6, cells_agg, cells_int, cells_bool, cells_ptr, cells_slice, cells_string, cells_func, cells_nilFunc, cells_map, retK_ret, retK_normal, resL_tmp, resL_cell, resL_nil0, resL_nil1, resL_nil2, resL_nil3, resC_ptr, ex0, ex1, ex2, ex0p, ex1p, ex2p, HL.cond_true, HL.cond_false, thenK_normal, thenK_ret, thenK_exit, blockK_normal, blockK_ret, blockK_exit, scopeK_normal, scopeK_ret, scopeK_exit, wpH_pure, bin_add, bin_sub, bin_mul, bin_lss, bin_leq, bin_gtr, bin_geq, bin_quo, bin_rem, bin_quop, bin_remp, wrap_in, bin_addp, bin_subp, bin_mulp, bin_lssp, bin_leqp, bin_gtrp, bin_geqp, un_not, un_notp, un_neg, eq_int, ne_int, eq_intp, ne_intp, callV_fn, add_mk, upd_eq, upd_ne, cell_set_self, Nat.zero_add, Nat.add_zero, Option.some.injEq, exists_eq_left', List.getElem?_cons_succ, List.getElem?_cons_zero, true_and, and_true, bne_self_eq_false, beq_self_eq_true, Bool.not_true, Bool.not_false, Bool.and_true, Bool.and_self, Bool.and_false, Bool.true_and, List.length_cons, List.length_nil, ne_eq, not_false_eq_true, Nat.reduceAdd, Nat.reduceMul, if_true, if_false, oneCell_int, oneCell_bool, oneCell_ptr, oneCell_slice, oneCell_string, oneCell_func, oneCell_map, Int.toNat_natCast, List.set_cons_zero, List.set_cons_succ, Nat.lt_irrefl, Nat.zero_lt_succ, Nat.succ_lt_succ_iff, fa26_0, fa26_0p, fa26_1, fa26_1p, fa26_10, fa26_10p, fa26_11, fa26_11p, fa26_12, fa26_12p, fa26_13, fa26_13p, fa26_14, fa26_14p, fa26_2, fa26_2p, fa26_3, fa26_3p, fa26_4, fa26_4p, fa26_5, fa26_5p, fa26_6, fa26_6p, fa26_7, fa26_7p, fa26_8, fa26_8p, fa26_9, fa26_9p, fa28_0, fa28_0p, fa28_1, fa28_1p, fa30_0, fa30_0p, fa30_1, fa30_1p, fa46_0, fa46_0p, fa46_1, fa46_1p, fa46_2, fa46_2p, fa46_3, fa46_3p, fa46_4, fa46_4p, fa46_5, fa46_5p, fa46_6, fa46_6p, fa86_0, fa86_0p, fa86_1, fa86_1p, fa86_2, fa86_2p, fa95_0, fa95_0p, fa95_1, fa95_1p, ld3, ld3p, ld4, ld4p, ld22, ld22p, ld23, ld23p, ld24, ld24p, ld26, ld26p, ld28, ld28p, ld30, ld30p, ld31, ld31p, ld46, ld46p, ld47, ld47p, ld52, ld52p, ld55, ld55p, ld57, ld57p, ld95, ld95p, st3s, st4s, st22s, st23s, st24s, st26w, st28w, st30w, st46w, st47s, st55s, st95w, ix22, ix22p, ix23, ix23p, ix24, ix24p, ix47, ix47p, ix56, ix56p, ix57, ix57p, ix101, ix101p, ln22, ln22p, ln23, ln23p, ln24, ln24p, ln47, ln47p, ln56, ln56p, ln57, ln57p, al22, al26, al28, al30, al46, al47, al95, cf14, cf15, cf16, cf17, cf18, cf19, cf20, cf21, cf22, cf23, cf24, cf25, cf26, cf27, cf28, cf29, cf30, cf31, cf32, cf33, cf34, cf35, cf36, cf37, cf38, cf39, cf40, cf41, cf42, cf43, cf44, cf45, cf46, cf47, cf48, cf49, cf50, cf51, cf52, cf53, cf54, cf55, cf56, cf57, cf58, cf59, cf60, cf61, cf62, cf63, cf64, cf65, cf66, cf67, cf68, cf69, cf70, cf71, cf72, cf73, cf74, cf75, cf76, cf77, cf78, cf79, cf80, bd26_0_1_2_7_8_9_10_11_12_13_14, bd26_0_1_2_7_8_9_10_11_12_13_14p, bd28_0, bd28_0p, bd28_0_1, bd28_0_1p, bd30_, bd30_p, bd30_0_1, bd30_0_1p, bd30_0, bd30_0p, bd46_0_1_2_3_4, bd46_0_1_2_3_4p, bd46_0_3_4, bd46_0_3_4p, bd86_0_1_2, bd86_0_1_2p, bd87_0_1_2_3, bd87_0_1_2_3p, bd95_0_1, bd95_0_1p, bs22_2_0_1, bs47_1_0, bs22_1_0, bs57_6_0_1_2_3_4_5, bs24_1_0, bs22_4_0_1_2_3, bs56_11_0_1_2_3_4_5_6_7_8_9_10, bs57_11_0_1_2_3_4_5_6_7_8_9_10, eq4, eq4p, eq28, eq28p, eq30, eq30p, eq31n, eq31np, eq31s, eq31sp, eq46, eq46p, eq50n, eq50np, eq50s, eq50sp, eq67n, eq67np, eq67s, eq67sp, ne4, ne4p, ne28, ne28p, ne30, ne30p, ne31n, ne31np, ne31s, ne31sp, ne46, ne46p]
  rw [store47 hlb3]
  have s4 := (s3.pick 1 rfl rfl).put (o := .cells #[.slice sa (L ++ [m]).length cap] 47 (0, 0)) set_self
  rw [set_set] at s4
  have clb4 : ∀ j, cellIn G (h3.set lb (.cells #[.slice sa (L ++ [m]).length cap] 47 (0, 0))) ⟨lb, j, none⟩ = _ := fun j => cell_of (look_own (s4.at 0 rfl set_self))
  have cmb4 : ∀ j, cellIn G (h3.set lb (.cells #[.slice sa (L ++ [m]).length cap] 47 (0, 0))) ⟨mb, j, none⟩ = _ := fun j => cell_of (look_own (s4.at 2 rfl set_self))
  try simp -implicitDefEqProofs (maxSteps := 2000000) (disch := first | with_reducible exact Nat.ne_of_beq_eq_false rfl | exact oneCell_int | exact oneCell_bool | omega | rfl | (simp; done) | fail) only [clb4, List.getElem?_cons_zero, Option.some.injEq, exists_eq_left', ln47, cmb4, bin_lss]
  refine ⟨?_, a3, _, o3, s4.swap⟩
  first | rfl | simp [lessC]

theorem gather_yl {G : Hp} {lb mb : Nat} {most : Int} (hm : most ≤ 100000) : Yl moveV G (.func (.func 60) #[] #[.pointer (some ⟨lb, 0, none⟩), .pointer (some ⟨mb, 0, none⟩)]) (GYb moveC 46 47 most lb mb) (GY moveC 46 47 most lb mb) (lessC most) := by
  intro L m a q h y s d
  simp -implicitDefEqProofs (maxSteps := 2000000) (disch := first | with_reducible exact Nat.ne_of_beq_eq_false rfl | exact oneCell_int | exact oneCell_bool | omega | rfl | (simp; done) | fail) only [callV_fn, cf60]
  refine (s.on (yield60_spec y hm)).mono ?_
  rintro v h' ⟨a', ⟨rfl, gy⟩, s', d'⟩
  refine ⟨a', rfl, s', d', ?_⟩
  split
  · rename_i hc
    exact ⟨gy, of_decide_eq_true hc⟩
  · exact gy

theorem moves26_spec {G h : Hp} {gp : Nat} {p : Pose} : HCalls Tryd.prog G 26 #[.pointer (some ⟨gp, 0, none⟩), poseV p] h (fun u h' => ∃ b1 b2, u = .func (.func 61) #[] #[.pointer (some ⟨b1, 0, none⟩), .pointer (some ⟨b2, 0, none⟩)] ∧ h.le h' ∧ Dis G h' ∧ h' b1 = some (.cells #[.pointer (some ⟨gp, 0, none⟩)] 31 (0, 0)) ∧ h' b2 = some (.cells #[.int .i64 p.x, .int .i64 p.y, .bool p.d] 30 (0, 0))) := by
  refine HCalls.assume fun d => enter26 (by simp) ?_
  unfold S26
  simp -implicitDefEqProofs (maxSteps := 2000000) (disch := first | with_reducible exact Nat.ne_of_beq_eq_false rfl | exact oneCell_int | exact oneCell_bool | omega | rfl | (simp; done) | fail) only [regs0, regs1, retK_ret, resL_tmp, upd_eq, resL_nil1, opH_sv, box_new, cells_agg, cells_ptr]
  intro x hx gx y hy gy
  exact ⟨x, y, rfl, (le_set hx).trans (le_set hy), (d.set gx).set gy, by rw [set_other (ne_of_set hy), set_self], set_self⟩

theorem moves25_spec {G h : Hp} {g : Value} {gb pb w k : Nat} {f : Nat → Nat → Int} {p : Pose} {most : Int} (hg : h gb = some (.cells #[g] 31 (0, 0))) (hpb : h pb = some (.cells #[.int .i64 p.x, .int .i64 p.y, .bool p.d] 30 (0, 0))) (gs : GS G h g w k f) (st : Steps G) (hp : PB p) (hm1 : 1 ≤ most) (hm2 : most ≤ 100000) :
    HCalls Tryd.prog G 25 #[.func (.func 61) #[] #[.pointer (some ⟨gb, 0, none⟩), .pointer (some ⟨pb, 0, none⟩)], .int .i64 most] h (fun u h' => ∃ ip, Slc moveC 46 ip u ((movesW w k f p).take most.toNat) ∧ Sep [ip, h] h' ∧ Dis G h') := by
  refine HCalls.assume fun d => enter25 (by simp) ?_
  unfold S25
  simp -implicitDefEqProofs (maxSteps := 2000000) (disch := first | with_reducible exact Nat.ne_of_beq_eq_false rfl | exact oneCell_int | exact oneCell_bool | omega | rfl | (simp; done) | fail) only [regs1, regs0, retK_ret, resL_tmp, upd_eq, resL_nil1, eq50s, pick_f, gd_ff, opH_sv, al47, box_new, cells_int, ld3]
  intro mb hmb gmb lb hlb glb
  have s2 := ((Sep.one (h := h)).new (o := .cells #[.int .i64 most] 3 (0, 0)) hmb).new (o := .cells #[.slice none 0 0] 47 (0, 0)) hlb
  have d2 := (d.set (o := .cells #[.int .i64 most] 3 (0, 0)) gmb).set (o := .cells #[.slice none 0 0] 47 (0, 0)) glb
  generalize Hp.set (Hp.set h mb _) lb _ = h2 at s2 d2 ⊢
  have cmb : ∀ j, cellIn G h2 ⟨mb, j, none⟩ = _ := fun j => cell_of (look_own (s2.at 1 rfl set_self))
  have e1 : decide (most < 1) = false := decide_eq_false (by omega)
  try simp -implicitDefEqProofs (maxSteps := 2000000) (disch := first | with_reducible exact Nat.ne_of_beq_eq_false rfl | exact oneCell_int | exact oneCell_bool | omega | rfl | (simp; done) | fail) only [cmb, List.getElem?_cons_zero, Option.some.injEq, exists_eq_left', bin_lss, e1, HL.cond_false]
  unfold S25_k1
  try simp -implicitDefEqProofs (maxSteps := 2000000) (disch := first | with_reducible exact Nat.ne_of_beq_eq_false rfl | exact oneCell_int | exact oneCell_bool | omega | rfl | (simp; done) | fail) only [upd_ne, regs0, upd_eq, callV_fn, retK_ret, resL_tmp, resL_nil1, opH_sv, ld47, cf61]
  obtain ⟨a, s3, sa⟩ := s2.none.pack3
  have l2 : h.le h2 := s2.in 2 rfl
  have ya : GYb moveC 46 47 most lb mb [] a := ⟨⟨noHp, _, Slc.nil, sa⟩, by simp; omega⟩
  refine (moves1_spec (p := p) ⟨_, _, _, rfl⟩ (gather_yl hm2) ya s3 hg hpb gs st hp).mono ?_
  rintro _ h4 ⟨a4, s4, d4, z4⟩
  rw [feed_less (by simp; omega)] at z4
  have gy : GY moveC 46 47 most lb mb ((movesW w k f p).take most.toNat) a4 := by
    unfold Fin at z4
    simp only [List.nil_append, List.length_nil, Nat.sub_zero] at z4
    split at z4
    · exact z4.1
    · exact z4
  obtain ⟨ip, v, o, t4⟩ := gy
  have s5 : Sep [h, ip, noHp.set lb (.cells #[v] 47 (0, 0)), noHp.set mb (.cells #[.int .i64 most] 3 (0, 0))] h4 := by
    have := s4.swap.split t4
    simpa using this
  have clb : ∀ j, cellIn G h4 ⟨lb, j, none⟩ = _ := fun j => cell_of (look_own (s5.at 2 rfl set_self))
  try simp -implicitDefEqProofs (maxSteps := 2000000) (disch := first | with_reducible exact Nat.ne_of_beq_eq_false rfl | exact oneCell_int | exact oneCell_bool | omega | rfl | (simp; done) | fail) only [clb, List.getElem?_cons_zero, Option.some.injEq, exists_eq_left']
  exact ⟨ip, o, (s5.take 2 rfl).swap, d4⟩

end Go.Proofs.YtnpdploihlgcgaaDoor
end

section
/- A text of the proofs. -/
set_option linter.unusedVariables false
set_option maxRecDepth 100000
namespace Go.Proofs.YtnpdploihlgcgaaDoor
open Go Go.HL
def md64 : Nat → Hint
  | _ => ⟨false, [], [], [], [], false⟩
def S64 (G : Hp) (K : Exit → Rg → Hp → Prop) (r : Rg) (h : Hp) : Prop :=
  opH Tryd.prog G (sv (binOp .sub 3 (r 0) (r 1))) h fun v0 h0 =>
  opH Tryd.prog G (sv (binOp .sub 3 (r 1) (r 0))) h0 fun v1 h1 =>
  opH Tryd.prog G (sv (Builtin.max_ #[3, 3] 3 #[v0, v1])) h1 fun v2 h2 =>
  K .ret (upd (upd (upd (upd (upd (upd (upd (upd (upd r 4 (.int .i64 0)) 5 (r 0)) 6 (r 1)) 7 v0) 8 (r 1)) 9 (r 0)) 10 v1) 11 v2) 4 v2) h2
theorem S64_eq (G : Hp) (K : Exit → Rg → Hp → Prop) (r : Rg) (h : Hp) : wpC Tryd.prog G 12 md64 true (Tryd.f64.body.getD .skip) r h K = S64 G K r h := by kernel_rfl
theorem enter64 {G : Hp} {h : Hp} {args : Array Value} {R : Value → Hp → Prop} (hn : args.size ≤ 12) (H : S64 G (retK Tryd.prog G [.tmp 4] R) (regs args) h) : HCalls Tryd.prog G 64 args h R :=
  HCalls.enter (md := md64) mixed Tryd.func64 rfl hn (by rw [← S64_eq] at H; exact H)

end Go.Proofs.YtnpdploihlgcgaaDoor
end

section
/- The stack cells, told to any yield; cells gathered in a row. -/
set_option linter.unusedSimpArgs false
set_option linter.unusedVariables false
set_option maxRecDepth 100000
namespace Go.Proofs.YtnpdploihlgcgaaDoor
open Go Go.HL

def pickFrom {α : Type} (p : Nat → Bool) (mk : Nat → α) : Nat → Nat → List α
  | _, 0 => []
  | n, k + 1 => if p n = true then mk n :: pickFrom p mk (n + 1) k else pickFrom p mk (n + 1) k
end Go.Proofs.YtnpdploihlgcgaaDoor
end

section
/- The plain law: the program's grid and the reference let in the same configs, and their kinds of cells agree. -/
set_option linter.unusedSimpArgs false
set_option linter.unusedVariables false
namespace Go.Proofs.YtnpdploihlgcgaaDoor
open Go Go.HL

theorem few_below : ∀ (n : Nat) (L : List Nat), L.Nodup → (∀ x ∈ L, x < n) → L.length ≤ n
  | 0, L, _, h => by
    cases L with
    | nil => simp
    | cons x L => exact absurd (h x (.head _)) (by omega)
  | n + 1, L, hn, h => by
    by_cases hm : n ∈ L
    · have h1 := few_below n (L.erase n) (hn.erase n) (fun x hx => by
        have h2 := h x (List.mem_of_mem_erase hx)
        have h3 : x ≠ n := (List.Nodup.mem_erase_iff hn).1 hx |>.1
        omega)
      rw [List.length_erase_of_mem hm] at h1
      have := List.length_pos_of_mem hm
      omega
    · have := few_below n L hn (fun x hx => by
        have h2 := h x hx
        have h3 : x ≠ n := fun e => hm (e ▸ hx)
        omega)
      omega

theorem few_cells {w k : Nat} {L : List Cell} (hn : L.Nodup) (h : ∀ c ∈ L, inW w k c = true) : L.length ≤ w * k := by
  have h1 := few_below (w * k) (L.map fun c => c.2.toNat * w + c.1.toNat) ?_ ?_
  · simpa using h1
  · rw [List.nodup_iff_pairwise_ne, List.pairwise_map]
    rw [List.nodup_iff_pairwise_ne] at hn
    refine List.Pairwise.imp_of_mem ?_ hn
    intro a b ha hb hab e
    apply hab
    obtain ⟨a1, a2, a3, a4⟩ := inW_iff.1 (h a ha)
    obtain ⟨b1, b2, b3, b4⟩ := inW_iff.1 (h b hb)
    have hw : 0 < w := by omega
    obtain ⟨x1, y1⟩ := (cellN (n := b.2.toNat * w + b.1.toNat) hw (show a.1.toNat < w by omega)).1 e
    obtain ⟨x2, y2⟩ := (cellN (n := b.2.toNat * w + b.1.toNat) hw (show b.1.toNat < w by omega)).1 rfl
    have e1 : a.1.toNat = b.1.toNat := by rw [x1, ← x2]
    have e2 : a.2.toNat = b.2.toNat := by rw [y1, ← y2]
    exact Prod.ext (by omega) (by omega)
  · intro x hx
    obtain ⟨c, hc, rfl⟩ := List.mem_map.1 hx
    exact (numI_nat (h c hc)).2.2.2

section
variable {C : Conf}

theorem within_wk (hw : withinB C.w 1 16 = true) (hk : withinB C.h 1 16 = true) : C.w = (wC C : Int) ∧ C.h = (kC C : Int) ∧ 1 ≤ wC C ∧ wC C ≤ 16 ∧ 1 ≤ kC C ∧ kC C ≤ 16 := by
  unfold withinB at hw hk
  simp only [Bool.and_eq_true, decide_eq_true_eq] at hw hk
  unfold wC kC
  omega

theorem inW_inB (hw : withinB C.w 1 16 = true) (hk : withinB C.h 1 16 = true) (c : Cell) : inW (wC C) (kC C) c = inB C c := by
  obtain ⟨e1, e2, _⟩ := within_wk hw hk
  rw [Bool.eq_iff_iff, inW_iff]
  unfold inB
  simp only [Bool.and_eq_true, decide_eq_true_eq]
  rw [e1, e2]
  constructor
  · rintro ⟨a, b, c, d⟩; exact ⟨a, c, b, d⟩
  · rintro ⟨a, b, c, d⟩; exact ⟨a, c, b, d⟩

/-- What was laid at a cell of the hive. -/
theorem f0_at {c : Cell} (h1 : 0 ≤ c.1) (h2 : 0 ≤ c.2) : fAt (f0C C) c = if c ∈ C.bl then -1 else if c ∈ C.po then (C.po.idxOf c : Int) + 1 else 0 := by
  have e : ((c.1.toNat : Int), (c.2.toNat : Int)) = c := by rw [Int.toNat_of_nonneg h1, Int.toNat_of_nonneg h2]
  unfold fAt f0C kd
  rw [e]
  by_cases hb : c ∈ C.bl
  · rw [if_pos (List.mem_append_left _ hb), if_pos hb, List.idxOf_append, if_pos hb, if_pos (List.idxOf_lt_length_of_mem hb)]
  · rw [if_neg hb]
    by_cases hp : c ∈ C.po
    · rw [if_pos (List.mem_append_right _ hp), if_pos hp, List.idxOf_append, if_neg hb, if_neg (by omega)]
      omega
    · rw [if_neg (by simp [hb, hp]), if_neg hp]

theorem open_eq (hw : withinB C.w 1 16 = true) (hk : withinB C.h 1 16 = true) (c : Cell) : openW (wC C) (kC C) (f0C C) c = openB C c := by
  unfold openW openB
  rw [inW_inB hw hk]
  cases hc : inB C c with
  | false => rfl
  | true =>
    have hc' := hc
    rw [← inW_inB hw hk] at hc'
    obtain ⟨a1, a2, a3, a4⟩ := inW_iff.1 hc'
    rw [f0_at a1 a3]
    simp only [Bool.true_and]
    rw [Bool.eq_iff_iff]
    by_cases hb : c ∈ C.bl
    · simp [hb, List.count_eq_zero]
    · have : List.count c C.bl = 0 := List.count_eq_zero.2 hb
      rw [if_neg hb]
      simp only [this, beq_self_eq_true, iff_true]
      split
      · simp; omega
      · simp

theorem fits_eq (hw : withinB C.w 1 16 = true) (hk : withinB C.h 1 16 = true) (p : Pose) : fitsW (wC C) (kC C) (f0C C) p = fitsB C p := by
  unfold fitsW fitsB
  rw [open_eq hw hk, open_eq hw hk]

/-- Which cells of the hive keep their kind. -/
theorem keep_eq (hw : withinB C.w 1 16 = true) (hk : withinB C.h 1 16 = true) {c : Cell} (hc : inB C c = true) : keepB (wC C) (kC C) (f0C C) c.1.toNat c.2.toNat = (decide (c ∈ C.bl) || besideB C c) := by
  have hc' := hc
  rw [← inW_inB hw hk] at hc'
  obtain ⟨a1, a2, a3, a4⟩ := inW_iff.1 hc'
  have e1 : (c.1.toNat : Int) = c.1 := Int.toNat_of_nonneg a1
  have e2 : (c.2.toNat : Int) = c.2 := Int.toNat_of_nonneg a3
  have hf := f0_at (C := C) a1 a3
  unfold keepB
  rw [fits_eq hw hk, fits_eq hw hk]
  rw [show f0C C c.1.toNat c.2.toNat = fAt (f0C C) c from rfl, hf]
  unfold fitsB east besideB
  simp only [e1, e2]
  by_cases hb : c ∈ C.bl
  · simp [hb]
  · have ho : openB C (c.1, c.2) = true := by
      unfold openB
      rw [show ((c.1, c.2) : Cell) = c from rfl, hc]
      simp [List.count_eq_zero.2 hb]
    rw [if_neg hb, ho]
    have hne : ((if c ∈ C.po then (C.po.idxOf c : Int) + 1 else 0) == -1) = false := by
      split
      · simp; omega
      · rfl
    rw [hne]
    simp [hb]

theorem home_iff {c : Cell} : homeB C c = true ↔ c ∈ C.ro.flatMap cellsP := by
  unfold homeB
  rw [List.any_eq_true, List.mem_flatMap]
  refine exists_congr fun p => and_congr_right fun _ => ?_
  rw [decide_eq_true_eq, ← List.count_pos_iff]
  omega

theorem port_iff {c : Cell} : portI C c < 0 ↔ c ∉ C.po := by
  unfold portI
  split
  · rename_i h; simp [h] <;> omega
  · rename_i h; simp [h]

theorem f1_at (hw : withinB C.w 1 16 = true) (hk : withinB C.h 1 16 = true) {c : Cell} (hc : inB C c = true) : fAt (f1 (wC C) (kC C) (f0C C)) c = if c ∈ C.bl then -1 else if besideB C c = true then (if c ∈ C.po then (C.po.idxOf c : Int) + 1 else 0) else -2 := by
  have hc' := hc
  rw [← inW_inB hw hk] at hc'
  obtain ⟨a1, a2, a3, a4⟩ := inW_iff.1 hc'
  unfold fAt f1
  rw [keep_eq hw hk hc, show f0C C c.1.toNat c.2.toNat = fAt (f0C C) c from rfl, f0_at a1 a3]
  by_cases hb : c ∈ C.bl
  · simp [hb]
  · by_cases hs : besideB C c = true
    · simp [hb, hs]
    · simp [hb, hs]

theorem f3_at (hw : withinB C.w 1 16 = true) (hk : withinB C.h 1 16 = true) {c : Cell} (hc : inB C c = true) : fAt (f3C C) c = if homeB C c = true then -2 else if c ∈ C.bl then -1 else if besideB C c = true then (if c ∈ C.po then (C.po.idxOf c : Int) + 1 else 0) else -2 := by
  have hc' := hc
  rw [← inW_inB hw hk] at hc'
  obtain ⟨a1, a2, a3, a4⟩ := inW_iff.1 hc'
  have e : ((c.1.toNat : Int), (c.2.toNat : Int)) = c := by rw [Int.toNat_of_nonneg a1, Int.toNat_of_nonneg a3]
  have h1 := f1_at hw hk hc
  unfold f3C fAt f2
  rw [e]
  by_cases hh : c ∈ C.ro.flatMap cellsP
  · rw [if_pos hh, if_pos (home_iff.2 hh)]
  · rw [if_neg hh, if_neg (fun q => hh (home_iff.1 q))]
    exact h1

theorem stacked_eq (hw : withinB C.w 1 16 = true) (hk : withinB C.h 1 16 = true) (c : Cell) : (inW (wC C) (kC C) c = true ∧ fAt (f3C C) c = 0) ↔ stackedB C c = true := by
  rw [inW_inB hw hk]
  unfold stackedB openB
  cases hc : inB C c with
  | false => simp
  | true =>
    rw [f3_at hw hk hc]
    simp only [Bool.true_and, true_and, Bool.and_eq_true, decide_eq_true_eq, beq_iff_eq, Bool.not_eq_true', port_iff, List.count_eq_zero]
    by_cases hh : homeB C c = true
    · simp [hh]
    · have hh' : homeB C c = false := by simpa using hh
      by_cases hb : c ∈ C.bl
      · simp [hh', hb]
      · by_cases hs : besideB C c = true
        · by_cases hp : c ∈ C.po
          · simp [hh', hb, hs, hp]; omega
          · simp [hh', hb, hs, hp]
        · have hs' : besideB C c = false := by simpa using hs
          simp [hh', hb, hs']

theorem six_iff : (∀ n ∈ [C.un, C.ac, C.sp, C.tu, C.ho, C.re], withinB n 1 1000 = true) ↔ withinB C.un 1 1000 = true ∧ withinB C.ac 1 1000 = true ∧ withinB C.sp 1 1000 = true ∧ withinB C.tu 1 1000 = true ∧ withinB C.ho 1 1000 = true ∧ withinB C.re 1 1000 = true := by
  simp only [List.mem_cons, List.not_mem_nil, or_false, forall_eq_or_imp, forall_eq]

theorem made_may : MadeOk C ↔ MayOk C := by
  constructor
  · intro M
    have hw := M.laid.w
    have hk := M.laid.h
    obtain ⟨e1, e2, w1, w2, k1, k2⟩ := within_wk hw hk
    have hm : wC C * kC C ≤ 16 * 16 := Nat.mul_le_mul w2 k2
    obtain ⟨s1, s2, s3, s4, s5, s6⟩ := six_iff.1 M.six
    have hnd := List.nodup_append.1 M.laid.once
    have hall := M.laid.all
    have hin : ∀ c ∈ C.bl ++ C.po, inB C c = true := fun c hc => by rw [← inW_inB hw hk]; exact hall c hc
    have hpb : ∀ c ∈ C.po, besideB C c = true := fun c hc => by
      have hcin := hin c (List.mem_append_right _ hc)
      have hcw := hall c (List.mem_append_right _ hc)
      obtain ⟨a1, a2, a3, a4⟩ := inW_iff.1 hcw
      have hnb : c ∉ C.bl := fun hb => hnd.2.2 c hb c hc rfl
      have hkeep := keep_eq hw hk hcin
      cases hs : besideB C c with
      | true => rfl
      | false =>
        exfalso
        have := M.rob.plain c.1.toNat c.2.toNat (by omega) (by omega) (by rw [hkeep, hs]; simp [hnb])
        rw [show f0C C c.1.toNat c.2.toNat = fAt (f0C C) c from rfl, f0_at a1 a3, if_neg hnb, if_pos hc] at this
        omega
    refine ⟨?_, M.laid.po8, M.rob.r8, ?_, fun c hc => ⟨hin c (List.mem_append_left _ hc), List.nodup_iff_count.1 hnd.1 c, List.count_eq_zero.2 fun hp => hnd.2.2 c hc c hp rfl⟩,
      fun c hc => ⟨hin c (List.mem_append_right _ hc), List.nodup_iff_count.1 hnd.2.1 c, ?_, hpb c hc⟩, fun p hp => by rw [← fits_eq hw hk]; exact M.rob.fit p hp, fun c _ => List.nodup_iff_count.1 M.rob.once c, ?_⟩
    · unfold numbersB
      simp [hw, hk, M.ht, M.qu, M.bu, s1, s2, s3, s4, s5, s6]
    · have := few_cells (w := wC C) (k := kC C) hnd.1 (fun c hc => hall c (List.mem_append_left _ hc))
      omega
    · cases hh : homeB C c with
      | false => rfl
      | true =>
        exfalso
        have := M.rob.low c (home_iff.1 hh)
        rw [f1_at hw hk (hin c (List.mem_append_right _ hc)), if_neg (fun hb => hnd.2.2 c hb c hc rfl), if_pos (hpb c hc), if_pos hc] at this
        omega
    · refine ⟨?_, fun s hs => ?_, M.sta.apart, M.sta.most, M.sta.nums, M.sta.once⟩
      · have := few_cells (w := wC C) (k := kC C) M.sta.apart (fun c hc => by
          obtain ⟨s, hs, rfl⟩ := List.mem_map.1 hc
          exact (M.sta.each s hs).1)
        rw [List.length_map] at this
        omega
      · obtain ⟨q1, q2, q3⟩ := M.sta.each s hs
        exact ⟨(stacked_eq hw hk s.1).1 ⟨q1, q2⟩, q3⟩
  · intro M
    have hn := M.nums
    unfold numbersB at hn
    simp only [Bool.and_eq_true] at hn
    obtain ⟨hw, hk, hht, s1, s2, s3, s4, s5, s6, hqu, hbu⟩ := hn
    obtain ⟨e1, e2, w1, w2, k1, k2⟩ := within_wk hw hk
    have hin : ∀ c ∈ C.bl ++ C.po, inW (wC C) (kC C) c = true := fun c hc => by
      rw [inW_inB hw hk]
      rcases List.mem_append.1 hc with h | h
      · exact (M.blk c h).1
      · exact (M.prt c h).1
    have hnb : C.bl.Nodup := List.nodup_iff_count.2 fun c => by
      by_cases hc : c ∈ C.bl
      · exact (M.blk c hc).2.1
      · rw [List.count_eq_zero.2 hc]; omega
    have hnp : C.po.Nodup := List.nodup_iff_count.2 fun c => by
      by_cases hc : c ∈ C.po
      · exact (M.prt c hc).2.1
      · rw [List.count_eq_zero.2 hc]; omega
    have hdis : ∀ a ∈ C.bl, ∀ b ∈ C.po, a ≠ b := fun a ha b hb e => by
      have := (M.blk a ha).2.2
      rw [List.count_eq_zero] at this
      exact this (e ▸ hb)
    have hnd : (C.bl ++ C.po).Nodup := List.nodup_append.2 ⟨hnb, hnp, hdis⟩
    have hlaid : LaidOk C := ⟨hw, hk, M.po8, by
      have := few_cells (w := wC C) (k := kC C) hnb (fun c hc => hin c (List.mem_append_left _ hc))
      rw [e1, e2, ← Int.natCast_mul]; omega, hin, hnd⟩
    have hro : ∀ c ∈ C.ro.flatMap cellsP, inB C c = true ∧ c ∉ C.bl := fun c hc => by
      obtain ⟨p, hp, hcp⟩ := List.mem_flatMap.1 hc
      have hf := M.fit p hp
      rw [← fits_eq hw hk] at hf
      obtain ⟨q1, q2⟩ := fits_cells hf c hcp
      obtain ⟨a1, a2, a3, a4⟩ := inW_iff.1 q1
      refine ⟨by rw [← inW_inB hw hk]; exact q1, fun hb => q2 ?_⟩
      rw [f0_at a1 a3, if_pos hb]
    refine ⟨six_iff.2 ⟨s1, s2, s3, s4, s5, s6⟩, hht, hqu, hbu, hlaid, ⟨M.ro8, fun x y hx hy hkp => ?_, fun p hp => by rw [fits_eq hw hk]; exact M.fit p hp, fun c hc => ?_, ?_⟩, ⟨fun s hs => ?_, M.bins.apart, M.bins.nums, M.bins.once, M.bins.most⟩⟩
    · have hcw : inW (wC C) (kC C) ((x : Int), (y : Int)) = true := inW_iff.2 ⟨by simp, by simpa using hx, by simp, by simpa using hy⟩
      have hcb := hcw
      rw [inW_inB hw hk] at hcb
      have hkeep := keep_eq hw hk hcb
      simp only [Int.toNat_natCast] at hkeep
      rw [hkp] at hkeep
      have h0 := f0_at (C := C) (c := ((x : Int), (y : Int))) (by simp) (by simp)
      unfold fAt at h0
      simp only [Int.toNat_natCast] at h0
      rw [h0]
      by_cases hp : ((x : Int), (y : Int)) ∈ C.po
      · have := (M.prt _ hp).2.2.2
        rw [this] at hkeep
        simp at hkeep
      · rw [if_neg hp]
        split <;> omega
    · obtain ⟨q1, q2⟩ := hro c hc
      rw [f1_at hw hk q1, if_neg q2]
      split
      · have hnp' : c ∉ C.po := fun hp => by
          have := (M.prt c hp).2.2.1
          rw [home_iff.2 hc] at this
          cases this
        rw [if_neg hnp']
        exact Int.le_refl _
      · omega
    · exact List.nodup_iff_count.2 fun c => by
        by_cases hc : c ∈ C.ro.flatMap cellsP
        · exact M.once c hc
        · rw [List.count_eq_zero.2 hc]; omega
    · obtain ⟨q1, q2⟩ := M.bins.each s hs
      obtain ⟨q3, q4⟩ := (stacked_eq hw hk s.1).2 q1
      exact ⟨q3, q4, q2⟩
end
end Go.Proofs.YtnpdploihlgcgaaDoor
end

section
/- The program's grid answers as the reference's. -/
set_option linter.unusedSimpArgs false
set_option linter.unusedVariables false
namespace Go.Proofs.YtnpdploihlgcgaaDoor
open Go Go.HL

variable {C : Conf}

theorem f3_open (m : MadeOk C) (x y : Nat) : f3C C x y = -1 ↔ f0C C x y = -1 := by
  unfold f3C
  refine f2_open (fun c hc => ?_) x y
  obtain ⟨p, hp, hcp⟩ := List.mem_flatMap.1 hc
  exact (fits_cells (m.rob.fit p hp) c hcp).2

theorem open3_eq (m : MadeOk C) (c : Cell) : openW (wC C) (kC C) (f3C C) c = openB C c := by
  rw [← open_eq m.laid.w m.laid.h]
  exact openW_congr (fun x y _ _ => f3_open m x y) c
theorem fits3_eq (m : MadeOk C) (p : Pose) : fitsW (wC C) (kC C) (f3C C) p = fitsB C p := by
  rw [← fits_eq m.laid.w m.laid.h]
  exact fitsW_congr (fun x y _ _ => f3_open m x y) p
end Go.Proofs.YtnpdploihlgcgaaDoor
end

section
/- The reference: which moves are legal. -/
set_option linter.unusedSimpArgs false
set_option linter.unusedVariables false
set_option maxRecDepth 100000
namespace Go.Proofs.YtnpdploihlgcgaaDoor
open Go Go.HL

def rstepB (C : Conf) (m : Move) (i : Nat) : Bool := fitsB C (shiftR m.f m.d ((i : Int) + 1))
def legalR (C : Conf) (m : Move) : Bool := fitsB C m.f &&
  (if m.k = 1 then withinB m.n 1 16 && (withinB m.d 0 3 && (decide (m.t = shiftR m.f m.d m.n) && (List.range m.n.toNat).all (rstepB C m)))
   else if m.k = 2 then (squareL (m.f.x, m.f.y)).all (openB C) && (decide (m.n = 0) && (decide (m.d = 0) && decide (m.t = turnP m.f)))
   else decide (m.k = 3 ∨ m.k = 4) && (decide (m.n = 0) && (decide (m.d = 0) && decide (m.t = m.f))))

end Go.Proofs.YtnpdploihlgcgaaDoor
end

section
/- The program's moves, stack cells as the reference's. -/
set_option linter.unusedSimpArgs false
set_option linter.unusedVariables false
namespace Go.Proofs.YtnpdploihlgcgaaDoor
open Go Go.HL

variable {C : Conf}

theorem shiftP_zero {p : Pose} (hp : PB p) {d : Int} : shiftP p d 0 = p := by
  obtain ⟨h1, h2⟩ := hp
  unfold shiftP
  rw [Int.zero_mul, Int.zero_mul, Int.add_zero, Int.add_zero, wr_in h1, wr_in h2]

theorem all_range_succ {s : Nat → Bool} {n : Nat} : (List.range (n + 1)).all s = (s 0 && (List.range n).all fun i => s (i + 1)) := by
  rw [List.range_succ_eq_map, List.all_cons, List.all_map]
  rfl

theorem legal_eq (m : MadeOk C) {v : Move} (hp : PB v.f) : wayB (wC C) (kC C) (f3C C) v = legalR C v := by
  have ho := open3_eq m
  have hf := fits3_eq m
  unfold wayB legalR
  rw [hf]
  cases hfp : fitsB C v.f with
  | false => rfl
  | true =>
  rw [Bool.true_and, Bool.true_and]
  by_cases hk1 : v.k = 1
  · rw [if_pos hk1, if_pos hk1, all_range_succ]
    have e0 : stepB (wC C) (kC C) (f3C C) v 0 = withinB v.d 0 3 := by
      unfold stepB okS
      rw [hf, show ((0 : Nat) : Int) = 0 from rfl, shiftP_zero hp, hfp, show withinB 0 0 16 = true from rfl]
      simp
    rw [e0]
    cases hd : withinB v.d 0 3 with
    | false => simp
    | true =>
    have hd2 := withinB_iff.1 hd
    by_cases hn : 1 ≤ v.n
    · by_cases hn2 : v.n ≤ 16
      · rw [decide_eq_true hn, show withinB v.n 1 16 = true from withinB_iff.2 ⟨hn, hn2⟩, shiftR_eq hp hd2]
        have : ((List.range v.n.toNat).all fun i => stepB (wC C) (kC C) (f3C C) v (i + 1)) = (List.range v.n.toNat).all (rstepB C v) := by
          rw [Bool.eq_iff_iff, List.all_eq_true, List.all_eq_true]
          have e : ∀ i ∈ List.range v.n.toNat, stepB (wC C) (kC C) (f3C C) v (i + 1) = rstepB C v i := by
            intro i hi
            have hi := List.mem_range.1 hi
            unfold stepB rstepB okS
            rw [hd, show withinB ((i + 1 : Nat) : Int) 0 16 = true from withinB_iff.2 (by omega), hf, shiftR_eq hp hd2]
            rfl
          exact ⟨fun h i hi => by rw [← e i hi]; exact h i hi, fun h i hi => by rw [e i hi]; exact h i hi⟩
        rw [this]
        simp only [Bool.true_and]
        rw [Bool.and_comm]
      · have h1 : ((List.range v.n.toNat).all fun i => stepB (wC C) (kC C) (f3C C) v (i + 1)) = false := by
          rw [List.all_eq_false]
          refine ⟨16, List.mem_range.2 (by omega), ?_⟩
          unfold stepB okS
          rw [show withinB ((16 + 1 : Nat) : Int) 0 16 = false from rfl]
          simp
        have h2 : withinB v.n 1 16 = false := by
          cases h : withinB v.n 1 16 with
          | false => rfl
          | true => exact absurd (withinB_iff.1 h).2 hn2
        rw [h1, h2]
        simp
    · have h2 : withinB v.n 1 16 = false := by
        cases h : withinB v.n 1 16 with
        | false => rfl
        | true => exact absurd (withinB_iff.1 h).1 hn
      rw [decide_eq_false hn, h2]
      simp
  · rw [if_neg hk1, if_neg hk1]
    have e1 : decide (v.d = 0 ∧ v.n = 0) = (decide (v.n = 0) && decide (v.d = 0)) := by
      rw [Bool.eq_iff_iff]; simp [and_comm]
    rw [e1]
    by_cases hk2 : v.k = 2
    · rw [if_pos hk2, if_pos hk2]
      have e2 : (squareL (v.f.x, v.f.y)).all (openW (wC C) (kC C) (f3C C)) = (squareL (v.f.x, v.f.y)).all (openB C) := by
        congr 1
        funext c
        exact ho c
      rw [e2]
      cases decide (v.n = 0) <;> cases decide (v.d = 0) <;> simp
    · rw [if_neg hk2, if_neg hk2]
      cases decide (v.n = 0) <;> cases decide (v.d = 0) <;> simp

theorem pick_succ {α : Type} {p : Nat → Bool} {mk : Nat → α} {n k : Nat} : pickFrom p mk n (k + 1) = if p n = true then mk n :: pickFrom p mk (n + 1) k else pickFrom p mk (n + 1) k := rfl
end Go.Proofs.YtnpdploihlgcgaaDoor
end

section
/- The cells of a way in the grid's order, each once: the plain law. -/
set_option linter.unusedVariables false
namespace Go.Proofs.YtnpdploihlgcgaaDoor
open Go Go.HL

/-- Each run of equal ones once. -/
def compactL : List Cell → List Cell
  | [] => []
  | a :: L => match L with
    | [] => [a]
    | b :: _ => if a = b then compactL L else a :: compactL L

theorem compact_cons {a b : Cell} {L : List Cell} : compactL (a :: b :: L) = if a = b then compactL (b :: L) else a :: compactL (b :: L) := rfl

theorem compact_mem {x : Cell} : ∀ {L : List Cell}, x ∈ compactL L ↔ x ∈ L := by
  intro L
  induction L with
  | nil => exact Iff.rfl
  | cons a L ih =>
    cases L with
    | nil => exact Iff.rfl
    | cons b L =>
      rw [compact_cons]
      by_cases h : a = b
      · rw [if_pos h, ih]
        subst h
        simp
      · rw [if_neg h, List.mem_cons, ih, List.mem_cons (a := x) (b := a)]

theorem compact_sorted {n : Cell → Int} (inj : ∀ {L : List Cell}, True) : ∀ {L : List Cell}, (∀ a ∈ L, ∀ b ∈ L, n a = n b → a = b) → L.Pairwise (fun a b => n a ≤ n b) → (compactL L).Pairwise (fun a b => n a < n b) := by
  intro L
  induction L with
  | nil => intro _ _; exact .nil
  | cons a L ih =>
    intro hi hp
    obtain ⟨h1, h2⟩ := List.pairwise_cons.1 hp
    cases L with
    | nil => exact List.pairwise_singleton _ _
    | cons b L =>
      have rest := ih (fun x hx y hy => hi x (.tail _ hx) y (.tail _ hy)) h2
      rw [compact_cons]
      by_cases h : a = b
      · rw [if_pos h]; exact rest
      · rw [if_neg h]
        refine List.pairwise_cons.2 ⟨fun x hx => ?_, rest⟩
        rw [compact_mem] at hx
        have hab : n a < n b := by
          have := h1 b (.head _)
          have : n a ≠ n b := fun e => h (hi a (.head _) b (.tail _ (.head _)) e)
          omega
        rcases List.mem_cons.1 hx with rfl | hx'
        · exact hab
        · have := (List.pairwise_cons.1 h2).1 x hx'; omega

/-- Rising lists with the same members are one. -/
theorem rising_ext {n : Cell → Int} : ∀ {L M : List Cell}, L.Pairwise (fun a b => n a < n b) → M.Pairwise (fun a b => n a < n b) → (∀ x, x ∈ L ↔ x ∈ M) → L = M := by
  intro L
  induction L with
  | nil =>
    intro M _ _ h
    cases M with
    | nil => rfl
    | cons a M => exact absurd ((h a).2 (.head _)) (by simp)
  | cons a L ih =>
    intro M hL hM h
    cases M with
    | nil => exact absurd ((h a).1 (.head _)) (by simp)
    | cons b M =>
      obtain ⟨l1, l2⟩ := List.pairwise_cons.1 hL
      obtain ⟨m1, m2⟩ := List.pairwise_cons.1 hM
      have e : a = b := by
        rcases List.mem_cons.1 ((h a).1 (.head _)) with e | e
        · exact e
        · rcases List.mem_cons.1 ((h b).2 (.head _)) with e' | e'
          · exact e'.symm
          · have := m1 a e; have := l1 b e'; omega
      subst e
      rw [ih l2 m2 fun x => ?_]
      constructor
      · intro hx
        rcases List.mem_cons.1 ((h x).1 (.tail _ hx)) with rfl | h2
        · have := l1 _ hx; omega
        · exact h2
      · intro hx
        rcases List.mem_cons.1 ((h x).2 (.tail _ hx)) with rfl | h2
        · have := m1 _ hx; omega
        · exact h2

/-- The reference's way to tell them: through all cells. -/
def sweptL (w k : Nat) (W : List Cell) : List Cell := dirsL (fun y => pickFrom (fun x => decide ((((x : Nat) : Int), ((y : Nat) : Int)) ∈ W)) (fun x => (((x : Nat) : Int), ((y : Nat) : Int))) 0 w) 0 k
def numW (w : Nat) (c : Cell) : Int := c.2 * w + c.1

theorem pick_mem {α : Type} {p : Nat → Bool} {mk : Nat → α} {x : α} : ∀ {k n : Nat}, x ∈ pickFrom p mk n k ↔ ∃ j, n ≤ j ∧ j < n + k ∧ p j = true ∧ x = mk j := by
  intro k
  induction k with
  | zero => intro n; simp [pickFrom]; intro j h1 h2; omega
  | succ k ih =>
    intro n
    rw [pick_succ]
    constructor
    · intro h
      split at h
      · rename_i hp
        rcases List.mem_cons.1 h with rfl | h'
        · exact ⟨n, Nat.le_refl _, by omega, hp, rfl⟩
        · obtain ⟨j, a, b, c, e⟩ := ih.1 h'
          exact ⟨j, by omega, by omega, c, e⟩
      · obtain ⟨j, a, b, c, e⟩ := ih.1 h
        exact ⟨j, by omega, by omega, c, e⟩
    · rintro ⟨j, a, b, c, rfl⟩
      by_cases hj : j = n
      · subst hj
        rw [if_pos c]
        exact .head _
      · have := (ih (n := n + 1)).2 ⟨j, by omega, by omega, c, rfl⟩
        split
        · exact .tail _ this
        · exact this

theorem pick_pw {α : Type} {p : Nat → Bool} {mk : Nat → α} {R : α → α → Prop} (h : ∀ i j, i < j → R (mk i) (mk j)) : ∀ {k n : Nat}, (pickFrom p mk n k).Pairwise R := by
  intro k
  induction k with
  | zero => intro n; exact .nil
  | succ k ih =>
    intro n
    rw [pick_succ]
    split
    · refine List.pairwise_cons.2 ⟨fun x hx => ?_, ih⟩
      obtain ⟨j, a, _, _, rfl⟩ := pick_mem.1 hx
      exact h n j (by omega)
    · exact ih

theorem swept_mem {w k : Nat} {W : List Cell} {x : Cell} : x ∈ sweptL w k W ↔ (0 ≤ x.1 ∧ x.1 < w ∧ 0 ≤ x.2 ∧ x.2 < k) ∧ x ∈ W := by
  unfold sweptL
  suffices H : ∀ (n i : Nat), x ∈ dirsL (fun y => pickFrom (fun x => decide ((((x : Nat) : Int), ((y : Nat) : Int)) ∈ W)) (fun x => (((x : Nat) : Int), ((y : Nat) : Int))) 0 w) i n ↔ ∃ y, i ≤ y ∧ y < i + n ∧ x ∈ pickFrom (fun x => decide ((((x : Nat) : Int), ((y : Nat) : Int)) ∈ W)) (fun x => (((x : Nat) : Int), ((y : Nat) : Int))) 0 w by
    rw [H]
    constructor
    · rintro ⟨y, _, h2, h3⟩
      obtain ⟨j, _, j2, j3, rfl⟩ := pick_mem.1 h3
      exact ⟨⟨by simp, by simp; omega, by simp, by simp; omega⟩, by simpa using j3⟩
    · rintro ⟨⟨a, b, c, d⟩, h⟩
      obtain ⟨x1, x2⟩ := x
      refine ⟨x2.toNat, by omega, by simp at d c; omega, pick_mem.2 ⟨x1.toNat, by omega, by simp at a b; omega, ?_, ?_⟩⟩
      · simp only at a c
        rw [show ((x1.toNat : Nat) : Int) = x1 by omega, show ((x2.toNat : Nat) : Int) = x2 by omega]
        simpa using h
      · simp only at a c
        rw [show ((x1.toNat : Nat) : Int) = x1 by omega, show ((x2.toNat : Nat) : Int) = x2 by omega]
  intro n
  induction n with
  | zero => intro i; simp [dirsL]; intro y h1 h2; omega
  | succ n ih =>
    intro i
    rw [dirsL, List.mem_append, ih]
    constructor
    · rintro (h | ⟨y, a, b, c⟩)
      · exact ⟨i, Nat.le_refl _, by omega, h⟩
      · exact ⟨y, by omega, by omega, c⟩
    · rintro ⟨y, a, b, c⟩
      by_cases e : y = i
      · subst e; exact .inl c
      · exact .inr ⟨y, by omega, by omega, c⟩

theorem swept_rising {w k : Nat} {W : List Cell} : (sweptL w k W).Pairwise (fun a b => numW w a < numW w b) := by
  unfold sweptL
  suffices H : ∀ (n i : Nat), (dirsL (fun y => pickFrom (fun x => decide ((((x : Nat) : Int), ((y : Nat) : Int)) ∈ W)) (fun x => (((x : Nat) : Int), ((y : Nat) : Int))) 0 w) i n).Pairwise (fun a b => numW w a < numW w b) ∧
      ∀ x ∈ dirsL (fun y => pickFrom (fun x => decide ((((x : Nat) : Int), ((y : Nat) : Int)) ∈ W)) (fun x => (((x : Nat) : Int), ((y : Nat) : Int))) 0 w) i n, ((i * w : Nat) : Int) ≤ numW w x from (H k 0).1
  intro n
  induction n with
  | zero => intro i; exact ⟨.nil, fun _ h => by cases h⟩
  | succ n ih =>
    intro i
    rw [dirsL]
    obtain ⟨h1, h2⟩ := ih (i + 1)
    have hrow : ∀ x ∈ pickFrom (fun x => decide ((((x : Nat) : Int), ((i : Nat) : Int)) ∈ W)) (fun x => (((x : Nat) : Int), ((i : Nat) : Int))) 0 w, ((i * w : Nat) : Int) ≤ numW w x ∧ numW w x < (((i + 1) * w : Nat) : Int) := by
      intro x hx
      obtain ⟨j, _, j2, _, rfl⟩ := pick_mem.1 hx
      unfold numW
      simp only
      have e1 : (((i + 1) * w : Nat) : Int) = ((i * w : Nat) : Int) + (w : Int) := by rw [Nat.succ_mul]; push_cast; rfl
      have e2 : ((i : Nat) : Int) * (w : Int) = ((i * w : Nat) : Int) := by push_cast; rfl
      rw [e1, e2]
      omega
    refine ⟨List.pairwise_append.2 ⟨pick_pw fun a b hab => ?_, h1, fun a ha b hb => ?_⟩, fun x hx => ?_⟩
    · unfold numW
      simp only
      omega
    · have := (hrow a ha).2
      have := h2 b hb
      omega
    · rcases List.mem_append.1 hx with h | h
      · exact (hrow x h).1
      · have := h2 x h
        have e1 : (((i + 1) * w : Nat) : Int) = ((i * w : Nat) : Int) + (w : Int) := by rw [Nat.succ_mul]; push_cast; rfl
        omega

/-- **Sorted, each once: what the reference tells.** -/
theorem compact_swept {w k : Nat} {W S : List Cell} (hw : 0 < w) (hin : ∀ c ∈ W, 0 ≤ c.1 ∧ c.1 < w ∧ 0 ≤ c.2 ∧ c.2 < k) (hp : S.Perm W) (hs : S.Pairwise fun a b => numW w a ≤ numW w b) : compactL S = sweptL w k W := by
  refine rising_ext (n := numW w) (compact_sorted (fun {_} => trivial) (fun a ha b hb e => ?_) hs) swept_rising fun x => ?_
  · obtain ⟨a1, a2, a3, a4⟩ := hin a (hp.mem_iff.1 ha)
    obtain ⟨b1, b2, b3, b4⟩ := hin b (hp.mem_iff.1 hb)
    obtain ⟨x, y⟩ := a
    obtain ⟨x', y'⟩ := b
    unfold numW at e
    simp only at *
    have ey : y = y' := by
      rcases Int.lt_trichotomy y y' with h | h | h
      · have : (y + 1) * (w : Int) ≤ y' * w := Int.mul_le_mul_of_nonneg_right (by omega) (by omega)
        rw [Int.add_mul, Int.one_mul] at this
        omega
      · exact h
      · have : (y' + 1) * (w : Int) ≤ y * w := Int.mul_le_mul_of_nonneg_right (by omega) (by omega)
        rw [Int.add_mul, Int.one_mul] at this
        omega
    subst ey
    rw [show x = x' by omega]
  · rw [compact_mem, swept_mem, hp.mem_iff]
    exact ⟨fun h => ⟨hin x h, h⟩, fun h => h.2⟩

end Go.Proofs.YtnpdploihlgcgaaDoor
end

section
/- slices.Compact of cells; the cells that a move sweeps. -/
set_option linter.unusedSimpArgs false
set_option linter.unusedVariables false
set_option maxRecDepth 100000
namespace Go.Proofs.YtnpdploihlgcgaaDoor
open Go Go.HL

/-- clear of a part of a row of one's own: what lies ahead stays. -/
theorem clear_own {P : Program} {G h : Hp} {α : Type} (c : Cod α) (d0 : α) {T e : TypeId} (hu : P.underlying T = some (.slice e)) (hn : 0 < c.n) (hz : ((P.info? e).bind (·.zero)).map (·.cells.toList) = some (c.enc d0)) {ty : TypeId} {b off n cap : Nat} {l : List Value} {e' : TypeId}
    (hb : h b = some (.cells l.toArray e' (0, 0))) (h0 : 0 < n) (hfit : off + n * c.n ≤ l.length) {K : Value → Hp → Prop}
    (H : ∀ l' : List Value, l'.length = l.length → l'.take off = l.take off → K (.tuple #[]) (h.set b (.cells l'.toArray e' (0, 0)))) :
    wpH P G (Builtin.clear_ #[T] ty #[.slice (some ⟨b, off, none⟩) n cap]) h K := by
  cases hi : P.info? e with
  | none => rw [hi] at hz; cases hz
  | some inf =>
  rw [hi] at hz
  simp only [Option.bind_some] at hz
  cases hzz : inf.zero with
  | none => rw [hzz] at hz; cases hz
  | some z =>
  rw [hzz] at hz
  simp only [Option.map_some, Option.some.injEq] at hz
  obtain ⟨n', rfl⟩ : ∃ n', n = n' + 1 := ⟨n - 1, by omega⟩
  have hrow := rows_replicate c d0 (n' + 1) z.cells hz.symm hn
  have hsz : z.cells.size = c.n := by rw [← Array.length_toList, hz, c.len]
  have hcells : (Builtin.zeroCells z.cells (n' + 1)).toList = c.rows (List.replicate (n' + 1) d0) := by
    refine Eq.trans ?_ ((congrArg Array.toList hrow).trans (by simp))
    rw [← hsz]
    rfl
  have key : wpH P G (storeCells ⟨b, off, none⟩ (c.rows (List.replicate (n' + 1) d0))) h (fun _ h' => K (.tuple #[]) h') := by
    rw [storeCells_eq _ (k := 0) hb (by rw [c.rows_length, List.length_replicate]; omega) (c.rows_one _)]
    exact H _ (putL_length _ _ _) (by
      rw [putL_eq _ _ _ (by rw [c.rows_length, List.length_replicate]; omega), List.append_assoc, List.take_append_of_le_length (by rw [List.length_take]; omega), Nat.add_zero, List.take_take, Nat.min_self])
  unfold Builtin.clear_ underlying
  simp only [List.getElem?_toArray, List.getElem?_cons_zero, bind, wpH_bind, program, wpH, hu, pure]
  simp only [zeroValue, typeInfo, program, bind, wpH_bind, wpH, hi, hzz, pure]
  rw [hcells]
  exact key

theorem comp_snoc {y x : Cell} : ∀ {T : List Cell}, compactL (T ++ [y, x]) = if y = x then compactL (T ++ [y]) else compactL (T ++ [y]) ++ [x]
  | [] => by
    show compactL (y :: [x]) = if y = x then compactL [y] else compactL [y] ++ [x]
    rw [compact_cons]
    by_cases h : y = x <;> simp [h, compactL]
  | [a] => by
    show compactL (a :: y :: [x]) = if y = x then compactL (a :: y :: []) else compactL (a :: y :: []) ++ [x]
    simp only [compact_cons]
    by_cases h1 : a = y <;> by_cases h2 : y = x <;> simp [h1, h2, compactL]
  | a :: b :: T => by
    show compactL (a :: b :: (T ++ [y, x])) = if y = x then compactL (a :: b :: (T ++ [y])) else compactL (a :: b :: (T ++ [y])) ++ [x]
    rw [compact_cons, compact_cons]
    have ih := comp_snoc (y := y) (x := x) (T := b :: T)
    simp only [List.cons_append] at ih
    rw [ih]
    by_cases h1 : a = b <;> by_cases h2 : y = x <;> simp [h1, h2]
theorem comp_step {L : List Cell} {k : Nat} {y x : Cell} (hk : 1 ≤ k) (hy : L[k - 1]? = some y) (hx : L[k]? = some x) : compactL (L.take (k + 1)) = if y = x then compactL (L.take k) else compactL (L.take k) ++ [x] := by
  obtain ⟨j, rfl⟩ : ∃ j, k = j + 1 := ⟨k - 1, by omega⟩
  rw [Nat.add_sub_cancel] at hy
  rw [List.take_add_one, List.take_add_one, hx, hy]
  simp only [Option.toList, List.append_assoc, List.cons_append, List.nil_append]
  exact comp_snoc
theorem comp_short {L : List Cell} (h : L.length < 2) : compactL L = L := by
  match L, h with
  | [], _ => rfl
  | [a], _ => rfl

theorem st_elem {G h : Hp} {b i : Nat} {M : List Cell} {t : List Value} {x : Cell} {K : Unit → Hp → Prop} (hb : h b = some (.cells (cellC.rows M ++ t).toArray 28 (0, 0))) (hi : i < M.length) :
    wpH Tryd.prog G (Instr.storeAt 28 (.pointer (some ⟨b, i * 2, none⟩)) (.agg #[.int .i64 x.1, .int .i64 x.2])) h K = K () (h.set b (.cells (cellC.rows (M.set i x) ++ t).toArray 28 (0, 0))) := by
  rw [store_eq (n := 2) sz28 hb rfl (by rw [List.length_append, cellC.rows_length, show cellC.n = 2 from rfl]; omega) (by intro v hv; simp [Value.cells] at hv; rcases hv with rfl | rfl <;> rfl)]
  have := cellC.rows_put (t := t) (x := x) hi
  rw [← this]
  rfl
theorem row_cell {G h : Hp} {b : Nat} {M : List Cell} {t : List Value} (hb : HL.look G h b = some (.cells (cellC.rows M ++ t).toArray 28 (0, 0))) {i : Nat} {x : Cell} (hx : M[i]? = some x) : cellIn G h ⟨b, i * 2, none⟩ = some (.int .i64 x.1) ∧ cellIn G h ⟨b, i * 2 + 1, none⟩ = some (.int .i64 x.2) := by
  have g0 := cellC.rows_get (t := t) hx (j := 0) (by decide)
  have g1 := cellC.rows_get (t := t) hx (j := 1) (by decide)
  rw [show cellC.n = 2 from rfl] at g0 g1
  exact ⟨(cell_of hb).trans g0, (cell_of hb).trans g1⟩

set_option maxHeartbeats 8000000 in
theorem compact_spec {G h a : Hp} {R : List Hp} {v : Value} {L : List Cell} (s : HL.Sep (a :: R) h) (o : Slc cellC 28 a v L) (hL : L.length ≤ 100000) : HCalls Tryd.prog G 71 #[v] h (fun u h' => ∃ a', Slc cellC 28 a' u (compactL L) ∧ HL.Sep (a' :: R) h' ∧ Dis G h') := by
  refine HCalls.assume fun d => enter71 (by simp) ?_
  unfold S71
  obtain ⟨sa, cap, rfl, hcap⟩ := o.len (by decide)
  simp -implicitDefEqProofs only [regs0, retK_ret, resL_tmp, upd_eq, resL_nil1, opH_sv, ln22, bin_lss]
  refine cond_dec (fun hlt => ?_) (fun hge => ?_)
  · try simp -implicitDefEqProofs only [opH_sv, opH_su, pureW_sv, opH_nil, pureW_nil, pick_t, pick_f, pick_tp, pick_fp, gd_tt, gd_ft, gd_tf, gd_ff, box_new, regs0, regs1, regs2, regs3, regs4, regs5, regs6, cells_agg, cells_int, cells_bool, cells_ptr, cells_slice, cells_string, cells_func, cells_nilFunc, cells_map, retK_ret, retK_normal, resL_tmp, resL_cell, resL_nil0, resL_nil1, resL_nil2, resL_nil3, resC_ptr, ex0, ex1, ex2, ex0p, ex1p, ex2p, HL.cond_true, HL.cond_false, thenK_normal, thenK_ret, thenK_exit, blockK_normal, blockK_ret, blockK_exit, scopeK_normal, scopeK_ret, scopeK_exit, wpH_pure, bin_add, bin_sub, bin_mul, bin_lss, bin_leq, bin_gtr, bin_geq, bin_quo, bin_rem, bin_quop, bin_remp, wrap_in, bin_addp, bin_subp, bin_mulp, bin_lssp, bin_leqp, bin_gtrp, bin_geqp, un_not, un_notp, un_neg, eq_int, ne_int, eq_intp, ne_intp, callV_fn, add_mk, upd_eq, upd_ne, cell_set_self, Nat.zero_add, Nat.add_zero, Option.some.injEq, exists_eq_left', List.getElem?_cons_succ, List.getElem?_cons_zero, true_and, and_true, bne_self_eq_false, beq_self_eq_true, Bool.not_true, Bool.not_false, Bool.and_true, Bool.and_self, Bool.and_false, Bool.true_and, List.length_cons, List.length_nil, ne_eq, not_false_eq_true, Nat.reduceAdd, Nat.reduceMul, if_true, if_false, oneCell_int, oneCell_bool, oneCell_ptr, oneCell_slice, oneCell_string, oneCell_func, oneCell_map, Int.toNat_natCast, List.set_cons_zero, List.set_cons_succ, Nat.lt_irrefl, Nat.zero_lt_succ, Nat.succ_lt_succ_iff, fa26_0, fa26_0p, fa26_1, fa26_1p, fa26_10, fa26_10p, fa26_11, fa26_11p, fa26_12, fa26_12p, fa26_13, fa26_13p, fa26_14, fa26_14p, fa26_2, fa26_2p, fa26_3, fa26_3p, fa26_4, fa26_4p, fa26_5, fa26_5p, fa26_6, fa26_6p, fa26_7, fa26_7p, fa26_8, fa26_8p, fa26_9, fa26_9p, fa28_0, fa28_0p, fa28_1, fa28_1p, fa30_0, fa30_0p, fa30_1, fa30_1p, fa46_0, fa46_0p, fa46_1, fa46_1p, fa46_2, fa46_2p, fa46_3, fa46_3p, fa46_4, fa46_4p, fa46_5, fa46_5p, fa46_6, fa46_6p, fa86_0, fa86_0p, fa86_1, fa86_1p, fa86_2, fa86_2p, fa95_0, fa95_0p, fa95_1, fa95_1p, ld3, ld3p, ld4, ld4p, ld22, ld22p, ld23, ld23p, ld24, ld24p, ld26, ld26p, ld28, ld28p, ld30, ld30p, ld31, ld31p, ld46, ld46p, ld47, ld47p, ld52, ld52p, ld55, ld55p, ld57, ld57p, ld95, ld95p, st3s, st4s, st22s, st23s, st24s, st26w, st28w, st30w, st46w, st47s, st55s, st95w, ix22, ix22p, ix23, ix23p, ix24, ix24p, ix47, ix47p, ix56, ix56p, ix57, ix57p, ix101, ix101p, ln22, ln22p, ln23, ln23p, ln24, ln24p, ln47, ln47p, ln56, ln56p, ln57, ln57p, al22, al26, al28, al30, al46, al47, al95, cf14, cf15, cf16, cf17, cf18, cf19, cf20, cf21, cf22, cf23, cf24, cf25, cf26, cf27, cf28, cf29, cf30, cf31, cf32, cf33, cf34, cf35, cf36, cf37, cf38, cf39, cf40, cf41, cf42, cf43, cf44, cf45, cf46, cf47, cf48, cf49, cf50, cf51, cf52, cf53, cf54, cf55, cf56, cf57, cf58, cf59, cf60, cf61, cf62, cf63, cf64, cf65, cf66, cf67, cf68, cf69, cf70, cf71, cf72, cf73, cf74, cf75, cf76, cf77, cf78, cf79, cf80, bd26_0_1_2_7_8_9_10_11_12_13_14, bd26_0_1_2_7_8_9_10_11_12_13_14p, bd28_0, bd28_0p, bd28_0_1, bd28_0_1p, bd30_, bd30_p, bd30_0_1, bd30_0_1p, bd30_0, bd30_0p, bd46_0_1_2_3_4, bd46_0_1_2_3_4p, bd46_0_3_4, bd46_0_3_4p, bd86_0_1_2, bd86_0_1_2p, bd87_0_1_2_3, bd87_0_1_2_3p, bd95_0_1, bd95_0_1p, bs22_2_0_1, bs47_1_0, bs22_1_0, bs57_6_0_1_2_3_4_5, bs24_1_0, bs22_4_0_1_2_3, bs56_11_0_1_2_3_4_5_6_7_8_9_10, bs57_11_0_1_2_3_4_5_6_7_8_9_10, eq4, eq4p, eq28, eq28p, eq30, eq30p, eq31n, eq31np, eq31s, eq31sp, eq46, eq46p, eq50n, eq50np, eq50s, eq50sp, eq67n, eq67np, eq67s, eq67sp, ne4, ne4p, ne28, ne28p, ne30, ne30p, ne31n, ne31np, ne31s, ne31sp, ne46, ne46p, al76]
    exact ⟨a, by rw [comp_short (by omega)]; exact o, s, d⟩
  unfold S71_k1
  obtain ⟨ob, o'⟩ := id o
  cases ob with
  | none => exact absurd o'.2 (fun e => by rw [e] at hge; simp at hge)
  | some b =>
  obtain ⟨cap', t, e9, hb, hbl⟩ := o'
  simp only [Value.slice.injEq, true_and] at e9
  obtain ⟨rfl, rfl⟩ := e9
  have hbh := s.at 0 rfl hb
  have rd := fun {i : Nat} {x : Cell} (hx : L[i]? = some x) => row_cell (G := G) (look_own hbh) hx
  try simp -implicitDefEqProofs only [opH_sv, opH_su, pureW_sv, opH_nil, pureW_nil, pick_t, pick_f, pick_tp, pick_fp, gd_tt, gd_ft, gd_tf, gd_ff, box_new, regs0, regs1, regs2, regs3, regs4, regs5, regs6, cells_agg, cells_int, cells_bool, cells_ptr, cells_slice, cells_string, cells_func, cells_nilFunc, cells_map, retK_ret, retK_normal, resL_tmp, resL_cell, resL_nil0, resL_nil1, resL_nil2, resL_nil3, resC_ptr, ex0, ex1, ex2, ex0p, ex1p, ex2p, HL.cond_true, HL.cond_false, thenK_normal, thenK_ret, thenK_exit, blockK_normal, blockK_ret, blockK_exit, scopeK_normal, scopeK_ret, scopeK_exit, wpH_pure, bin_add, bin_sub, bin_mul, bin_lss, bin_leq, bin_gtr, bin_geq, bin_quo, bin_rem, bin_quop, bin_remp, wrap_in, bin_addp, bin_subp, bin_mulp, bin_lssp, bin_leqp, bin_gtrp, bin_geqp, un_not, un_notp, un_neg, eq_int, ne_int, eq_intp, ne_intp, callV_fn, add_mk, upd_eq, upd_ne, cell_set_self, Nat.zero_add, Nat.add_zero, Option.some.injEq, exists_eq_left', List.getElem?_cons_succ, List.getElem?_cons_zero, true_and, and_true, bne_self_eq_false, beq_self_eq_true, Bool.not_true, Bool.not_false, Bool.and_true, Bool.and_self, Bool.and_false, Bool.true_and, List.length_cons, List.length_nil, ne_eq, not_false_eq_true, Nat.reduceAdd, Nat.reduceMul, if_true, if_false, oneCell_int, oneCell_bool, oneCell_ptr, oneCell_slice, oneCell_string, oneCell_func, oneCell_map, Int.toNat_natCast, List.set_cons_zero, List.set_cons_succ, Nat.lt_irrefl, Nat.zero_lt_succ, Nat.succ_lt_succ_iff, fa26_0, fa26_0p, fa26_1, fa26_1p, fa26_10, fa26_10p, fa26_11, fa26_11p, fa26_12, fa26_12p, fa26_13, fa26_13p, fa26_14, fa26_14p, fa26_2, fa26_2p, fa26_3, fa26_3p, fa26_4, fa26_4p, fa26_5, fa26_5p, fa26_6, fa26_6p, fa26_7, fa26_7p, fa26_8, fa26_8p, fa26_9, fa26_9p, fa28_0, fa28_0p, fa28_1, fa28_1p, fa30_0, fa30_0p, fa30_1, fa30_1p, fa46_0, fa46_0p, fa46_1, fa46_1p, fa46_2, fa46_2p, fa46_3, fa46_3p, fa46_4, fa46_4p, fa46_5, fa46_5p, fa46_6, fa46_6p, fa86_0, fa86_0p, fa86_1, fa86_1p, fa86_2, fa86_2p, fa95_0, fa95_0p, fa95_1, fa95_1p, ld3, ld3p, ld4, ld4p, ld22, ld22p, ld23, ld23p, ld24, ld24p, ld26, ld26p, ld28, ld28p, ld30, ld30p, ld31, ld31p, ld46, ld46p, ld47, ld47p, ld52, ld52p, ld55, ld55p, ld57, ld57p, ld95, ld95p, st3s, st4s, st22s, st23s, st24s, st26w, st28w, st30w, st46w, st47s, st55s, st95w, ix22, ix22p, ix23, ix23p, ix24, ix24p, ix47, ix47p, ix56, ix56p, ix57, ix57p, ix101, ix101p, ln22, ln22p, ln23, ln23p, ln24, ln24p, ln47, ln47p, ln56, ln56p, ln57, ln57p, al22, al26, al28, al30, al46, al47, al95, cf14, cf15, cf16, cf17, cf18, cf19, cf20, cf21, cf22, cf23, cf24, cf25, cf26, cf27, cf28, cf29, cf30, cf31, cf32, cf33, cf34, cf35, cf36, cf37, cf38, cf39, cf40, cf41, cf42, cf43, cf44, cf45, cf46, cf47, cf48, cf49, cf50, cf51, cf52, cf53, cf54, cf55, cf56, cf57, cf58, cf59, cf60, cf61, cf62, cf63, cf64, cf65, cf66, cf67, cf68, cf69, cf70, cf71, cf72, cf73, cf74, cf75, cf76, cf77, cf78, cf79, cf80, bd26_0_1_2_7_8_9_10_11_12_13_14, bd26_0_1_2_7_8_9_10_11_12_13_14p, bd28_0, bd28_0p, bd28_0_1, bd28_0_1p, bd30_, bd30_p, bd30_0_1, bd30_0_1p, bd30_0, bd30_0p, bd46_0_1_2_3_4, bd46_0_1_2_3_4p, bd46_0_3_4, bd46_0_3_4p, bd86_0_1_2, bd86_0_1_2p, bd87_0_1_2_3, bd87_0_1_2_3p, bd95_0_1, bd95_0_1p, bs22_2_0_1, bs47_1_0, bs22_1_0, bs57_6_0_1_2_3_4_5, bs24_1_0, bs22_4_0_1_2_3, bs56_11_0_1_2_3_4_5_6_7_8_9_10, bs57_11_0_1_2_3_4_5_6_7_8_9_10, eq4, eq4p, eq28, eq28p, eq30, eq30p, eq31n, eq31np, eq31s, eq31sp, eq46, eq46p, eq50n, eq50np, eq50s, eq50sp, eq67n, eq67np, eq67s, eq67sp, ne4, ne4p, ne28, ne28p, ne30, ne30p, ne31n, ne31np, ne31s, ne31sp, ne46, ne46p, al76]
  generalize hKK : retK Tryd.prog G _ _ = KK
  refine loop_I (fun m q h3 => ∃ k : Nat, m = L.length - k ∧ 1 ≤ k ∧ k ≤ L.length ∧ q 0 = .slice (some ⟨b, 0, none⟩) L.length cap ∧ q 3 = .int .i64 k ∧ h3 = h ∧ compactL (L.take k) = L.take k) ?_
    (m := L.length - 1) ⟨1, rfl, Nat.le_refl _, by omega, by simp -implicitDefEqProofs (disch := first | with_reducible exact Nat.ne_of_beq_eq_false rfl | omega) only [upd_ne, regs0], by simp -implicitDefEqProofs only [upd_eq] <;> rfl, rfl, comp_short (by rw [List.length_take]; omega)⟩
  rintro m q h3 ⟨k, rfl, h1, hk, q0, q3, rfl, hc⟩ X HX
  unfold S71_l3
  simp -implicitDefEqProofs only [q0, q3, thenK_exit, blockK_exit, thenK_normal, if_true, opH_sv, ln22, bin_lss]
  refine cond_dec (fun hlt => ?_) (fun hge2 => ?_)
  rotate_left
  · obtain rfl : k = L.length := by omega
    rw [List.take_of_length_le (Nat.le_refl _)] at hc
    try simp -implicitDefEqProofs only [opH_sv, opH_su, pureW_sv, opH_nil, pureW_nil, pick_t, pick_f, pick_tp, pick_fp, gd_tt, gd_ft, gd_tf, gd_ff, box_new, regs0, regs1, regs2, regs3, regs4, regs5, regs6, cells_agg, cells_int, cells_bool, cells_ptr, cells_slice, cells_string, cells_func, cells_nilFunc, cells_map, retK_ret, retK_normal, resL_tmp, resL_cell, resL_nil0, resL_nil1, resL_nil2, resL_nil3, resC_ptr, ex0, ex1, ex2, ex0p, ex1p, ex2p, HL.cond_true, HL.cond_false, thenK_normal, thenK_ret, thenK_exit, blockK_normal, blockK_ret, blockK_exit, scopeK_normal, scopeK_ret, scopeK_exit, wpH_pure, bin_add, bin_sub, bin_mul, bin_lss, bin_leq, bin_gtr, bin_geq, bin_quo, bin_rem, bin_quop, bin_remp, wrap_in, bin_addp, bin_subp, bin_mulp, bin_lssp, bin_leqp, bin_gtrp, bin_geqp, un_not, un_notp, un_neg, eq_int, ne_int, eq_intp, ne_intp, callV_fn, add_mk, upd_eq, upd_ne, cell_set_self, Nat.zero_add, Nat.add_zero, Option.some.injEq, exists_eq_left', List.getElem?_cons_succ, List.getElem?_cons_zero, true_and, and_true, bne_self_eq_false, beq_self_eq_true, Bool.not_true, Bool.not_false, Bool.and_true, Bool.and_self, Bool.and_false, Bool.true_and, List.length_cons, List.length_nil, ne_eq, not_false_eq_true, Nat.reduceAdd, Nat.reduceMul, if_true, if_false, oneCell_int, oneCell_bool, oneCell_ptr, oneCell_slice, oneCell_string, oneCell_func, oneCell_map, Int.toNat_natCast, List.set_cons_zero, List.set_cons_succ, Nat.lt_irrefl, Nat.zero_lt_succ, Nat.succ_lt_succ_iff, fa26_0, fa26_0p, fa26_1, fa26_1p, fa26_10, fa26_10p, fa26_11, fa26_11p, fa26_12, fa26_12p, fa26_13, fa26_13p, fa26_14, fa26_14p, fa26_2, fa26_2p, fa26_3, fa26_3p, fa26_4, fa26_4p, fa26_5, fa26_5p, fa26_6, fa26_6p, fa26_7, fa26_7p, fa26_8, fa26_8p, fa26_9, fa26_9p, fa28_0, fa28_0p, fa28_1, fa28_1p, fa30_0, fa30_0p, fa30_1, fa30_1p, fa46_0, fa46_0p, fa46_1, fa46_1p, fa46_2, fa46_2p, fa46_3, fa46_3p, fa46_4, fa46_4p, fa46_5, fa46_5p, fa46_6, fa46_6p, fa86_0, fa86_0p, fa86_1, fa86_1p, fa86_2, fa86_2p, fa95_0, fa95_0p, fa95_1, fa95_1p, ld3, ld3p, ld4, ld4p, ld22, ld22p, ld23, ld23p, ld24, ld24p, ld26, ld26p, ld28, ld28p, ld30, ld30p, ld31, ld31p, ld46, ld46p, ld47, ld47p, ld52, ld52p, ld55, ld55p, ld57, ld57p, ld95, ld95p, st3s, st4s, st22s, st23s, st24s, st26w, st28w, st30w, st46w, st47s, st55s, st95w, ix22, ix22p, ix23, ix23p, ix24, ix24p, ix47, ix47p, ix56, ix56p, ix57, ix57p, ix101, ix101p, ln22, ln22p, ln23, ln23p, ln24, ln24p, ln47, ln47p, ln56, ln56p, ln57, ln57p, al22, al26, al28, al30, al46, al47, al95, cf14, cf15, cf16, cf17, cf18, cf19, cf20, cf21, cf22, cf23, cf24, cf25, cf26, cf27, cf28, cf29, cf30, cf31, cf32, cf33, cf34, cf35, cf36, cf37, cf38, cf39, cf40, cf41, cf42, cf43, cf44, cf45, cf46, cf47, cf48, cf49, cf50, cf51, cf52, cf53, cf54, cf55, cf56, cf57, cf58, cf59, cf60, cf61, cf62, cf63, cf64, cf65, cf66, cf67, cf68, cf69, cf70, cf71, cf72, cf73, cf74, cf75, cf76, cf77, cf78, cf79, cf80, bd26_0_1_2_7_8_9_10_11_12_13_14, bd26_0_1_2_7_8_9_10_11_12_13_14p, bd28_0, bd28_0p, bd28_0_1, bd28_0_1p, bd30_, bd30_p, bd30_0_1, bd30_0_1p, bd30_0, bd30_0p, bd46_0_1_2_3_4, bd46_0_1_2_3_4p, bd46_0_3_4, bd46_0_3_4p, bd86_0_1_2, bd86_0_1_2p, bd87_0_1_2_3, bd87_0_1_2_3p, bd95_0_1, bd95_0_1p, bs22_2_0_1, bs47_1_0, bs22_1_0, bs57_6_0_1_2_3_4_5, bs24_1_0, bs22_4_0_1_2_3, bs56_11_0_1_2_3_4_5_6_7_8_9_10, bs57_11_0_1_2_3_4_5_6_7_8_9_10, eq4, eq4p, eq28, eq28p, eq30, eq30p, eq31n, eq31np, eq31s, eq31sp, eq46, eq46p, eq50n, eq50np, eq50s, eq50sp, eq67n, eq67np, eq67s, eq67sp, ne4, ne4p, ne28, ne28p, ne30, ne30p, ne31n, ne31np, ne31s, ne31sp, ne46, ne46p, al76]
    unfold S71_k2
    rw [← hKK]
    try simp -implicitDefEqProofs (disch := first | with_reducible exact Nat.ne_of_beq_eq_false rfl | omega) only [upd_ne, q0, retK_ret, resL_tmp, upd_eq, resL_nil1]
    exact ⟨a, by rw [hc]; exact o, s, d⟩
  obtain ⟨x, hx⟩ : ∃ x, L[k]? = some x := ⟨_, List.getElem?_eq_getElem (by omega)⟩
  obtain ⟨y, hy⟩ : ∃ y, L[k - 1]? = some y := ⟨_, List.getElem?_eq_getElem (by omega)⟩
  obtain ⟨x0, x1⟩ := rd hx
  obtain ⟨y0, y1⟩ := rd hy
  have ek : (k : Int) - 1 = ((k - 1 : Nat) : Int) := by omega
  unfold S71_l3_k4
  try simp -implicitDefEqProofs (disch := first | with_reducible exact Nat.ne_of_beq_eq_false rfl | omega) only [upd_ne, q0, q3, opH_sv, pureW_sv, bin_subp, ek, wrap_in, ix22p (Int.natCast_nonneg (k - 1)) (show ((k - 1 : Nat) : Int) < (L.length : Nat) by omega), Int.toNat_natCast, add_mk, Nat.zero_add, ld28p, Nat.add_zero, y0, Option.some.injEq, y1, exists_eq_left', ix22p (Int.natCast_nonneg k) hlt, x0, x1, eq28p, Bool.and_true, cell_beq]
  refine cond_bool (fun hb2 => ?_) (fun hb2 => ?_)
  rotate_left
  · unfold S71_l3_k5
    try simp -implicitDefEqProofs (disch := first | with_reducible exact Nat.ne_of_beq_eq_false rfl | omega) only [upd_ne, q3, thenK_normal, opH_sv, bin_add, wrap_in]
    refine HX (L.length - (k + 1)) _ _ (by omega) ⟨k + 1, rfl, by omega, by omega, by simp -implicitDefEqProofs (disch := first | with_reducible exact Nat.ne_of_beq_eq_false rfl | omega) only [upd_ne, q0], by simp -implicitDefEqProofs (disch := first | with_reducible exact Nat.ne_of_beq_eq_false rfl | omega) only [upd_eq] <;> rfl, rfl, ?_⟩
    rw [comp_step h1 hy hx, if_neg (fun e => by rw [e, beq_self_eq_true] at hb2; cases hb2), hc, List.take_add_one, hx]
    rfl
  have exy : y = x := (eq_of_beq hb2).symm
  try simp -implicitDefEqProofs only [opH_sv, opH_su, pureW_sv, opH_nil, pureW_nil, pick_t, pick_f, pick_tp, pick_fp, gd_tt, gd_ft, gd_tf, gd_ff, box_new, regs0, regs1, regs2, regs3, regs4, regs5, regs6, cells_agg, cells_int, cells_bool, cells_ptr, cells_slice, cells_string, cells_func, cells_nilFunc, cells_map, retK_ret, retK_normal, resL_tmp, resL_cell, resL_nil0, resL_nil1, resL_nil2, resL_nil3, resC_ptr, ex0, ex1, ex2, ex0p, ex1p, ex2p, HL.cond_true, HL.cond_false, thenK_normal, thenK_ret, thenK_exit, blockK_normal, blockK_ret, blockK_exit, scopeK_normal, scopeK_ret, scopeK_exit, wpH_pure, bin_add, bin_sub, bin_mul, bin_lss, bin_leq, bin_gtr, bin_geq, bin_quo, bin_rem, bin_quop, bin_remp, wrap_in, bin_addp, bin_subp, bin_mulp, bin_lssp, bin_leqp, bin_gtrp, bin_geqp, un_not, un_notp, un_neg, eq_int, ne_int, eq_intp, ne_intp, callV_fn, add_mk, upd_eq, upd_ne, cell_set_self, Nat.zero_add, Nat.add_zero, Option.some.injEq, exists_eq_left', List.getElem?_cons_succ, List.getElem?_cons_zero, true_and, and_true, bne_self_eq_false, beq_self_eq_true, Bool.not_true, Bool.not_false, Bool.and_true, Bool.and_self, Bool.and_false, Bool.true_and, List.length_cons, List.length_nil, ne_eq, not_false_eq_true, Nat.reduceAdd, Nat.reduceMul, if_true, if_false, oneCell_int, oneCell_bool, oneCell_ptr, oneCell_slice, oneCell_string, oneCell_func, oneCell_map, Int.toNat_natCast, List.set_cons_zero, List.set_cons_succ, Nat.lt_irrefl, Nat.zero_lt_succ, Nat.succ_lt_succ_iff, fa26_0, fa26_0p, fa26_1, fa26_1p, fa26_10, fa26_10p, fa26_11, fa26_11p, fa26_12, fa26_12p, fa26_13, fa26_13p, fa26_14, fa26_14p, fa26_2, fa26_2p, fa26_3, fa26_3p, fa26_4, fa26_4p, fa26_5, fa26_5p, fa26_6, fa26_6p, fa26_7, fa26_7p, fa26_8, fa26_8p, fa26_9, fa26_9p, fa28_0, fa28_0p, fa28_1, fa28_1p, fa30_0, fa30_0p, fa30_1, fa30_1p, fa46_0, fa46_0p, fa46_1, fa46_1p, fa46_2, fa46_2p, fa46_3, fa46_3p, fa46_4, fa46_4p, fa46_5, fa46_5p, fa46_6, fa46_6p, fa86_0, fa86_0p, fa86_1, fa86_1p, fa86_2, fa86_2p, fa95_0, fa95_0p, fa95_1, fa95_1p, ld3, ld3p, ld4, ld4p, ld22, ld22p, ld23, ld23p, ld24, ld24p, ld26, ld26p, ld28, ld28p, ld30, ld30p, ld31, ld31p, ld46, ld46p, ld47, ld47p, ld52, ld52p, ld55, ld55p, ld57, ld57p, ld95, ld95p, st3s, st4s, st22s, st23s, st24s, st26w, st28w, st30w, st46w, st47s, st55s, st95w, ix22, ix22p, ix23, ix23p, ix24, ix24p, ix47, ix47p, ix56, ix56p, ix57, ix57p, ix101, ix101p, ln22, ln22p, ln23, ln23p, ln24, ln24p, ln47, ln47p, ln56, ln56p, ln57, ln57p, al22, al26, al28, al30, al46, al47, al95, cf14, cf15, cf16, cf17, cf18, cf19, cf20, cf21, cf22, cf23, cf24, cf25, cf26, cf27, cf28, cf29, cf30, cf31, cf32, cf33, cf34, cf35, cf36, cf37, cf38, cf39, cf40, cf41, cf42, cf43, cf44, cf45, cf46, cf47, cf48, cf49, cf50, cf51, cf52, cf53, cf54, cf55, cf56, cf57, cf58, cf59, cf60, cf61, cf62, cf63, cf64, cf65, cf66, cf67, cf68, cf69, cf70, cf71, cf72, cf73, cf74, cf75, cf76, cf77, cf78, cf79, cf80, bd26_0_1_2_7_8_9_10_11_12_13_14, bd26_0_1_2_7_8_9_10_11_12_13_14p, bd28_0, bd28_0p, bd28_0_1, bd28_0_1p, bd30_, bd30_p, bd30_0_1, bd30_0_1p, bd30_0, bd30_0p, bd46_0_1_2_3_4, bd46_0_1_2_3_4p, bd46_0_3_4, bd46_0_3_4p, bd86_0_1_2, bd86_0_1_2p, bd87_0_1_2_3, bd87_0_1_2_3p, bd95_0_1, bd95_0_1p, bs22_2_0_1, bs47_1_0, bs22_1_0, bs57_6_0_1_2_3_4_5, bs24_1_0, bs22_4_0_1_2_3, bs56_11_0_1_2_3_4_5_6_7_8_9_10, bs57_11_0_1_2_3_4_5_6_7_8_9_10, eq4, eq4p, eq28, eq28p, eq30, eq30p, eq31n, eq31np, eq31s, eq31sp, eq46, eq46p, eq50n, eq50np, eq50s, eq50sp, eq67n, eq67np, eq67s, eq67sp, ne4, ne4p, ne28, ne28p, ne30, ne30p, ne31n, ne31np, ne31s, ne31sp, ne46, ne46p, al76, q0, q3]
  rw [slice_from un22 sz28 (by omega) (by omega) hcap]
  rw [Int.toNat_natCast, if_neg (show ¬ cap = k by omega), add_mk, Nat.zero_add]
  have hmax : (cellC.rows L ++ t).length = cap * 2 := hbl
  try simp -implicitDefEqProofs (disch := first | with_reducible exact Nat.ne_of_beq_eq_false rfl | omega) only [opH_sv, opH_su, pureW_sv, opH_nil, pureW_nil, pick_t, pick_f, pick_tp, pick_fp, gd_tt, gd_ft, gd_tf, gd_ff, box_new, regs0, regs1, regs2, regs3, regs4, regs5, regs6, cells_agg, cells_int, cells_bool, cells_ptr, cells_slice, cells_string, cells_func, cells_nilFunc, cells_map, retK_ret, retK_normal, resL_tmp, resL_cell, resL_nil0, resL_nil1, resL_nil2, resL_nil3, resC_ptr, ex0, ex1, ex2, ex0p, ex1p, ex2p, HL.cond_true, HL.cond_false, thenK_normal, thenK_ret, thenK_exit, blockK_normal, blockK_ret, blockK_exit, scopeK_normal, scopeK_ret, scopeK_exit, wpH_pure, bin_add, bin_sub, bin_mul, bin_lss, bin_leq, bin_gtr, bin_geq, bin_quo, bin_rem, bin_quop, bin_remp, wrap_in, bin_addp, bin_subp, bin_mulp, bin_lssp, bin_leqp, bin_gtrp, bin_geqp, un_not, un_notp, un_neg, eq_int, ne_int, eq_intp, ne_intp, callV_fn, add_mk, upd_eq, upd_ne, cell_set_self, Nat.zero_add, Nat.add_zero, Option.some.injEq, exists_eq_left', List.getElem?_cons_succ, List.getElem?_cons_zero, true_and, and_true, bne_self_eq_false, beq_self_eq_true, Bool.not_true, Bool.not_false, Bool.and_true, Bool.and_self, Bool.and_false, Bool.true_and, List.length_cons, List.length_nil, ne_eq, not_false_eq_true, Nat.reduceAdd, Nat.reduceMul, if_true, if_false, oneCell_int, oneCell_bool, oneCell_ptr, oneCell_slice, oneCell_string, oneCell_func, oneCell_map, Int.toNat_natCast, List.set_cons_zero, List.set_cons_succ, Nat.lt_irrefl, Nat.zero_lt_succ, Nat.succ_lt_succ_iff, fa26_0, fa26_0p, fa26_1, fa26_1p, fa26_10, fa26_10p, fa26_11, fa26_11p, fa26_12, fa26_12p, fa26_13, fa26_13p, fa26_14, fa26_14p, fa26_2, fa26_2p, fa26_3, fa26_3p, fa26_4, fa26_4p, fa26_5, fa26_5p, fa26_6, fa26_6p, fa26_7, fa26_7p, fa26_8, fa26_8p, fa26_9, fa26_9p, fa28_0, fa28_0p, fa28_1, fa28_1p, fa30_0, fa30_0p, fa30_1, fa30_1p, fa46_0, fa46_0p, fa46_1, fa46_1p, fa46_2, fa46_2p, fa46_3, fa46_3p, fa46_4, fa46_4p, fa46_5, fa46_5p, fa46_6, fa46_6p, fa86_0, fa86_0p, fa86_1, fa86_1p, fa86_2, fa86_2p, fa95_0, fa95_0p, fa95_1, fa95_1p, ld3, ld3p, ld4, ld4p, ld22, ld22p, ld23, ld23p, ld24, ld24p, ld26, ld26p, ld28, ld28p, ld30, ld30p, ld31, ld31p, ld46, ld46p, ld47, ld47p, ld52, ld52p, ld55, ld55p, ld57, ld57p, ld95, ld95p, st3s, st4s, st22s, st23s, st24s, st26w, st28w, st30w, st46w, st47s, st55s, st95w, ix22, ix22p, ix23, ix23p, ix24, ix24p, ix47, ix47p, ix56, ix56p, ix57, ix57p, ix101, ix101p, ln22, ln22p, ln23, ln23p, ln24, ln24p, ln47, ln47p, ln56, ln56p, ln57, ln57p, al22, al26, al28, al30, al46, al47, al95, cf14, cf15, cf16, cf17, cf18, cf19, cf20, cf21, cf22, cf23, cf24, cf25, cf26, cf27, cf28, cf29, cf30, cf31, cf32, cf33, cf34, cf35, cf36, cf37, cf38, cf39, cf40, cf41, cf42, cf43, cf44, cf45, cf46, cf47, cf48, cf49, cf50, cf51, cf52, cf53, cf54, cf55, cf56, cf57, cf58, cf59, cf60, cf61, cf62, cf63, cf64, cf65, cf66, cf67, cf68, cf69, cf70, cf71, cf72, cf73, cf74, cf75, cf76, cf77, cf78, cf79, cf80, bd26_0_1_2_7_8_9_10_11_12_13_14, bd26_0_1_2_7_8_9_10_11_12_13_14p, bd28_0, bd28_0p, bd28_0_1, bd28_0_1p, bd30_, bd30_p, bd30_0_1, bd30_0_1p, bd30_0, bd30_0p, bd46_0_1_2_3_4, bd46_0_1_2_3_4p, bd46_0_3_4, bd46_0_3_4p, bd86_0_1_2, bd86_0_1_2p, bd87_0_1_2_3, bd87_0_1_2_3p, bd95_0_1, bd95_0_1p, bs22_2_0_1, bs47_1_0, bs22_1_0, bs57_6_0_1_2_3_4_5, bs24_1_0, bs22_4_0_1_2_3, bs56_11_0_1_2_3_4_5_6_7_8_9_10, bs57_11_0_1_2_3_4_5_6_7_8_9_10, eq4, eq4p, eq28, eq28p, eq30, eq30p, eq31n, eq31np, eq31s, eq31sp, eq46, eq46p, eq50n, eq50np, eq50s, eq50sp, eq67n, eq67np, eq67s, eq67sp, ne4, ne4p, ne28, ne28p, ne30, ne30p, ne31n, ne31np, ne31s, ne31sp, ne46, ne46p, al76]
  refine loop_I (fun m q h4 => ∃ (w j : Nat) (M : List Cell) (a : Hp), m = L.length - j ∧ k ≤ w ∧ w < j ∧ k + 1 ≤ j ∧ j ≤ L.length ∧ M.length = L.length ∧ q 0 = .slice (some ⟨b, 0, none⟩) L.length cap ∧ q 3 = .int .i64 w ∧ q 4 = .slice (some ⟨b, k * 2, none⟩) (L.length - k) (cap - k) ∧ q 5 = .int .i64 (((j - k : Nat) : Nat) : Int) ∧
      a b = some (.cells (cellC.rows M ++ t).toArray 28 (0, 0)) ∧ HL.Sep (a :: R) h4 ∧ Dis G h4 ∧ M.take w = compactL (L.take j) ∧ ∀ p, j - 1 ≤ p → M[p]? = L[p]?) ?_
    (m := L.length - (k + 1)) ⟨k, k + 1, L, a, rfl, Nat.le_refl _, by omega, Nat.le_refl _, by omega, rfl, by simp -implicitDefEqProofs (disch := first | with_reducible exact Nat.ne_of_beq_eq_false rfl | omega) only [upd_ne, q0], by simp -implicitDefEqProofs (disch := first | with_reducible exact Nat.ne_of_beq_eq_false rfl | omega) only [upd_ne, q3], by simp -implicitDefEqProofs (disch := first | with_reducible exact Nat.ne_of_beq_eq_false rfl | omega) only [upd_ne, upd_eq], by simp -implicitDefEqProofs (disch := first | with_reducible exact Nat.ne_of_beq_eq_false rfl | omega) only [upd_eq] <;> (rw [show k + 1 - k = 1 by omega]; rfl), hb, s, d, by rw [comp_step h1 hy hx, if_pos exy, hc], fun p _ => rfl⟩
  clear HX q0 q3 x0 x1 y0 y1 hc hx hy exy hb2 ek rd hbh hb o s d
  rintro m q h4 ⟨w, j, M, a, rfl, hkw, hwj, hkj, hj, hM, q0, q3, q4, q5, hb, s, d, htk, hsame⟩ X HX
  have hbh := s.at 0 rfl hb
  have rd := fun {i : Nat} {x : Cell} (hx : M[i]? = some x) => row_cell (G := G) (look_own hbh) hx
  unfold S71_l3_l7
  simp -implicitDefEqProofs (maxSteps := 2000000) (disch := first | with_reducible exact Nat.ne_of_beq_eq_false rfl | exact oneCell_int | exact oneCell_bool | omega | rfl | (simp; done) | fail) only [q4, q5, thenK_exit, blockK_exit, thenK_normal, if_true, opH_sv, ln22, bin_lss]
  refine cond_dec (fun hlt2 => ?_) (fun hge3 => ?_)
  · obtain ⟨x, hx⟩ : ∃ x, L[j]? = some x := ⟨_, List.getElem?_eq_getElem (by omega)⟩
    obtain ⟨y, hy⟩ : ∃ y, L[j - 1]? = some y := ⟨_, List.getElem?_eq_getElem (by omega)⟩
    obtain ⟨x0, x1⟩ := rd ((hsame j (by omega)).trans hx)
    obtain ⟨y0, y1⟩ := rd ((hsame (j - 1) (Nat.le_refl _)).trans hy)
    have ej : j * 2 = k * 2 + (j - k) * 2 := by omega
    have ej1 : (j - 1) * 2 = k * 2 + (j - k - 1) * 2 := by omega
    rw [ej] at x0 x1
    rw [ej1] at y0 y1
    have e5 : (((j - k : Nat) : Nat) : Int) - 1 = ((j - k - 1 : Nat) : Int) := by omega
    unfold S71_l3_l7_k8
    try simp -implicitDefEqProofs (maxSteps := 2000000) (disch := first | with_reducible exact Nat.ne_of_beq_eq_false rfl | exact oneCell_int | exact oneCell_bool | omega | rfl | (simp; done) | fail) only [upd_ne, q4, q5, opH_sv, opH_su, ix22, Int.toNat_natCast, add_mk, ld28, Nat.add_zero, pureW_sv, bin_subp, e5, wrap_in, ix22p (Int.natCast_nonneg (j - k - 1)) (show ((j - k - 1 : Nat) : Int) < ((L.length - k : Nat) : Int) by omega), ld28p, y0, Option.some.injEq, y1, exists_eq_left', ix22p (Int.natCast_nonneg (j - k)) hlt2, x0, x1, ne28p, Bool.and_true, cell_beq]
    have nxt : (((j - k : Nat) : Nat) : Int) + 1 = ((j + 1 - k : Nat) : Int) := by omega
    cases hxy : (x == y) with
    | true =>
      try simp -implicitDefEqProofs (maxSteps := 2000000) (disch := first | with_reducible exact Nat.ne_of_beq_eq_false rfl | exact oneCell_int | exact oneCell_bool | omega | rfl | (simp; done) | fail) only [Bool.not_true, HL.cond_false]
      unfold S71_l3_l7_k9
      try simp -implicitDefEqProofs (maxSteps := 2000000) (disch := first | with_reducible exact Nat.ne_of_beq_eq_false rfl | exact oneCell_int | exact oneCell_bool | omega | rfl | (simp; done) | fail) only [upd_ne, q5, thenK_normal, opH_sv, bin_add, wrap_in]
      refine HX (L.length - (j + 1)) _ _ (by omega) ⟨w, j + 1, M, a, rfl, hkw, by omega, by omega, by omega, hM, by simp -implicitDefEqProofs (maxSteps := 2000000) (disch := first | with_reducible exact Nat.ne_of_beq_eq_false rfl | exact oneCell_int | exact oneCell_bool | omega | rfl | (simp; done) | fail) only [upd_ne, q0], by simp -implicitDefEqProofs (maxSteps := 2000000) (disch := first | with_reducible exact Nat.ne_of_beq_eq_false rfl | exact oneCell_int | exact oneCell_bool | omega | rfl | (simp; done) | fail) only [upd_ne, q3], by simp -implicitDefEqProofs (maxSteps := 2000000) (disch := first | with_reducible exact Nat.ne_of_beq_eq_false rfl | exact oneCell_int | exact oneCell_bool | omega | rfl | (simp; done) | fail) only [upd_ne, q4], by simp -implicitDefEqProofs (maxSteps := 2000000) (disch := first | with_reducible exact Nat.ne_of_beq_eq_false rfl | exact oneCell_int | exact oneCell_bool | omega | rfl | (simp; done) | fail) only [upd_eq] <;> rw [nxt], hb, s, d, ?_, fun p hp => hsame p (by omega)⟩
      rw [htk, comp_step (by omega) hy hx, if_pos (eq_of_beq hxy).symm]
    | false =>
      have hwl : (w : Int) < (L.length : Nat) := by omega
      try simp -implicitDefEqProofs (maxSteps := 2000000) (disch := first | with_reducible exact Nat.ne_of_beq_eq_false rfl | exact oneCell_int | exact oneCell_bool | omega | rfl | (simp; done) | fail) only [Bool.not_false, q0, q3, bin_add, wrap_in, ix22 (Int.natCast_nonneg w) hwl, Int.toNat_natCast, add_mk, Nat.zero_add, HL.cond_true]
      rw [st_elem (x := x) hbh (by omega)]
      have s5 := s.put (o := .cells (cellC.rows (M.set w x) ++ t).toArray 28 (0, 0)) hb
      have d5 := d.set (o := .cells (cellC.rows (M.set w x) ++ t).toArray 28 (0, 0)) (d _ _ hbh)
      generalize Hp.set h4 b _ = h5 at s5 d5 ⊢
      try simp -implicitDefEqProofs (disch := first | with_reducible exact Nat.ne_of_beq_eq_false rfl | omega) only [opH_sv, opH_su, pureW_sv, opH_nil, pureW_nil, pick_t, pick_f, pick_tp, pick_fp, gd_tt, gd_ft, gd_tf, gd_ff, box_new, regs0, regs1, regs2, regs3, regs4, regs5, regs6, cells_agg, cells_int, cells_bool, cells_ptr, cells_slice, cells_string, cells_func, cells_nilFunc, cells_map, retK_ret, retK_normal, resL_tmp, resL_cell, resL_nil0, resL_nil1, resL_nil2, resL_nil3, resC_ptr, ex0, ex1, ex2, ex0p, ex1p, ex2p, HL.cond_true, HL.cond_false, thenK_normal, thenK_ret, thenK_exit, blockK_normal, blockK_ret, blockK_exit, scopeK_normal, scopeK_ret, scopeK_exit, wpH_pure, bin_add, bin_sub, bin_mul, bin_lss, bin_leq, bin_gtr, bin_geq, bin_quo, bin_rem, bin_quop, bin_remp, wrap_in, bin_addp, bin_subp, bin_mulp, bin_lssp, bin_leqp, bin_gtrp, bin_geqp, un_not, un_notp, un_neg, eq_int, ne_int, eq_intp, ne_intp, callV_fn, add_mk, upd_eq, upd_ne, cell_set_self, Nat.zero_add, Nat.add_zero, Option.some.injEq, exists_eq_left', List.getElem?_cons_succ, List.getElem?_cons_zero, true_and, and_true, bne_self_eq_false, beq_self_eq_true, Bool.not_true, Bool.not_false, Bool.and_true, Bool.and_self, Bool.and_false, Bool.true_and, List.length_cons, List.length_nil, ne_eq, not_false_eq_true, Nat.reduceAdd, Nat.reduceMul, if_true, if_false, oneCell_int, oneCell_bool, oneCell_ptr, oneCell_slice, oneCell_string, oneCell_func, oneCell_map, Int.toNat_natCast, List.set_cons_zero, List.set_cons_succ, Nat.lt_irrefl, Nat.zero_lt_succ, Nat.succ_lt_succ_iff, fa26_0, fa26_0p, fa26_1, fa26_1p, fa26_10, fa26_10p, fa26_11, fa26_11p, fa26_12, fa26_12p, fa26_13, fa26_13p, fa26_14, fa26_14p, fa26_2, fa26_2p, fa26_3, fa26_3p, fa26_4, fa26_4p, fa26_5, fa26_5p, fa26_6, fa26_6p, fa26_7, fa26_7p, fa26_8, fa26_8p, fa26_9, fa26_9p, fa28_0, fa28_0p, fa28_1, fa28_1p, fa30_0, fa30_0p, fa30_1, fa30_1p, fa46_0, fa46_0p, fa46_1, fa46_1p, fa46_2, fa46_2p, fa46_3, fa46_3p, fa46_4, fa46_4p, fa46_5, fa46_5p, fa46_6, fa46_6p, fa86_0, fa86_0p, fa86_1, fa86_1p, fa86_2, fa86_2p, fa95_0, fa95_0p, fa95_1, fa95_1p, ld3, ld3p, ld4, ld4p, ld22, ld22p, ld23, ld23p, ld24, ld24p, ld26, ld26p, ld28, ld28p, ld30, ld30p, ld31, ld31p, ld46, ld46p, ld47, ld47p, ld52, ld52p, ld55, ld55p, ld57, ld57p, ld95, ld95p, st3s, st4s, st22s, st23s, st24s, st26w, st28w, st30w, st46w, st47s, st55s, st95w, ix22, ix22p, ix23, ix23p, ix24, ix24p, ix47, ix47p, ix56, ix56p, ix57, ix57p, ix101, ix101p, ln22, ln22p, ln23, ln23p, ln24, ln24p, ln47, ln47p, ln56, ln56p, ln57, ln57p, al22, al26, al28, al30, al46, al47, al95, cf14, cf15, cf16, cf17, cf18, cf19, cf20, cf21, cf22, cf23, cf24, cf25, cf26, cf27, cf28, cf29, cf30, cf31, cf32, cf33, cf34, cf35, cf36, cf37, cf38, cf39, cf40, cf41, cf42, cf43, cf44, cf45, cf46, cf47, cf48, cf49, cf50, cf51, cf52, cf53, cf54, cf55, cf56, cf57, cf58, cf59, cf60, cf61, cf62, cf63, cf64, cf65, cf66, cf67, cf68, cf69, cf70, cf71, cf72, cf73, cf74, cf75, cf76, cf77, cf78, cf79, cf80, bd26_0_1_2_7_8_9_10_11_12_13_14, bd26_0_1_2_7_8_9_10_11_12_13_14p, bd28_0, bd28_0p, bd28_0_1, bd28_0_1p, bd30_, bd30_p, bd30_0_1, bd30_0_1p, bd30_0, bd30_0p, bd46_0_1_2_3_4, bd46_0_1_2_3_4p, bd46_0_3_4, bd46_0_3_4p, bd86_0_1_2, bd86_0_1_2p, bd87_0_1_2_3, bd87_0_1_2_3p, bd95_0_1, bd95_0_1p, bs22_2_0_1, bs47_1_0, bs22_1_0, bs57_6_0_1_2_3_4_5, bs24_1_0, bs22_4_0_1_2_3, bs56_11_0_1_2_3_4_5_6_7_8_9_10, bs57_11_0_1_2_3_4_5_6_7_8_9_10, eq4, eq4p, eq28, eq28p, eq30, eq30p, eq31n, eq31np, eq31s, eq31sp, eq46, eq46p, eq50n, eq50np, eq50s, eq50sp, eq67n, eq67np, eq67s, eq67sp, ne4, ne4p, ne28, ne28p, ne30, ne30p, ne31n, ne31np, ne31s, ne31sp, ne46, ne46p, al76, q3]
      unfold S71_l3_l7_k9
      try simp -implicitDefEqProofs (disch := first | with_reducible exact Nat.ne_of_beq_eq_false rfl | omega) only [upd_ne, q5, thenK_normal, opH_sv, bin_add, wrap_in]
      refine HX (L.length - (j + 1)) _ _ (by omega) ⟨w + 1, j + 1, M.set w x, _, rfl, by omega, by omega, by omega, by omega, by rw [List.length_set, hM], by simp -implicitDefEqProofs (disch := first | with_reducible exact Nat.ne_of_beq_eq_false rfl | omega) only [upd_ne, q0], by simp -implicitDefEqProofs (disch := first | with_reducible exact Nat.ne_of_beq_eq_false rfl | omega) only [upd_ne, upd_eq] <;> rfl, by simp -implicitDefEqProofs (disch := first | with_reducible exact Nat.ne_of_beq_eq_false rfl | omega) only [upd_ne, q4], by simp -implicitDefEqProofs (disch := first | with_reducible exact Nat.ne_of_beq_eq_false rfl | omega) only [upd_eq] <;> rw [nxt], set_self, s5, d5, ?_, fun p hp => ?_⟩
      · rw [comp_step (by omega) hy hx, if_neg (fun e => by rw [e, beq_self_eq_true] at hxy; cases hxy), ← htk, List.take_add_one, List.getElem?_set_self (by omega), List.take_set_of_le (Nat.le_refl _)]
        rfl
      · rw [List.getElem?_set_ne (by omega)]
        exact hsame p (by omega)
  · obtain rfl : j = L.length := by omega
    rw [List.take_of_length_le (Nat.le_refl _)] at htk
    clear HX
    have hwl : w < L.length := hwj
    try simp -implicitDefEqProofs (disch := first | with_reducible exact Nat.ne_of_beq_eq_false rfl | omega) only [opH_sv, opH_su, pureW_sv, opH_nil, pureW_nil, pick_t, pick_f, pick_tp, pick_fp, gd_tt, gd_ft, gd_tf, gd_ff, box_new, regs0, regs1, regs2, regs3, regs4, regs5, regs6, cells_agg, cells_int, cells_bool, cells_ptr, cells_slice, cells_string, cells_func, cells_nilFunc, cells_map, retK_ret, retK_normal, resL_tmp, resL_cell, resL_nil0, resL_nil1, resL_nil2, resL_nil3, resC_ptr, ex0, ex1, ex2, ex0p, ex1p, ex2p, HL.cond_true, HL.cond_false, thenK_normal, thenK_ret, thenK_exit, blockK_normal, blockK_ret, blockK_exit, scopeK_normal, scopeK_ret, scopeK_exit, wpH_pure, bin_add, bin_sub, bin_mul, bin_lss, bin_leq, bin_gtr, bin_geq, bin_quo, bin_rem, bin_quop, bin_remp, wrap_in, bin_addp, bin_subp, bin_mulp, bin_lssp, bin_leqp, bin_gtrp, bin_geqp, un_not, un_notp, un_neg, eq_int, ne_int, eq_intp, ne_intp, callV_fn, add_mk, upd_eq, upd_ne, cell_set_self, Nat.zero_add, Nat.add_zero, Option.some.injEq, exists_eq_left', List.getElem?_cons_succ, List.getElem?_cons_zero, true_and, and_true, bne_self_eq_false, beq_self_eq_true, Bool.not_true, Bool.not_false, Bool.and_true, Bool.and_self, Bool.and_false, Bool.true_and, List.length_cons, List.length_nil, ne_eq, not_false_eq_true, Nat.reduceAdd, Nat.reduceMul, if_true, if_false, oneCell_int, oneCell_bool, oneCell_ptr, oneCell_slice, oneCell_string, oneCell_func, oneCell_map, Int.toNat_natCast, List.set_cons_zero, List.set_cons_succ, Nat.lt_irrefl, Nat.zero_lt_succ, Nat.succ_lt_succ_iff, fa26_0, fa26_0p, fa26_1, fa26_1p, fa26_10, fa26_10p, fa26_11, fa26_11p, fa26_12, fa26_12p, fa26_13, fa26_13p, fa26_14, fa26_14p, fa26_2, fa26_2p, fa26_3, fa26_3p, fa26_4, fa26_4p, fa26_5, fa26_5p, fa26_6, fa26_6p, fa26_7, fa26_7p, fa26_8, fa26_8p, fa26_9, fa26_9p, fa28_0, fa28_0p, fa28_1, fa28_1p, fa30_0, fa30_0p, fa30_1, fa30_1p, fa46_0, fa46_0p, fa46_1, fa46_1p, fa46_2, fa46_2p, fa46_3, fa46_3p, fa46_4, fa46_4p, fa46_5, fa46_5p, fa46_6, fa46_6p, fa86_0, fa86_0p, fa86_1, fa86_1p, fa86_2, fa86_2p, fa95_0, fa95_0p, fa95_1, fa95_1p, ld3, ld3p, ld4, ld4p, ld22, ld22p, ld23, ld23p, ld24, ld24p, ld26, ld26p, ld28, ld28p, ld30, ld30p, ld31, ld31p, ld46, ld46p, ld47, ld47p, ld52, ld52p, ld55, ld55p, ld57, ld57p, ld95, ld95p, st3s, st4s, st22s, st23s, st24s, st26w, st28w, st30w, st46w, st47s, st55s, st95w, ix22, ix22p, ix23, ix23p, ix24, ix24p, ix47, ix47p, ix56, ix56p, ix57, ix57p, ix101, ix101p, ln22, ln22p, ln23, ln23p, ln24, ln24p, ln47, ln47p, ln56, ln56p, ln57, ln57p, al22, al26, al28, al30, al46, al47, al95, cf14, cf15, cf16, cf17, cf18, cf19, cf20, cf21, cf22, cf23, cf24, cf25, cf26, cf27, cf28, cf29, cf30, cf31, cf32, cf33, cf34, cf35, cf36, cf37, cf38, cf39, cf40, cf41, cf42, cf43, cf44, cf45, cf46, cf47, cf48, cf49, cf50, cf51, cf52, cf53, cf54, cf55, cf56, cf57, cf58, cf59, cf60, cf61, cf62, cf63, cf64, cf65, cf66, cf67, cf68, cf69, cf70, cf71, cf72, cf73, cf74, cf75, cf76, cf77, cf78, cf79, cf80, bd26_0_1_2_7_8_9_10_11_12_13_14, bd26_0_1_2_7_8_9_10_11_12_13_14p, bd28_0, bd28_0p, bd28_0_1, bd28_0_1p, bd30_, bd30_p, bd30_0_1, bd30_0_1p, bd30_0, bd30_0p, bd46_0_1_2_3_4, bd46_0_1_2_3_4p, bd46_0_3_4, bd46_0_3_4p, bd86_0_1_2, bd86_0_1_2p, bd87_0_1_2_3, bd87_0_1_2_3p, bd95_0_1, bd95_0_1p, bs22_2_0_1, bs47_1_0, bs22_1_0, bs57_6_0_1_2_3_4_5, bs24_1_0, bs22_4_0_1_2_3, bs56_11_0_1_2_3_4_5_6_7_8_9_10, bs57_11_0_1_2_3_4_5_6_7_8_9_10, eq4, eq4p, eq28, eq28p, eq30, eq30p, eq31n, eq31np, eq31s, eq31sp, eq46, eq46p, eq50n, eq50np, eq50s, eq50sp, eq67n, eq67np, eq67s, eq67sp, ne4, ne4p, ne28, ne28p, ne30, ne30p, ne31n, ne31np, ne31s, ne31sp, ne46, ne46p, al76]
    unfold S71_l3_k6
    try simp -implicitDefEqProofs (disch := first | with_reducible exact Nat.ne_of_beq_eq_false rfl | omega) only [upd_ne, q0, q3, thenK_ret, blockK_ret, opH_sv]
    rw [slice_from un22 sz28 (by omega) (by omega) hcap]
    rw [Int.toNat_natCast, if_neg (show ¬ cap = w by omega), add_mk, Nat.zero_add]
    try simp -implicitDefEqProofs only [opH_sv, opH_su, pureW_sv, opH_nil, pureW_nil, pick_t, pick_f, pick_tp, pick_fp, gd_tt, gd_ft, gd_tf, gd_ff, box_new, regs0, regs1, regs2, regs3, regs4, regs5, regs6, cells_agg, cells_int, cells_bool, cells_ptr, cells_slice, cells_string, cells_func, cells_nilFunc, cells_map, retK_ret, retK_normal, resL_tmp, resL_cell, resL_nil0, resL_nil1, resL_nil2, resL_nil3, resC_ptr, ex0, ex1, ex2, ex0p, ex1p, ex2p, HL.cond_true, HL.cond_false, thenK_normal, thenK_ret, thenK_exit, blockK_normal, blockK_ret, blockK_exit, scopeK_normal, scopeK_ret, scopeK_exit, wpH_pure, bin_add, bin_sub, bin_mul, bin_lss, bin_leq, bin_gtr, bin_geq, bin_quo, bin_rem, bin_quop, bin_remp, wrap_in, bin_addp, bin_subp, bin_mulp, bin_lssp, bin_leqp, bin_gtrp, bin_geqp, un_not, un_notp, un_neg, eq_int, ne_int, eq_intp, ne_intp, callV_fn, add_mk, upd_eq, upd_ne, cell_set_self, Nat.zero_add, Nat.add_zero, Option.some.injEq, exists_eq_left', List.getElem?_cons_succ, List.getElem?_cons_zero, true_and, and_true, bne_self_eq_false, beq_self_eq_true, Bool.not_true, Bool.not_false, Bool.and_true, Bool.and_self, Bool.and_false, Bool.true_and, List.length_cons, List.length_nil, ne_eq, not_false_eq_true, Nat.reduceAdd, Nat.reduceMul, if_true, if_false, oneCell_int, oneCell_bool, oneCell_ptr, oneCell_slice, oneCell_string, oneCell_func, oneCell_map, Int.toNat_natCast, List.set_cons_zero, List.set_cons_succ, Nat.lt_irrefl, Nat.zero_lt_succ, Nat.succ_lt_succ_iff, fa26_0, fa26_0p, fa26_1, fa26_1p, fa26_10, fa26_10p, fa26_11, fa26_11p, fa26_12, fa26_12p, fa26_13, fa26_13p, fa26_14, fa26_14p, fa26_2, fa26_2p, fa26_3, fa26_3p, fa26_4, fa26_4p, fa26_5, fa26_5p, fa26_6, fa26_6p, fa26_7, fa26_7p, fa26_8, fa26_8p, fa26_9, fa26_9p, fa28_0, fa28_0p, fa28_1, fa28_1p, fa30_0, fa30_0p, fa30_1, fa30_1p, fa46_0, fa46_0p, fa46_1, fa46_1p, fa46_2, fa46_2p, fa46_3, fa46_3p, fa46_4, fa46_4p, fa46_5, fa46_5p, fa46_6, fa46_6p, fa86_0, fa86_0p, fa86_1, fa86_1p, fa86_2, fa86_2p, fa95_0, fa95_0p, fa95_1, fa95_1p, ld3, ld3p, ld4, ld4p, ld22, ld22p, ld23, ld23p, ld24, ld24p, ld26, ld26p, ld28, ld28p, ld30, ld30p, ld31, ld31p, ld46, ld46p, ld47, ld47p, ld52, ld52p, ld55, ld55p, ld57, ld57p, ld95, ld95p, st3s, st4s, st22s, st23s, st24s, st26w, st28w, st30w, st46w, st47s, st55s, st95w, ix22, ix22p, ix23, ix23p, ix24, ix24p, ix47, ix47p, ix56, ix56p, ix57, ix57p, ix101, ix101p, ln22, ln22p, ln23, ln23p, ln24, ln24p, ln47, ln47p, ln56, ln56p, ln57, ln57p, al22, al26, al28, al30, al46, al47, al95, cf14, cf15, cf16, cf17, cf18, cf19, cf20, cf21, cf22, cf23, cf24, cf25, cf26, cf27, cf28, cf29, cf30, cf31, cf32, cf33, cf34, cf35, cf36, cf37, cf38, cf39, cf40, cf41, cf42, cf43, cf44, cf45, cf46, cf47, cf48, cf49, cf50, cf51, cf52, cf53, cf54, cf55, cf56, cf57, cf58, cf59, cf60, cf61, cf62, cf63, cf64, cf65, cf66, cf67, cf68, cf69, cf70, cf71, cf72, cf73, cf74, cf75, cf76, cf77, cf78, cf79, cf80, bd26_0_1_2_7_8_9_10_11_12_13_14, bd26_0_1_2_7_8_9_10_11_12_13_14p, bd28_0, bd28_0p, bd28_0_1, bd28_0_1p, bd30_, bd30_p, bd30_0_1, bd30_0_1p, bd30_0, bd30_0p, bd46_0_1_2_3_4, bd46_0_1_2_3_4p, bd46_0_3_4, bd46_0_3_4p, bd86_0_1_2, bd86_0_1_2p, bd87_0_1_2_3, bd87_0_1_2_3p, bd95_0_1, bd95_0_1p, bs22_2_0_1, bs47_1_0, bs22_1_0, bs57_6_0_1_2_3_4_5, bs24_1_0, bs22_4_0_1_2_3, bs56_11_0_1_2_3_4_5_6_7_8_9_10, bs57_11_0_1_2_3_4_5_6_7_8_9_10, eq4, eq4p, eq28, eq28p, eq30, eq30p, eq31n, eq31np, eq31s, eq31sp, eq46, eq46p, eq50n, eq50np, eq50s, eq50sp, eq67n, eq67np, eq67s, eq67sp, ne4, ne4p, ne28, ne28p, ne30, ne30p, ne31n, ne31np, ne31s, ne31sp, ne46, ne46p, al76]
    have hlen : (cellC.rows M ++ t).length = cap * 2 := by
      rw [List.length_append, cellC.rows_length, hM, ← cellC.rows_length, ← List.length_append, hmax]
    refine clear_own cellC ((0, 0) : Cell) un22 (by decide) (by kernel_rfl) hbh (by omega) (by rw [hlen, show cellC.n = 2 from rfl]; omega) fun l' hl1 hl2 => ?_
    have s5 := s.put (o := .cells l'.toArray 28 (0, 0)) hb
    have d5 := d.set (o := .cells l'.toArray 28 (0, 0)) (d _ _ hbh)
    generalize Hp.set h4 b _ = h5 at s5 d5 ⊢
    try simp -implicitDefEqProofs only [opH_sv, opH_su, pureW_sv, opH_nil, pureW_nil, pick_t, pick_f, pick_tp, pick_fp, gd_tt, gd_ft, gd_tf, gd_ff, box_new, regs0, regs1, regs2, regs3, regs4, regs5, regs6, cells_agg, cells_int, cells_bool, cells_ptr, cells_slice, cells_string, cells_func, cells_nilFunc, cells_map, retK_ret, retK_normal, resL_tmp, resL_cell, resL_nil0, resL_nil1, resL_nil2, resL_nil3, resC_ptr, ex0, ex1, ex2, ex0p, ex1p, ex2p, HL.cond_true, HL.cond_false, thenK_normal, thenK_ret, thenK_exit, blockK_normal, blockK_ret, blockK_exit, scopeK_normal, scopeK_ret, scopeK_exit, wpH_pure, bin_add, bin_sub, bin_mul, bin_lss, bin_leq, bin_gtr, bin_geq, bin_quo, bin_rem, bin_quop, bin_remp, wrap_in, bin_addp, bin_subp, bin_mulp, bin_lssp, bin_leqp, bin_gtrp, bin_geqp, un_not, un_notp, un_neg, eq_int, ne_int, eq_intp, ne_intp, callV_fn, add_mk, upd_eq, upd_ne, cell_set_self, Nat.zero_add, Nat.add_zero, Option.some.injEq, exists_eq_left', List.getElem?_cons_succ, List.getElem?_cons_zero, true_and, and_true, bne_self_eq_false, beq_self_eq_true, Bool.not_true, Bool.not_false, Bool.and_true, Bool.and_self, Bool.and_false, Bool.true_and, List.length_cons, List.length_nil, ne_eq, not_false_eq_true, Nat.reduceAdd, Nat.reduceMul, if_true, if_false, oneCell_int, oneCell_bool, oneCell_ptr, oneCell_slice, oneCell_string, oneCell_func, oneCell_map, Int.toNat_natCast, List.set_cons_zero, List.set_cons_succ, Nat.lt_irrefl, Nat.zero_lt_succ, Nat.succ_lt_succ_iff, fa26_0, fa26_0p, fa26_1, fa26_1p, fa26_10, fa26_10p, fa26_11, fa26_11p, fa26_12, fa26_12p, fa26_13, fa26_13p, fa26_14, fa26_14p, fa26_2, fa26_2p, fa26_3, fa26_3p, fa26_4, fa26_4p, fa26_5, fa26_5p, fa26_6, fa26_6p, fa26_7, fa26_7p, fa26_8, fa26_8p, fa26_9, fa26_9p, fa28_0, fa28_0p, fa28_1, fa28_1p, fa30_0, fa30_0p, fa30_1, fa30_1p, fa46_0, fa46_0p, fa46_1, fa46_1p, fa46_2, fa46_2p, fa46_3, fa46_3p, fa46_4, fa46_4p, fa46_5, fa46_5p, fa46_6, fa46_6p, fa86_0, fa86_0p, fa86_1, fa86_1p, fa86_2, fa86_2p, fa95_0, fa95_0p, fa95_1, fa95_1p, ld3, ld3p, ld4, ld4p, ld22, ld22p, ld23, ld23p, ld24, ld24p, ld26, ld26p, ld28, ld28p, ld30, ld30p, ld31, ld31p, ld46, ld46p, ld47, ld47p, ld52, ld52p, ld55, ld55p, ld57, ld57p, ld95, ld95p, st3s, st4s, st22s, st23s, st24s, st26w, st28w, st30w, st46w, st47s, st55s, st95w, ix22, ix22p, ix23, ix23p, ix24, ix24p, ix47, ix47p, ix56, ix56p, ix57, ix57p, ix101, ix101p, ln22, ln22p, ln23, ln23p, ln24, ln24p, ln47, ln47p, ln56, ln56p, ln57, ln57p, al22, al26, al28, al30, al46, al47, al95, cf14, cf15, cf16, cf17, cf18, cf19, cf20, cf21, cf22, cf23, cf24, cf25, cf26, cf27, cf28, cf29, cf30, cf31, cf32, cf33, cf34, cf35, cf36, cf37, cf38, cf39, cf40, cf41, cf42, cf43, cf44, cf45, cf46, cf47, cf48, cf49, cf50, cf51, cf52, cf53, cf54, cf55, cf56, cf57, cf58, cf59, cf60, cf61, cf62, cf63, cf64, cf65, cf66, cf67, cf68, cf69, cf70, cf71, cf72, cf73, cf74, cf75, cf76, cf77, cf78, cf79, cf80, bd26_0_1_2_7_8_9_10_11_12_13_14, bd26_0_1_2_7_8_9_10_11_12_13_14p, bd28_0, bd28_0p, bd28_0_1, bd28_0_1p, bd30_, bd30_p, bd30_0_1, bd30_0_1p, bd30_0, bd30_0p, bd46_0_1_2_3_4, bd46_0_1_2_3_4p, bd46_0_3_4, bd46_0_3_4p, bd86_0_1_2, bd86_0_1_2p, bd87_0_1_2_3, bd87_0_1_2_3p, bd95_0_1, bd95_0_1p, bs22_2_0_1, bs47_1_0, bs22_1_0, bs57_6_0_1_2_3_4_5, bs24_1_0, bs22_4_0_1_2_3, bs56_11_0_1_2_3_4_5_6_7_8_9_10, bs57_11_0_1_2_3_4_5_6_7_8_9_10, eq4, eq4p, eq28, eq28p, eq30, eq30p, eq31n, eq31np, eq31s, eq31sp, eq46, eq46p, eq50n, eq50np, eq50s, eq50sp, eq67n, eq67np, eq67s, eq67sp, ne4, ne4p, ne28, ne28p, ne30, ne30p, ne31n, ne31np, ne31s, ne31sp, ne46, ne46p, al76, q0, q3]
    rw [slice_to un22 sz28 (by omega) (by omega)]
    rw [Int.toNat_natCast]
    rw [← hKK]
    try simp -implicitDefEqProofs only [retK_ret, resL_tmp, upd_eq, resL_nil1]
    have hcl : compactL L = M.take w := htk.symm
    have hml : (M.take w).length = w := by rw [List.length_take]; omega
    have hl3 : l' = cellC.rows (compactL L) ++ l'.drop (w * 2) := by
      rw [hcl]
      have := cellC.rows_take (L := M) (t := t) (k := w) (by omega)
      rw [show cellC.n = 2 from rfl] at this
      rw [← this, ← hl2, List.take_append_drop]
    refine ⟨_, ⟨some b, cap, l'.drop (w * 2), by rw [hcl, hml], ?_, ?_⟩, s5, d5⟩
    · rw [← hl3]; exact set_self
    · rw [← hl3, hl1, hlen]; rfl

end Go.Proofs.YtnpdploihlgcgaaDoor
end

section
/- slices.SortFunc of cells: where the library's text lies in this program (printed by the shelf's own layer). -/
set_option linter.unusedVariables false
set_option maxRecDepth 100000
namespace Go.Proofs.YtnpdploihlgcgaaDoor
open Go Go.HL Go.Proofs
def sortCells_ren : Go.Shelf.Ren := ⟨fun | 6 => 69 | 15 => 79 | 14 => 78 | 28 => 89 | 29 => 90 | 20 => 81 | 21 => 82 | 22 => 83 | 23 => 84 | 24 => 85 | 25 => 86 | 26 => 87 | 27 => 88 | 46 => 91 | 47 => 92 | 48 => 93 | 49 => 94 | 50 => 95 | 57 => 96 | n => n, fun | 22 => 22 | 24 => 28 | 25 => 64 | 3 => 3 | 39 => 100 | 0 => 0 | 53 => 112 | 55 => 114 | 4 => 4 | 46 => 105 | 45 => 104 | 50 => 109 | 5 => 5 | 9 => 9 | 66 => 115 | 70 => 55 | 76 => 120 | 77 => 121 | n => n, fun | n => n⟩
theorem sortCells : Go.Proofs.SlLaysF0.n6 Tryd.prog sortCells_ren where
  mixed := by kernel_rfl
  f6 := ⟨ "slices.SortFunc[[]skep/api.Cell,skep/api.Cell]", by decide, Tryd.func69.trans (congrArg some (by kernel_rfl))⟩
  f14 := ⟨ "slices.pdqsortCmpFunc[skep/api.Cell]", by decide, Tryd.func78.trans (congrArg some (by kernel_rfl))⟩
  f15 := Tryd.func79.trans (congrArg some (by kernel_rfl))
  f20 := ⟨ "slices.insertionSortCmpFunc[skep/api.Cell]", by decide, Tryd.func81.trans (congrArg some (by kernel_rfl))⟩
  f21 := ⟨ "slices.heapSortCmpFunc[skep/api.Cell]", by decide, Tryd.func82.trans (congrArg some (by kernel_rfl))⟩
  f22 := ⟨ "slices.breakPatternsCmpFunc[skep/api.Cell]", by decide, Tryd.func83.trans (congrArg some (by kernel_rfl))⟩
  f23 := ⟨ "slices.choosePivotCmpFunc[skep/api.Cell]", by decide, Tryd.func84.trans (congrArg some (by kernel_rfl))⟩
  f24 := ⟨ "slices.reverseRangeCmpFunc[skep/api.Cell]", by decide, Tryd.func85.trans (congrArg some (by kernel_rfl))⟩
  f25 := ⟨ "slices.partialInsertionSortCmpFunc[skep/api.Cell]", by decide, Tryd.func86.trans (congrArg some (by kernel_rfl))⟩
  f26 := ⟨ "slices.partitionEqualCmpFunc[skep/api.Cell]", by decide, Tryd.func87.trans (congrArg some (by kernel_rfl))⟩
  f27 := ⟨ "slices.partitionCmpFunc[skep/api.Cell]", by decide, Tryd.func88.trans (congrArg some (by kernel_rfl))⟩
  f28 := Tryd.func89.trans (congrArg some (by kernel_rfl))
  f29 := Tryd.func90.trans (congrArg some (by kernel_rfl))
  f46 := ⟨ "slices.siftDownCmpFunc[skep/api.Cell]", by decide, Tryd.func91.trans (congrArg some (by kernel_rfl))⟩
  f47 := Tryd.func92.trans (congrArg some (by kernel_rfl))
  f48 := Tryd.func93.trans (congrArg some (by kernel_rfl))
  f49 := ⟨ "slices.medianAdjacentCmpFunc[skep/api.Cell]", by decide, Tryd.func94.trans (congrArg some (by kernel_rfl))⟩
  f50 := ⟨ "slices.medianCmpFunc[skep/api.Cell]", by decide, Tryd.func95.trans (congrArg some (by kernel_rfl))⟩
  f57 := ⟨ "slices.order2CmpFunc[skep/api.Cell]", by decide, Tryd.func96.trans (congrArg some (by kernel_rfl))⟩
  t0 := Tryd.underlying0
  a0 := Tryd.isAgg0
  z0 := Tryd.sizeOf0
  v0 := Tryd.zeroValue0
  t3 := Tryd.underlying3
  a3 := Tryd.isAgg3
  z3 := Tryd.sizeOf3
  v3 := Tryd.zeroValue3
  t4 := Tryd.underlying4
  a4 := Tryd.isAgg4
  z4 := Tryd.sizeOf4
  v4 := Tryd.zeroValue4
  t5 := Tryd.underlying5
  a5 := Tryd.isAgg5
  z5 := Tryd.sizeOf5
  v5 := Tryd.zeroValue5
  t9 := Tryd.underlying9
  a9 := Tryd.isAgg9
  z9 := Tryd.sizeOf9
  v9 := Tryd.zeroValue9
  t22 := Tryd.underlying22
  a22 := Tryd.isAgg22
  z22 := Tryd.sizeOf22
  v22 := Tryd.zeroValue22
  t25 := Tryd.underlying64
  a25 := Tryd.isAgg64
  z25 := Tryd.sizeOf64
  v25 := Tryd.zeroValue64
  t39 := Tryd.underlying100
  a39 := Tryd.isAgg100
  z39 := Tryd.sizeOf100
  v39 := Tryd.zeroValue100
  t45 := Tryd.underlying104
  a45 := Tryd.isAgg104
  z45 := Tryd.sizeOf104
  v45 := Tryd.zeroValue104
  t46 := Tryd.underlying105
  a46 := Tryd.isAgg105
  z46 := Tryd.sizeOf105
  v46 := Tryd.zeroValue105
  t50 := Tryd.underlying109
  a50 := Tryd.isAgg109
  z50 := Tryd.sizeOf109
  v50 := Tryd.zeroValue109
  t53 := Tryd.underlying112
  a53 := Tryd.isAgg112
  z53 := Tryd.sizeOf112
  v53 := Tryd.zeroValue112
  t55 := Tryd.underlying114
  a55 := Tryd.isAgg114
  z55 := Tryd.sizeOf114
  v55 := Tryd.zeroValue114
  t66 := Tryd.underlying115
  a66 := Tryd.isAgg115
  z66 := Tryd.sizeOf115
  v66 := Tryd.zeroValue115
  t70 := Tryd.underlying55
  a70 := Tryd.isAgg55
  z70 := Tryd.sizeOf55
  v70 := Tryd.zeroValue55
  t76 := Tryd.underlying120
  a76 := Tryd.isAgg120
  z76 := Tryd.sizeOf120
  v76 := Tryd.zeroValue120
  t77 := Tryd.underlying121
  a77 := Tryd.isAgg121
  z77 := Tryd.sizeOf121
  v77 := Tryd.zeroValue121
end Go.Proofs.YtnpdploihlgcgaaDoor
end

section
/- The cells that a move sweeps: the program's, the reference's. -/
set_option linter.unusedSimpArgs false
set_option linter.unusedVariables false
set_option maxRecDepth 100000
namespace Go.Proofs.YtnpdploihlgcgaaDoor
open Go Go.HL

theorem open_in {w k : Nat} {f : Nat → Nat → Int} {c : Cell} (h : openW w k f c = true) : inW w k c = true := by
  unfold openW at h
  rw [Bool.and_eq_true] at h
  exact h.1
theorem way_in {w k : Nat} {f : Nat → Nat → Int} {m : Move} (h : wayB w k f m = true) : ∀ c ∈ wayL m, inW w k c = true := by
  intro c hc
  unfold wayB at h
  unfold wayL at hc
  rw [Bool.and_eq_true] at h
  obtain ⟨hf, h⟩ := h
  by_cases h1 : m.k = 1
  · rw [if_pos h1] at h hc
    simp only [Bool.and_eq_true, List.all_eq_true, List.mem_flatMap] at h hc
    obtain ⟨i, hi, hc⟩ := hc
    have := h.2.1 i hi
    unfold stepB at this
    rw [Bool.and_eq_true] at this
    exact (fits_cells this.2 c hc).1
  · rw [if_neg h1] at h hc
    by_cases h2 : m.k = 2
    · rw [if_pos h2] at h hc
      simp only [Bool.and_eq_true, List.all_eq_true] at h
      exact open_in (h.2.1 c hc)
    · rw [if_neg h2] at hc
      exact (fits_cells hf c hc).1
theorem flat_two {D : Nat → List Cell} (h : ∀ i, (D i).length = 2) : ∀ n, ((List.range n).flatMap D).length = 2 * n
  | 0 => rfl
  | n + 1 => by
    rw [List.range_succ, List.flatMap_append, List.length_append, flat_two h n]
    simp [h]
    omega
theorem way_len {w k : Nat} {f : Nat → Nat → Int} {m : Move} (h : wayB w k f m = true) : (wayL m).length ≤ 34 ∧ wayL m ≠ [] := by
  unfold wayB at h
  rw [Bool.and_eq_true] at h
  obtain ⟨hf, h⟩ := h
  unfold wayL
  by_cases h1 : m.k = 1
  · rw [if_pos h1] at h ⊢
    simp only [Bool.and_eq_true, List.all_eq_true, List.mem_range, decide_eq_true_eq] at h
    have := h.2.1 m.n.toNat (by omega)
    unfold stepB okS at this
    simp only [Bool.and_eq_true] at this
    have hn := withinB_iff.1 this.1.1
    have e := flat_two (D := fun (i : Nat) => cellsP (shiftP m.f m.d i)) (fun i => rfl) (m.n.toNat + 1)
    refine ⟨by rw [e]; omega, fun hn => ?_⟩
    rw [hn] at e
    simp at e
  · rw [if_neg h1]
    split
    · exact ⟨by simp [squareL], by simp [squareL]⟩
    · exact ⟨by simp [cellsP], by simp [cellsP]⟩

theorem numI_in {w k : Nat} {c : Cell} (h : inW w k c = true) : numI w k c = numW w c := by
  unfold numI numW
  rw [if_pos h]
theorem in_bd {w k : Nat} {c : Cell} (h : inW w k c = true) : 0 ≤ c.1 ∧ c.1 < w ∧ 0 ≤ c.2 ∧ c.2 < k := by
  unfold inW at h
  rw [Bool.and_eq_true] at h
  have h1 := withinB_iff.1 h.1
  have h2 := withinB_iff.1 h.2
  omega
theorem numI_bd {w k : Nat} {c : Cell} (hw : w ≤ 16) (hk : k ≤ 16) : -1 ≤ numI w k c ∧ numI w k c ≤ 1000 := by
  unfold numI
  split
  · rename_i h
    obtain ⟨a, b, c1, d⟩ := in_bd h
    have h1 : 0 ≤ c.2 * (w : Int) := Int.mul_nonneg c1 (by omega)
    have h2 : c.2 * (w : Int) ≤ 16 * 16 := Int.mul_le_mul (by omega) (by omega) (by omega) (by omega)
    omega
  · omega

theorem cmp_spec {G h : Hp} {v0 w k : Nat} {f : Nat → Nat → Int} {g : Value} {a b : Cell} (hv : ∀ j, cellIn G h ⟨v0, j, none⟩ = [g][j]?) (gs : GS G h g w k f) : HCalls Tryd.prog G 70 #[cellV a, cellV b, .pointer (some ⟨v0, 0, none⟩)] h (fun u h' => u = .int .i64 (numI w k a - numI w k b) ∧ h' = h) := by
  obtain ⟨gp, kb, hgp, _⟩ := gs.ex
  refine HCalls.assume fun d => quietly (enter70 (by simp) ?_)
  unfold S70
  simp -implicitDefEqProofs only [regs0, regs1, regs2, retK_ret, resL_tmp, upd_eq, resL_nil1, pureW_sv, cf37, ld31p, opH_sv, box_new, cells_agg, ld28p, add_mk, Nat.add_zero, cell_set_self, List.getElem?_cons_zero, Option.some.injEq, Nat.zero_add, List.getElem?_cons_succ, exists_eq_left']
  intro x hx gx
  generalize e1 : Hp.set h x _ = h1
  obtain ⟨l1, d1, b1⟩ := boxed e1 hx d gx
  intro y hy gy
  generalize e2 : Hp.set h1 y _ = h2
  obtain ⟨l2, d2, b2⟩ := boxed e2 hy d1 gy
  have cx : ∀ j, cellIn G h2 ⟨x, j, none⟩ = _ := fun j => cell_of (look_own (l2 _ _ b1))
  have cy : ∀ j, cellIn G h2 ⟨y, j, none⟩ = _ := fun j => cell_of (look_own b2)
  have l02 := l1.trans l2
  have cv : cellIn G h2 ⟨v0, 0, none⟩ = some g := cell_up l02 d2 (hv 0)
  have gs2 := gs.up l02 d2
  subst hgp
  try simp -implicitDefEqProofs only [cv, Option.some.injEq, cx, List.getElem?_cons_zero, List.getElem?_cons_succ, exists_eq_left']
  refine (num_spec (c := a) gs2).mono ?_
  rintro _ h3 ⟨rfl, rfl⟩
  refine ⟨Hp.le.refl _, ?_⟩
  try simp -implicitDefEqProofs only [opH_sv, opH_su, pureW_sv, opH_nil, pureW_nil, pick_t, pick_f, pick_tp, pick_fp, gd_tt, gd_ft, gd_tf, gd_ff, box_new, regs0, regs1, regs2, regs3, regs4, regs5, regs6, cells_agg, cells_int, cells_bool, cells_ptr, cells_slice, cells_string, cells_func, cells_nilFunc, cells_map, retK_ret, retK_normal, resL_tmp, resL_cell, resL_nil0, resL_nil1, resL_nil2, resL_nil3, resC_ptr, ex0, ex1, ex2, ex0p, ex1p, ex2p, HL.cond_true, HL.cond_false, thenK_normal, thenK_ret, thenK_exit, blockK_normal, blockK_ret, blockK_exit, scopeK_normal, scopeK_ret, scopeK_exit, wpH_pure, bin_add, bin_sub, bin_mul, bin_lss, bin_leq, bin_gtr, bin_geq, bin_quo, bin_rem, bin_quop, bin_remp, wrap_in, bin_addp, bin_subp, bin_mulp, bin_lssp, bin_leqp, bin_gtrp, bin_geqp, un_not, un_notp, un_neg, eq_int, ne_int, eq_intp, ne_intp, callV_fn, add_mk, upd_eq, upd_ne, cell_set_self, Nat.zero_add, Nat.add_zero, Option.some.injEq, exists_eq_left', List.getElem?_cons_succ, List.getElem?_cons_zero, true_and, and_true, bne_self_eq_false, beq_self_eq_true, Bool.not_true, Bool.not_false, Bool.and_true, Bool.and_self, Bool.and_false, Bool.true_and, List.length_cons, List.length_nil, ne_eq, not_false_eq_true, Nat.reduceAdd, Nat.reduceMul, if_true, if_false, oneCell_int, oneCell_bool, oneCell_ptr, oneCell_slice, oneCell_string, oneCell_func, oneCell_map, Int.toNat_natCast, List.set_cons_zero, List.set_cons_succ, Nat.lt_irrefl, Nat.zero_lt_succ, Nat.succ_lt_succ_iff, fa26_0, fa26_0p, fa26_1, fa26_1p, fa26_10, fa26_10p, fa26_11, fa26_11p, fa26_12, fa26_12p, fa26_13, fa26_13p, fa26_14, fa26_14p, fa26_2, fa26_2p, fa26_3, fa26_3p, fa26_4, fa26_4p, fa26_5, fa26_5p, fa26_6, fa26_6p, fa26_7, fa26_7p, fa26_8, fa26_8p, fa26_9, fa26_9p, fa28_0, fa28_0p, fa28_1, fa28_1p, fa30_0, fa30_0p, fa30_1, fa30_1p, fa46_0, fa46_0p, fa46_1, fa46_1p, fa46_2, fa46_2p, fa46_3, fa46_3p, fa46_4, fa46_4p, fa46_5, fa46_5p, fa46_6, fa46_6p, fa86_0, fa86_0p, fa86_1, fa86_1p, fa86_2, fa86_2p, fa95_0, fa95_0p, fa95_1, fa95_1p, ld3, ld3p, ld4, ld4p, ld22, ld22p, ld23, ld23p, ld24, ld24p, ld26, ld26p, ld28, ld28p, ld30, ld30p, ld31, ld31p, ld46, ld46p, ld47, ld47p, ld52, ld52p, ld55, ld55p, ld57, ld57p, ld95, ld95p, st3s, st4s, st22s, st23s, st24s, st26w, st28w, st30w, st46w, st47s, st55s, st95w, ix22, ix22p, ix23, ix23p, ix24, ix24p, ix47, ix47p, ix56, ix56p, ix57, ix57p, ix101, ix101p, ln22, ln22p, ln23, ln23p, ln24, ln24p, ln47, ln47p, ln56, ln56p, ln57, ln57p, al22, al26, al28, al30, al46, al47, al95, cf14, cf15, cf16, cf17, cf18, cf19, cf20, cf21, cf22, cf23, cf24, cf25, cf26, cf27, cf28, cf29, cf30, cf31, cf32, cf33, cf34, cf35, cf36, cf37, cf38, cf39, cf40, cf41, cf42, cf43, cf44, cf45, cf46, cf47, cf48, cf49, cf50, cf51, cf52, cf53, cf54, cf55, cf56, cf57, cf58, cf59, cf60, cf61, cf62, cf63, cf64, cf65, cf66, cf67, cf68, cf69, cf70, cf71, cf72, cf73, cf74, cf75, cf76, cf77, cf78, cf79, cf80, bd26_0_1_2_7_8_9_10_11_12_13_14, bd26_0_1_2_7_8_9_10_11_12_13_14p, bd28_0, bd28_0p, bd28_0_1, bd28_0_1p, bd30_, bd30_p, bd30_0_1, bd30_0_1p, bd30_0, bd30_0p, bd46_0_1_2_3_4, bd46_0_1_2_3_4p, bd46_0_3_4, bd46_0_3_4p, bd86_0_1_2, bd86_0_1_2p, bd87_0_1_2_3, bd87_0_1_2_3p, bd95_0_1, bd95_0_1p, bs22_2_0_1, bs47_1_0, bs22_1_0, bs57_6_0_1_2_3_4_5, bs24_1_0, bs22_4_0_1_2_3, bs56_11_0_1_2_3_4_5_6_7_8_9_10, bs57_11_0_1_2_3_4_5_6_7_8_9_10, eq4, eq4p, eq28, eq28p, eq30, eq30p, eq31n, eq31np, eq31s, eq31sp, eq46, eq46p, eq50n, eq50np, eq50s, eq50sp, eq67n, eq67np, eq67s, eq67sp, ne4, ne4p, ne28, ne28p, ne30, ne30p, ne31n, ne31np, ne31s, ne31sp, ne46, ne46p, al76, cx, cy, cv]
  refine (num_spec (c := b) gs2).mono ?_
  rintro _ h3 ⟨rfl, rfl⟩
  have ba := numI_bd (c := a) gs.w2 gs.k2
  have bb := numI_bd (c := b) gs.w2 gs.k2
  try simp -implicitDefEqProofs (disch := first | with_reducible exact Nat.ne_of_beq_eq_false rfl | omega) only [bin_subp, wrap_in, true_and]
  first | exact l02 | exact ⟨rfl, l02⟩

instance : Inhabited Cell := ⟨(0, 0)⟩
theorem swo_num (n : Cell → Int) : Go.Sort.SWO (Go.Proofs.ltOf fun a b => n a - n b) := by
  refine ⟨fun x => ?_, fun x y z h1 h2 => ?_, fun x y z h1 h2 => ?_⟩ <;> simp only [Go.Proofs.ltOf, decide_eq_true_eq, decide_eq_false_iff_not] at * <;> omega

/-- What the move sweeps, told. -/
def sweptM (w k : Nat) (f : Nat → Nat → Int) (m : Move) : List Cell := if wayB w k f m = true then sweptL w k (wayL m) else []

set_option maxHeartbeats 4000000 in
theorem swept_spec {G h : Hp} {g : Value} {w k : Nat} {f : Nat → Nat → Int} {m : Move} (gs : GS G h g w k f) (st : Steps G) (mb : MB m) : HCalls Tryd.prog G 47 #[g, moveV m] h (fun u h' => ∃ ip, Slc cellC 28 ip u (sweptM w k f m) ∧ HL.Sep [ip, h] h' ∧ Dis G h') := by
  obtain ⟨gp, kb, hgp, _⟩ := gs.ex
  subst hgp
  refine HCalls.assume fun d => enter47 (by simp) ?_
  unfold S47
  simp -implicitDefEqProofs only [regs0, regs1, retK_ret, resL_tmp, upd_eq, resL_nil1, opH_sv, cf63, box_new, cells_agg, ld46, add_mk, Nat.add_zero, Nat.zero_add, cells_ptr, ld31, cell_set_self, List.getElem?_cons_zero, Option.some.injEq, List.getElem?_cons_succ, exists_eq_left']
  intro x hx gx
  generalize e1 : Hp.set h x _ = h1
  obtain ⟨l1, d1, b1⟩ := boxed e1 hx d gx
  intro y hy gy
  generalize e2 : Hp.set h1 y _ = h2
  obtain ⟨l2, d2, b2⟩ := boxed e2 hy d1 gy
  have cx : ∀ j, cellIn G h2 ⟨x, j, none⟩ = _ := fun j => cell_of (look_own (l2 _ _ b1))
  have cy : ∀ j, cellIn G h2 ⟨y, j, none⟩ = _ := fun j => cell_of (look_own b2)
  have l02 := l1.trans l2
  have gs2 := gs.up l02 d2
  try simp -implicitDefEqProofs only [cx, List.getElem?_cons_zero, Option.some.injEq, exists_eq_left']
  refine (way_spec (m := m) gs2 st mb).mono ?_
  rintro _ h3 ⟨ip, v, L, rfl, o, s3, d3, hL⟩
  try simp -implicitDefEqProofs only [ex1, un_not, ex0]
  cases hw : wayB w k f m with
  | false =>
    try simp -implicitDefEqProofs only [Bool.not_false, HL.cond_true]
    refine ⟨noHp, ?_, (s3.drop.cut l02).none, d3⟩
    unfold sweptM
    rw [hw]
    exact Slc.nil
  | true =>
    obtain rfl := hL hw
    obtain ⟨wl, wn⟩ := way_len hw
    try simp -implicitDefEqProofs only [Bool.not_true, HL.cond_false]
    unfold S47_k1
    obtain ⟨ob, o'⟩ := o
    cases ob with
    | none => exact absurd o'.2 wn
    | some b =>
    obtain ⟨cap, t, rfl, hb, hbl⟩ := o'
    try simp -implicitDefEqProofs only [upd_ne, upd_eq, retK_ret, resL_tmp, resL_nil1, cf71, cf69]
    have hx3 : h2 x = some _ := l2 _ _ b1
    refine HCalls.mono (f := 69) (sort_call (ρ := sortCells_ren) sortCells cellC (by decide) Tryd.isAgg28 Tryd.sizeOf28 (swo_num (numI w k)) (g := 70) (cb := #[.pointer (some ⟨x, 0, none⟩)])
      (enters_of Tryd.func70 (by kernel_rfl) rfl) s3 d3 hb (fun p q h' s' d' => cmp_spec (a := p) (b := q) (fun j => by rw [cell_of (look_own (s'.in 0 rfl _ _ hx3))]) (gs2.up (s'.in 0 rfl) d')) (by omega)) ?_
    rintro _ h4 ⟨rfl, S, hp, hs, rfl⟩
    have s4 := s3.put (o := .cells (cellC.rows S ++ t).toArray 28 (0, 0)) hb
    have d4 := d3.set (o := .cells (cellC.rows S ++ t).toArray 28 (0, 0)) (d3 _ _ (s3.at 0 rfl hb))
    have hlS : S.length = (wayL m).length := hp.length_eq
    have o4 : Slc cellC 28 (ip.set b (.cells (cellC.rows S ++ t).toArray 28 (0, 0))) (.slice (some ⟨b, 0, none⟩) (wayL m).length cap) S := ⟨some b, cap, t, by rw [hlS], set_self, by rw [← hbl, List.length_append, List.length_append, cellC.rows_length, cellC.rows_length, hlS]⟩
    generalize Hp.set h3 b _ = h4 at s4 d4 ⊢
    generalize Hp.set ip b _ = ip4 at s4 o4
    try simp -implicitDefEqProofs only [opH_sv, opH_su, pureW_sv, opH_nil, pureW_nil, pick_t, pick_f, pick_tp, pick_fp, gd_tt, gd_ft, gd_tf, gd_ff, box_new, regs0, regs1, regs2, regs3, regs4, regs5, regs6, cells_agg, cells_int, cells_bool, cells_ptr, cells_slice, cells_string, cells_func, cells_nilFunc, cells_map, retK_ret, retK_normal, resL_tmp, resL_cell, resL_nil0, resL_nil1, resL_nil2, resL_nil3, resC_ptr, ex0, ex1, ex2, ex0p, ex1p, ex2p, HL.cond_true, HL.cond_false, thenK_normal, thenK_ret, thenK_exit, blockK_normal, blockK_ret, blockK_exit, scopeK_normal, scopeK_ret, scopeK_exit, wpH_pure, bin_add, bin_sub, bin_mul, bin_lss, bin_leq, bin_gtr, bin_geq, bin_quo, bin_rem, bin_quop, bin_remp, wrap_in, bin_addp, bin_subp, bin_mulp, bin_lssp, bin_leqp, bin_gtrp, bin_geqp, un_not, un_notp, un_neg, eq_int, ne_int, eq_intp, ne_intp, callV_fn, add_mk, upd_eq, upd_ne, cell_set_self, Nat.zero_add, Nat.add_zero, Option.some.injEq, exists_eq_left', List.getElem?_cons_succ, List.getElem?_cons_zero, true_and, and_true, bne_self_eq_false, beq_self_eq_true, Bool.not_true, Bool.not_false, Bool.and_true, Bool.and_self, Bool.and_false, Bool.true_and, List.length_cons, List.length_nil, ne_eq, not_false_eq_true, Nat.reduceAdd, Nat.reduceMul, if_true, if_false, oneCell_int, oneCell_bool, oneCell_ptr, oneCell_slice, oneCell_string, oneCell_func, oneCell_map, Int.toNat_natCast, List.set_cons_zero, List.set_cons_succ, Nat.lt_irrefl, Nat.zero_lt_succ, Nat.succ_lt_succ_iff, fa26_0, fa26_0p, fa26_1, fa26_1p, fa26_10, fa26_10p, fa26_11, fa26_11p, fa26_12, fa26_12p, fa26_13, fa26_13p, fa26_14, fa26_14p, fa26_2, fa26_2p, fa26_3, fa26_3p, fa26_4, fa26_4p, fa26_5, fa26_5p, fa26_6, fa26_6p, fa26_7, fa26_7p, fa26_8, fa26_8p, fa26_9, fa26_9p, fa28_0, fa28_0p, fa28_1, fa28_1p, fa30_0, fa30_0p, fa30_1, fa30_1p, fa46_0, fa46_0p, fa46_1, fa46_1p, fa46_2, fa46_2p, fa46_3, fa46_3p, fa46_4, fa46_4p, fa46_5, fa46_5p, fa46_6, fa46_6p, fa86_0, fa86_0p, fa86_1, fa86_1p, fa86_2, fa86_2p, fa95_0, fa95_0p, fa95_1, fa95_1p, ld3, ld3p, ld4, ld4p, ld22, ld22p, ld23, ld23p, ld24, ld24p, ld26, ld26p, ld28, ld28p, ld30, ld30p, ld31, ld31p, ld46, ld46p, ld47, ld47p, ld52, ld52p, ld55, ld55p, ld57, ld57p, ld95, ld95p, st3s, st4s, st22s, st23s, st24s, st26w, st28w, st30w, st46w, st47s, st55s, st95w, ix22, ix22p, ix23, ix23p, ix24, ix24p, ix47, ix47p, ix56, ix56p, ix57, ix57p, ix101, ix101p, ln22, ln22p, ln23, ln23p, ln24, ln24p, ln47, ln47p, ln56, ln56p, ln57, ln57p, al22, al26, al28, al30, al46, al47, al95, cf14, cf15, cf16, cf17, cf18, cf19, cf20, cf21, cf22, cf23, cf24, cf25, cf26, cf27, cf28, cf29, cf30, cf31, cf32, cf33, cf34, cf35, cf36, cf37, cf38, cf39, cf40, cf41, cf42, cf43, cf44, cf45, cf46, cf47, cf48, cf49, cf50, cf51, cf52, cf53, cf54, cf55, cf56, cf57, cf58, cf59, cf60, cf61, cf62, cf63, cf64, cf65, cf66, cf67, cf68, cf69, cf70, cf71, cf72, cf73, cf74, cf75, cf76, cf77, cf78, cf79, cf80, bd26_0_1_2_7_8_9_10_11_12_13_14, bd26_0_1_2_7_8_9_10_11_12_13_14p, bd28_0, bd28_0p, bd28_0_1, bd28_0_1p, bd30_, bd30_p, bd30_0_1, bd30_0_1p, bd30_0, bd30_0p, bd46_0_1_2_3_4, bd46_0_1_2_3_4p, bd46_0_3_4, bd46_0_3_4p, bd86_0_1_2, bd86_0_1_2p, bd87_0_1_2_3, bd87_0_1_2_3p, bd95_0_1, bd95_0_1p, bs22_2_0_1, bs47_1_0, bs22_1_0, bs57_6_0_1_2_3_4_5, bs24_1_0, bs22_4_0_1_2_3, bs56_11_0_1_2_3_4_5_6_7_8_9_10, bs57_11_0_1_2_3_4_5_6_7_8_9_10, eq4, eq4p, eq28, eq28p, eq30, eq30p, eq31n, eq31np, eq31s, eq31sp, eq46, eq46p, eq50n, eq50np, eq50s, eq50sp, eq67n, eq67np, eq67s, eq67sp, ne4, ne4p, ne28, ne28p, ne30, ne30p, ne31n, ne31np, ne31s, ne31sp, ne46, ne46p, al76]
    refine (compact_spec s4 o4 (by omega)).mono ?_
    rintro u5 h5 ⟨a5, o5, s5, d5⟩
    try simp -implicitDefEqProofs only [opH_sv, opH_su, pureW_sv, opH_nil, pureW_nil, pick_t, pick_f, pick_tp, pick_fp, gd_tt, gd_ft, gd_tf, gd_ff, box_new, regs0, regs1, regs2, regs3, regs4, regs5, regs6, cells_agg, cells_int, cells_bool, cells_ptr, cells_slice, cells_string, cells_func, cells_nilFunc, cells_map, retK_ret, retK_normal, resL_tmp, resL_cell, resL_nil0, resL_nil1, resL_nil2, resL_nil3, resC_ptr, ex0, ex1, ex2, ex0p, ex1p, ex2p, HL.cond_true, HL.cond_false, thenK_normal, thenK_ret, thenK_exit, blockK_normal, blockK_ret, blockK_exit, scopeK_normal, scopeK_ret, scopeK_exit, wpH_pure, bin_add, bin_sub, bin_mul, bin_lss, bin_leq, bin_gtr, bin_geq, bin_quo, bin_rem, bin_quop, bin_remp, wrap_in, bin_addp, bin_subp, bin_mulp, bin_lssp, bin_leqp, bin_gtrp, bin_geqp, un_not, un_notp, un_neg, eq_int, ne_int, eq_intp, ne_intp, callV_fn, add_mk, upd_eq, upd_ne, cell_set_self, Nat.zero_add, Nat.add_zero, Option.some.injEq, exists_eq_left', List.getElem?_cons_succ, List.getElem?_cons_zero, true_and, and_true, bne_self_eq_false, beq_self_eq_true, Bool.not_true, Bool.not_false, Bool.and_true, Bool.and_self, Bool.and_false, Bool.true_and, List.length_cons, List.length_nil, ne_eq, not_false_eq_true, Nat.reduceAdd, Nat.reduceMul, if_true, if_false, oneCell_int, oneCell_bool, oneCell_ptr, oneCell_slice, oneCell_string, oneCell_func, oneCell_map, Int.toNat_natCast, List.set_cons_zero, List.set_cons_succ, Nat.lt_irrefl, Nat.zero_lt_succ, Nat.succ_lt_succ_iff, fa26_0, fa26_0p, fa26_1, fa26_1p, fa26_10, fa26_10p, fa26_11, fa26_11p, fa26_12, fa26_12p, fa26_13, fa26_13p, fa26_14, fa26_14p, fa26_2, fa26_2p, fa26_3, fa26_3p, fa26_4, fa26_4p, fa26_5, fa26_5p, fa26_6, fa26_6p, fa26_7, fa26_7p, fa26_8, fa26_8p, fa26_9, fa26_9p, fa28_0, fa28_0p, fa28_1, fa28_1p, fa30_0, fa30_0p, fa30_1, fa30_1p, fa46_0, fa46_0p, fa46_1, fa46_1p, fa46_2, fa46_2p, fa46_3, fa46_3p, fa46_4, fa46_4p, fa46_5, fa46_5p, fa46_6, fa46_6p, fa86_0, fa86_0p, fa86_1, fa86_1p, fa86_2, fa86_2p, fa95_0, fa95_0p, fa95_1, fa95_1p, ld3, ld3p, ld4, ld4p, ld22, ld22p, ld23, ld23p, ld24, ld24p, ld26, ld26p, ld28, ld28p, ld30, ld30p, ld31, ld31p, ld46, ld46p, ld47, ld47p, ld52, ld52p, ld55, ld55p, ld57, ld57p, ld95, ld95p, st3s, st4s, st22s, st23s, st24s, st26w, st28w, st30w, st46w, st47s, st55s, st95w, ix22, ix22p, ix23, ix23p, ix24, ix24p, ix47, ix47p, ix56, ix56p, ix57, ix57p, ix101, ix101p, ln22, ln22p, ln23, ln23p, ln24, ln24p, ln47, ln47p, ln56, ln56p, ln57, ln57p, al22, al26, al28, al30, al46, al47, al95, cf14, cf15, cf16, cf17, cf18, cf19, cf20, cf21, cf22, cf23, cf24, cf25, cf26, cf27, cf28, cf29, cf30, cf31, cf32, cf33, cf34, cf35, cf36, cf37, cf38, cf39, cf40, cf41, cf42, cf43, cf44, cf45, cf46, cf47, cf48, cf49, cf50, cf51, cf52, cf53, cf54, cf55, cf56, cf57, cf58, cf59, cf60, cf61, cf62, cf63, cf64, cf65, cf66, cf67, cf68, cf69, cf70, cf71, cf72, cf73, cf74, cf75, cf76, cf77, cf78, cf79, cf80, bd26_0_1_2_7_8_9_10_11_12_13_14, bd26_0_1_2_7_8_9_10_11_12_13_14p, bd28_0, bd28_0p, bd28_0_1, bd28_0_1p, bd30_, bd30_p, bd30_0_1, bd30_0_1p, bd30_0, bd30_0p, bd46_0_1_2_3_4, bd46_0_1_2_3_4p, bd46_0_3_4, bd46_0_3_4p, bd86_0_1_2, bd86_0_1_2p, bd87_0_1_2_3, bd87_0_1_2_3p, bd95_0_1, bd95_0_1p, bs22_2_0_1, bs47_1_0, bs22_1_0, bs57_6_0_1_2_3_4_5, bs24_1_0, bs22_4_0_1_2_3, bs56_11_0_1_2_3_4_5_6_7_8_9_10, bs57_11_0_1_2_3_4_5_6_7_8_9_10, eq4, eq4p, eq28, eq28p, eq30, eq30p, eq31n, eq31np, eq31s, eq31sp, eq46, eq46p, eq50n, eq50np, eq50s, eq50sp, eq67n, eq67np, eq67s, eq67sp, ne4, ne4p, ne28, ne28p, ne30, ne30p, ne31n, ne31np, ne31s, ne31sp, ne46, ne46p, al76]
    refine ⟨a5, ?_, ((s5.pick 1 rfl rfl).cut l02).pick 1 rfl rfl, d5⟩
    have hin := way_in hw
    have e := compact_swept (w := w) (k := k) (W := wayL m) (S := S) (by have := gs.w1; omega) (fun c hc => in_bd (hin c hc)) hp (hs.imp_of_mem fun {a b} ha hb h => by
      rw [numI_in (hin a (hp.mem_iff.1 ha)), numI_in (hin b (hp.mem_iff.1 hb))] at h
      omega)
    unfold sweptM
    rw [hw, if_pos rfl, ← e]
    exact o5

end Go.Proofs.YtnpdploihlgcgaaDoor
end

section
/- The reference's moves and stack cells: the walks. -/
set_option linter.unusedSimpArgs false
set_option linter.unusedVariables false
set_option maxRecDepth 100000
namespace Go.Proofs.YtnpdploihlgcgaaDoor
open Go Go.HL

theorem dirsL_len {α : Type} {D : Nat → List α} {b : Nat} (h : ∀ i, (D i).length ≤ b) : ∀ {k i : Nat}, (dirsL D i k).length ≤ k * b
  | 0, i => by simp [dirsL]
  | k + 1, i => by
    unfold dirsL
    have := dirsL_len h (k := k) (i := i + 1)
    have := h i
    rw [List.length_append, Nat.succ_mul]
    omega

theorem pickFrom_len {α : Type} {p : Nat → Bool} {mk : Nat → α} : ∀ {k n : Nat}, (pickFrom p mk n k).length ≤ k
  | 0, n => Nat.le_refl _
  | k + 1, n => by
    rw [pick_succ]
    have := pickFrom_len (p := p) (mk := mk) (k := k) (n := n + 1)
    split <;> (try simp only [List.length_cons]) <;> omega

end Go.Proofs.YtnpdploihlgcgaaDoor
end

section
/- The cells that a move sweeps, as the reference tells them. -/
set_option linter.unusedSimpArgs false
set_option linter.unusedVariables false
set_option maxRecDepth 100000
namespace Go.Proofs.YtnpdploihlgcgaaDoor
open Go Go.HL

def rwayL (m : Move) : List Cell := if m.k = 1 then (List.range (m.n.toNat + 1)).flatMap (fun (i : Nat) => cellsP (shiftR m.f m.d i)) else if m.k = 2 then squareL (m.f.x, m.f.y) else cellsP m.f
def rsweptM (C : Conf) (m : Move) : List Cell := if legalR C m = true then sweptL (wC C) (kC C) (rwayL m) else []

theorem swept_len {w k : Nat} {W : List Cell} (hw : w ≤ 16) (hk : k ≤ 16) : (sweptL w k W).length ≤ 256 := by
  have := dirsL_len (D := fun y => pickFrom (fun x => decide ((((x : Nat) : Int), ((y : Nat) : Int)) ∈ W)) (fun x => (((x : Nat) : Int), ((y : Nat) : Int))) 0 w) (b := 16) (fun i => Nat.le_trans pickFrom_len hw) (k := k) (i := 0)
  have h2 : k * 16 ≤ 16 * 16 := Nat.mul_le_mul_right _ hk
  unfold sweptL
  omega

theorem rway_eq {C : Conf} {m : Move} (hp : PB m.f) (hl : legalR C m = true) : rwayL m = wayL m := by
  unfold rwayL wayL
  by_cases h1 : m.k = 1
  · rw [if_pos h1, if_pos h1]
    unfold legalR at hl
    rw [Bool.and_eq_true, if_pos h1] at hl
    simp only [Bool.and_eq_true] at hl
    have hd := withinB_iff.1 hl.2.2.1
    congr 1
    funext i
    rw [shiftR_eq hp hd]
  · rw [if_neg h1, if_neg h1]
theorem swept_eq {C : Conf} (mk : MadeOk C) {m : Move} (hp : PB m.f) : sweptM (wC C) (kC C) (f3C C) m = rsweptM C m := by
  unfold sweptM rsweptM
  rw [legal_eq mk hp]
  cases hl : legalR C m with
  | false => rfl
  | true => rw [if_pos rfl, if_pos rfl, rway_eq hp hl]

end Go.Proofs.YtnpdploihlgcgaaDoor
end

section
/- The document's example is awake. -/
set_option linter.unusedSimpArgs false
set_option linter.unusedVariables false
set_option maxRecDepth 100000
namespace Go.Proofs.YtnpdploihlgcgaaDoor
open Go Go.HL

def C0 : Conf := ⟨2, 2, 1, [], [], [], [], 1, 1, 1, 1, 1, 1, 1, 1, false⟩

theorem conf_spec {G h : Hp} : HCalls Tryd.prog G 29 #[] h (fun u h' => u = confV C0 none 0 none 0 none 0 none 0 ∧ h' = h) := by
  refine HCalls.assume fun d => quietly (enter29 (by simp) ?_)
  unfold S29
  simp -implicitDefEqProofs (maxSteps := 2000000) (disch := first | with_reducible exact Nat.ne_of_beq_eq_false rfl | exact oneCell_int | exact oneCell_bool | omega | rfl | (simp; done) | fail) only [retK_ret, resL_cell, upd_ne, upd_eq, resL_nil1, opH_su, opH_sv, bd26_0_1_2_7_8_9_10_11_12_13_14, al26, resC_ptr, ld26, add_mk, Nat.add_zero, Nat.zero_add, st26w, cell_set_self, List.getElem?_cons_zero, Option.some.injEq, List.getElem?_cons_succ, exists_eq_left']
  intro x hx gx
  try simp -implicitDefEqProofs (maxSteps := 2000000) (disch := first | with_reducible exact Nat.ne_of_beq_eq_false rfl | exact oneCell_int | exact oneCell_bool | omega | rfl | (simp; done) | fail) only [opH_sv, opH_su, pureW_sv, opH_nil, pureW_nil, pick_t, pick_f, pick_tp, pick_fp, gd_tt, gd_ft, gd_tf, gd_ff, box_new, regs0, regs1, regs2, regs3, regs4, regs5, regs6, cells_agg, cells_int, cells_bool, cells_ptr, cells_slice, cells_string, cells_func, cells_nilFunc, cells_map, retK_ret, retK_normal, resL_tmp, resL_cell, resL_nil0, resL_nil1, resL_nil2, resL_nil3, resC_ptr, ex0, ex1, ex2, ex0p, ex1p, ex2p, HL.cond_true, HL.cond_false, thenK_normal, thenK_ret, thenK_exit, blockK_normal, blockK_ret, blockK_exit, scopeK_normal, scopeK_ret, scopeK_exit, wpH_pure, bin_add, bin_sub, bin_mul, bin_lss, bin_leq, bin_gtr, bin_geq, bin_quo, bin_rem, bin_quop, bin_remp, wrap_in, bin_addp, bin_subp, bin_mulp, bin_lssp, bin_leqp, bin_gtrp, bin_geqp, un_not, un_notp, un_neg, eq_int, ne_int, eq_intp, ne_intp, callV_fn, add_mk, upd_eq, upd_ne, cell_set_self, Nat.zero_add, Nat.add_zero, Option.some.injEq, exists_eq_left', List.getElem?_cons_succ, List.getElem?_cons_zero, true_and, and_true, bne_self_eq_false, beq_self_eq_true, Bool.not_true, Bool.not_false, Bool.and_true, Bool.and_self, Bool.and_false, Bool.true_and, List.length_cons, List.length_nil, ne_eq, not_false_eq_true, Nat.reduceAdd, Nat.reduceMul, if_true, if_false, oneCell_int, oneCell_bool, oneCell_ptr, oneCell_slice, oneCell_string, oneCell_func, oneCell_map, Int.toNat_natCast, List.set_cons_zero, List.set_cons_succ, Nat.lt_irrefl, Nat.zero_lt_succ, Nat.succ_lt_succ_iff, fa26_0, fa26_0p, fa26_1, fa26_1p, fa26_10, fa26_10p, fa26_11, fa26_11p, fa26_12, fa26_12p, fa26_13, fa26_13p, fa26_14, fa26_14p, fa26_2, fa26_2p, fa26_3, fa26_3p, fa26_4, fa26_4p, fa26_5, fa26_5p, fa26_6, fa26_6p, fa26_7, fa26_7p, fa26_8, fa26_8p, fa26_9, fa26_9p, fa28_0, fa28_0p, fa28_1, fa28_1p, fa30_0, fa30_0p, fa30_1, fa30_1p, fa46_0, fa46_0p, fa46_1, fa46_1p, fa46_2, fa46_2p, fa46_3, fa46_3p, fa46_4, fa46_4p, fa46_5, fa46_5p, fa46_6, fa46_6p, fa86_0, fa86_0p, fa86_1, fa86_1p, fa86_2, fa86_2p, fa95_0, fa95_0p, fa95_1, fa95_1p, ld3, ld3p, ld4, ld4p, ld22, ld22p, ld23, ld23p, ld24, ld24p, ld26, ld26p, ld28, ld28p, ld30, ld30p, ld31, ld31p, ld46, ld46p, ld47, ld47p, ld52, ld52p, ld55, ld55p, ld57, ld57p, ld95, ld95p, st3s, st4s, st22s, st23s, st24s, st26w, st28w, st30w, st46w, st47s, st55s, st95w, ix22, ix22p, ix23, ix23p, ix24, ix24p, ix47, ix47p, ix56, ix56p, ix57, ix57p, ix101, ix101p, ln22, ln22p, ln23, ln23p, ln24, ln24p, ln47, ln47p, ln56, ln56p, ln57, ln57p, al22, al26, al28, al30, al46, al47, al95, cf14, cf15, cf16, cf17, cf18, cf19, cf20, cf21, cf22, cf23, cf24, cf25, cf26, cf27, cf28, cf29, cf30, cf31, cf32, cf33, cf34, cf35, cf36, cf37, cf38, cf39, cf40, cf41, cf42, cf43, cf44, cf45, cf46, cf47, cf48, cf49, cf50, cf51, cf52, cf53, cf54, cf55, cf56, cf57, cf58, cf59, cf60, cf61, cf62, cf63, cf64, cf65, cf66, cf67, cf68, cf69, cf70, cf71, cf72, cf73, cf74, cf75, cf76, cf77, cf78, cf79, cf80, bd26_0_1_2_7_8_9_10_11_12_13_14, bd26_0_1_2_7_8_9_10_11_12_13_14p, bd28_0, bd28_0p, bd28_0_1, bd28_0_1p, bd30_, bd30_p, bd30_0_1, bd30_0_1p, bd30_0, bd30_0p, bd46_0_1_2_3_4, bd46_0_1_2_3_4p, bd46_0_3_4, bd46_0_3_4p, bd86_0_1_2, bd86_0_1_2p, bd87_0_1_2_3, bd87_0_1_2_3p, bd95_0_1, bd95_0_1p, bs22_2_0_1, bs47_1_0, bs22_1_0, bs57_6_0_1_2_3_4_5, bs24_1_0, bs22_4_0_1_2_3, bs56_11_0_1_2_3_4_5_6_7_8_9_10, bs57_11_0_1_2_3_4_5_6_7_8_9_10, eq4, eq4p, eq28, eq28p, eq30, eq30p, eq31n, eq31np, eq31s, eq31sp, eq46, eq46p, eq50n, eq50np, eq50s, eq50sp, eq67n, eq67np, eq67s, eq67sp, ne4, ne4p, ne28, ne28p, ne30, ne30p, ne31n, ne31np, ne31s, ne31sp, ne46, ne46p]
  first | exact le_set hx | exact ⟨rfl, le_set hx⟩

theorem ca_nil {G h : Hp} {C : Conf} (h1 : C.bl = []) (h2 : C.po = []) (h3 : C.ro = []) (h4 : C.st = []) : CA G h C none 0 none 0 none 0 none 0 := by
  obtain ⟨w, hh, ht, bl, po, ro, st, un, ac, sp, tu, ho, qu, re, bu, back⟩ := C
  subst h1 h2 h3 h4
  exact ⟨Slc.nil.sees (e := 28) (a := noHp) (by decide) (fun _ _ e => by cases e), Slc.nil.sees (e := 28) (a := noHp) (by decide) (fun _ _ e => by cases e), Slc.nil.sees (e := 30) (a := noHp) (by decide) (fun _ _ e => by cases e), [], Slc.nil.sees (e := 95) (a := noHp) (by decide) (fun _ _ e => by cases e), by simp⟩

theorem may_nil {C : Conf} (h1 : C.bl = []) (h2 : C.po = []) (h3 : C.ro = []) (h4 : C.st = []) : MayOk C ↔ numbersB C = true := by
  refine ⟨fun m => m.nums, fun n => ⟨n, by simp [h2], by simp [h3], by simp [h1], by simp [h1], by simp [h2], by simp [h3], by simp [h3], ?_⟩⟩
  exact ⟨by simp [h4], by simp [h4], by simp [h4], by simp [h4], by simp [h4], by simp [h4]⟩

theorem made0 : MadeOk C0 := by
  rw [made_may, may_nil rfl rfl rfl rfl]
  rfl

theorem moves0 : movesW (wC C0) (kC C0) (f3C C0) ⟨0, 0, false⟩ = [⟨1, 2, 1, ⟨0, 0, false⟩, ⟨0, 1, false⟩, 0, 0⟩, ⟨2, 0, 0, ⟨0, 0, false⟩, ⟨0, 0, true⟩, 0, 0⟩] := by decide +kernel

theorem Sees.move {G h : Hp} {sa : Option Addr} {cap n : Nat} {L : List Move} (s : Sees moveC G h (.slice sa n cap) L) {i : Nat} {x : Move} (hx : L[i]? = some x) :
    ∃ b o, sa = some ⟨b, o, none⟩ ∧ ∀ j, j < 11 → cellIn G h ⟨b, o + i * 11 + j, none⟩ = (moveC.enc x)[j]? := by
  obtain ⟨b, o, c, e1, e2⟩ := s.get hx
  simp only [Value.slice.injEq] at e1
  exact ⟨b, o, e1.1, e2⟩

set_option maxHeartbeats 4000000 in
theorem awake_spec {G h : Hp} (st : Steps G) : HCalls Tryd.prog G 17 #[] h (fun u h' => u = .bool true ∧ h' = h) := by
  refine HCalls.assume fun d => quietly (enter17 (by simp) ?_)
  unfold S17
  simp -implicitDefEqProofs (maxSteps := 2000000) (disch := first | with_reducible exact Nat.ne_of_beq_eq_false rfl | exact oneCell_int | exact oneCell_bool | omega | rfl | (simp; done) | fail) only [retK_ret, resL_tmp, upd_eq, resL_nil1, opH_sv, cf14, cf29]
  refine conf_spec.mono ?_
  rintro _ h0 ⟨rfl, rfl⟩
  refine (new_spec (C := C0) (ca_nil rfl rfl rfl rfl).cv st (by intro p hp; cases hp) (by decide)).mono ?_
  rintro _ h1 ⟨l1, d1, ⟨hm, ga, gp, kb, rfl, go, s1⟩ | ⟨hm, rfl⟩⟩
  rotate_left
  · exact absurd made0 hm
  simp -implicitDefEqProofs (maxSteps := 2000000) (disch := first | with_reducible exact Nat.ne_of_beq_eq_false rfl | exact oneCell_int | exact oneCell_bool | omega | rfl | (simp; done) | fail) only [ex1, ne_int, bne_self_eq_false, pick_f, gd_ff, ex0, eq31s, HL.cond_false]
  unfold S17_k1
  try simp -implicitDefEqProofs (maxSteps := 2000000) (disch := first | with_reducible exact Nat.ne_of_beq_eq_false rfl | exact oneCell_int | exact oneCell_bool | omega | rfl | (simp; done) | fail) only [upd_ne, upd_eq, retK_ret, resL_tmp, resL_nil1, opH_sv, cf25, cf26, bd30_]
  have pb : PB ⟨0, 0, false⟩ := ⟨⟨by decide, by decide⟩, ⟨by decide, by decide⟩⟩
  have gs1 : GS G h1 (.pointer (some ⟨gp, 0, none⟩)) (wC C0) (kC C0) (f3C C0) := (go.gs (G := G)).up (s1.in 0 rfl) d1
  refine (moves26_spec (gp := gp) (p := ⟨0, 0, false⟩)).mono ?_
  rintro _ h2 ⟨b1, b2, rfl, l2, d2, e1, e2⟩
  have gs2 := gs1.up l2 d2
  refine (moves25_spec (most := 9) e1 e2 gs2 st pb (by decide) (by decide)).mono ?_
  rintro u h3 ⟨ip, o, s3, d3⟩
  rw [moves0] at o
  change Slc moveC 46 ip u [⟨1, 2, 1, ⟨0, 0, false⟩, ⟨0, 1, false⟩, 0, 0⟩, ⟨2, 0, 0, ⟨0, 0, false⟩, ⟨0, 0, true⟩, 0, 0⟩] at o
  obtain ⟨sa, cap, rfl, hc⟩ := o.len (by decide)
  have gs3 := gs2.up (s3.in 1 rfl) d3
  have sv := o.sees (G := G) (by decide) (s3.in 0 rfl)
  obtain ⟨b, ofs, rfl, z⟩ := Sees.move (i := 0) sv rfl
  obtain ⟨b', ofs', eb, z'⟩ := Sees.move (i := 1) sv rfl
  cases eb
  have z00 := z 0 (by decide)
  have z01 := z 1 (by decide)
  have z02 := z 2 (by decide)
  have z10 := z' 0 (by decide)
  simp only [moveC, Nat.zero_mul, Nat.add_zero, Nat.one_mul, List.getElem?_cons_zero, List.getElem?_cons_succ] at z00 z01 z02 z10
  try simp -implicitDefEqProofs (maxSteps := 2000000) (disch := first | with_reducible exact Nat.ne_of_beq_eq_false rfl | exact oneCell_int | exact oneCell_bool | omega | rfl | (simp; done) | fail) only [List.length_cons, List.length_nil, Nat.zero_add, Nat.reduceAdd, ln47, eq_int]
  try simp -implicitDefEqProofs (maxSteps := 2000000) (disch := first | with_reducible exact Nat.ne_of_beq_eq_false rfl | exact oneCell_int | exact oneCell_bool | omega | rfl | (simp; done) | fail) only [show (((2 : Nat) : Int) == 2) = true from rfl, pick_t, gd_tt, opH_sv, ix47 (by decide : (0 : Int) ≤ 0) (by decide : (0 : Int) < (2 : Nat)), show Int.toNat 0 = 0 from rfl, Nat.zero_mul, add_mk, Nat.add_zero, fa46_0, ld3, z00, Option.some.injEq, exists_eq_left', eq_int, beq_self_eq_true, fa46_1, z01, fa46_2, z02, ix47 (by decide : (0 : Int) ≤ 1) (by decide : (1 : Int) < (2 : Nat)), Int.toNat_one, Nat.one_mul, z10, cf37, bd28_0_1]
  refine (num_spec (c := (1, 1)) gs3).mono ?_
  rintro _ _ ⟨rfl, rfl⟩
  try simp -implicitDefEqProofs (maxSteps := 2000000) (disch := first | with_reducible exact Nat.ne_of_beq_eq_false rfl | exact oneCell_int | exact oneCell_bool | omega | rfl | (simp; done) | fail) only [show numI (wC C0) (kC C0) (1, 1) = 3 from rfl, eq_int, beq_self_eq_true, true_and]
  first | exact (l1.trans l2).trans (s3.in 1 rfl) | exact ⟨rfl, (l1.trans l2).trans (s3.in 1 rfl)⟩

end Go.Proofs.YtnpdploihlgcgaaDoor
end

section
/- A config copied, in new memory. -/
set_option linter.unusedSimpArgs false
set_option linter.unusedVariables false
set_option maxRecDepth 100000
namespace Go.Proofs.YtnpdploihlgcgaaDoor
open Go Go.HL

theorem eoraw : ElemOk Tryd.prog 95 rawC.n 40 := ⟨by kernel_rfl, by kernel_rfl, by kernel_rfl⟩
theorem eopose : ElemOk Tryd.prog 30 poseC.n 24 := ⟨by kernel_rfl, by kernel_rfl, by kernel_rfl⟩

/-- So many elements of so many bytes find room. -/
def Room (n bytes : Nat) : Prop := (2 * n + 192) * bytes ≤ 281474976710656

theorem copyints_spec {G h : Hp} {v : Value} {L : List Int} (sv : Sees icC G h v L) (hl : Room L.length 8) : HCalls Tryd.prog G 75 #[v] h (fun u h' => ∃ ip, Slc icC 3 ip u L ∧ Sep [ip, h] h' ∧ Dis G h') := by
  refine HCalls.assume fun d => enter75 (by simp) ?_
  unfold S75
  simp -implicitDefEqProofs (maxSteps := 2000000) (disch := first | with_reducible exact Nat.ne_of_beq_eq_false rfl | exact oneCell_int | exact oneCell_bool | omega | rfl | (simp; done) | fail) only [regs0, retK_ret, resL_tmp, upd_eq, resL_nil1, opH_sv]
  refine append_big icC (by decide) un57 eoint (by decide) (Sep.one (h := h)).none d Slc.nil sv (by simpa [Room] using hl) fun v' a' h' o' s' d' => ?_
  try simp -implicitDefEqProofs (maxSteps := 2000000) (disch := first | with_reducible exact Nat.ne_of_beq_eq_false rfl | exact oneCell_int | exact oneCell_bool | omega | rfl | (simp; done) | fail) only [opH_sv, opH_su, pureW_sv, opH_nil, pureW_nil, pick_t, pick_f, pick_tp, pick_fp, gd_tt, gd_ft, gd_tf, gd_ff, box_new, regs0, regs1, regs2, regs3, regs4, regs5, regs6, cells_agg, cells_int, cells_bool, cells_ptr, cells_slice, cells_string, cells_func, cells_nilFunc, cells_map, retK_ret, retK_normal, resL_tmp, resL_cell, resL_nil0, resL_nil1, resL_nil2, resL_nil3, resC_ptr, ex0, ex1, ex2, ex0p, ex1p, ex2p, HL.cond_true, HL.cond_false, thenK_normal, thenK_ret, thenK_exit, blockK_normal, blockK_ret, blockK_exit, scopeK_normal, scopeK_ret, scopeK_exit, wpH_pure, bin_add, bin_sub, bin_mul, bin_lss, bin_leq, bin_gtr, bin_geq, bin_quo, bin_rem, bin_quop, bin_remp, wrap_in, bin_addp, bin_subp, bin_mulp, bin_lssp, bin_leqp, bin_gtrp, bin_geqp, un_not, un_notp, un_neg, eq_int, ne_int, eq_intp, ne_intp, callV_fn, add_mk, upd_eq, upd_ne, cell_set_self, Nat.zero_add, Nat.add_zero, Option.some.injEq, exists_eq_left', List.getElem?_cons_succ, List.getElem?_cons_zero, true_and, and_true, bne_self_eq_false, beq_self_eq_true, Bool.not_true, Bool.not_false, Bool.and_true, Bool.and_self, Bool.and_false, Bool.true_and, List.length_cons, List.length_nil, ne_eq, not_false_eq_true, Nat.reduceAdd, Nat.reduceMul, if_true, if_false, oneCell_int, oneCell_bool, oneCell_ptr, oneCell_slice, oneCell_string, oneCell_func, oneCell_map, Int.toNat_natCast, List.set_cons_zero, List.set_cons_succ, Nat.lt_irrefl, Nat.zero_lt_succ, Nat.succ_lt_succ_iff, fa26_0, fa26_0p, fa26_1, fa26_1p, fa26_10, fa26_10p, fa26_11, fa26_11p, fa26_12, fa26_12p, fa26_13, fa26_13p, fa26_14, fa26_14p, fa26_2, fa26_2p, fa26_3, fa26_3p, fa26_4, fa26_4p, fa26_5, fa26_5p, fa26_6, fa26_6p, fa26_7, fa26_7p, fa26_8, fa26_8p, fa26_9, fa26_9p, fa28_0, fa28_0p, fa28_1, fa28_1p, fa30_0, fa30_0p, fa30_1, fa30_1p, fa46_0, fa46_0p, fa46_1, fa46_1p, fa46_2, fa46_2p, fa46_3, fa46_3p, fa46_4, fa46_4p, fa46_5, fa46_5p, fa46_6, fa46_6p, fa86_0, fa86_0p, fa86_1, fa86_1p, fa86_2, fa86_2p, fa95_0, fa95_0p, fa95_1, fa95_1p, ld3, ld3p, ld4, ld4p, ld22, ld22p, ld23, ld23p, ld24, ld24p, ld26, ld26p, ld28, ld28p, ld30, ld30p, ld31, ld31p, ld46, ld46p, ld47, ld47p, ld52, ld52p, ld55, ld55p, ld57, ld57p, ld95, ld95p, st3s, st4s, st22s, st23s, st24s, st26w, st28w, st30w, st46w, st47s, st55s, st95w, ix22, ix22p, ix23, ix23p, ix24, ix24p, ix47, ix47p, ix56, ix56p, ix57, ix57p, ix101, ix101p, ln22, ln22p, ln23, ln23p, ln24, ln24p, ln47, ln47p, ln56, ln56p, ln57, ln57p, al22, al26, al28, al30, al46, al47, al95, cf14, cf15, cf16, cf17, cf18, cf19, cf20, cf21, cf22, cf23, cf24, cf25, cf26, cf27, cf28, cf29, cf30, cf31, cf32, cf33, cf34, cf35, cf36, cf37, cf38, cf39, cf40, cf41, cf42, cf43, cf44, cf45, cf46, cf47, cf48, cf49, cf50, cf51, cf52, cf53, cf54, cf55, cf56, cf57, cf58, cf59, cf60, cf61, cf62, cf63, cf64, cf65, cf66, cf67, cf68, cf69, cf70, cf71, cf72, cf73, cf74, cf75, cf76, cf77, cf78, cf79, cf80, bd26_0_1_2_7_8_9_10_11_12_13_14, bd26_0_1_2_7_8_9_10_11_12_13_14p, bd28_0, bd28_0p, bd28_0_1, bd28_0_1p, bd30_, bd30_p, bd30_0_1, bd30_0_1p, bd30_0, bd30_0p, bd46_0_1_2_3_4, bd46_0_1_2_3_4p, bd46_0_3_4, bd46_0_3_4p, bd86_0_1_2, bd86_0_1_2p, bd87_0_1_2_3, bd87_0_1_2_3p, bd95_0_1, bd95_0_1p, bs22_2_0_1, bs47_1_0, bs22_1_0, bs57_6_0_1_2_3_4_5, bs24_1_0, bs22_4_0_1_2_3, bs56_11_0_1_2_3_4_5_6_7_8_9_10, bs57_11_0_1_2_3_4_5_6_7_8_9_10, eq4, eq4p, eq28, eq28p, eq30, eq30p, eq31n, eq31np, eq31s, eq31sp, eq46, eq46p, eq50n, eq50np, eq50s, eq50sp, eq67n, eq67np, eq67s, eq67sp, ne4, ne4p, ne28, ne28p, ne30, ne30p, ne31n, ne31np, ne31s, ne31sp, ne46, ne46p]
  exact ⟨a', o', s', d'⟩

def Rel (pb : Hp) (raws : List Raw) (st : List (Cell × List Int)) : Prop := ∀ (i : Nat) (r : Raw) (s : Cell × List Int), raws[i]? = some r → st[i]? = some s → (r.x, r.y) = s.1 ∧ r.n = s.2.length ∧ Slc icC 3 pb (.slice r.a s.2.length r.c) s.2
/-- Stacks of one's own. -/
def StkO (pz : Hp) (v : Value) (st : List (Cell × List Int)) : Prop := ∃ raws pr pb, Slc rawC 95 pr v raws ∧ Sep [pr, pb] pz ∧ raws.length = st.length ∧ Rel pb raws st

theorem Rel.le {pb pb' : Hp} {raws : List Raw} {st : List (Cell × List Int)} (r : Rel pb raws st) (l : pb.le pb') : Rel pb' raws st := fun i x s h1 h2 => let ⟨a, b, c⟩ := r i x s h1 h2; ⟨a, b, c.le l⟩

set_option maxHeartbeats 2000000 in
theorem copystacks_spec {G h : Hp} {C : Conf} {ab : Option Addr} {cb : Nat} {ap : Option Addr} {cp : Nat} {ar : Option Addr} {cr : Nat} {az : Option Addr} {cs : Nat} (ca : CA G h C ab cb ap cp ar cr az cs)
    (hst : Room C.st.length 40) (hb : ∀ s ∈ C.st, Room s.2.length 8) : HCalls Tryd.prog G 50 #[.slice az C.st.length cs] h (fun u h' => ∃ pz, StkO pz u C.st ∧ Sep [pz, h] h' ∧ Dis G h') := by
  refine HCalls.assume fun d => enter50 (by simp) ?_
  unfold S50
  have hlb : C.st.length ≤ 7036874417664 := by unfold Room at hst; omega
  refine loop_I (fun m r h3 => ∃ (i : Nat) (raws : List Raw) (pr pb : Hp) (v : Value), m = C.st.length - i ∧ i ≤ C.st.length ∧ r 0 = .slice az C.st.length cs ∧ r 3 = v ∧ r 4 = .int .i64 i ∧ Slc rawC 95 pr v raws ∧ raws.length = i ∧ Rel pb raws C.st ∧ Sep [pr, pb, h] h3 ∧ Dis G h3) ?_
    (m := C.st.length) ⟨0, [], noHp, noHp, _, rfl, Nat.zero_le _, by simp -implicitDefEqProofs (maxSteps := 2000000) (disch := first | with_reducible exact Nat.ne_of_beq_eq_false rfl | exact oneCell_int | exact oneCell_bool | omega | rfl | (simp; done) | fail) only [upd_ne, regs0], by simp -implicitDefEqProofs (maxSteps := 2000000) (disch := first | with_reducible exact Nat.ne_of_beq_eq_false rfl | exact oneCell_int | exact oneCell_bool | omega | rfl | (simp; done) | fail) only [upd_ne, upd_eq], by simp -implicitDefEqProofs (maxSteps := 2000000) (disch := first | with_reducible exact Nat.ne_of_beq_eq_false rfl | exact oneCell_int | exact oneCell_bool | omega | rfl | (simp; done) | fail) only [upd_eq] <;> rfl, Slc.nil, rfl, fun i r s h1 => by simp at h1, (Sep.one.none).none, d⟩
  rintro m r h3 ⟨i, raws, pr, pb, v, rfl, hi, g0, g3, g4, o, hlen, rel, s3, d3⟩ X HX
  unfold S50_l2
  simp -implicitDefEqProofs (maxSteps := 2000000) (disch := first | with_reducible exact Nat.ne_of_beq_eq_false rfl | exact oneCell_int | exact oneCell_bool | omega | rfl | (simp; done) | fail) only [g0, g4, thenK_exit, blockK_exit, thenK_normal, if_true, opH_sv, ln24, bin_lss]
  refine cond_dec (fun hlt => ?_) (fun hge => ?_)
  rotate_left
  · obtain rfl : i = C.st.length := by omega
    try simp -implicitDefEqProofs (maxSteps := 2000000) (disch := first | with_reducible exact Nat.ne_of_beq_eq_false rfl | exact oneCell_int | exact oneCell_bool | omega | rfl | (simp; done) | fail) only [opH_sv, opH_su, pureW_sv, opH_nil, pureW_nil, pick_t, pick_f, pick_tp, pick_fp, gd_tt, gd_ft, gd_tf, gd_ff, box_new, regs0, regs1, regs2, regs3, regs4, regs5, regs6, cells_agg, cells_int, cells_bool, cells_ptr, cells_slice, cells_string, cells_func, cells_nilFunc, cells_map, retK_ret, retK_normal, resL_tmp, resL_cell, resL_nil0, resL_nil1, resL_nil2, resL_nil3, resC_ptr, ex0, ex1, ex2, ex0p, ex1p, ex2p, HL.cond_true, HL.cond_false, thenK_normal, thenK_ret, thenK_exit, blockK_normal, blockK_ret, blockK_exit, scopeK_normal, scopeK_ret, scopeK_exit, wpH_pure, bin_add, bin_sub, bin_mul, bin_lss, bin_leq, bin_gtr, bin_geq, bin_quo, bin_rem, bin_quop, bin_remp, wrap_in, bin_addp, bin_subp, bin_mulp, bin_lssp, bin_leqp, bin_gtrp, bin_geqp, un_not, un_notp, un_neg, eq_int, ne_int, eq_intp, ne_intp, callV_fn, add_mk, upd_eq, upd_ne, cell_set_self, Nat.zero_add, Nat.add_zero, Option.some.injEq, exists_eq_left', List.getElem?_cons_succ, List.getElem?_cons_zero, true_and, and_true, bne_self_eq_false, beq_self_eq_true, Bool.not_true, Bool.not_false, Bool.and_true, Bool.and_self, Bool.and_false, Bool.true_and, List.length_cons, List.length_nil, ne_eq, not_false_eq_true, Nat.reduceAdd, Nat.reduceMul, if_true, if_false, oneCell_int, oneCell_bool, oneCell_ptr, oneCell_slice, oneCell_string, oneCell_func, oneCell_map, Int.toNat_natCast, List.set_cons_zero, List.set_cons_succ, Nat.lt_irrefl, Nat.zero_lt_succ, Nat.succ_lt_succ_iff, fa26_0, fa26_0p, fa26_1, fa26_1p, fa26_10, fa26_10p, fa26_11, fa26_11p, fa26_12, fa26_12p, fa26_13, fa26_13p, fa26_14, fa26_14p, fa26_2, fa26_2p, fa26_3, fa26_3p, fa26_4, fa26_4p, fa26_5, fa26_5p, fa26_6, fa26_6p, fa26_7, fa26_7p, fa26_8, fa26_8p, fa26_9, fa26_9p, fa28_0, fa28_0p, fa28_1, fa28_1p, fa30_0, fa30_0p, fa30_1, fa30_1p, fa46_0, fa46_0p, fa46_1, fa46_1p, fa46_2, fa46_2p, fa46_3, fa46_3p, fa46_4, fa46_4p, fa46_5, fa46_5p, fa46_6, fa46_6p, fa86_0, fa86_0p, fa86_1, fa86_1p, fa86_2, fa86_2p, fa95_0, fa95_0p, fa95_1, fa95_1p, ld3, ld3p, ld4, ld4p, ld22, ld22p, ld23, ld23p, ld24, ld24p, ld26, ld26p, ld28, ld28p, ld30, ld30p, ld31, ld31p, ld46, ld46p, ld47, ld47p, ld52, ld52p, ld55, ld55p, ld57, ld57p, ld95, ld95p, st3s, st4s, st22s, st23s, st24s, st26w, st28w, st30w, st46w, st47s, st55s, st95w, ix22, ix22p, ix23, ix23p, ix24, ix24p, ix47, ix47p, ix56, ix56p, ix57, ix57p, ix101, ix101p, ln22, ln22p, ln23, ln23p, ln24, ln24p, ln47, ln47p, ln56, ln56p, ln57, ln57p, al22, al26, al28, al30, al46, al47, al95, cf14, cf15, cf16, cf17, cf18, cf19, cf20, cf21, cf22, cf23, cf24, cf25, cf26, cf27, cf28, cf29, cf30, cf31, cf32, cf33, cf34, cf35, cf36, cf37, cf38, cf39, cf40, cf41, cf42, cf43, cf44, cf45, cf46, cf47, cf48, cf49, cf50, cf51, cf52, cf53, cf54, cf55, cf56, cf57, cf58, cf59, cf60, cf61, cf62, cf63, cf64, cf65, cf66, cf67, cf68, cf69, cf70, cf71, cf72, cf73, cf74, cf75, cf76, cf77, cf78, cf79, cf80, bd26_0_1_2_7_8_9_10_11_12_13_14, bd26_0_1_2_7_8_9_10_11_12_13_14p, bd28_0, bd28_0p, bd28_0_1, bd28_0_1p, bd30_, bd30_p, bd30_0_1, bd30_0_1p, bd30_0, bd30_0p, bd46_0_1_2_3_4, bd46_0_1_2_3_4p, bd46_0_3_4, bd46_0_3_4p, bd86_0_1_2, bd86_0_1_2p, bd87_0_1_2_3, bd87_0_1_2_3p, bd95_0_1, bd95_0_1p, bs22_2_0_1, bs47_1_0, bs22_1_0, bs57_6_0_1_2_3_4_5, bs24_1_0, bs22_4_0_1_2_3, bs56_11_0_1_2_3_4_5_6_7_8_9_10, bs57_11_0_1_2_3_4_5_6_7_8_9_10, eq4, eq4p, eq28, eq28p, eq30, eq30p, eq31n, eq31np, eq31s, eq31sp, eq46, eq46p, eq50n, eq50np, eq50s, eq50sp, eq67n, eq67np, eq67s, eq67sp, ne4, ne4p, ne28, ne28p, ne30, ne30p, ne31n, ne31np, ne31s, ne31sp, ne46, ne46p]
    unfold S50_k1
    try simp -implicitDefEqProofs (maxSteps := 2000000) (disch := first | with_reducible exact Nat.ne_of_beq_eq_false rfl | exact oneCell_int | exact oneCell_bool | omega | rfl | (simp; done) | fail) only [upd_ne, g3, retK_ret, resL_tmp, upd_eq, resL_nil1]
    obtain ⟨pz, s4, t4⟩ := s3.pack2
    exact ⟨pz, ⟨raws, pr, pb, o, t4, hlen, rel⟩, s4, d3⟩
  have hlt' : i < C.st.length := by omega
  obtain ⟨s, hs⟩ : ∃ s, C.st[i]? = some s := ⟨_, List.getElem?_eq_getElem hlt'⟩
  have ca3 := ca.up (s3.in 2 rfl) d3
  obtain ⟨b, ofs, a, c, rfl, z0, z1, z2, sv⟩ := ca3.stk hs
  unfold S50_l2_k3
  refine ⟨h3, Hp.le.refl _, ?_⟩
  try simp -implicitDefEqProofs (maxSteps := 2000000) (disch := first | with_reducible exact Nat.ne_of_beq_eq_false rfl | exact oneCell_int | exact oneCell_bool | omega | rfl | (simp; done) | fail) only [upd_ne, g0, g4, opH_sv, pureW_sv, cf75, ix24p (Int.natCast_nonneg i) hlt, Int.toNat_natCast, add_mk, fa95_1p, ld57p, z2, Option.some.injEq, exists_eq_left', fa95_0p, Nat.add_zero, ld28p, z0, z1]
  refine (copyints_spec sv (hb s (List.mem_of_getElem? hs))).mono ?_
  rintro u h4 ⟨ip, o4, s4, d4⟩
  refine ⟨s4.in 1 rfl, ?_⟩
  obtain ⟨sa, cap, rfl, hcap⟩ := o4.len (by decide)
  try simp -implicitDefEqProofs (maxSteps := 2000000) (disch := first | with_reducible exact Nat.ne_of_beq_eq_false rfl | exact oneCell_int | exact oneCell_bool | omega | rfl | (simp; done) | fail) only [bd95_0_1p, bs24_1_0]
  intro x hx gx
  have s5 : Sep [ip, pr, pb, h] h4 := by
    have := s4.split s3
    simpa using this
  let rw0 : Raw := ⟨s.1.1, s.1.2, sa, s.2.length, cap⟩
  have s6 : Sep [pr, ip, pb, h] (h4.set x (.cells #[.int .i64 s.1.1, .int .i64 s.1.2, .slice sa s.2.length cap] 95 (0, 0))) := (s5.past hx).pick 1 rfl rfl
  have d6 : Dis G (h4.set x (.cells #[.int .i64 s.1.1, .int .i64 s.1.2, .slice sa s.2.length cap] 95 (0, 0))) := d4.set gx
  have b6 : (h4.set x (.cells #[.int .i64 s.1.1, .int .i64 s.1.2, .slice sa s.2.length cap] 95 (0, 0))) x = some (.cells #[.int .i64 s.1.1, .int .i64 s.1.2, .slice sa s.2.length cap] 95 (0, 0)) := set_self
  generalize Hp.set h4 x _ = h6 at s6 d6 b6 ⊢
  rw [g3]
  refine append_big rawC (by decide) un24 eoraw (by decide) (M := [rw0]) s6 d6 o (Sees.row (c := rawC) (L := [rw0]) b6 rfl (Nat.le_refl _)) (by
    unfold Room at hst
    refine Nat.le_trans (Nat.mul_le_mul_right _ ?_) hst
    rw [hlen, List.length_singleton]
    omega) fun v7 pr7 h7 o7 s7 d7 => ?_
  have s7' : Sep [ip, pb, pr7, h] h7 := (s7.pick 2 rfl rfl).pick 2 rfl rfl
  obtain ⟨pb7, s8, t8⟩ := s7'.pack2
  unfold S50_l2_k4
  try simp -implicitDefEqProofs (maxSteps := 2000000) (disch := first | with_reducible exact Nat.ne_of_beq_eq_false rfl | exact oneCell_int | exact oneCell_bool | omega | rfl | (simp; done) | fail) only [upd_ne, g4, thenK_normal, opH_sv, bin_add, wrap_in]
  refine HX (C.st.length - (i + 1)) _ _ (by omega) ⟨i + 1, raws ++ [rw0], pr7, pb7, v7, rfl, hlt', by simp -implicitDefEqProofs (maxSteps := 2000000) (disch := first | with_reducible exact Nat.ne_of_beq_eq_false rfl | exact oneCell_int | exact oneCell_bool | omega | rfl | (simp; done) | fail) only [upd_ne, g0], by simp -implicitDefEqProofs (maxSteps := 2000000) (disch := first | with_reducible exact Nat.ne_of_beq_eq_false rfl | exact oneCell_int | exact oneCell_bool | omega | rfl | (simp; done) | fail) only [upd_ne, upd_eq], by simp -implicitDefEqProofs (maxSteps := 2000000) (disch := first | with_reducible exact Nat.ne_of_beq_eq_false rfl | exact oneCell_int | exact oneCell_bool | omega | rfl | (simp; done) | fail) only [upd_eq] <;> rfl, o7, by simp [hlen], ?_, s8.pick 1 rfl rfl, d7⟩
  intro j r' s' hr' hs'
  by_cases hj : j < i
  · rw [List.getElem?_append_left (by omega)] at hr'
    exact (rel.le (t8.in 1 rfl)) j r' s' hr' hs'
  · have hj2 : j < (raws ++ [rw0]).length := (List.getElem?_eq_some_iff.1 hr').1
    obtain rfl : j = i := by simp at hj2; omega
    rw [List.getElem?_append_right (by omega), hlen, Nat.sub_self] at hr'
    cases hr'
    rw [hs] at hs'
    cases hs'
    exact ⟨rfl, rfl, o4.le (t8.in 0 rfl)⟩

abbrev confO (C : Conf) (vb vp vr vz : Value) : Obj := .cells #[.int .i64 C.w, .int .i64 C.h, .int .i64 C.ht, vb, vp, vr, vz, .int .i64 C.un, .int .i64 C.ac, .int .i64 C.sp, .int .i64 C.tu, .int .i64 C.ho, .int .i64 C.qu, .int .i64 C.re, .int .i64 C.bu, .bool C.back] 26 (0, 0)
abbrev confA (C : Conf) (vb vp vr vz : Value) : Value := .agg #[.int .i64 C.w, .int .i64 C.h, .int .i64 C.ht, vb, vp, vr, vz, .int .i64 C.un, .int .i64 C.ac, .int .i64 C.sp, .int .i64 C.tu, .int .i64 C.ho, .int .i64 C.qu, .int .i64 C.re, .int .i64 C.bu, .bool C.back]

theorem store26 {G h : Hp} {y : Nat} {C : Conf} {D : Conf} {v1 v2 v3 v4 : Value} {a1 a2 a3 a4 : Option Addr} {n1 n2 n3 n4 c1 c2 c3 c4 : Nat} {K : Unit → Hp → Prop} (hb : h y = some (confO D v1 v2 v3 v4)) :
    wpH Tryd.prog G (Instr.storeAt 26 (.pointer (some ⟨y, 0, none⟩)) (confA C (.slice a1 n1 c1) (.slice a2 n2 c2) (.slice a3 n3 c3) (.slice a4 n4 c4))) h K = K () (h.set y (confO C (.slice a1 n1 c1) (.slice a2 n2 c2) (.slice a3 n3 c3) (.slice a4 n4 c4))) := by
  conv => lhs; rw [← set_same hb]
  exact st26w

structure Fit0 (C : Conf) : Prop where
  bl : Room C.bl.length 16
  po : Room C.po.length 16
  ro : Room C.ro.length 24
  st : Room C.st.length 40
  bins : ∀ s ∈ C.st, Room s.2.length 8

def Cz : Conf := ⟨0, 0, 0, [], [], [], [], 0, 0, 0, 0, 0, 0, 0, 0, false⟩
abbrev nilV : Value := .slice none 0 0

/-- A config of one's own. -/
structure CO (h : Hp) (C : Conf) (u : Value) (h' pb pp pr pz : Hp) (vb vp vr vz : Value) : Prop where
  v : u = confA C vb vp vr vz
  bl : Slc cellC 28 pb vb C.bl
  po : Slc cellC 28 pp vp C.po
  ro : Slc poseC 30 pr vr C.ro
  st : StkO pz vz C.st
  sep : Sep [pb, pp, pr, pz, h] h'

def CopyR (G h : Hp) (C : Conf) (u : Value) (h' : Hp) : Prop := (∃ pb pp pr pz vb vp vr vz, CO h C u h' pb pp pr pz vb vp vr vz) ∧ Dis G h'

set_option maxHeartbeats 2000000 in
theorem copyconf_spec {G h : Hp} {v : Value} {C : Conf} (hv : CV G h v C) (fit : Fit0 C) : HCalls Tryd.prog G 15 #[v] h (CopyR G h C) := by
  obtain ⟨ab, cb, ap, cp, ar, cr, az, cs, rfl, ca⟩ := hv
  refine HCalls.assume fun d => enter15 (by simp) ?_
  unfold S15
  simp -implicitDefEqProofs (maxSteps := 2000000) (disch := first | with_reducible exact Nat.ne_of_beq_eq_false rfl | exact oneCell_int | exact oneCell_bool | omega | rfl | (simp; done) | fail) only [regs0, retK_ret, resL_cell, upd_ne, upd_eq, resL_nil1, opH_su, opH_sv, cf50, al26, resC_ptr, ld26, add_mk, Nat.add_zero, Nat.zero_add, box_new, cells_agg, fa26_6, ld24, fa26_5, ld23, fa26_4, ld22, fa26_3]
  intro x hx gx y hy gy
  have exy := ne_of_set hy
  have s2 : Sep [noHp, noHp.set x (confO C (.slice ab C.bl.length cb) (.slice ap C.po.length cp) (.slice ar C.ro.length cr) (.slice az C.st.length cs)), noHp.set y (confO Cz nilV nilV nilV nilV), h] _ := (((Sep.one (h := h)).new (o := confO C (.slice ab C.bl.length cb) (.slice ap C.po.length cp) (.slice ar C.ro.length cr) (.slice az C.st.length cs)) hx).new (o := confO Cz nilV nilV nilV nilV) hy).swap.none
  have d2 := (d.set (o := confO C (.slice ab C.bl.length cb) (.slice ap C.po.length cp) (.slice ar C.ro.length cr) (.slice az C.st.length cs)) gx).set (o := confO Cz nilV nilV nilV nilV) gy
  unfold Cz at s2 d2
  generalize Hp.set (Hp.set h x _) y _ = h2 at s2 d2 ⊢
  have cx : ∀ j, cellIn G h2 ⟨x, j, none⟩ = _ := fun j => cell_of (look_own (s2.at 1 rfl set_self))
  have ca2 := ca.up (s2.in 3 rfl) d2
  try simp -implicitDefEqProofs (maxSteps := 2000000) (disch := first | with_reducible exact Nat.ne_of_beq_eq_false rfl | exact oneCell_int | exact oneCell_bool | omega | rfl | (simp; done) | fail) only [cx, List.getElem?_cons_succ, List.getElem?_cons_zero, Option.some.injEq, exists_eq_left']
  refine append_big cellC (by decide) un22 eocell (by decide) s2 d2 Slc.nil ca2.bl (by simpa [Room] using fit.bl) fun vb pb h3 ob s3 d3 => ?_
  obtain ⟨sb, cpb, rfl, _⟩ := ob.len (by decide)
  rw [List.nil_append] at ob
  have hx3 := s3.at 1 rfl set_self
  try simp -implicitDefEqProofs (maxSteps := 2000000) (disch := first | with_reducible exact Nat.ne_of_beq_eq_false rfl | exact oneCell_int | exact oneCell_bool | omega | rfl | (simp; done) | fail) only [opH_sv, opH_su, pureW_sv, opH_nil, pureW_nil, pick_t, pick_f, pick_tp, pick_fp, gd_tt, gd_ft, gd_tf, gd_ff, box_new, regs0, regs1, regs2, regs3, regs4, regs5, regs6, cells_agg, cells_int, cells_bool, cells_ptr, cells_slice, cells_string, cells_func, cells_nilFunc, cells_map, retK_ret, retK_normal, resL_tmp, resL_cell, resL_nil0, resL_nil1, resL_nil2, resL_nil3, resC_ptr, ex0, ex1, ex2, ex0p, ex1p, ex2p, HL.cond_true, HL.cond_false, thenK_normal, thenK_ret, thenK_exit, blockK_normal, blockK_ret, blockK_exit, scopeK_normal, scopeK_ret, scopeK_exit, wpH_pure, bin_add, bin_sub, bin_mul, bin_lss, bin_leq, bin_gtr, bin_geq, bin_quo, bin_rem, bin_quop, bin_remp, wrap_in, bin_addp, bin_subp, bin_mulp, bin_lssp, bin_leqp, bin_gtrp, bin_geqp, un_not, un_notp, un_neg, eq_int, ne_int, eq_intp, ne_intp, callV_fn, add_mk, upd_eq, upd_ne, cell_set_self, Nat.zero_add, Nat.add_zero, Option.some.injEq, exists_eq_left', List.getElem?_cons_succ, List.getElem?_cons_zero, true_and, and_true, bne_self_eq_false, beq_self_eq_true, Bool.not_true, Bool.not_false, Bool.and_true, Bool.and_self, Bool.and_false, Bool.true_and, List.length_cons, List.length_nil, ne_eq, not_false_eq_true, Nat.reduceAdd, Nat.reduceMul, if_true, if_false, oneCell_int, oneCell_bool, oneCell_ptr, oneCell_slice, oneCell_string, oneCell_func, oneCell_map, Int.toNat_natCast, List.set_cons_zero, List.set_cons_succ, Nat.lt_irrefl, Nat.zero_lt_succ, Nat.succ_lt_succ_iff, fa26_0, fa26_0p, fa26_1, fa26_1p, fa26_10, fa26_10p, fa26_11, fa26_11p, fa26_12, fa26_12p, fa26_13, fa26_13p, fa26_14, fa26_14p, fa26_2, fa26_2p, fa26_3, fa26_3p, fa26_4, fa26_4p, fa26_5, fa26_5p, fa26_6, fa26_6p, fa26_7, fa26_7p, fa26_8, fa26_8p, fa26_9, fa26_9p, fa28_0, fa28_0p, fa28_1, fa28_1p, fa30_0, fa30_0p, fa30_1, fa30_1p, fa46_0, fa46_0p, fa46_1, fa46_1p, fa46_2, fa46_2p, fa46_3, fa46_3p, fa46_4, fa46_4p, fa46_5, fa46_5p, fa46_6, fa46_6p, fa86_0, fa86_0p, fa86_1, fa86_1p, fa86_2, fa86_2p, fa95_0, fa95_0p, fa95_1, fa95_1p, ld3, ld3p, ld4, ld4p, ld22, ld22p, ld23, ld23p, ld24, ld24p, ld26, ld26p, ld28, ld28p, ld30, ld30p, ld31, ld31p, ld46, ld46p, ld47, ld47p, ld52, ld52p, ld55, ld55p, ld57, ld57p, ld95, ld95p, st3s, st4s, st22s, st23s, st24s, st26w, st28w, st30w, st46w, st47s, st55s, st95w, ix22, ix22p, ix23, ix23p, ix24, ix24p, ix47, ix47p, ix56, ix56p, ix57, ix57p, ix101, ix101p, ln22, ln22p, ln23, ln23p, ln24, ln24p, ln47, ln47p, ln56, ln56p, ln57, ln57p, al22, al26, al28, al30, al46, al47, al95, cf14, cf15, cf16, cf17, cf18, cf19, cf20, cf21, cf22, cf23, cf24, cf25, cf26, cf27, cf28, cf29, cf30, cf31, cf32, cf33, cf34, cf35, cf36, cf37, cf38, cf39, cf40, cf41, cf42, cf43, cf44, cf45, cf46, cf47, cf48, cf49, cf50, cf51, cf52, cf53, cf54, cf55, cf56, cf57, cf58, cf59, cf60, cf61, cf62, cf63, cf64, cf65, cf66, cf67, cf68, cf69, cf70, cf71, cf72, cf73, cf74, cf75, cf76, cf77, cf78, cf79, cf80, bd26_0_1_2_7_8_9_10_11_12_13_14, bd26_0_1_2_7_8_9_10_11_12_13_14p, bd28_0, bd28_0p, bd28_0_1, bd28_0_1p, bd30_, bd30_p, bd30_0_1, bd30_0_1p, bd30_0, bd30_0p, bd46_0_1_2_3_4, bd46_0_1_2_3_4p, bd46_0_3_4, bd46_0_3_4p, bd86_0_1_2, bd86_0_1_2p, bd87_0_1_2_3, bd87_0_1_2_3p, bd95_0_1, bd95_0_1p, bs22_2_0_1, bs47_1_0, bs22_1_0, bs57_6_0_1_2_3_4_5, bs24_1_0, bs22_4_0_1_2_3, bs56_11_0_1_2_3_4_5_6_7_8_9_10, bs57_11_0_1_2_3_4_5_6_7_8_9_10, eq4, eq4p, eq28, eq28p, eq30, eq30p, eq31n, eq31np, eq31s, eq31sp, eq46, eq46p, eq50n, eq50np, eq50s, eq50sp, eq67n, eq67np, eq67s, eq67sp, ne4, ne4p, ne28, ne28p, ne30, ne30p, ne31n, ne31np, ne31s, ne31sp, ne46, ne46p]
  rw [store1_eq sz22 rfl hx3 (by simp)]
  have s4 : Sep [noHp, noHp.set x (confO C (.slice sb C.bl.length cpb) (.slice ap C.po.length cp) (.slice ar C.ro.length cr) (.slice az C.st.length cs)), pb, noHp.set y (confO ⟨0, 0, 0, [], [], [], [], 0, 0, 0, 0, 0, 0, 0, 0, false⟩ nilV nilV nilV nilV), h] (h3.set x (confO C (.slice sb C.bl.length cpb) (.slice ap C.po.length cp) (.slice ar C.ro.length cr) (.slice az C.st.length cs))) := by
    have := (s3.pick 1 rfl rfl).put (o := confO C (.slice sb C.bl.length cpb) (.slice ap C.po.length cp) (.slice ar C.ro.length cr) (.slice az C.st.length cs)) set_self
    rw [set_set] at this
    exact this.none
  have d4 : Dis G (h3.set x (confO C (.slice sb C.bl.length cpb) (.slice ap C.po.length cp) (.slice ar C.ro.length cr) (.slice az C.st.length cs))) := d3.set gx
  try simp -implicitDefEqProofs (maxSteps := 2000000) (disch := first | with_reducible exact Nat.ne_of_beq_eq_false rfl | exact oneCell_int | exact oneCell_bool | omega | rfl | (simp; done) | fail) only [List.nil_append, List.set_cons_succ, List.set_cons_zero, cell_set_self, List.getElem?_cons_succ, List.getElem?_cons_zero, Option.some.injEq, exists_eq_left']
  generalize Hp.set h3 x _ = h4 at s4 d4 ⊢
  refine append_big cellC (by decide) un22 eocell (by decide) s4 d4 Slc.nil (ca.up (s4.in 4 rfl) d4).po (by simpa [Room] using fit.po) fun vp pp h5 op s5 d5 => ?_
  obtain ⟨sp, cpp, rfl, _⟩ := op.len (by decide)
  rw [List.nil_append] at op
  have hx5 := s5.at 1 rfl set_self
  try simp -implicitDefEqProofs (maxSteps := 2000000) (disch := first | with_reducible exact Nat.ne_of_beq_eq_false rfl | exact oneCell_int | exact oneCell_bool | omega | rfl | (simp; done) | fail) only [opH_sv, opH_su, pureW_sv, opH_nil, pureW_nil, pick_t, pick_f, pick_tp, pick_fp, gd_tt, gd_ft, gd_tf, gd_ff, box_new, regs0, regs1, regs2, regs3, regs4, regs5, regs6, cells_agg, cells_int, cells_bool, cells_ptr, cells_slice, cells_string, cells_func, cells_nilFunc, cells_map, retK_ret, retK_normal, resL_tmp, resL_cell, resL_nil0, resL_nil1, resL_nil2, resL_nil3, resC_ptr, ex0, ex1, ex2, ex0p, ex1p, ex2p, HL.cond_true, HL.cond_false, thenK_normal, thenK_ret, thenK_exit, blockK_normal, blockK_ret, blockK_exit, scopeK_normal, scopeK_ret, scopeK_exit, wpH_pure, bin_add, bin_sub, bin_mul, bin_lss, bin_leq, bin_gtr, bin_geq, bin_quo, bin_rem, bin_quop, bin_remp, wrap_in, bin_addp, bin_subp, bin_mulp, bin_lssp, bin_leqp, bin_gtrp, bin_geqp, un_not, un_notp, un_neg, eq_int, ne_int, eq_intp, ne_intp, callV_fn, add_mk, upd_eq, upd_ne, cell_set_self, Nat.zero_add, Nat.add_zero, Option.some.injEq, exists_eq_left', List.getElem?_cons_succ, List.getElem?_cons_zero, true_and, and_true, bne_self_eq_false, beq_self_eq_true, Bool.not_true, Bool.not_false, Bool.and_true, Bool.and_self, Bool.and_false, Bool.true_and, List.length_cons, List.length_nil, ne_eq, not_false_eq_true, Nat.reduceAdd, Nat.reduceMul, if_true, if_false, oneCell_int, oneCell_bool, oneCell_ptr, oneCell_slice, oneCell_string, oneCell_func, oneCell_map, Int.toNat_natCast, List.set_cons_zero, List.set_cons_succ, Nat.lt_irrefl, Nat.zero_lt_succ, Nat.succ_lt_succ_iff, fa26_0, fa26_0p, fa26_1, fa26_1p, fa26_10, fa26_10p, fa26_11, fa26_11p, fa26_12, fa26_12p, fa26_13, fa26_13p, fa26_14, fa26_14p, fa26_2, fa26_2p, fa26_3, fa26_3p, fa26_4, fa26_4p, fa26_5, fa26_5p, fa26_6, fa26_6p, fa26_7, fa26_7p, fa26_8, fa26_8p, fa26_9, fa26_9p, fa28_0, fa28_0p, fa28_1, fa28_1p, fa30_0, fa30_0p, fa30_1, fa30_1p, fa46_0, fa46_0p, fa46_1, fa46_1p, fa46_2, fa46_2p, fa46_3, fa46_3p, fa46_4, fa46_4p, fa46_5, fa46_5p, fa46_6, fa46_6p, fa86_0, fa86_0p, fa86_1, fa86_1p, fa86_2, fa86_2p, fa95_0, fa95_0p, fa95_1, fa95_1p, ld3, ld3p, ld4, ld4p, ld22, ld22p, ld23, ld23p, ld24, ld24p, ld26, ld26p, ld28, ld28p, ld30, ld30p, ld31, ld31p, ld46, ld46p, ld47, ld47p, ld52, ld52p, ld55, ld55p, ld57, ld57p, ld95, ld95p, st3s, st4s, st22s, st23s, st24s, st26w, st28w, st30w, st46w, st47s, st55s, st95w, ix22, ix22p, ix23, ix23p, ix24, ix24p, ix47, ix47p, ix56, ix56p, ix57, ix57p, ix101, ix101p, ln22, ln22p, ln23, ln23p, ln24, ln24p, ln47, ln47p, ln56, ln56p, ln57, ln57p, al22, al26, al28, al30, al46, al47, al95, cf14, cf15, cf16, cf17, cf18, cf19, cf20, cf21, cf22, cf23, cf24, cf25, cf26, cf27, cf28, cf29, cf30, cf31, cf32, cf33, cf34, cf35, cf36, cf37, cf38, cf39, cf40, cf41, cf42, cf43, cf44, cf45, cf46, cf47, cf48, cf49, cf50, cf51, cf52, cf53, cf54, cf55, cf56, cf57, cf58, cf59, cf60, cf61, cf62, cf63, cf64, cf65, cf66, cf67, cf68, cf69, cf70, cf71, cf72, cf73, cf74, cf75, cf76, cf77, cf78, cf79, cf80, bd26_0_1_2_7_8_9_10_11_12_13_14, bd26_0_1_2_7_8_9_10_11_12_13_14p, bd28_0, bd28_0p, bd28_0_1, bd28_0_1p, bd30_, bd30_p, bd30_0_1, bd30_0_1p, bd30_0, bd30_0p, bd46_0_1_2_3_4, bd46_0_1_2_3_4p, bd46_0_3_4, bd46_0_3_4p, bd86_0_1_2, bd86_0_1_2p, bd87_0_1_2_3, bd87_0_1_2_3p, bd95_0_1, bd95_0_1p, bs22_2_0_1, bs47_1_0, bs22_1_0, bs57_6_0_1_2_3_4_5, bs24_1_0, bs22_4_0_1_2_3, bs56_11_0_1_2_3_4_5_6_7_8_9_10, bs57_11_0_1_2_3_4_5_6_7_8_9_10, eq4, eq4p, eq28, eq28p, eq30, eq30p, eq31n, eq31np, eq31s, eq31sp, eq46, eq46p, eq50n, eq50np, eq50s, eq50sp, eq67n, eq67np, eq67s, eq67sp, ne4, ne4p, ne28, ne28p, ne30, ne30p, ne31n, ne31np, ne31s, ne31sp, ne46, ne46p]
  rw [store1_eq sz22 rfl hx5 (by simp)]
  have s6 : Sep [noHp, noHp.set x (confO C (.slice sb C.bl.length cpb) (.slice sp C.po.length cpp) (.slice ar C.ro.length cr) (.slice az C.st.length cs)), pp, pb, noHp.set y (confO ⟨0, 0, 0, [], [], [], [], 0, 0, 0, 0, 0, 0, 0, 0, false⟩ nilV nilV nilV nilV), h] (h5.set x (confO C (.slice sb C.bl.length cpb) (.slice sp C.po.length cpp) (.slice ar C.ro.length cr) (.slice az C.st.length cs))) := by
    have := (s5.pick 1 rfl rfl).put (o := confO C (.slice sb C.bl.length cpb) (.slice sp C.po.length cpp) (.slice ar C.ro.length cr) (.slice az C.st.length cs)) set_self
    rw [set_set] at this
    exact this.none
  have d6 : Dis G (h5.set x (confO C (.slice sb C.bl.length cpb) (.slice sp C.po.length cpp) (.slice ar C.ro.length cr) (.slice az C.st.length cs))) := d5.set gx
  try simp -implicitDefEqProofs (maxSteps := 2000000) (disch := first | with_reducible exact Nat.ne_of_beq_eq_false rfl | exact oneCell_int | exact oneCell_bool | omega | rfl | (simp; done) | fail) only [List.nil_append, List.set_cons_succ, List.set_cons_zero, cell_set_self, List.getElem?_cons_succ, List.getElem?_cons_zero, Option.some.injEq, exists_eq_left']
  generalize Hp.set h5 x _ = h6 at s6 d6 ⊢
  refine append_big poseC (by decide) un23 eopose (by decide) s6 d6 Slc.nil (ca.up (s6.in 5 rfl) d6).ro (by simpa [Room] using fit.ro) fun vr pr h7 or s7 d7 => ?_
  obtain ⟨sr, cpr, rfl, _⟩ := or.len (by decide)
  rw [List.nil_append] at or
  have hx7 := s7.at 1 rfl set_self
  try simp -implicitDefEqProofs (maxSteps := 2000000) (disch := first | with_reducible exact Nat.ne_of_beq_eq_false rfl | exact oneCell_int | exact oneCell_bool | omega | rfl | (simp; done) | fail) only [opH_sv, opH_su, pureW_sv, opH_nil, pureW_nil, pick_t, pick_f, pick_tp, pick_fp, gd_tt, gd_ft, gd_tf, gd_ff, box_new, regs0, regs1, regs2, regs3, regs4, regs5, regs6, cells_agg, cells_int, cells_bool, cells_ptr, cells_slice, cells_string, cells_func, cells_nilFunc, cells_map, retK_ret, retK_normal, resL_tmp, resL_cell, resL_nil0, resL_nil1, resL_nil2, resL_nil3, resC_ptr, ex0, ex1, ex2, ex0p, ex1p, ex2p, HL.cond_true, HL.cond_false, thenK_normal, thenK_ret, thenK_exit, blockK_normal, blockK_ret, blockK_exit, scopeK_normal, scopeK_ret, scopeK_exit, wpH_pure, bin_add, bin_sub, bin_mul, bin_lss, bin_leq, bin_gtr, bin_geq, bin_quo, bin_rem, bin_quop, bin_remp, wrap_in, bin_addp, bin_subp, bin_mulp, bin_lssp, bin_leqp, bin_gtrp, bin_geqp, un_not, un_notp, un_neg, eq_int, ne_int, eq_intp, ne_intp, callV_fn, add_mk, upd_eq, upd_ne, cell_set_self, Nat.zero_add, Nat.add_zero, Option.some.injEq, exists_eq_left', List.getElem?_cons_succ, List.getElem?_cons_zero, true_and, and_true, bne_self_eq_false, beq_self_eq_true, Bool.not_true, Bool.not_false, Bool.and_true, Bool.and_self, Bool.and_false, Bool.true_and, List.length_cons, List.length_nil, ne_eq, not_false_eq_true, Nat.reduceAdd, Nat.reduceMul, if_true, if_false, oneCell_int, oneCell_bool, oneCell_ptr, oneCell_slice, oneCell_string, oneCell_func, oneCell_map, Int.toNat_natCast, List.set_cons_zero, List.set_cons_succ, Nat.lt_irrefl, Nat.zero_lt_succ, Nat.succ_lt_succ_iff, fa26_0, fa26_0p, fa26_1, fa26_1p, fa26_10, fa26_10p, fa26_11, fa26_11p, fa26_12, fa26_12p, fa26_13, fa26_13p, fa26_14, fa26_14p, fa26_2, fa26_2p, fa26_3, fa26_3p, fa26_4, fa26_4p, fa26_5, fa26_5p, fa26_6, fa26_6p, fa26_7, fa26_7p, fa26_8, fa26_8p, fa26_9, fa26_9p, fa28_0, fa28_0p, fa28_1, fa28_1p, fa30_0, fa30_0p, fa30_1, fa30_1p, fa46_0, fa46_0p, fa46_1, fa46_1p, fa46_2, fa46_2p, fa46_3, fa46_3p, fa46_4, fa46_4p, fa46_5, fa46_5p, fa46_6, fa46_6p, fa86_0, fa86_0p, fa86_1, fa86_1p, fa86_2, fa86_2p, fa95_0, fa95_0p, fa95_1, fa95_1p, ld3, ld3p, ld4, ld4p, ld22, ld22p, ld23, ld23p, ld24, ld24p, ld26, ld26p, ld28, ld28p, ld30, ld30p, ld31, ld31p, ld46, ld46p, ld47, ld47p, ld52, ld52p, ld55, ld55p, ld57, ld57p, ld95, ld95p, st3s, st4s, st22s, st23s, st24s, st26w, st28w, st30w, st46w, st47s, st55s, st95w, ix22, ix22p, ix23, ix23p, ix24, ix24p, ix47, ix47p, ix56, ix56p, ix57, ix57p, ix101, ix101p, ln22, ln22p, ln23, ln23p, ln24, ln24p, ln47, ln47p, ln56, ln56p, ln57, ln57p, al22, al26, al28, al30, al46, al47, al95, cf14, cf15, cf16, cf17, cf18, cf19, cf20, cf21, cf22, cf23, cf24, cf25, cf26, cf27, cf28, cf29, cf30, cf31, cf32, cf33, cf34, cf35, cf36, cf37, cf38, cf39, cf40, cf41, cf42, cf43, cf44, cf45, cf46, cf47, cf48, cf49, cf50, cf51, cf52, cf53, cf54, cf55, cf56, cf57, cf58, cf59, cf60, cf61, cf62, cf63, cf64, cf65, cf66, cf67, cf68, cf69, cf70, cf71, cf72, cf73, cf74, cf75, cf76, cf77, cf78, cf79, cf80, bd26_0_1_2_7_8_9_10_11_12_13_14, bd26_0_1_2_7_8_9_10_11_12_13_14p, bd28_0, bd28_0p, bd28_0_1, bd28_0_1p, bd30_, bd30_p, bd30_0_1, bd30_0_1p, bd30_0, bd30_0p, bd46_0_1_2_3_4, bd46_0_1_2_3_4p, bd46_0_3_4, bd46_0_3_4p, bd86_0_1_2, bd86_0_1_2p, bd87_0_1_2_3, bd87_0_1_2_3p, bd95_0_1, bd95_0_1p, bs22_2_0_1, bs47_1_0, bs22_1_0, bs57_6_0_1_2_3_4_5, bs24_1_0, bs22_4_0_1_2_3, bs56_11_0_1_2_3_4_5_6_7_8_9_10, bs57_11_0_1_2_3_4_5_6_7_8_9_10, eq4, eq4p, eq28, eq28p, eq30, eq30p, eq31n, eq31np, eq31s, eq31sp, eq46, eq46p, eq50n, eq50np, eq50s, eq50sp, eq67n, eq67np, eq67s, eq67sp, ne4, ne4p, ne28, ne28p, ne30, ne30p, ne31n, ne31np, ne31s, ne31sp, ne46, ne46p]
  rw [store1_eq sz23 rfl hx7 (by simp)]
  have s8 : Sep [noHp.set x (confO C (.slice sb C.bl.length cpb) (.slice sp C.po.length cpp) (.slice sr C.ro.length cpr) (.slice az C.st.length cs)), pr, pp, pb, noHp.set y (confO ⟨0, 0, 0, [], [], [], [], 0, 0, 0, 0, 0, 0, 0, 0, false⟩ nilV nilV nilV nilV), h] (h7.set x (confO C (.slice sb C.bl.length cpb) (.slice sp C.po.length cpp) (.slice sr C.ro.length cpr) (.slice az C.st.length cs))) := by
    have := (s7.pick 1 rfl rfl).put (o := confO C (.slice sb C.bl.length cpb) (.slice sp C.po.length cpp) (.slice sr C.ro.length cpr) (.slice az C.st.length cs)) set_self
    rw [set_set] at this
    exact this
  have d8 : Dis G (h7.set x (confO C (.slice sb C.bl.length cpb) (.slice sp C.po.length cpp) (.slice sr C.ro.length cpr) (.slice az C.st.length cs))) := d7.set gx
  try simp -implicitDefEqProofs (maxSteps := 2000000) (disch := first | with_reducible exact Nat.ne_of_beq_eq_false rfl | exact oneCell_int | exact oneCell_bool | omega | rfl | (simp; done) | fail) only [List.nil_append, List.set_cons_succ, List.set_cons_zero, cell_set_self, List.getElem?_cons_succ, List.getElem?_cons_zero, Option.some.injEq, exists_eq_left']
  generalize Hp.set h7 x _ = h8 at s8 d8 ⊢
  refine (copystacks_spec (ca.up (s8.in 5 rfl) d8) fit.st fit.bins).mono ?_
  rintro vz h9 ⟨pz, oz, s9, d9⟩
  have s9' : Sep [pz, noHp.set x (confO C (.slice sb C.bl.length cpb) (.slice sp C.po.length cpp) (.slice sr C.ro.length cpr) (.slice az C.st.length cs)), pr, pp, pb, noHp.set y (confO ⟨0, 0, 0, [], [], [], [], 0, 0, 0, 0, 0, 0, 0, 0, false⟩ nilV nilV nilV nilV), h] h9 := by
    have := s9.split s8
    simpa using this
  obtain ⟨sz, cpz, rfl⟩ : ∃ sz cpz, vz = .slice sz C.st.length cpz := by
    obtain ⟨raws, _, _, o, _, e, _⟩ := oz
    obtain ⟨a, b, e2, _⟩ := o.len (by decide)
    exact ⟨a, b, by rw [e2, e]⟩
  have hx9 := s9'.at 1 rfl set_self
  try simp -implicitDefEqProofs (maxSteps := 2000000) (disch := first | with_reducible exact Nat.ne_of_beq_eq_false rfl | exact oneCell_int | exact oneCell_bool | omega | rfl | (simp; done) | fail) only [opH_sv, opH_su, pureW_sv, opH_nil, pureW_nil, pick_t, pick_f, pick_tp, pick_fp, gd_tt, gd_ft, gd_tf, gd_ff, box_new, regs0, regs1, regs2, regs3, regs4, regs5, regs6, cells_agg, cells_int, cells_bool, cells_ptr, cells_slice, cells_string, cells_func, cells_nilFunc, cells_map, retK_ret, retK_normal, resL_tmp, resL_cell, resL_nil0, resL_nil1, resL_nil2, resL_nil3, resC_ptr, ex0, ex1, ex2, ex0p, ex1p, ex2p, HL.cond_true, HL.cond_false, thenK_normal, thenK_ret, thenK_exit, blockK_normal, blockK_ret, blockK_exit, scopeK_normal, scopeK_ret, scopeK_exit, wpH_pure, bin_add, bin_sub, bin_mul, bin_lss, bin_leq, bin_gtr, bin_geq, bin_quo, bin_rem, bin_quop, bin_remp, wrap_in, bin_addp, bin_subp, bin_mulp, bin_lssp, bin_leqp, bin_gtrp, bin_geqp, un_not, un_notp, un_neg, eq_int, ne_int, eq_intp, ne_intp, callV_fn, add_mk, upd_eq, upd_ne, cell_set_self, Nat.zero_add, Nat.add_zero, Option.some.injEq, exists_eq_left', List.getElem?_cons_succ, List.getElem?_cons_zero, true_and, and_true, bne_self_eq_false, beq_self_eq_true, Bool.not_true, Bool.not_false, Bool.and_true, Bool.and_self, Bool.and_false, Bool.true_and, List.length_cons, List.length_nil, ne_eq, not_false_eq_true, Nat.reduceAdd, Nat.reduceMul, if_true, if_false, oneCell_int, oneCell_bool, oneCell_ptr, oneCell_slice, oneCell_string, oneCell_func, oneCell_map, Int.toNat_natCast, List.set_cons_zero, List.set_cons_succ, Nat.lt_irrefl, Nat.zero_lt_succ, Nat.succ_lt_succ_iff, fa26_0, fa26_0p, fa26_1, fa26_1p, fa26_10, fa26_10p, fa26_11, fa26_11p, fa26_12, fa26_12p, fa26_13, fa26_13p, fa26_14, fa26_14p, fa26_2, fa26_2p, fa26_3, fa26_3p, fa26_4, fa26_4p, fa26_5, fa26_5p, fa26_6, fa26_6p, fa26_7, fa26_7p, fa26_8, fa26_8p, fa26_9, fa26_9p, fa28_0, fa28_0p, fa28_1, fa28_1p, fa30_0, fa30_0p, fa30_1, fa30_1p, fa46_0, fa46_0p, fa46_1, fa46_1p, fa46_2, fa46_2p, fa46_3, fa46_3p, fa46_4, fa46_4p, fa46_5, fa46_5p, fa46_6, fa46_6p, fa86_0, fa86_0p, fa86_1, fa86_1p, fa86_2, fa86_2p, fa95_0, fa95_0p, fa95_1, fa95_1p, ld3, ld3p, ld4, ld4p, ld22, ld22p, ld23, ld23p, ld24, ld24p, ld26, ld26p, ld28, ld28p, ld30, ld30p, ld31, ld31p, ld46, ld46p, ld47, ld47p, ld52, ld52p, ld55, ld55p, ld57, ld57p, ld95, ld95p, st3s, st4s, st22s, st23s, st24s, st26w, st28w, st30w, st46w, st47s, st55s, st95w, ix22, ix22p, ix23, ix23p, ix24, ix24p, ix47, ix47p, ix56, ix56p, ix57, ix57p, ix101, ix101p, ln22, ln22p, ln23, ln23p, ln24, ln24p, ln47, ln47p, ln56, ln56p, ln57, ln57p, al22, al26, al28, al30, al46, al47, al95, cf14, cf15, cf16, cf17, cf18, cf19, cf20, cf21, cf22, cf23, cf24, cf25, cf26, cf27, cf28, cf29, cf30, cf31, cf32, cf33, cf34, cf35, cf36, cf37, cf38, cf39, cf40, cf41, cf42, cf43, cf44, cf45, cf46, cf47, cf48, cf49, cf50, cf51, cf52, cf53, cf54, cf55, cf56, cf57, cf58, cf59, cf60, cf61, cf62, cf63, cf64, cf65, cf66, cf67, cf68, cf69, cf70, cf71, cf72, cf73, cf74, cf75, cf76, cf77, cf78, cf79, cf80, bd26_0_1_2_7_8_9_10_11_12_13_14, bd26_0_1_2_7_8_9_10_11_12_13_14p, bd28_0, bd28_0p, bd28_0_1, bd28_0_1p, bd30_, bd30_p, bd30_0_1, bd30_0_1p, bd30_0, bd30_0p, bd46_0_1_2_3_4, bd46_0_1_2_3_4p, bd46_0_3_4, bd46_0_3_4p, bd86_0_1_2, bd86_0_1_2p, bd87_0_1_2_3, bd87_0_1_2_3p, bd95_0_1, bd95_0_1p, bs22_2_0_1, bs47_1_0, bs22_1_0, bs57_6_0_1_2_3_4_5, bs24_1_0, bs22_4_0_1_2_3, bs56_11_0_1_2_3_4_5_6_7_8_9_10, bs57_11_0_1_2_3_4_5_6_7_8_9_10, eq4, eq4p, eq28, eq28p, eq30, eq30p, eq31n, eq31np, eq31s, eq31sp, eq46, eq46p, eq50n, eq50np, eq50s, eq50sp, eq67n, eq67np, eq67s, eq67sp, ne4, ne4p, ne28, ne28p, ne30, ne30p, ne31n, ne31np, ne31s, ne31sp, ne46, ne46p]
  rw [store1_eq sz24 rfl hx9 (by simp)]
  have s10 : Sep [noHp.set x (confO C (.slice sb C.bl.length cpb) (.slice sp C.po.length cpp) (.slice sr C.ro.length cpr) (.slice sz C.st.length cpz)), pz, pr, pp, pb, noHp.set y (confO ⟨0, 0, 0, [], [], [], [], 0, 0, 0, 0, 0, 0, 0, 0, false⟩ nilV nilV nilV nilV), h] (h9.set x (confO C (.slice sb C.bl.length cpb) (.slice sp C.po.length cpp) (.slice sr C.ro.length cpr) (.slice sz C.st.length cpz))) := by
    have := (s9'.pick 1 rfl rfl).put (o := confO C (.slice sb C.bl.length cpb) (.slice sp C.po.length cpp) (.slice sr C.ro.length cpr) (.slice sz C.st.length cpz)) set_self
    rw [set_set] at this
    exact this
  have d10 : Dis G (h9.set x (confO C (.slice sb C.bl.length cpb) (.slice sp C.po.length cpp) (.slice sr C.ro.length cpr) (.slice sz C.st.length cpz))) := d9.set gx
  try simp -implicitDefEqProofs (maxSteps := 2000000) (disch := first | with_reducible exact Nat.ne_of_beq_eq_false rfl | exact oneCell_int | exact oneCell_bool | omega | rfl | (simp; done) | fail) only [List.set_cons_succ, List.set_cons_zero, cell_set_self, List.getElem?_cons_zero, Option.some.injEq, List.getElem?_cons_succ, exists_eq_left']
  generalize Hp.set h9 x _ = h10 at s10 d10 ⊢
  have hy10 := s10.at 5 rfl set_self
  rw [store26 hy10]
  try simp -implicitDefEqProofs (maxSteps := 2000000) (disch := first | with_reducible exact Nat.ne_of_beq_eq_false rfl | exact oneCell_int | exact oneCell_bool | omega | rfl | (simp; done) | fail) only [cell_set_self, List.getElem?_cons_zero, Option.some.injEq, List.getElem?_cons_succ, exists_eq_left']
  refine ⟨⟨pb, pp, pr, pz, _, _, _, _, rfl, ob, op, or, oz, ?_⟩, d10.set gy⟩
  have s11 := ((s10.pick 5 rfl rfl).put (o := confO C (.slice sb C.bl.length cpb) (.slice sp C.po.length cpp) (.slice sr C.ro.length cpr) (.slice sz C.st.length cpz)) set_self).drop.drop
  have s12 : Sep [pz, pr, pp, pb, h] _ := s11
  exact ((s12.pick 1 rfl rfl).pick 2 rfl rfl).pick 3 rfl rfl

theorem StkO.len {pz : Hp} {v : Value} {st : List (Cell × List Int)} (o : StkO pz v st) : ∃ sz cpz, v = .slice sz st.length cpz := by
  obtain ⟨raws, _, _, o, _, e, _⟩ := o
  obtain ⟨a, b, e2, _⟩ := o.len (by decide)
  exact ⟨a, b, by rw [e2, e]⟩

/-- The copy, seen. -/
theorem CO.cv {G h h' h2 pb pp pr pz : Hp} {C : Conf} {u vb vp vr vz : Value} (c : CO h C u h' pb pp pr pz vb vp vr vz) (l : h'.le h2) : CV G h2 u C := by
  obtain ⟨rfl, ob, op, or, oz, s⟩ := c
  obtain ⟨sb, cb, rfl, _⟩ := ob.len (by decide)
  obtain ⟨sp, cp, rfl, _⟩ := op.len (by decide)
  obtain ⟨sr, cr, rfl, _⟩ := or.len (by decide)
  obtain ⟨sz, cz, rfl⟩ := oz.len
  refine ⟨sb, cb, sp, cp, sr, cr, sz, cz, rfl, ob.sees (by decide) ((s.in 0 rfl).trans l), op.sees (by decide) ((s.in 1 rfl).trans l), or.sees (by decide) ((s.in 2 rfl).trans l), ?_⟩
  obtain ⟨raws, pr', pb', o, t, e, rel⟩ := oz
  refine ⟨raws, o.sees (by decide) (((t.in 0 rfl).trans (s.in 3 rfl)).trans l), fun i r x h1 h2 => ?_⟩
  obtain ⟨a, b, c⟩ := rel i r x h1 h2
  exact ⟨a, b, c.sees (by decide) (((t.in 1 rfl).trans (s.in 3 rfl)).trans l)⟩

end Go.Proofs.YtnpdploihlgcgaaDoor
end
