/- Texts of the proof, one behind the other. -/
import Derived.Test.YtangejiigopdaaaDoorM5
import Derived.Test.YtangejiigopdaaaDoorH4
section
/- A bin found: the walk. -/
set_option linter.unusedSimpArgs false
set_option linter.unusedVariables false
set_option maxRecDepth 100000
namespace Go.Proofs.YtangejiigopdaaaDoor
open Go Go.HL

theorem feed_find {S : List Stk} {bin : Int} : ∀ {M L : List Cell}, (findIn S bin M = none ∧ feed (goesOn S bin) L M = (L ++ M, true)) ∨ (∃ c N, findIn S bin M = some (c, aboveL (binsL S c) bin) ∧ feed (goesOn S bin) L M = (N, false) ∧ N.getLast? = some c)
  | [], L => .inl ⟨rfl, by simp [feed]⟩
  | c :: M, L => by
    have hl : (L ++ [c]).getLast? = some c := by simp
    by_cases hb : bin ∈ binsL S c
    · have hg : goesOn S bin (L ++ [c]) = false := by unfold goesOn; rw [hl]; exact decide_eq_false (by simpa using hb)
      exact .inr ⟨c, L ++ [c], by rw [findIn, if_pos hb], feed_f hg, hl⟩
    · have hg : goesOn S bin (L ++ [c]) = true := by unfold goesOn; rw [hl]; exact decide_eq_true hb
      rw [findIn, if_neg hb, feed_t hg]
      rcases feed_find (M := M) (L := L ++ [c]) with ⟨h1, h2⟩ | h
      · exact .inl ⟨h1, by rw [h2]; simp⟩
      · exact .inr h

set_option maxHeartbeats 4000000 in
theorem find_in {G h ya ga w : Hp} {yp gp kb mb wn k : Nat} {f : Nat → Nat → Int} {ht bin : Int} {hv : Cell → Int} {is : Cell → Bool} {S : List Stk} {sv tv : Value} (s : HL.Sep [ya, ga, w] h) (yo : YardO ya yp gp mb ht tv hv is) (go : GO ga gp kb wn k f) (hss : ∀ G, StS G w sv S) (hS : S.length ≤ 100000000000000) (hB : ∀ s ∈ S, s.2.length ≤ 17592186044320) :
    HCalls Tryd.prog G 35 #[.pointer (some ⟨yp, 0, none⟩), sv, .int .i64 bin] h (fun u h' => Dis G h' ∧ ((findIn S bin (stacksW wn k f) = none ∧ u = .tuple #[cellV (0, 0), .slice none 0 0, .bool false] ∧ HL.Sep [ya, ga, w] h') ∨
      (∃ c io vv, findIn S bin (stacksW wn k f) = some (c, aboveL (binsL S c) bin) ∧ bin ∈ binsL S c ∧ u = .tuple #[cellV c, vv, .bool true] ∧ Slc icC 3 io vv (aboveL (binsL S c) bin) ∧ HL.Sep [io, ya, ga, w] h'))) := by
  obtain ⟨sa, sc, rfl, _⟩ := hss G
  refine HCalls.assume fun d => enter35 (by simp) ?_
  unfold S35
  simp -implicitDefEqProofs only [regs1, regs2, regs0, cf30, opH_sv, opH_nil, fa74_1, add_mk, Nat.zero_add, ld58, al4, al42, al28, box_new, cells_int, cells_slice]
  intro v0 hv0 gv0 v1 hv1 gv1 x6 hx6 gx6 x7 hx7 gx7 x8 hx8 gx8
  have s1 := s.new (o := svO (.slice sa S.length sc)) hv0
  have d1 := d.set (o := svO (.slice sa S.length sc)) gv0
  generalize Hp.set h v0 _ = h1 at s1 d1 hv1 hx6 hx7 hx8 ⊢
  have s2 := s1.new (o := inO bin) hv1
  have d2 := d1.set (o := inO bin) gv1
  generalize Hp.set h1 v1 _ = h2 at s2 d2 hx6 hx7 hx8 ⊢
  have s3 := s2.new (o := cellO (0, 0)) hx6
  have d3 := d2.set (o := cellO (0, 0)) gx6
  generalize Hp.set h2 x6 _ = h3 at s3 d3 hx7 hx8 ⊢
  have s4 := s3.new (o := ivO (.slice none 0 0)) hx7
  have d4 := d3.set (o := ivO (.slice none 0 0)) gx7
  generalize Hp.set h3 x7 _ = h4 at s4 d4 hx8 ⊢
  have s5 := s4.new (o := boolO false) hx8
  have d5 := d4.set (o := boolO false) gx8
  generalize Hp.set h4 x8 _ = h5 at s5 d5 ⊢
  have s8 : HL.Sep [noHp.set x8 (boolO false), noHp.set x7 (ivO (.slice none 0 0)), noHp.set x6 (cellO (0, 0)), noHp.set v1 (inO bin), noHp.set v0 (svO (.slice sa S.length sc)), ya, ga, w] h5 := s5
  clear s5 s4 s3 s2 s1 d4 d3 d2 d1 hx8 hx7 hx6 hv1 hv0
  obtain ⟨om, C, ab, cb, ap, cp, ar, cr, az, cs, ty, mi⟩ := id yo
  have cyp : ∀ j, cellIn G h5 ⟨yp, j, none⟩ = _ := fun j => cell_of (look_own (s8.in 5 rfl _ _ (ty.at 0 rfl set_self)))
  try simp -implicitDefEqProofs only [cyp, List.getElem?_cons_succ, List.getElem?_cons_zero, Option.some.injEq, exists_eq_left']
  refine stacks_new.mono ?_
  rintro _ _ ⟨b1, rfl, hb1, gb1, rfl⟩
  have s9 := s8.new (o := .cells #[.pointer (some ⟨gp, 0, none⟩)] 58 (0, 0)) hb1
  have d9 := d5.set (o := .cells #[.pointer (some ⟨gp, 0, none⟩)] 58 (0, 0)) gb1
  generalize Hp.set h5 b1 _ = h9 at s9 d9 ⊢
  intro y' l o hl gl ho HY
  rw [opE55]
  have s10 := s9.new (o := o none) hl
  have d10 := d9.set (o := o none) gl
  generalize Hp.set h9 l _ = h10 at s10 d10 ⊢
  -- [l, b1, x8, x7, x6, v1, v0, ya, ga, w]
  have s11 := (((((((((s10.pick 5 rfl rfl).pick 6 rfl rfl).pick 9 rfl rfl).pick 5 rfl rfl).pick 6 rfl rfl).pick 7 rfl rfl).pick 6 rfl rfl).pick 8 rfl rfl).pick 8 rfl rfl).pick 9 rfl rfl
  have s12 : HL.Sep (ga :: noHp.set b1 (.cells #[.pointer (some ⟨gp, 0, none⟩)] 58 (0, 0)) :: ya :: FYs w l x6 x7 x8 v0 v1 (o none) (.slice sa S.length sc) bin (0, 0) (.slice none 0 0) false) h10 := s11
  obtain ⟨qq, s13, tq⟩ := s12.pack3
  obtain ⟨aa, s14, ta⟩ := packAll (permute s13 (List.perm_append_comm (l₁ := [qq])))
  refine (stacks1_spec (find_yield gl ho hss hS hB (by simp -implicitDefEqProofs (disch := first | with_reducible exact Nat.ne_of_beq_eq_false rfl | omega) only [upd_ne, upd_eq]) (by simp -implicitDefEqProofs (disch := first | with_reducible exact Nat.ne_of_beq_eq_false rfl | omega) only [upd_ne, upd_eq]) (by simp -implicitDefEqProofs (disch := first | with_reducible exact Nat.ne_of_beq_eq_false rfl | omega) only [upd_ne, upd_eq]) (by simp -implicitDefEqProofs (disch := first | with_reducible exact Nat.ne_of_beq_eq_false rfl | omega) only [upd_ne, upd_eq]) (by simp -implicitDefEqProofs (disch := first | with_reducible exact Nat.ne_of_beq_eq_false rfl | omega) only [upd_ne, upd_eq]) HY) (show FY w l x6 x7 x8 v0 v1 (o none) (.slice sa S.length sc) bin [] aa from ta) s14 (tq.at 1 rfl set_self) ((go.gs (G := G)).up (tq.in 0 rfl) (fun b o e => d10 b o (s14.in 1 rfl _ _ e)))).mono ?_
  rintro _ h12 ⟨a12, s15, d15, z⟩
  rcases feed_find (S := S) (bin := bin) (M := stacksW wn k f) (L := []) with ⟨e1, e2⟩ | ⟨c, N, e1, e2, e3⟩
  · rw [e2] at z
    have z' : HL.Sep (FYs w l x6 x7 x8 v0 v1 (o none) (.slice sa S.length sc) bin (0, 0) (.slice none 0 0) false) a12 := z
    have s16 := HL.Sep.split s15.swap z'
    have s17 := HL.Sep.split (s16.swap) tq
    have s18 : HL.Sep ([ga, noHp.set b1 (.cells #[.pointer (some ⟨gp, 0, none⟩)] 58 (0, 0)), ya, noHp.set x6 (cellO (0, 0)), noHp.set x7 (ivO (.slice none 0 0)), noHp.set x8 (boolO false), w, noHp.set v0 (svO (.slice sa S.length sc)), noHp.set v1 (inO bin)] ++ [noHp.set l (o none)]) h12 := permute s17 (List.perm_append_comm (l₁ := [noHp.set l (o none)]))
    obtain ⟨a20, s20, t20⟩ := packAll s18
    refine ⟨a20, s20.in 0 rfl, ?_, .inl ⟨s20.at 1 rfl set_self, ?_⟩⟩
    · rcases s20.apart (b := noHp.set l (o none)) (by simp) l with e | e
      · exact e
      · rw [set_self] at e; cases e
    have d20 : Dis G a20 := fun b o e => d15 b o (s20.in 0 rfl _ _ e)
    try simp -implicitDefEqProofs only [blockK_normal, thenK_normal]
    unfold S35_k1
    try simp -implicitDefEqProofs (disch := first | with_reducible exact Nat.ne_of_beq_eq_false rfl | omega) only [upd_ne, upd_eq, retK_ret, resL_cell, resC_ptr, resL_nil3, ld4, ld42, ld28, add_mk, Nat.add_zero, Nat.zero_add, opH_su, opH_sv, bd28_]
    rw [st_cell (m := (0, 0)) (t20.at 3 rfl set_self)]
    have t21 := (t20.pick 3 rfl rfl).put (o := cellO (0, 0)) set_self
    rw [set_set] at t21
    have d21 := d20.set (o := cellO (0, 0)) (d20 _ _ (t20.at 3 rfl set_self))
    generalize Hp.set a20 x6 _ = h21 at t21 d21 ⊢
    rw [st_iv (t21.at 4 rfl set_self)]
    have t22 := (t21.pick 4 rfl rfl).put (o := ivO (.slice none 0 0)) set_self
    rw [set_set] at t22
    have d22 := d21.set (o := ivO (.slice none 0 0)) (d21 _ _ (t21.at 4 rfl set_self))
    generalize Hp.set h21 x7 _ = h22 at t22 d22 ⊢
    rw [st_bool (t22.at 5 rfl set_self)]
    have t23 := (t22.pick 5 rfl rfl).put (o := boolO false) set_self
    rw [set_set] at t23
    have d23 := d22.set (o := boolO false) (d22 _ _ (t22.at 5 rfl set_self))
    generalize Hp.set h22 x8 _ = h23 at t23 d23 ⊢
    -- [x8, x7, x6, ga, b1, ya, w, v0, v1]
    have q8 : ∀ j, cellIn G h23 ⟨x8, j, none⟩ = _ := fun j => cell_of (look_own (t23.at 0 rfl set_self))
    have q7 : ∀ j, cellIn G h23 ⟨x7, j, none⟩ = _ := fun j => cell_of (look_own (t23.at 1 rfl set_self))
    have q6 : ∀ j, cellIn G h23 ⟨x6, j, none⟩ = _ := fun j => cell_of (look_own (t23.at 2 rfl set_self))
    try simp -implicitDefEqProofs only [q6, List.getElem?_cons_zero, Option.some.injEq, List.getElem?_cons_succ, q7, q8, exists_eq_left', true_and]
    exact ⟨d23, .inl ⟨e1, (((t23.pick 6 rfl rfl).pick 4 rfl rfl).pick 6 rfl rfl).take 3 rfl⟩⟩
  · rw [e2] at z
    have z' : FZ w l x6 x7 x8 v0 v1 (o (some .ret)) (.slice sa S.length sc) bin S N a12 := z
    obtain ⟨c', io, vv, hl', hmem, ov, sz⟩ := z'
    rw [e3] at hl'
    cases hl'
    have s16 := HL.Sep.split s15.swap sz
    have s17 := HL.Sep.split (s16.swap) tq
    have s18 : HL.Sep ([ga, noHp.set b1 (.cells #[.pointer (some ⟨gp, 0, none⟩)] 58 (0, 0)), ya, noHp.set x6 (cellO c), noHp.set x7 (ivO vv), noHp.set x8 (boolO true), w, noHp.set v0 (svO (.slice sa S.length sc)), noHp.set v1 (inO bin), io] ++ [noHp.set l (o (some .ret))]) h12 := permute s17 (List.perm_append_comm (l₁ := [noHp.set l (o (some .ret))]))
    obtain ⟨a20, s20, t20⟩ := packAll s18
    refine ⟨a20, s20.in 0 rfl, ?_, .inr ⟨.ret, trivial, s20.at 1 rfl set_self, ?_⟩⟩
    · rcases s20.apart (b := noHp.set l (o (some .ret))) (by simp) l with e | e
      · exact e
      · rw [set_self] at e; cases e
    have d20 : Dis G a20 := fun b o e => d15 b o (s20.in 0 rfl _ _ e)
    have q6 : ∀ j, cellIn G a20 ⟨x6, j, none⟩ = _ := fun j => cell_of (look_own (t20.at 3 rfl set_self))
    have q7 : ∀ j, cellIn G a20 ⟨x7, j, none⟩ = _ := fun j => cell_of (look_own (t20.at 4 rfl set_self))
    have q8 : ∀ j, cellIn G a20 ⟨x8, j, none⟩ = _ := fun j => cell_of (look_own (t20.at 5 rfl set_self))
    try simp -implicitDefEqProofs (disch := first | with_reducible exact Nat.ne_of_beq_eq_false rfl | omega) only [blockK_ret, thenK_ret, retK_ret, resL_cell, upd_ne, upd_eq, resC_ptr, resL_nil3, ld4, ld42, ld28, add_mk, Nat.add_zero, q6, List.getElem?_cons_zero, Option.some.injEq, Nat.zero_add, List.getElem?_cons_succ, q7, q8, exists_eq_left']
    exact ⟨d20, .inr ⟨c, io, vv, e1, hmem, rfl, ov, ((((t20.pick 6 rfl rfl).pick 1 rfl rfl).pick 3 rfl rfl).pick 9 rfl rfl).take 4 rfl⟩⟩

end Go.Proofs.YtangejiigopdaaaDoor
end

section
/- Jobs in a row; the row turned round. -/
set_option linter.unusedSimpArgs false
set_option linter.unusedVariables false
set_option maxRecDepth 100000
namespace Go.Proofs.YtangejiigopdaaaDoor
open Go Go.HL

structure Job where
  id : Int
  kind : Int
  order : Int
  bin : Int
  fx : Int
  fy : Int
  tx : Int
  ty : Int
  robot : Int
def jobL (j : Job) : List Value := [.int .i64 j.id, .int .i64 j.kind, .int .i64 j.order, .int .i64 j.bin, .int .i64 j.fx, .int .i64 j.fy, .int .i64 j.tx, .int .i64 j.ty, .int .i64 j.robot]
def jobC : Cod Job := ⟨9, jobL, fun _ => rfl, fun _ v hv => by simp [jobL] at hv; rcases hv with rfl | rfl | rfl | rfl | rfl | rfl | rfl | rfl | rfl <;> rfl⟩
abbrev jobV (j : Job) : Value := .agg #[.int .i64 j.id, .int .i64 j.kind, .int .i64 j.order, .int .i64 j.bin, .int .i64 j.fx, .int .i64 j.fy, .int .i64 j.tx, .int .i64 j.ty, .int .i64 j.robot]
theorem eojob : ElemOk Tryd.prog 45 jobC.n 72 := eo45
theorem Sees.job {G h : Hp} {sa : Option Addr} {cap n : Nat} {L : List Job} (s : Sees jobC G h (.slice sa n cap) L) {i : Nat} {x : Job} (hx : L[i]? = some x) :
    ∃ b o, sa = some ⟨b, o, none⟩ ∧ cellIn G h ⟨b, o + i * 9, none⟩ = some (.int .i64 x.id) ∧ cellIn G h ⟨b, o + i * 9 + 1, none⟩ = some (.int .i64 x.kind) ∧ cellIn G h ⟨b, o + i * 9 + 2, none⟩ = some (.int .i64 x.order) ∧ cellIn G h ⟨b, o + i * 9 + 3, none⟩ = some (.int .i64 x.bin) ∧
      cellIn G h ⟨b, o + i * 9 + 4, none⟩ = some (.int .i64 x.fx) ∧ cellIn G h ⟨b, o + i * 9 + 5, none⟩ = some (.int .i64 x.fy) ∧ cellIn G h ⟨b, o + i * 9 + 6, none⟩ = some (.int .i64 x.tx) ∧ cellIn G h ⟨b, o + i * 9 + 7, none⟩ = some (.int .i64 x.ty) ∧ cellIn G h ⟨b, o + i * 9 + 8, none⟩ = some (.int .i64 x.robot) := by
  obtain ⟨b, o, c, e1, e2⟩ := s.get hx
  simp only [Value.slice.injEq] at e1
  obtain ⟨rfl, -, -⟩ := e1
  exact ⟨b, o, rfl, e2 0 (by decide), e2 1 (by decide), e2 2 (by decide), e2 3 (by decide), e2 4 (by decide), e2 5 (by decide), e2 6 (by decide), e2 7 (by decide), e2 8 (by decide)⟩

/-- A job stored in a row. -/
theorem st_job {G h : Hp} {b i : Nat} {M : List Job} {t : List Value} {j : Job} {K : Unit → Hp → Prop} (hb : h b = some (.cells (jobC.rows M ++ t).toArray 45 (0, 0))) (hi : i < M.length) :
    wpH Tryd.prog G (Instr.storeAt 45 (.pointer (some ⟨b, i * 9, none⟩)) (jobV j)) h K = K () (h.set b (.cells (jobC.rows (M.set i j) ++ t).toArray 45 (0, 0))) := by
  rw [store_eq (n := 9) sz45 hb rfl (by rw [List.length_append, jobC.rows_length, show jobC.n = 9 from rfl]; omega) (by intro v hv; simp [Value.cells] at hv; rcases hv with rfl | rfl | rfl | rfl | rfl | rfl | rfl | rfl | rfl <;> rfl)]
  have := jobC.rows_put (t := t) (x := j) hi
  rw [← this]
  rfl

set_option maxHeartbeats 4000000 in
theorem revj_spec {G h a : Hp} {R : List Hp} {v : Value} {L : List Job} (s : HL.Sep (a :: R) h) (o : Slc jobC 45 a v L) (hL : L.length ≤ 100000) : HCalls Tryd.prog G 38 #[v] h (fun u h' => ∃ a', Slc jobC 45 a' v L.reverse ∧ HL.Sep (a' :: R) h' ∧ Dis G h') := by
  refine HCalls.assume fun d => enter38 (by simp) ?_
  unfold S38
  obtain ⟨sa, cap, rfl, _⟩ := o.len (by decide)
  simp -implicitDefEqProofs (disch := first | with_reducible exact Nat.ne_of_beq_eq_false rfl | omega) only [regs0, opH_sv, ln31, bin_sub, wrap_in]
  generalize hKK : retK Tryd.prog G _ _ = KK
  refine loop_I (fun m q h3 => ∃ (i : Nat) (a : Hp) (M : List Job), m = L.length - i ∧ 2 * i ≤ L.length + 1 ∧ q 0 = .slice sa L.length cap ∧ q 2 = .int .i64 i ∧ q 3 = .int .i64 ((L.length : Int) - 1 - i) ∧ Slc jobC 45 a (.slice sa L.length cap) M ∧ Flipped L M i ∧ HL.Sep (a :: R) h3 ∧ Dis G h3) ?_
    (m := L.length) ⟨0, a, L, rfl, by omega, by simp -implicitDefEqProofs (maxSteps := 2000000) (disch := first | with_reducible exact Nat.ne_of_beq_eq_false rfl | exact oneCell_int | exact oneCell_bool | omega | rfl | (simp; done) | fail) only [upd_ne, regs0], by simp -implicitDefEqProofs (maxSteps := 2000000) (disch := first | with_reducible exact Nat.ne_of_beq_eq_false rfl | exact oneCell_int | exact oneCell_bool | omega | rfl | (simp; done) | fail) only [upd_ne, upd_eq] <;> rfl, by simp -implicitDefEqProofs (maxSteps := 2000000) (disch := first | with_reducible exact Nat.ne_of_beq_eq_false rfl | exact oneCell_int | exact oneCell_bool | omega | rfl | (simp; done) | fail) only [upd_eq]; simp, o, Flipped.zero, s, d⟩
  clear s o d
  rintro m q h3 ⟨i, a, M, rfl, hi, q0, q2, q3, o, fl, s3, d3⟩ X HX
  unfold S38_l1
  simp -implicitDefEqProofs only [q2, q3, thenK_exit, blockK_exit, if_true, opH_sv, bin_lss]
  refine cond_dec (fun hlt => ?_) (fun hge => ?_)
  rotate_left
  · try simp -implicitDefEqProofs only [opH_sv, opH_su, pureW_sv, opH_nil, pureW_nil, pick_t, pick_f, pick_tp, pick_fp, gd_tt, gd_ft, gd_tf, gd_ff, box_new, regs0, regs1, regs2, regs3, regs4, regs5, regs6, cells_agg, cells_int, cells_bool, cells_ptr, cells_slice, cells_string, cells_func, cells_nilFunc, cells_map, retK_ret, retK_normal, resL_tmp, resL_cell, resL_nil0, resL_nil1, resL_nil2, resL_nil3, resC_ptr, ex0, ex1, ex2, ex0p, ex1p, ex2p, HL.cond_true, HL.cond_false, thenK_normal, thenK_ret, thenK_exit, blockK_normal, blockK_ret, blockK_exit, scopeK_normal, scopeK_ret, scopeK_exit, wpH_pure, bin_add, bin_sub, bin_mul, bin_lss, bin_leq, bin_gtr, bin_geq, bin_quo, bin_rem, bin_quop, bin_remp, wrap_in, bin_addp, bin_subp, bin_mulp, bin_lssp, bin_leqp, bin_gtrp, bin_geqp, un_not, un_notp, un_neg, eq_int, ne_int, eq_intp, ne_intp, callV_fn, add_mk, upd_eq, upd_ne, cell_set_self, Nat.zero_add, Nat.add_zero, Option.some.injEq, exists_eq_left', List.getElem?_cons_succ, List.getElem?_cons_zero, true_and, and_true, bne_self_eq_false, beq_self_eq_true, Bool.not_true, Bool.not_false, Bool.and_true, Bool.and_self, Bool.and_false, Bool.true_and, List.length_cons, List.length_nil, ne_eq, not_false_eq_true, Nat.reduceAdd, Nat.reduceMul, if_true, if_false, oneCell_int, oneCell_bool, oneCell_ptr, oneCell_slice, oneCell_string, oneCell_func, oneCell_map, Int.toNat_natCast, List.set_cons_zero, List.set_cons_succ, Nat.lt_irrefl, Nat.zero_lt_succ, Nat.succ_lt_succ_iff, fa26_0, fa26_0p, fa26_1, fa26_1p, fa26_10, fa26_10p, fa26_11, fa26_11p, fa26_12, fa26_12p, fa26_13, fa26_13p, fa26_14, fa26_14p, fa26_15, fa26_15p, fa26_2, fa26_2p, fa26_3, fa26_3p, fa26_4, fa26_4p, fa26_5, fa26_5p, fa26_6, fa26_6p, fa26_7, fa26_7p, fa26_8, fa26_8p, fa26_9, fa26_9p, fa28_0, fa28_0p, fa28_1, fa28_1p, fa45_0, fa45_0p, fa45_1, fa45_1p, fa45_2, fa45_2p, fa45_3, fa45_3p, fa45_4, fa45_4p, fa45_5, fa45_5p, fa45_6, fa45_6p, fa49_0, fa49_0p, fa49_1, fa49_1p, fa74_0, fa74_0p, fa74_1, fa74_1p, fa74_2, fa74_2p, fa74_3, fa74_3p, fa85_0, fa85_0p, fa85_1, fa85_1p, fa93_0, fa93_0p, fa93_1, fa93_1p, fa93_2, fa93_2p, ld3, ld3p, ld4, ld4p, ld22, ld22p, ld23, ld23p, ld24, ld24p, ld26, ld26p, ld28, ld28p, ld42, ld42p, ld45, ld45p, ld49, ld49p, ld58, ld58p, ld69, ld69p, ld72, ld72p, ld85, ld85p, st3s, st4s, st22s, st23s, st24s, st26w, st28w, st42s, st45w, st49w, st85w, ix22, ix22p, ix23, ix23p, ix24, ix24p, ix31, ix31p, ix42, ix42p, ix104, ix104p, ln22, ln22p, ln23, ln23p, ln24, ln24p, ln31, ln31p, ln42, ln42p, al4, al22, al26, al28, al42, al49, al85, cf10, cf11, cf12, cf13, cf14, cf15, cf16, cf17, cf18, cf19, cf20, cf21, cf22, cf23, cf24, cf25, cf26, cf27, cf28, cf29, cf30, cf31, cf32, cf33, cf34, cf35, cf36, cf37, cf38, cf39, cf40, cf41, cf42, cf43, cf44, cf45, cf46, cf47, cf48, cf49, cf50, cf51, cf52, cf53, cf54, cf55, cf56, cf57, cf58, cf59, cf60, cf61, cf62, cf63, cf64, cf65, cf66, cf67, cf68, cf69, cf70, cf71, cf72, cf73, cf74, cf75, bd26_0_1_2_7_8_9_10_11_12_13_14_4_15, bd26_0_1_2_7_8_9_10_11_12_13_14_4_15p, bd28_, bd28_p, bd28_0, bd28_0p, bd28_0_1, bd28_0_1p, bd45_1_3_4_5_6, bd45_1_3_4_5_6p, bd49_0_1, bd49_0_1p, bd49_1, bd49_1p, bd74_0_1_2_3, bd74_0_1_2_3p, bd85_0, bd85_0p, bd85_0_1, bd85_0_1p, bd93_0_1_2, bd93_0_1_2p, bd94_0_1_2_3, bd94_0_1_2_3p, bs42_1_0, bs22_1_0, bs24_1_0, bs42_3_0_1_2, bs31_1_0, bs22_2_0_1, bs42_6_0_1_2_3_4_5, bs42_0_, eq4, eq4p, eq28, eq28p, eq42n, eq42np, eq42s, eq42sp, eq58n, eq58np, eq58s, eq58sp, eq63n, eq63np, eq63s, eq63sp, ne28, ne28p, ne45, ne45p]
    rw [← hKK]
    try simp -implicitDefEqProofs only [retK_normal, resL_nil0]
    rw [fl.all (by omega)] at o
    exact ⟨a, o, s3, d3⟩
  have hij : 2 * i + 1 < L.length := by omega
  obtain ⟨j, ej⟩ : ∃ j : Nat, j = L.length - 1 - i := ⟨_, rfl⟩
  have ejn : (L.length : Int) - 1 - (i : Int) = (j : Int) := by omega
  rw [ejn] at q3
  have hil : (i : Int) < L.length := by omega
  have hjl : (j : Int) < L.length := by omega
  obtain ⟨x, hx⟩ : ∃ x, M[i]? = some x := ⟨_, List.getElem?_eq_getElem (by rw [fl.1]; omega)⟩
  obtain ⟨y, hy⟩ : ∃ y, M[j]? = some y := ⟨_, List.getElem?_eq_getElem (by rw [fl.1]; omega)⟩
  have sv := o.sees (G := G) (by decide) (s3.in 0 rfl)
  obtain ⟨b, of, rfl, x0, x1, x2, x3, x4, x5, x6, x7, x8⟩ := Sees.job sv hx
  obtain ⟨b', of', e', y0, y1, y2, y3, y4, y5, y6, y7, y8⟩ := Sees.job sv hy
  cases e'
  obtain ⟨ob, o'⟩ := o
  cases ob with
  | none => exact absurd o'.2 (fun e => by rw [e] at hx; simp at hx)
  | some ob =>
  obtain ⟨cap', t, e9, hb, hbl⟩ := o'
  rw [fl.1] at e9
  simp only [Value.slice.injEq, Option.some.injEq, Addr.mk.injEq, and_true, true_and] at e9
  obtain ⟨⟨rfl, rfl⟩, rfl⟩ := e9
  rw [Nat.zero_add] at x0 x1 x2 x3 x4 x5 x6 x7 x8 y0 y1 y2 y3 y4 y5 y6 y7 y8
  have hb3 := s3.at 0 rfl hb
  unfold S38_l1_k2
  simp -implicitDefEqProofs (disch := first | with_reducible exact Nat.ne_of_beq_eq_false rfl | omega) only [upd_ne, q0, q3, q2, opH_su, pureW_sv, ix31p, Int.toNat_natCast, add_mk, Nat.zero_add, ld45p, Nat.add_zero, x0, Option.some.injEq, x1, x2, x3, x4, x5, x6, x7, x8, exists_eq_left', y0, y1, y2, y3, y4, y5, y6, y7, y8]
  rw [st_job (j := y) hb3 (by rw [fl.1]; omega)]
  have s4 := s3.put (o := .cells (jobC.rows (M.set i y) ++ t).toArray 45 (0, 0)) hb
  have d4 := d3.set (o := .cells (jobC.rows (M.set i y) ++ t).toArray 45 (0, 0)) (d3 _ _ hb3)
  generalize Hp.set h3 b _ = h4 at s4 d4 ⊢
  try simp -implicitDefEqProofs only [opH_sv, opH_su, pureW_sv, opH_nil, pureW_nil, pick_t, pick_f, pick_tp, pick_fp, gd_tt, gd_ft, gd_tf, gd_ff, box_new, regs0, regs1, regs2, regs3, regs4, regs5, regs6, cells_agg, cells_int, cells_bool, cells_ptr, cells_slice, cells_string, cells_func, cells_nilFunc, cells_map, retK_ret, retK_normal, resL_tmp, resL_cell, resL_nil0, resL_nil1, resL_nil2, resL_nil3, resC_ptr, ex0, ex1, ex2, ex0p, ex1p, ex2p, HL.cond_true, HL.cond_false, thenK_normal, thenK_ret, thenK_exit, blockK_normal, blockK_ret, blockK_exit, scopeK_normal, scopeK_ret, scopeK_exit, wpH_pure, bin_add, bin_sub, bin_mul, bin_lss, bin_leq, bin_gtr, bin_geq, bin_quo, bin_rem, bin_quop, bin_remp, wrap_in, bin_addp, bin_subp, bin_mulp, bin_lssp, bin_leqp, bin_gtrp, bin_geqp, un_not, un_notp, un_neg, eq_int, ne_int, eq_intp, ne_intp, callV_fn, add_mk, upd_eq, upd_ne, cell_set_self, Nat.zero_add, Nat.add_zero, Option.some.injEq, exists_eq_left', List.getElem?_cons_succ, List.getElem?_cons_zero, true_and, and_true, bne_self_eq_false, beq_self_eq_true, Bool.not_true, Bool.not_false, Bool.and_true, Bool.and_self, Bool.and_false, Bool.true_and, List.length_cons, List.length_nil, ne_eq, not_false_eq_true, Nat.reduceAdd, Nat.reduceMul, if_true, if_false, oneCell_int, oneCell_bool, oneCell_ptr, oneCell_slice, oneCell_string, oneCell_func, oneCell_map, Int.toNat_natCast, List.set_cons_zero, List.set_cons_succ, Nat.lt_irrefl, Nat.zero_lt_succ, Nat.succ_lt_succ_iff, fa26_0, fa26_0p, fa26_1, fa26_1p, fa26_10, fa26_10p, fa26_11, fa26_11p, fa26_12, fa26_12p, fa26_13, fa26_13p, fa26_14, fa26_14p, fa26_15, fa26_15p, fa26_2, fa26_2p, fa26_3, fa26_3p, fa26_4, fa26_4p, fa26_5, fa26_5p, fa26_6, fa26_6p, fa26_7, fa26_7p, fa26_8, fa26_8p, fa26_9, fa26_9p, fa28_0, fa28_0p, fa28_1, fa28_1p, fa45_0, fa45_0p, fa45_1, fa45_1p, fa45_2, fa45_2p, fa45_3, fa45_3p, fa45_4, fa45_4p, fa45_5, fa45_5p, fa45_6, fa45_6p, fa49_0, fa49_0p, fa49_1, fa49_1p, fa74_0, fa74_0p, fa74_1, fa74_1p, fa74_2, fa74_2p, fa74_3, fa74_3p, fa85_0, fa85_0p, fa85_1, fa85_1p, fa93_0, fa93_0p, fa93_1, fa93_1p, fa93_2, fa93_2p, ld3, ld3p, ld4, ld4p, ld22, ld22p, ld23, ld23p, ld24, ld24p, ld26, ld26p, ld28, ld28p, ld42, ld42p, ld45, ld45p, ld49, ld49p, ld58, ld58p, ld69, ld69p, ld72, ld72p, ld85, ld85p, st3s, st4s, st22s, st23s, st24s, st26w, st28w, st42s, st45w, st49w, st85w, ix22, ix22p, ix23, ix23p, ix24, ix24p, ix31, ix31p, ix42, ix42p, ix104, ix104p, ln22, ln22p, ln23, ln23p, ln24, ln24p, ln31, ln31p, ln42, ln42p, al4, al22, al26, al28, al42, al49, al85, cf10, cf11, cf12, cf13, cf14, cf15, cf16, cf17, cf18, cf19, cf20, cf21, cf22, cf23, cf24, cf25, cf26, cf27, cf28, cf29, cf30, cf31, cf32, cf33, cf34, cf35, cf36, cf37, cf38, cf39, cf40, cf41, cf42, cf43, cf44, cf45, cf46, cf47, cf48, cf49, cf50, cf51, cf52, cf53, cf54, cf55, cf56, cf57, cf58, cf59, cf60, cf61, cf62, cf63, cf64, cf65, cf66, cf67, cf68, cf69, cf70, cf71, cf72, cf73, cf74, cf75, bd26_0_1_2_7_8_9_10_11_12_13_14_4_15, bd26_0_1_2_7_8_9_10_11_12_13_14_4_15p, bd28_, bd28_p, bd28_0, bd28_0p, bd28_0_1, bd28_0_1p, bd45_1_3_4_5_6, bd45_1_3_4_5_6p, bd49_0_1, bd49_0_1p, bd49_1, bd49_1p, bd74_0_1_2_3, bd74_0_1_2_3p, bd85_0, bd85_0p, bd85_0_1, bd85_0_1p, bd93_0_1_2, bd93_0_1_2p, bd94_0_1_2_3, bd94_0_1_2_3p, bs42_1_0, bs22_1_0, bs24_1_0, bs42_3_0_1_2, bs31_1_0, bs22_2_0_1, bs42_6_0_1_2_3_4_5, bs42_0_, eq4, eq4p, eq28, eq28p, eq42n, eq42np, eq42s, eq42sp, eq58n, eq58np, eq58s, eq58sp, eq63n, eq63np, eq63s, eq63sp, ne28, ne28p, ne45, ne45p, q0, q3, ix31 (Int.natCast_nonneg j) hjl, Int.toNat_natCast]
  rw [st_job (j := x) (s4.at 0 rfl set_self) (by rw [List.length_set, fl.1]; omega)]
  have s5 := s4.put (o := .cells (jobC.rows ((M.set i y).set j x) ++ t).toArray 45 (0, 0)) set_self
  rw [set_set] at s5
  have d5 := d4.set (o := .cells (jobC.rows ((M.set i y).set j x) ++ t).toArray 45 (0, 0)) (d4 _ _ (s4.at 0 rfl set_self))
  generalize Hp.set h4 b _ = h5 at s5 d5 ⊢
  have fn := fl.next hij hx (by rw [← ej]; exact hy)
  rw [← ej] at fn
  unfold S38_l1_k3
  simp -implicitDefEqProofs (disch := first | with_reducible exact Nat.ne_of_beq_eq_false rfl | omega) only [upd_ne, q2, q3, thenK_normal, opH_sv, bin_sub, wrap_in, bin_add]
  refine HX (L.length - (i + 1)) _ _ (by omega) ⟨i + 1, _, _, rfl, by omega, by simp -implicitDefEqProofs (disch := first | with_reducible exact Nat.ne_of_beq_eq_false rfl | omega) only [upd_ne, q0], by simp -implicitDefEqProofs (disch := first | with_reducible exact Nat.ne_of_beq_eq_false rfl | omega) only [upd_ne, upd_eq] <;> rfl, by simp -implicitDefEqProofs (disch := first | with_reducible exact Nat.ne_of_beq_eq_false rfl | omega) only [upd_eq] <;> (congr 1; omega), ⟨some b, cap, t, by rw [fn.1], set_self, ?_⟩, fn, s5, d5⟩
  rw [← hbl, List.length_append, List.length_append, jobC.rows_length, jobC.rows_length, List.length_set, List.length_set]

end Go.Proofs.YtangejiigopdaaaDoor
end

section
/- The jobs: plain; an entry of the yard's map. -/
set_option linter.unusedSimpArgs false
set_option linter.unusedVariables false
set_option maxRecDepth 100000
namespace Go.Proofs.YtangejiigopdaaaDoor
open Go Go.HL

theorem rstacks_len {C : Conf} (w16 : wC C ≤ 16) (k16 : kC C ≤ 16) : (rstacksL C).length ≤ 1000 := by
  have := dirsL_len (D := fun y => pickFrom (fun x => stackedB C ((x : Int), (y : Int))) (fun x => (((x : Nat) : Int), ((y : Nat) : Int))) 0 (wC C)) (b := 16) (fun i => Nat.le_trans pickFrom_len w16) (k := kC C) (i := 0)
  have h2 : kC C * 16 ≤ 16 * 16 := Nat.mul_le_mul_right _ k16
  unfold rstacksL
  omega

def awayJ (f : Cell) (b : Int) (z : Cell) : Job := ⟨0, 1, 0, b, f.1, f.2, z.1, z.2, -1⟩
def againJ (f : Cell) (b : Int) (z : Cell) : Job := ⟨0, 3, 0, b, z.1, z.2, f.1, f.2, -1⟩
def fetchJ (f : Cell) (b : Int) (p : Cell) : Job := ⟨0, 2, 0, b, f.1, f.2, p.1, p.2, -1⟩
/-- The places for some bins, one behind the other. -/
def placesL (S : List Stk) (TL : List Cell) (ht : Int) (f : Cell) (cells : List Cell) : Nat → List Cell → Option (List Cell)
  | 0, GL => some GL
  | n + 1, GL => match bestL f (skipR f ht S TL GL) none cells with
    | none => none
    | some z => placesL S TL ht f cells n (GL ++ [z])
def jobsOf (f : Cell) (A : List Int) (GL : List Cell) (bin : Int) (port : Cell) (back : Bool) : List Job :=
  List.zipWith (awayJ f) A GL ++ [fetchJ f bin port] ++ (if back = true then (List.zipWith (againJ f) A GL).reverse else [])
def jobsR (C : Conf) (S : List Stk) (TL : List Cell) (bin : Int) (port : Cell) : List Job × Int :=
  if portI C port < 0 then ([], 10) else
  match findIn S bin (rstacksL C) with
  | none => ([], 9)
  | some (f, A) => if f ∈ TL then ([], 8) else match placesL S TL C.ht f (rstacksL C) A.length [] with
    | none => ([], 14)
    | some GL => (jobsOf f A GL bin port C.back, 0)

section
variable {C : Conf} {S : List Stk} {TL : List Cell} {bin : Int} {port f : Cell} {A : List Int} {GL : List Cell}
theorem jobsR_port (h1 : portI C port < 0) : jobsR C S TL bin port = ([], 10) := by unfold jobsR; rw [if_pos h1]
theorem jobsR_bin (h1 : ¬ portI C port < 0) (h2 : findIn S bin (rstacksL C) = none) : jobsR C S TL bin port = ([], 9) := by unfold jobsR; rw [if_neg h1, h2]
theorem jobsR_touched (h1 : ¬ portI C port < 0) (h2 : findIn S bin (rstacksL C) = some (f, A)) (h3 : f ∈ TL) : jobsR C S TL bin port = ([], 8) := by unfold jobsR; rw [if_neg h1, h2]; simp only [if_pos h3]
theorem jobsR_room (h1 : ¬ portI C port < 0) (h2 : findIn S bin (rstacksL C) = some (f, A)) (h3 : f ∉ TL) (h4 : placesL S TL C.ht f (rstacksL C) A.length [] = none) : jobsR C S TL bin port = ([], 14) := by unfold jobsR; rw [if_neg h1, h2]; simp only [if_neg h3, h4]
theorem jobsR_ok (h1 : ¬ portI C port < 0) (h2 : findIn S bin (rstacksL C) = some (f, A)) (h3 : f ∉ TL) (h4 : placesL S TL C.ht f (rstacksL C) A.length [] = some GL) : jobsR C S TL bin port = (jobsOf f A GL bin port C.back, 0) := by unfold jobsR; rw [if_neg h1, h2]; simp only [if_neg h3, h4]
end

theorem bestL_some {f : Cell} {sk : Cell → Bool} : ∀ {L : List Cell} {b : Option Cell} {z : Cell}, bestL f sk b L = some z → b = some z ∨ (z ∈ L ∧ sk z = false)
  | [], b, z, h => .inl h
  | c :: L, b, z, h => by
    rw [bestL] at h
    rcases bestL_some h with h | ⟨h1, h2⟩
    · split at h
      · exact .inl h
      · rename_i h3
        split at h
        · cases h
          exact .inr ⟨.head _, by simpa using h3⟩
        · exact .inl h
    · exact .inr ⟨.tail _ h1, h2⟩

theorem len_count {n : Nat} : ∀ {M GL : List Cell}, (∀ z ∈ GL, z ∈ M) → (∀ z, GL.count z ≤ n) → GL.length ≤ M.length * n
  | [], GL, h1, h2 => by
    cases GL with
    | nil => simp
    | cons x GL => exact absurd (h1 x (.head _)) (by simp)
  | m :: M, GL, h1, h2 => by
    have e := List.length_eq_countP_add_countP (fun x => x == m) (l := GL)
    have e2 : List.countP (fun x => x == m) GL ≤ n := h2 m
    have ih := len_count (n := n) (M := M) (GL := GL.filter (fun x => !(x == m))) (fun z hz => by
      rw [List.mem_filter] at hz
      rcases List.mem_cons.1 (h1 z hz.1) with rfl | h
      · simp at hz
      · exact h) (fun z => Nat.le_trans (List.filter_sublist.count_le z) (h2 z))
    rw [← List.countP_eq_length_filter] at ih
    have e3 : List.countP (fun a => decide ¬((a == m) = true)) GL = List.countP (fun x => !(x == m)) GL := List.countP_congr (fun x _ => by simp)
    rw [List.length_cons, Nat.add_mul]
    omega

/-- What was given: stack cells that had room. -/
structure Given (S : List Stk) (ht : Int) (cells GL : List Cell) : Prop where
  mem : ∀ z ∈ GL, z ∈ cells
  room : ∀ z, (GL.count z : Int) ≤ ht
theorem Given.nil {S : List Stk} {ht : Int} {cells : List Cell} (h : 0 ≤ ht) : Given S ht cells [] := ⟨fun z hz => (by cases hz), fun z => by simpa using h⟩
theorem Given.add {S : List Stk} {TL : List Cell} {ht : Int} {f z : Cell} {cells GL : List Cell} (g : Given S ht cells GL) (h : bestL f (skipR f ht S TL GL) none cells = some z) : Given S ht cells (GL ++ [z]) ∧ hgt S z + (GL.count z : Int) < ht := by
  rcases bestL_some h with h | ⟨h1, h2⟩
  · cases h
  · unfold skipR at h2
    simp only [Bool.or_eq_false_iff, decide_eq_false_iff_not] at h2
    have h3 : hgt S z + (GL.count z : Int) < ht := by omega
    have h0 : 0 ≤ hgt S z := by unfold hgt; exact Int.natCast_nonneg _
    refine ⟨⟨fun x hx => ?_, fun x => ?_⟩, h3⟩
    · rcases List.mem_append.1 hx with hx | hx
      · exact g.mem x hx
      · simp at hx; subst hx; exact h1
    · rw [List.count_append, List.count_singleton]
      have := g.room x
      by_cases hx : (z == x) = true
      · rw [if_pos hx]
        obtain rfl := eq_of_beq hx
        omega
      · rw [if_neg hx]; omega
theorem Given.len {S : List Stk} {ht : Int} {cells GL : List Cell} (g : Given S ht cells GL) (h8 : ht ≤ 8) (hc : cells.length ≤ 1000) : GL.length ≤ 8000 := by
  have h0 := g.room (0, 0)
  have := len_count (n := 8) g.mem (fun z => by have := g.room z; omega)
  have : cells.length * 8 ≤ 8000 := by omega
  omega

/-- The heights behind what was given. -/
theorem skip_given {f : Cell} {ht : Int} {S : List Stk} {hv : Cell → Int} {is : Cell → Bool} {TL GL : List Cell} (h : ∀ c, (if is c = true then hv c else 0) = hgt S c + (GL.count c : Int)) : skipB f ht hv is TL = skipR f ht S TL GL := by
  funext c
  unfold skipB skipR
  rw [h c, Bool.or_assoc]
  congr 1
  exact Bool.or_comm _ _

/-- An entry, and its stamp. -/
def MapEnt (o : Obj) (hv : Cell → Int) (is : Cell → Bool) (c : Cell) (st : Nat) : Prop := ∃ M : List (Cell × Value), KEntry (fun c : Cell => cellV c) o M c st ∧ ∀ c, kget M c = if is c = true then some (.int .i64 (hv c)) else none
theorem kget_app {M : List (Cell × Value)} {c q : Cell} {v : Value} (h : kget M c = none) : kget (M ++ [(c, v)]) q = if (c == q) = true then some v else kget M q := by
  have h2 : kput M c v = M ++ [(c, v)] := by
    unfold kput
    cases hk : kidx M c with
    | none => rfl
    | some j =>
      unfold kget at h
      rw [hk] at h
      have hj : j < M.length := by unfold kidx at hk; exact (List.findIdx?_eq_some_iff_getElem.1 hk).1
      simp [List.getElem?_eq_getElem hj] at h
  rw [← h2, kget_put]
theorem ment {G h : Hp} {mb : Nat} {o : Obj} {hv : Cell → Int} {is : Cell → Bool} {x y : Int} {K : Value → Hp → Prop} (hb : h mb = some o) (m : MapIs o hv is)
    (H : ∀ o' st, MapEnt o' (fun c => if is c = true then hv c else 0) (fun c => (x, y) == c || is c) (x, y) st → K (.tuple #[.int .i64 (if is (x, y) = true then hv (x, y) else 0), .int .i64 (st : Nat)]) (h.set mb o')) :
    wpH Tryd.prog G (Instr.mapEntry 72 (.map (some mb)) (.agg #[.int .i64 x, .int .i64 y])) h K := by
  obtain ⟨M, hm, hg⟩ := m
  refine mapentry_key (k := ((x, y) : Cell)) cell_key unm zmi hb hm fun o' st hm' => ?_
  have e0 : (kget M ((x, y) : Cell)).getD (.int .i64 0) = .int .i64 (if is (x, y) = true then hv (x, y) else 0) := by
    rw [hg]; cases is (x, y) <;> rfl
  rw [e0]
  refine H o' st ⟨_, hm', fun c => ?_⟩
  show _ = if ((((x, y) : Cell) == c) || is c) = true then some (Value.int .i64 (if is c = true then hv c else 0)) else none
  rw [hg]
  cases hi : is (x, y) with
  | true =>
    rw [if_pos rfl, if_pos (by rfl), hg]
    cases hc : is c with
    | true => rw [if_pos rfl, Bool.or_true, if_pos rfl]; simp only [hc, if_true]
    | false =>
      have : ((((x, y) : Cell) == c)) = false := by
        cases h2 : (((x, y) : Cell) == c) with
        | false => rfl
        | true => rw [eq_of_beq h2, hc] at hi; cases hi
      rw [this, Bool.or_false]
      simp
  | false =>
    simp only [Bool.false_eq_true, if_false, Option.isSome_none]
    rw [kget_app (by rw [hg, hi]; rfl), hg]
    cases h2 : (((x, y) : Cell) == c) with
    | true => rw [if_pos rfl, Bool.true_or, if_pos rfl, ← eq_of_beq h2, hi]; rfl
    | false =>
      rw [if_neg (by simp), Bool.false_or]
      cases hc : is c <;> simp [hc]
theorem mest {G h : Hp} {mb st : Nat} {o : Obj} {hv : Cell → Int} {is : Cell → Bool} {x y n : Int} {T : TypeId} {K : Unit → Hp → Prop} (hb : h mb = some o) (m : MapEnt o hv is (x, y) st)
    (H : ∀ o', MapIs o' (fun c => if ((x, y) == c) = true then n else hv c) (fun c => (x, y) == c || is c) → K () (h.set mb o')) :
    wpH Tryd.prog G (Instr.entryStore T (.map (some mb)) (.int .i64 (st : Nat)) (.int .i64 n)) h K := by
  obtain ⟨M, hm, hg⟩ := m
  refine entrystore_key hb hm fun o' hm' => H o' ⟨_, hm', fun c => ?_⟩
  rw [kget_put, hg]
  show (if (((x, y) : Cell) == c) = true then some (Value.int .i64 n) else _) = if ((((x, y) : Cell) == c) || is c) = true then some (Value.int .i64 (if (((x, y) : Cell) == c) = true then n else hv c)) else none
  cases (((x, y) : Cell) == c) <;> rfl
theorem MapEnt.is {o : Obj} {hv : Cell → Int} {is : Cell → Bool} {c : Cell} {st : Nat} (m : MapEnt o hv is c st) : MapIs o hv is := by
  obtain ⟨M, h1, h2⟩ := m
  exact ⟨M, h1.map, h2⟩

theorem pureAt_sv {G h : Hp} {s : Sem Value} {v : Value} : pureAt Tryd.prog G h (sv s) v ↔ wpH Tryd.prog G s h (fun a h' => h' = h ∧ a = v) := by
  unfold pureAt sv
  rw [wpH_bind]
  simp only [wpH, Next.value.injEq]
/-- What is read beside an entry that is made stays. -/
theorem soft_entry {G h : Hp} {mb yp xb : Nat} {o o' : Obj} {hv hv' : Cell → Int} {is is' : Cell → Bool} {z : Cell} (hb : h mb = some o) (m : MapIs o hv is) (m' : MapIs o' hv' is') (hyp : yp ≠ mb) (hxb : xb ≠ mb)
    (e : (if is z = true then hv z else 0) = (if is' z = true then hv' z else 0)) {a : Addr} (ha : a.block = yp) (hs : a.spot = none) :
    Kp Tryd.prog G h (fun s => s = sv (Instr.loadAt 72 (.pointer (some a))) ∨ s = sv (Instr.loadAt 28 (.pointer (some ⟨xb, 0, none⟩))) ∨ s = sv (Instr.lookup 72 (.map (some mb)) (.agg #[.int .i64 z.1, .int .i64 z.2]) false)) (h.set mb o') := by
  refine .inr fun s hs' v hv1 => ?_
  obtain ⟨ab, ai, asp⟩ := a
  simp only at ha hs
  subst ha hs
  rcases hs' with rfl | rfl | rfl
  · rw [pureAt_sv] at hv1 ⊢
    rw [ld72] at hv1 ⊢
    rw [cell_set_other hyp]
    obtain ⟨x, h1, _, h2⟩ := hv1
    exact ⟨x, h1, rfl, h2⟩
  · rw [pureAt_sv] at hv1 ⊢
    rw [ld28] at hv1 ⊢
    simp only [add_mk] at hv1 ⊢
    rw [cell_set_other hxb, cell_set_other hxb]
    obtain ⟨x, h1, y, h2, _, h3⟩ := hv1
    exact ⟨x, h1, y, h2, trivial, h3⟩
  · rw [pureAt_sv] at hv1 ⊢
    obtain ⟨M, hm, hg⟩ := m
    obtain ⟨M', hm', hg'⟩ := m'
    rw [lookup_key (k := z) (ke := fun c : Cell => cellV c) cell_key unm zmi (look_own hb) hm] at hv1
    rw [lookup_key (k := z) (ke := fun c : Cell => cellV c) cell_key unm zmi (look_own set_self) hm']
    refine ⟨rfl, ?_⟩
    rw [← hv1.2, hg, hg']
    cases h1 : is z <;> cases h2 : is' z <;> simp [h1, h2] at e ⊢ <;> omega

theorem YardO.put {a : Hp} {yp gp mb : Nat} {ht : Int} {tv : Value} {hv hv' : Cell → Int} {is is' : Cell → Bool} (y : YardO a yp gp mb ht tv hv is) {o' : Obj} (m : MapIs o' hv' is') : YardO (a.set mb o') yp gp mb ht tv hv' is' := by
  obtain ⟨o, C, ab, cb, ap, cp, ar, cr, az, cs, s, _⟩ := y
  refine ⟨o', C, ab, cb, ap, cp, ar, cr, az, cs, ?_, m⟩
  have s2 := (s.pick 1 rfl rfl).put (o := o') set_self
  rw [set_set] at s2
  exact s2.pick 1 rfl rfl
theorem YardO.map {a : Hp} {yp gp mb : Nat} {ht : Int} {tv : Value} {hv : Cell → Int} {is : Cell → Bool} (y : YardO a yp gp mb ht tv hv is) : ∃ o, a mb = some o ∧ MapIs o hv is ∧ yp ≠ mb := by
  obtain ⟨o, C, ab, cb, ap, cp, ar, cr, az, cs, s, m⟩ := y
  refine ⟨o, s.at 1 rfl set_self, m, fun e => ?_⟩
  subst e
  rcases s.apart (b := noHp.set yp o) (by simp) yp with k | k
  · rw [set_self] at k; cases k
  · rw [set_self] at k; cases k

end Go.Proofs.YtangejiigopdaaaDoor
end

section
/- The jobs: the walk. -/
set_option linter.unusedSimpArgs false
set_option linter.unusedVariables false
set_option maxRecDepth 100000
namespace Go.Proofs.YtangejiigopdaaaDoor
open Go Go.HL

theorem zip_step {F : Int → Cell → Job} {A : List Int} {GL : List Cell} {i : Nat} {b : Int} {z : Cell} (hA : A[i]? = some b) (hl : GL.length = i) : List.zipWith F (A.take (i + 1)) (GL ++ [z]) = List.zipWith F (A.take i) GL ++ [F b z] := by
  have hi := (List.getElem?_eq_some_iff.1 hA).1
  rw [List.take_add_one, hA]
  exact List.zipWith_append (by simp; omega)
theorem zip_len {F : Int → Cell → Job} {A : List Int} {GL : List Cell} : (List.zipWith F A GL).length ≤ GL.length := by
  rw [List.length_zipWith]
  exact Nat.min_le_right _ _
theorem above_len {B : List Int} {bin : Int} {n : Nat} (h : B.length ≤ n) : (aboveL B bin).length ≤ n := by
  unfold aboveL
  rw [List.length_reverse, List.length_drop]
  omega

def JobsPost (G h : Hp) (C : Conf) (S : List Stk) (TL : List Cell) (bin : Int) (port : Cell) (u : Value) (h' : Hp) : Prop := h.le h' ∧ Dis G h' ∧ ((MadeOk C ∧ ∃ io vv, u = .tuple #[vv, .int .i64 (jobsR C S TL bin port).2] ∧ Slc jobC 45 io vv (jobsR C S TL bin port).1 ∧ HL.Sep [io, h] h') ∨ (¬ MadeOk C ∧ u = .tuple #[.slice none 0 0, .int .i64 5]))

set_option maxHeartbeats 8000000 in
theorem jobs_spec {G h : Hp} {v sv tv : Value} {C : Conf} {S : List Stk} {TL : List Cell} {bin : Int} {port : Cell} (hv : CV G h v C) (hss : ∀ G' h', h.le h' → StS G' h' sv S) (htv : ∀ G' h', h.le h' → Sees cellC G' h' tv TL) (st : Steps G) (hp : ∀ p ∈ C.ro, PB p) (hsl : C.st.length ≤ 100000000000000) (hS : S.length ≤ 100000000000000) (hTL : TL.length ≤ 100000000000000) (hB : ∀ s ∈ S, s.2.length ≤ 17592186044320) :
    HCalls Tryd.prog G 12 #[v, sv, tv, .int .i64 bin, cellV port] h (JobsPost G h C S TL bin port) := by
  obtain ⟨ab, cb, ap, cp, ar, cr, az, cs, rfl, ca⟩ := hv
  obtain ⟨sa, sc, rfl, _⟩ := hss noHp h (Hp.le.refl h)
  obtain ⟨ta, tc, rfl⟩ := (htv noHp h (Hp.le.refl h)).len
  refine HCalls.assume fun d => enter12 (by simp) ?_
  unfold S12
  simp -implicitDefEqProofs only [regs0, regs4, regs1, regs2, retK_ret, resL_tmp, upd_ne, upd_eq, resL_nil2, opH_sv, cf33, box_new, cells_agg, ld26, add_mk, Nat.add_zero, Nat.zero_add]
  intro v0 hv0 gv0 v1 hv1 gv1
  generalize e1 : Hp.set h v0 _ = h1 at hv1 ⊢
  obtain ⟨l1, d1, b0⟩ := boxed e1 hv0 d gv0
  generalize e2 : Hp.set h1 v1 _ = h2
  obtain ⟨l2, d2, b1⟩ := boxed e2 hv1 d1 gv1
  have l02 := l1.trans l2
  have b0' := l2 _ _ b0
  have c0 : ∀ j, cellIn G h2 ⟨v0, j, none⟩ = _ := fun j => cell_of (look_own b0')
  try simp -implicitDefEqProofs only [c0, List.getElem?_cons_zero, Option.some.injEq, List.getElem?_cons_succ, exists_eq_left']
  refine (dlaid_spec (ca.up l02 d2).cv (hss G h2 l02) (htv G h2 l02) st hp hsl hS).mono ?_
  rintro _ h4 ⟨l4, d4, ⟨hm, ya, ga, yp, gp, kb, mb, is, rfl, s4, go, yo, his⟩ | ⟨hm, rfl⟩⟩
  rotate_left
  · try simp -implicitDefEqProofs only [ex1, ne_int, show ((5 : Int) != 0) = true from rfl, HL.cond_true, ex0]
    exact ⟨l02.trans l4, d4, .inr ⟨hm, rfl⟩⟩
  try simp -implicitDefEqProofs only [ex1, ne_int, bne_self_eq_false, HL.cond_false, ex0]
  unfold S12_k1
  have c1 : ∀ j, cellIn G h4 ⟨v1, j, none⟩ = _ := fun j => cell_of (look_own (l4 _ _ b1))
  have cyp : ∃ x17, ∀ (ya : Hp) (G h4 : Hp), True := ⟨0, fun _ _ _ => trivial⟩
  clear cyp
  obtain ⟨om, C', ab', cb', ap', cp', ar', cr', az', cs', ty, mi⟩ := id yo
  have cy : ∀ j, cellIn G h4 ⟨yp, j, none⟩ = _ := fun j => cell_of (look_own (s4.in 0 rfl _ _ (ty.at 0 rfl set_self)))
  try simp -implicitDefEqProofs (disch := first | with_reducible exact Nat.ne_of_beq_eq_false rfl | omega) only [upd_ne, upd_eq, retK_ret, resL_tmp, resL_nil2, pureW_sv, cf34, ld28p, add_mk, Nat.add_zero, c1, List.getElem?_cons_zero, Option.some.injEq, Nat.zero_add, List.getElem?_cons_succ, exists_eq_left', pureW_nil, fa74_1p, ld58p, cy]
  refine (port_spec (c := port) ((go.gs (G := G)).up (s4.in 1 rfl) d4) (fun x y => f3_bd hm x y)).mono ?_
  rintro _ h4 ⟨rfl, rfl⟩
  rw [port3_eq hm port]
  have ht8 : 1 ≤ C.ht ∧ C.ht ≤ 8 := by
    have := hm.ht
    unfold withinB at this
    simp at this
    exact this
  have w16 : wC C ≤ 16 := by have := hm.laid.w; unfold withinB at this; simp at this; unfold wC; omega
  have k16 : kC C ≤ 16 := by have := hm.laid.h; unfold withinB at this; simp at this; unfold kC; omega
  have hcl := rstacks_len w16 k16
  have fail : ∀ (n : Int) (hh : Hp), HL.Sep [h2] hh → Dis G hh → jobsR C S TL bin port = ([], n) → JobsPost G h C S TL bin port (.tuple #[.slice none 0 0, .int .i64 n]) hh := by
    intro n hh s dd e
    unfold JobsPost
    rw [e]
    exact ⟨l02.trans (s.in 0 rfl), dd, .inl ⟨hm, noHp, _, rfl, Slc.nil, (s.cut l02).none⟩⟩
  try simp -implicitDefEqProofs only [bin_lssp]
  refine cond_dec (fun hlt => ?_) (fun hge => ?_)
  · try simp -implicitDefEqProofs only [opH_sv, opH_su, pureW_sv, opH_nil, pureW_nil, pick_t, pick_f, pick_tp, pick_fp, gd_tt, gd_ft, gd_tf, gd_ff, box_new, regs0, regs1, regs2, regs3, regs4, regs5, regs6, cells_agg, cells_int, cells_bool, cells_ptr, cells_slice, cells_string, cells_func, cells_nilFunc, cells_map, retK_ret, retK_normal, resL_tmp, resL_cell, resL_nil0, resL_nil1, resL_nil2, resL_nil3, resC_ptr, ex0, ex1, ex2, ex0p, ex1p, ex2p, HL.cond_true, HL.cond_false, thenK_normal, thenK_ret, thenK_exit, blockK_normal, blockK_ret, blockK_exit, scopeK_normal, scopeK_ret, scopeK_exit, wpH_pure, bin_add, bin_sub, bin_mul, bin_lss, bin_leq, bin_gtr, bin_geq, bin_quo, bin_rem, bin_quop, bin_remp, wrap_in, bin_addp, bin_subp, bin_mulp, bin_lssp, bin_leqp, bin_gtrp, bin_geqp, un_not, un_notp, un_neg, eq_int, ne_int, eq_intp, ne_intp, callV_fn, add_mk, upd_eq, upd_ne, cell_set_self, Nat.zero_add, Nat.add_zero, Option.some.injEq, exists_eq_left', List.getElem?_cons_succ, List.getElem?_cons_zero, true_and, and_true, bne_self_eq_false, beq_self_eq_true, Bool.not_true, Bool.not_false, Bool.and_true, Bool.and_self, Bool.and_false, Bool.true_and, List.length_cons, List.length_nil, ne_eq, not_false_eq_true, Nat.reduceAdd, Nat.reduceMul, if_true, if_false, oneCell_int, oneCell_bool, oneCell_ptr, oneCell_slice, oneCell_string, oneCell_func, oneCell_map, Int.toNat_natCast, List.set_cons_zero, List.set_cons_succ, Nat.lt_irrefl, Nat.zero_lt_succ, Nat.succ_lt_succ_iff, fa26_0, fa26_0p, fa26_1, fa26_1p, fa26_10, fa26_10p, fa26_11, fa26_11p, fa26_12, fa26_12p, fa26_13, fa26_13p, fa26_14, fa26_14p, fa26_15, fa26_15p, fa26_2, fa26_2p, fa26_3, fa26_3p, fa26_4, fa26_4p, fa26_5, fa26_5p, fa26_6, fa26_6p, fa26_7, fa26_7p, fa26_8, fa26_8p, fa26_9, fa26_9p, fa28_0, fa28_0p, fa28_1, fa28_1p, fa45_0, fa45_0p, fa45_1, fa45_1p, fa45_2, fa45_2p, fa45_3, fa45_3p, fa45_4, fa45_4p, fa45_5, fa45_5p, fa45_6, fa45_6p, fa49_0, fa49_0p, fa49_1, fa49_1p, fa74_0, fa74_0p, fa74_1, fa74_1p, fa74_2, fa74_2p, fa74_3, fa74_3p, fa85_0, fa85_0p, fa85_1, fa85_1p, fa93_0, fa93_0p, fa93_1, fa93_1p, fa93_2, fa93_2p, ld3, ld3p, ld4, ld4p, ld22, ld22p, ld23, ld23p, ld24, ld24p, ld26, ld26p, ld28, ld28p, ld42, ld42p, ld45, ld45p, ld49, ld49p, ld58, ld58p, ld69, ld69p, ld72, ld72p, ld85, ld85p, st3s, st4s, st22s, st23s, st24s, st26w, st28w, st42s, st45w, st49w, st85w, ix22, ix22p, ix23, ix23p, ix24, ix24p, ix31, ix31p, ix42, ix42p, ix104, ix104p, ln22, ln22p, ln23, ln23p, ln24, ln24p, ln31, ln31p, ln42, ln42p, al4, al22, al26, al28, al42, al49, al85, cf10, cf11, cf12, cf13, cf14, cf15, cf16, cf17, cf18, cf19, cf20, cf21, cf22, cf23, cf24, cf25, cf26, cf27, cf28, cf29, cf30, cf31, cf32, cf33, cf34, cf35, cf36, cf37, cf38, cf39, cf40, cf41, cf42, cf43, cf44, cf45, cf46, cf47, cf48, cf49, cf50, cf51, cf52, cf53, cf54, cf55, cf56, cf57, cf58, cf59, cf60, cf61, cf62, cf63, cf64, cf65, cf66, cf67, cf68, cf69, cf70, cf71, cf72, cf73, cf74, cf75, bd26_0_1_2_7_8_9_10_11_12_13_14_4_15, bd26_0_1_2_7_8_9_10_11_12_13_14_4_15p, bd28_, bd28_p, bd28_0, bd28_0p, bd28_0_1, bd28_0_1p, bd45_1_3_4_5_6, bd45_1_3_4_5_6p, bd49_0_1, bd49_0_1p, bd49_1, bd49_1p, bd74_0_1_2_3, bd74_0_1_2_3p, bd85_0, bd85_0p, bd85_0_1, bd85_0_1p, bd93_0_1_2, bd93_0_1_2p, bd94_0_1_2_3, bd94_0_1_2_3p, bs42_1_0, bs22_1_0, bs24_1_0, bs42_3_0_1_2, bs31_1_0, bs22_2_0_1, bs42_6_0_1_2_3_4_5, bs42_0_, eq4, eq4p, eq28, eq28p, eq42n, eq42np, eq42s, eq42sp, eq58n, eq58np, eq58s, eq58sp, eq63n, eq63np, eq63s, eq63sp, ne28, ne28p, ne45, ne45p]
    exact fail 10 _ (s4.sel [2] (by decide) rfl) d4 (jobsR_port hlt)
  unfold S12_k2
  try simp -implicitDefEqProofs only [upd_ne, upd_eq, regs1, regs3, retK_ret, resL_tmp, resL_nil2, regs2, cf36, opH_sv, opH_su, al28, ld28, add_mk, Nat.add_zero, Nat.zero_add, cf35]
  refine (find_in (bin := bin) s4 yo go (fun G' => hss G' h2 l02) hS hB).mono ?_
  rw [stacks_eq hm]
  rintro _ h5 ⟨d5, ⟨e5, rfl, s5⟩ | ⟨f, io, vv, e5, hmem, rfl, ov, s5⟩⟩
  · try simp -implicitDefEqProofs only [ex2, un_not, Bool.not_false, HL.cond_true, ex1, ex0, st28w]
    intro x hx gx
    try simp -implicitDefEqProofs only [opH_sv, opH_su, pureW_sv, opH_nil, pureW_nil, pick_t, pick_f, pick_tp, pick_fp, gd_tt, gd_ft, gd_tf, gd_ff, box_new, regs0, regs1, regs2, regs3, regs4, regs5, regs6, cells_agg, cells_int, cells_bool, cells_ptr, cells_slice, cells_string, cells_func, cells_nilFunc, cells_map, retK_ret, retK_normal, resL_tmp, resL_cell, resL_nil0, resL_nil1, resL_nil2, resL_nil3, resC_ptr, ex0, ex1, ex2, ex0p, ex1p, ex2p, HL.cond_true, HL.cond_false, thenK_normal, thenK_ret, thenK_exit, blockK_normal, blockK_ret, blockK_exit, scopeK_normal, scopeK_ret, scopeK_exit, wpH_pure, bin_add, bin_sub, bin_mul, bin_lss, bin_leq, bin_gtr, bin_geq, bin_quo, bin_rem, bin_quop, bin_remp, wrap_in, bin_addp, bin_subp, bin_mulp, bin_lssp, bin_leqp, bin_gtrp, bin_geqp, un_not, un_notp, un_neg, eq_int, ne_int, eq_intp, ne_intp, callV_fn, add_mk, upd_eq, upd_ne, cell_set_self, Nat.zero_add, Nat.add_zero, Option.some.injEq, exists_eq_left', List.getElem?_cons_succ, List.getElem?_cons_zero, true_and, and_true, bne_self_eq_false, beq_self_eq_true, Bool.not_true, Bool.not_false, Bool.and_true, Bool.and_self, Bool.and_false, Bool.true_and, List.length_cons, List.length_nil, ne_eq, not_false_eq_true, Nat.reduceAdd, Nat.reduceMul, if_true, if_false, oneCell_int, oneCell_bool, oneCell_ptr, oneCell_slice, oneCell_string, oneCell_func, oneCell_map, Int.toNat_natCast, List.set_cons_zero, List.set_cons_succ, Nat.lt_irrefl, Nat.zero_lt_succ, Nat.succ_lt_succ_iff, fa26_0, fa26_0p, fa26_1, fa26_1p, fa26_10, fa26_10p, fa26_11, fa26_11p, fa26_12, fa26_12p, fa26_13, fa26_13p, fa26_14, fa26_14p, fa26_15, fa26_15p, fa26_2, fa26_2p, fa26_3, fa26_3p, fa26_4, fa26_4p, fa26_5, fa26_5p, fa26_6, fa26_6p, fa26_7, fa26_7p, fa26_8, fa26_8p, fa26_9, fa26_9p, fa28_0, fa28_0p, fa28_1, fa28_1p, fa45_0, fa45_0p, fa45_1, fa45_1p, fa45_2, fa45_2p, fa45_3, fa45_3p, fa45_4, fa45_4p, fa45_5, fa45_5p, fa45_6, fa45_6p, fa49_0, fa49_0p, fa49_1, fa49_1p, fa74_0, fa74_0p, fa74_1, fa74_1p, fa74_2, fa74_2p, fa74_3, fa74_3p, fa85_0, fa85_0p, fa85_1, fa85_1p, fa93_0, fa93_0p, fa93_1, fa93_1p, fa93_2, fa93_2p, ld3, ld3p, ld4, ld4p, ld22, ld22p, ld23, ld23p, ld24, ld24p, ld26, ld26p, ld28, ld28p, ld42, ld42p, ld45, ld45p, ld49, ld49p, ld58, ld58p, ld69, ld69p, ld72, ld72p, ld85, ld85p, st3s, st4s, st22s, st23s, st24s, st26w, st28w, st42s, st45w, st49w, st85w, ix22, ix22p, ix23, ix23p, ix24, ix24p, ix31, ix31p, ix42, ix42p, ix104, ix104p, ln22, ln22p, ln23, ln23p, ln24, ln24p, ln31, ln31p, ln42, ln42p, al4, al22, al26, al28, al42, al49, al85, cf10, cf11, cf12, cf13, cf14, cf15, cf16, cf17, cf18, cf19, cf20, cf21, cf22, cf23, cf24, cf25, cf26, cf27, cf28, cf29, cf30, cf31, cf32, cf33, cf34, cf35, cf36, cf37, cf38, cf39, cf40, cf41, cf42, cf43, cf44, cf45, cf46, cf47, cf48, cf49, cf50, cf51, cf52, cf53, cf54, cf55, cf56, cf57, cf58, cf59, cf60, cf61, cf62, cf63, cf64, cf65, cf66, cf67, cf68, cf69, cf70, cf71, cf72, cf73, cf74, cf75, bd26_0_1_2_7_8_9_10_11_12_13_14_4_15, bd26_0_1_2_7_8_9_10_11_12_13_14_4_15p, bd28_, bd28_p, bd28_0, bd28_0p, bd28_0_1, bd28_0_1p, bd45_1_3_4_5_6, bd45_1_3_4_5_6p, bd49_0_1, bd49_0_1p, bd49_1, bd49_1p, bd74_0_1_2_3, bd74_0_1_2_3p, bd85_0, bd85_0p, bd85_0_1, bd85_0_1p, bd93_0_1_2, bd93_0_1_2p, bd94_0_1_2_3, bd94_0_1_2_3p, bs42_1_0, bs22_1_0, bs24_1_0, bs42_3_0_1_2, bs31_1_0, bs22_2_0_1, bs42_6_0_1_2_3_4_5, bs42_0_, eq4, eq4p, eq28, eq28p, eq42n, eq42np, eq42s, eq42sp, eq58n, eq58np, eq58s, eq58sp, eq63n, eq63np, eq63s, eq63sp, ne28, ne28p, ne45, ne45p]
    exact fail 9 _ ((s5.sel [2] (by decide) rfl).past hx) (d5.set gx) (jobsR_bin hge e5)
  try simp -implicitDefEqProofs only [ex2, un_not, Bool.not_true, HL.cond_false, ex1, ex0, st28w, cell_set_self, List.getElem?_cons_zero, Option.some.injEq, List.getElem?_cons_succ, exists_eq_left']
  intro xf hxf gxf
  have s6 := s5.new (o := cellO f) hxf
  have d6 := d5.set (o := cellO f) gxf
  try simp -implicitDefEqProofs only [opH_sv, opH_su, pureW_sv, opH_nil, pureW_nil, pick_t, pick_f, pick_tp, pick_fp, gd_tt, gd_ft, gd_tf, gd_ff, box_new, regs0, regs1, regs2, regs3, regs4, regs5, regs6, cells_agg, cells_int, cells_bool, cells_ptr, cells_slice, cells_string, cells_func, cells_nilFunc, cells_map, retK_ret, retK_normal, resL_tmp, resL_cell, resL_nil0, resL_nil1, resL_nil2, resL_nil3, resC_ptr, ex0, ex1, ex2, ex0p, ex1p, ex2p, HL.cond_true, HL.cond_false, thenK_normal, thenK_ret, thenK_exit, blockK_normal, blockK_ret, blockK_exit, scopeK_normal, scopeK_ret, scopeK_exit, wpH_pure, bin_add, bin_sub, bin_mul, bin_lss, bin_leq, bin_gtr, bin_geq, bin_quo, bin_rem, bin_quop, bin_remp, wrap_in, bin_addp, bin_subp, bin_mulp, bin_lssp, bin_leqp, bin_gtrp, bin_geqp, un_not, un_notp, un_neg, eq_int, ne_int, eq_intp, ne_intp, callV_fn, add_mk, upd_eq, upd_ne, cell_set_self, Nat.zero_add, Nat.add_zero, Option.some.injEq, exists_eq_left', List.getElem?_cons_succ, List.getElem?_cons_zero, true_and, and_true, bne_self_eq_false, beq_self_eq_true, Bool.not_true, Bool.not_false, Bool.and_true, Bool.and_self, Bool.and_false, Bool.true_and, List.length_cons, List.length_nil, ne_eq, not_false_eq_true, Nat.reduceAdd, Nat.reduceMul, if_true, if_false, oneCell_int, oneCell_bool, oneCell_ptr, oneCell_slice, oneCell_string, oneCell_func, oneCell_map, Int.toNat_natCast, List.set_cons_zero, List.set_cons_succ, Nat.lt_irrefl, Nat.zero_lt_succ, Nat.succ_lt_succ_iff, fa26_0, fa26_0p, fa26_1, fa26_1p, fa26_10, fa26_10p, fa26_11, fa26_11p, fa26_12, fa26_12p, fa26_13, fa26_13p, fa26_14, fa26_14p, fa26_15, fa26_15p, fa26_2, fa26_2p, fa26_3, fa26_3p, fa26_4, fa26_4p, fa26_5, fa26_5p, fa26_6, fa26_6p, fa26_7, fa26_7p, fa26_8, fa26_8p, fa26_9, fa26_9p, fa28_0, fa28_0p, fa28_1, fa28_1p, fa45_0, fa45_0p, fa45_1, fa45_1p, fa45_2, fa45_2p, fa45_3, fa45_3p, fa45_4, fa45_4p, fa45_5, fa45_5p, fa45_6, fa45_6p, fa49_0, fa49_0p, fa49_1, fa49_1p, fa74_0, fa74_0p, fa74_1, fa74_1p, fa74_2, fa74_2p, fa74_3, fa74_3p, fa85_0, fa85_0p, fa85_1, fa85_1p, fa93_0, fa93_0p, fa93_1, fa93_1p, fa93_2, fa93_2p, ld3, ld3p, ld4, ld4p, ld22, ld22p, ld23, ld23p, ld24, ld24p, ld26, ld26p, ld28, ld28p, ld42, ld42p, ld45, ld45p, ld49, ld49p, ld58, ld58p, ld69, ld69p, ld72, ld72p, ld85, ld85p, st3s, st4s, st22s, st23s, st24s, st26w, st28w, st42s, st45w, st49w, st85w, ix22, ix22p, ix23, ix23p, ix24, ix24p, ix31, ix31p, ix42, ix42p, ix104, ix104p, ln22, ln22p, ln23, ln23p, ln24, ln24p, ln31, ln31p, ln42, ln42p, al4, al22, al26, al28, al42, al49, al85, cf10, cf11, cf12, cf13, cf14, cf15, cf16, cf17, cf18, cf19, cf20, cf21, cf22, cf23, cf24, cf25, cf26, cf27, cf28, cf29, cf30, cf31, cf32, cf33, cf34, cf35, cf36, cf37, cf38, cf39, cf40, cf41, cf42, cf43, cf44, cf45, cf46, cf47, cf48, cf49, cf50, cf51, cf52, cf53, cf54, cf55, cf56, cf57, cf58, cf59, cf60, cf61, cf62, cf63, cf64, cf65, cf66, cf67, cf68, cf69, cf70, cf71, cf72, cf73, cf74, cf75, bd26_0_1_2_7_8_9_10_11_12_13_14_4_15, bd26_0_1_2_7_8_9_10_11_12_13_14_4_15p, bd28_, bd28_p, bd28_0, bd28_0p, bd28_0_1, bd28_0_1p, bd45_1_3_4_5_6, bd45_1_3_4_5_6p, bd49_0_1, bd49_0_1p, bd49_1, bd49_1p, bd74_0_1_2_3, bd74_0_1_2_3p, bd85_0, bd85_0p, bd85_0_1, bd85_0_1p, bd93_0_1_2, bd93_0_1_2p, bd94_0_1_2_3, bd94_0_1_2_3p, bs42_1_0, bs22_1_0, bs24_1_0, bs42_3_0_1_2, bs31_1_0, bs22_2_0_1, bs42_6_0_1_2_3_4_5, bs42_0_, eq4, eq4p, eq28, eq28p, eq42n, eq42np, eq42s, eq42sp, eq58n, eq58np, eq58s, eq58sp, eq63n, eq63np, eq63s, eq63sp, ne28, ne28p, ne45, ne45p]
  generalize Hp.set h5 xf _ = h6 at s6 d6 ⊢
  have s6 : HL.Sep [noHp.set xf (cellO f), io, ya, ga, h2] h6 := s6
  have cf : ∀ j, cellIn G h6 ⟨xf, j, none⟩ = _ := fun j => cell_of (look_own (s6.at 0 rfl set_self))
  try simp -implicitDefEqProofs only [opH_sv, opH_su, pureW_sv, opH_nil, pureW_nil, pick_t, pick_f, pick_tp, pick_fp, gd_tt, gd_ft, gd_tf, gd_ff, box_new, regs0, regs1, regs2, regs3, regs4, regs5, regs6, cells_agg, cells_int, cells_bool, cells_ptr, cells_slice, cells_string, cells_func, cells_nilFunc, cells_map, retK_ret, retK_normal, resL_tmp, resL_cell, resL_nil0, resL_nil1, resL_nil2, resL_nil3, resC_ptr, ex0, ex1, ex2, ex0p, ex1p, ex2p, HL.cond_true, HL.cond_false, thenK_normal, thenK_ret, thenK_exit, blockK_normal, blockK_ret, blockK_exit, scopeK_normal, scopeK_ret, scopeK_exit, wpH_pure, bin_add, bin_sub, bin_mul, bin_lss, bin_leq, bin_gtr, bin_geq, bin_quo, bin_rem, bin_quop, bin_remp, wrap_in, bin_addp, bin_subp, bin_mulp, bin_lssp, bin_leqp, bin_gtrp, bin_geqp, un_not, un_notp, un_neg, eq_int, ne_int, eq_intp, ne_intp, callV_fn, add_mk, upd_eq, upd_ne, cell_set_self, Nat.zero_add, Nat.add_zero, Option.some.injEq, exists_eq_left', List.getElem?_cons_succ, List.getElem?_cons_zero, true_and, and_true, bne_self_eq_false, beq_self_eq_true, Bool.not_true, Bool.not_false, Bool.and_true, Bool.and_self, Bool.and_false, Bool.true_and, List.length_cons, List.length_nil, ne_eq, not_false_eq_true, Nat.reduceAdd, Nat.reduceMul, if_true, if_false, oneCell_int, oneCell_bool, oneCell_ptr, oneCell_slice, oneCell_string, oneCell_func, oneCell_map, Int.toNat_natCast, List.set_cons_zero, List.set_cons_succ, Nat.lt_irrefl, Nat.zero_lt_succ, Nat.succ_lt_succ_iff, fa26_0, fa26_0p, fa26_1, fa26_1p, fa26_10, fa26_10p, fa26_11, fa26_11p, fa26_12, fa26_12p, fa26_13, fa26_13p, fa26_14, fa26_14p, fa26_15, fa26_15p, fa26_2, fa26_2p, fa26_3, fa26_3p, fa26_4, fa26_4p, fa26_5, fa26_5p, fa26_6, fa26_6p, fa26_7, fa26_7p, fa26_8, fa26_8p, fa26_9, fa26_9p, fa28_0, fa28_0p, fa28_1, fa28_1p, fa45_0, fa45_0p, fa45_1, fa45_1p, fa45_2, fa45_2p, fa45_3, fa45_3p, fa45_4, fa45_4p, fa45_5, fa45_5p, fa45_6, fa45_6p, fa49_0, fa49_0p, fa49_1, fa49_1p, fa74_0, fa74_0p, fa74_1, fa74_1p, fa74_2, fa74_2p, fa74_3, fa74_3p, fa85_0, fa85_0p, fa85_1, fa85_1p, fa93_0, fa93_0p, fa93_1, fa93_1p, fa93_2, fa93_2p, ld3, ld3p, ld4, ld4p, ld22, ld22p, ld23, ld23p, ld24, ld24p, ld26, ld26p, ld28, ld28p, ld42, ld42p, ld45, ld45p, ld49, ld49p, ld58, ld58p, ld69, ld69p, ld72, ld72p, ld85, ld85p, st3s, st4s, st22s, st23s, st24s, st26w, st28w, st42s, st45w, st49w, st85w, ix22, ix22p, ix23, ix23p, ix24, ix24p, ix31, ix31p, ix42, ix42p, ix104, ix104p, ln22, ln22p, ln23, ln23p, ln24, ln24p, ln31, ln31p, ln42, ln42p, al4, al22, al26, al28, al42, al49, al85, cf10, cf11, cf12, cf13, cf14, cf15, cf16, cf17, cf18, cf19, cf20, cf21, cf22, cf23, cf24, cf25, cf26, cf27, cf28, cf29, cf30, cf31, cf32, cf33, cf34, cf35, cf36, cf37, cf38, cf39, cf40, cf41, cf42, cf43, cf44, cf45, cf46, cf47, cf48, cf49, cf50, cf51, cf52, cf53, cf54, cf55, cf56, cf57, cf58, cf59, cf60, cf61, cf62, cf63, cf64, cf65, cf66, cf67, cf68, cf69, cf70, cf71, cf72, cf73, cf74, cf75, bd26_0_1_2_7_8_9_10_11_12_13_14_4_15, bd26_0_1_2_7_8_9_10_11_12_13_14_4_15p, bd28_, bd28_p, bd28_0, bd28_0p, bd28_0_1, bd28_0_1p, bd45_1_3_4_5_6, bd45_1_3_4_5_6p, bd49_0_1, bd49_0_1p, bd49_1, bd49_1p, bd74_0_1_2_3, bd74_0_1_2_3p, bd85_0, bd85_0p, bd85_0_1, bd85_0_1p, bd93_0_1_2, bd93_0_1_2p, bd94_0_1_2_3, bd94_0_1_2_3p, bs42_1_0, bs22_1_0, bs24_1_0, bs42_3_0_1_2, bs31_1_0, bs22_2_0_1, bs42_6_0_1_2_3_4_5, bs42_0_, eq4, eq4p, eq28, eq28p, eq42n, eq42np, eq42s, eq42sp, eq58n, eq58np, eq58s, eq58sp, eq63n, eq63np, eq63s, eq63sp, ne28, ne28p, ne45, ne45p, cf]
  refine (contains_spec (c := f) ((htv G h2 l02).up (s6.in 4 rfl) d6) hTL).mono ?_
  rintro _ h6 ⟨rfl, rfl⟩
  try simp -implicitDefEqProofs only [opH_sv, opH_su, pureW_sv, opH_nil, pureW_nil, pick_t, pick_f, pick_tp, pick_fp, gd_tt, gd_ft, gd_tf, gd_ff, box_new, regs0, regs1, regs2, regs3, regs4, regs5, regs6, cells_agg, cells_int, cells_bool, cells_ptr, cells_slice, cells_string, cells_func, cells_nilFunc, cells_map, retK_ret, retK_normal, resL_tmp, resL_cell, resL_nil0, resL_nil1, resL_nil2, resL_nil3, resC_ptr, ex0, ex1, ex2, ex0p, ex1p, ex2p, HL.cond_true, HL.cond_false, thenK_normal, thenK_ret, thenK_exit, blockK_normal, blockK_ret, blockK_exit, scopeK_normal, scopeK_ret, scopeK_exit, wpH_pure, bin_add, bin_sub, bin_mul, bin_lss, bin_leq, bin_gtr, bin_geq, bin_quo, bin_rem, bin_quop, bin_remp, wrap_in, bin_addp, bin_subp, bin_mulp, bin_lssp, bin_leqp, bin_gtrp, bin_geqp, un_not, un_notp, un_neg, eq_int, ne_int, eq_intp, ne_intp, callV_fn, add_mk, upd_eq, upd_ne, cell_set_self, Nat.zero_add, Nat.add_zero, Option.some.injEq, exists_eq_left', List.getElem?_cons_succ, List.getElem?_cons_zero, true_and, and_true, bne_self_eq_false, beq_self_eq_true, Bool.not_true, Bool.not_false, Bool.and_true, Bool.and_self, Bool.and_false, Bool.true_and, List.length_cons, List.length_nil, ne_eq, not_false_eq_true, Nat.reduceAdd, Nat.reduceMul, if_true, if_false, oneCell_int, oneCell_bool, oneCell_ptr, oneCell_slice, oneCell_string, oneCell_func, oneCell_map, Int.toNat_natCast, List.set_cons_zero, List.set_cons_succ, Nat.lt_irrefl, Nat.zero_lt_succ, Nat.succ_lt_succ_iff, fa26_0, fa26_0p, fa26_1, fa26_1p, fa26_10, fa26_10p, fa26_11, fa26_11p, fa26_12, fa26_12p, fa26_13, fa26_13p, fa26_14, fa26_14p, fa26_15, fa26_15p, fa26_2, fa26_2p, fa26_3, fa26_3p, fa26_4, fa26_4p, fa26_5, fa26_5p, fa26_6, fa26_6p, fa26_7, fa26_7p, fa26_8, fa26_8p, fa26_9, fa26_9p, fa28_0, fa28_0p, fa28_1, fa28_1p, fa45_0, fa45_0p, fa45_1, fa45_1p, fa45_2, fa45_2p, fa45_3, fa45_3p, fa45_4, fa45_4p, fa45_5, fa45_5p, fa45_6, fa45_6p, fa49_0, fa49_0p, fa49_1, fa49_1p, fa74_0, fa74_0p, fa74_1, fa74_1p, fa74_2, fa74_2p, fa74_3, fa74_3p, fa85_0, fa85_0p, fa85_1, fa85_1p, fa93_0, fa93_0p, fa93_1, fa93_1p, fa93_2, fa93_2p, ld3, ld3p, ld4, ld4p, ld22, ld22p, ld23, ld23p, ld24, ld24p, ld26, ld26p, ld28, ld28p, ld42, ld42p, ld45, ld45p, ld49, ld49p, ld58, ld58p, ld69, ld69p, ld72, ld72p, ld85, ld85p, st3s, st4s, st22s, st23s, st24s, st26w, st28w, st42s, st45w, st49w, st85w, ix22, ix22p, ix23, ix23p, ix24, ix24p, ix31, ix31p, ix42, ix42p, ix104, ix104p, ln22, ln22p, ln23, ln23p, ln24, ln24p, ln31, ln31p, ln42, ln42p, al4, al22, al26, al28, al42, al49, al85, cf10, cf11, cf12, cf13, cf14, cf15, cf16, cf17, cf18, cf19, cf20, cf21, cf22, cf23, cf24, cf25, cf26, cf27, cf28, cf29, cf30, cf31, cf32, cf33, cf34, cf35, cf36, cf37, cf38, cf39, cf40, cf41, cf42, cf43, cf44, cf45, cf46, cf47, cf48, cf49, cf50, cf51, cf52, cf53, cf54, cf55, cf56, cf57, cf58, cf59, cf60, cf61, cf62, cf63, cf64, cf65, cf66, cf67, cf68, cf69, cf70, cf71, cf72, cf73, cf74, cf75, bd26_0_1_2_7_8_9_10_11_12_13_14_4_15, bd26_0_1_2_7_8_9_10_11_12_13_14_4_15p, bd28_, bd28_p, bd28_0, bd28_0p, bd28_0_1, bd28_0_1p, bd45_1_3_4_5_6, bd45_1_3_4_5_6p, bd49_0_1, bd49_0_1p, bd49_1, bd49_1p, bd74_0_1_2_3, bd74_0_1_2_3p, bd85_0, bd85_0p, bd85_0_1, bd85_0_1p, bd93_0_1_2, bd93_0_1_2p, bd94_0_1_2_3, bd94_0_1_2_3p, bs42_1_0, bs22_1_0, bs24_1_0, bs42_3_0_1_2, bs31_1_0, bs22_2_0_1, bs42_6_0_1_2_3_4_5, bs42_0_, eq4, eq4p, eq28, eq28p, eq42n, eq42np, eq42s, eq42sp, eq58n, eq58np, eq58s, eq58sp, eq63n, eq63np, eq63s, eq63sp, ne28, ne28p, ne45, ne45p]
  refine cond_dec (fun hft => ?_) (fun hft => ?_)
  · try simp -implicitDefEqProofs only [opH_sv, opH_su, pureW_sv, opH_nil, pureW_nil, pick_t, pick_f, pick_tp, pick_fp, gd_tt, gd_ft, gd_tf, gd_ff, box_new, regs0, regs1, regs2, regs3, regs4, regs5, regs6, cells_agg, cells_int, cells_bool, cells_ptr, cells_slice, cells_string, cells_func, cells_nilFunc, cells_map, retK_ret, retK_normal, resL_tmp, resL_cell, resL_nil0, resL_nil1, resL_nil2, resL_nil3, resC_ptr, ex0, ex1, ex2, ex0p, ex1p, ex2p, HL.cond_true, HL.cond_false, thenK_normal, thenK_ret, thenK_exit, blockK_normal, blockK_ret, blockK_exit, scopeK_normal, scopeK_ret, scopeK_exit, wpH_pure, bin_add, bin_sub, bin_mul, bin_lss, bin_leq, bin_gtr, bin_geq, bin_quo, bin_rem, bin_quop, bin_remp, wrap_in, bin_addp, bin_subp, bin_mulp, bin_lssp, bin_leqp, bin_gtrp, bin_geqp, un_not, un_notp, un_neg, eq_int, ne_int, eq_intp, ne_intp, callV_fn, add_mk, upd_eq, upd_ne, cell_set_self, Nat.zero_add, Nat.add_zero, Option.some.injEq, exists_eq_left', List.getElem?_cons_succ, List.getElem?_cons_zero, true_and, and_true, bne_self_eq_false, beq_self_eq_true, Bool.not_true, Bool.not_false, Bool.and_true, Bool.and_self, Bool.and_false, Bool.true_and, List.length_cons, List.length_nil, ne_eq, not_false_eq_true, Nat.reduceAdd, Nat.reduceMul, if_true, if_false, oneCell_int, oneCell_bool, oneCell_ptr, oneCell_slice, oneCell_string, oneCell_func, oneCell_map, Int.toNat_natCast, List.set_cons_zero, List.set_cons_succ, Nat.lt_irrefl, Nat.zero_lt_succ, Nat.succ_lt_succ_iff, fa26_0, fa26_0p, fa26_1, fa26_1p, fa26_10, fa26_10p, fa26_11, fa26_11p, fa26_12, fa26_12p, fa26_13, fa26_13p, fa26_14, fa26_14p, fa26_15, fa26_15p, fa26_2, fa26_2p, fa26_3, fa26_3p, fa26_4, fa26_4p, fa26_5, fa26_5p, fa26_6, fa26_6p, fa26_7, fa26_7p, fa26_8, fa26_8p, fa26_9, fa26_9p, fa28_0, fa28_0p, fa28_1, fa28_1p, fa45_0, fa45_0p, fa45_1, fa45_1p, fa45_2, fa45_2p, fa45_3, fa45_3p, fa45_4, fa45_4p, fa45_5, fa45_5p, fa45_6, fa45_6p, fa49_0, fa49_0p, fa49_1, fa49_1p, fa74_0, fa74_0p, fa74_1, fa74_1p, fa74_2, fa74_2p, fa74_3, fa74_3p, fa85_0, fa85_0p, fa85_1, fa85_1p, fa93_0, fa93_0p, fa93_1, fa93_1p, fa93_2, fa93_2p, ld3, ld3p, ld4, ld4p, ld22, ld22p, ld23, ld23p, ld24, ld24p, ld26, ld26p, ld28, ld28p, ld42, ld42p, ld45, ld45p, ld49, ld49p, ld58, ld58p, ld69, ld69p, ld72, ld72p, ld85, ld85p, st3s, st4s, st22s, st23s, st24s, st26w, st28w, st42s, st45w, st49w, st85w, ix22, ix22p, ix23, ix23p, ix24, ix24p, ix31, ix31p, ix42, ix42p, ix104, ix104p, ln22, ln22p, ln23, ln23p, ln24, ln24p, ln31, ln31p, ln42, ln42p, al4, al22, al26, al28, al42, al49, al85, cf10, cf11, cf12, cf13, cf14, cf15, cf16, cf17, cf18, cf19, cf20, cf21, cf22, cf23, cf24, cf25, cf26, cf27, cf28, cf29, cf30, cf31, cf32, cf33, cf34, cf35, cf36, cf37, cf38, cf39, cf40, cf41, cf42, cf43, cf44, cf45, cf46, cf47, cf48, cf49, cf50, cf51, cf52, cf53, cf54, cf55, cf56, cf57, cf58, cf59, cf60, cf61, cf62, cf63, cf64, cf65, cf66, cf67, cf68, cf69, cf70, cf71, cf72, cf73, cf74, cf75, bd26_0_1_2_7_8_9_10_11_12_13_14_4_15, bd26_0_1_2_7_8_9_10_11_12_13_14_4_15p, bd28_, bd28_p, bd28_0, bd28_0p, bd28_0_1, bd28_0_1p, bd45_1_3_4_5_6, bd45_1_3_4_5_6p, bd49_0_1, bd49_0_1p, bd49_1, bd49_1p, bd74_0_1_2_3, bd74_0_1_2_3p, bd85_0, bd85_0p, bd85_0_1, bd85_0_1p, bd93_0_1_2, bd93_0_1_2p, bd94_0_1_2_3, bd94_0_1_2_3p, bs42_1_0, bs22_1_0, bs24_1_0, bs42_3_0_1_2, bs31_1_0, bs22_2_0_1, bs42_6_0_1_2_3_4_5, bs42_0_, eq4, eq4p, eq28, eq28p, eq42n, eq42np, eq42s, eq42sp, eq58n, eq58np, eq58s, eq58sp, eq63n, eq63np, eq63s, eq63sp, ne28, ne28p, ne45, ne45p]
    exact fail 8 _ (s6.sel [4] (by decide) rfl) d6 (jobsR_touched hge e5 hft)
  unfold S12_k3
  have hAl : (aboveL (binsL S f) bin).length ≤ 17592186044320 := above_len (bins_le hB)
  generalize aboveL (binsL S f) bin = A at ov e5 hAl
  obtain ⟨va0, vc0, rfl, _⟩ := ov.len (by decide)
  try simp -implicitDefEqProofs (disch := first | with_reducible exact Nat.ne_of_beq_eq_false rfl | omega) only [upd_ne, upd_eq, opH_sv, ln42]
  generalize hKK : retK Tryd.prog G _ _ = KK
  refine loop_I (fun m q h7 => ∃ (i : Nat) (GL : List Cell) (aw ag ya : Hp) (va vg : Value) (hv : Cell → Int) (is : Cell → Bool), m = A.length - i ∧ i ≤ A.length ∧ GL.length = i ∧ Given S C.ht (rstacksL C) GL ∧ placesL S TL C.ht f (rstacksL C) (A.length - i) GL = placesL S TL C.ht f (rstacksL C) A.length [] ∧
      q 3 = .int .i64 bin ∧ q 5 = .pointer (some ⟨v0, 0, none⟩) ∧ q 9 = .pointer (some ⟨v1, 0, none⟩) ∧ q 12 = .pointer (some ⟨yp, 0, none⟩) ∧ q 14 = .pointer (some ⟨xf, 0, none⟩) ∧ q 17 = va ∧ q 18 = vg ∧ q 56 = .slice va0 A.length vc0 ∧ q 57 = .int .i64 A.length ∧ q 58 = .int .i64 i ∧
      YardO ya yp gp mb C.ht (.slice ta TL.length tc) hv is ∧ (∀ c, (if is c = true then hv c else 0) = hgt S c + (GL.count c : Int)) ∧ Slc jobC 45 aw va (List.zipWith (awayJ f) (A.take i) GL) ∧ Slc jobC 45 ag vg (List.zipWith (againJ f) (A.take i) GL) ∧ HL.Sep [aw, ag, noHp.set xf (cellO f), io, ya, ga, h2] h7 ∧ Dis G h7) ?_
    (m := A.length) ⟨0, [], noHp, noHp, ya, .slice none 0 0, .slice none 0 0, hgt S, is, rfl, Nat.zero_le _, rfl, Given.nil (by omega), rfl, by simp -implicitDefEqProofs (disch := first | with_reducible exact Nat.ne_of_beq_eq_false rfl | omega) only [upd_ne, regs3], by simp -implicitDefEqProofs (disch := first | with_reducible exact Nat.ne_of_beq_eq_false rfl | omega) only [upd_ne, upd_eq], by simp -implicitDefEqProofs (disch := first | with_reducible exact Nat.ne_of_beq_eq_false rfl | omega) only [upd_ne, upd_eq], by simp -implicitDefEqProofs (disch := first | with_reducible exact Nat.ne_of_beq_eq_false rfl | omega) only [upd_ne, upd_eq], by simp -implicitDefEqProofs (disch := first | with_reducible exact Nat.ne_of_beq_eq_false rfl | omega) only [upd_ne, upd_eq], by simp -implicitDefEqProofs (disch := first | with_reducible exact Nat.ne_of_beq_eq_false rfl | omega) only [upd_ne, upd_eq], by simp -implicitDefEqProofs (disch := first | with_reducible exact Nat.ne_of_beq_eq_false rfl | omega) only [upd_ne, upd_eq], by simp -implicitDefEqProofs (disch := first | with_reducible exact Nat.ne_of_beq_eq_false rfl | omega) only [upd_ne, upd_eq], by simp -implicitDefEqProofs (disch := first | with_reducible exact Nat.ne_of_beq_eq_false rfl | omega) only [upd_ne, upd_eq], by simp -implicitDefEqProofs only [upd_eq] <;> rfl, yo, (fun c => by
      cases hc : is c with
      | true => simp
      | false => rw [his c hc]; simp), Slc.nil, Slc.nil, s6.none.none, d6⟩
  clear s6 cf d6 yo ty mi om C' ab' cb' ap' cp' ar' cr' az' cs' cy his is
  rintro m q h7 ⟨i, GL, aw, ag, ya, va, vg, hv, is, rfl, hi, hgl, gv, hpl, q3, q5, q9, q12, q14, q17, q18, q56, q57, q58, yo, hgt', oa, og, s7, d7⟩ X HX
  have hgl8 := gv.len ht8.2 hcl
  unfold S12_l6
  simp -implicitDefEqProofs only [q58, q57, thenK_exit, blockK_exit, thenK_normal, if_true, opH_sv, bin_lss]
  refine cond_dec (fun hlt => ?_) (fun hge2 => ?_)
  rotate_left
  · obtain rfl : i = A.length := by omega
    rw [List.take_of_length_le (Nat.le_refl _)] at oa og
    rw [Nat.sub_self, placesL] at hpl
    have ej0 := jobsR_ok (GL := GL) hge e5 hft hpl.symm
    try simp -implicitDefEqProofs (disch := first | with_reducible exact Nat.ne_of_beq_eq_false rfl | omega) only [opH_sv, opH_su, pureW_sv, opH_nil, pureW_nil, pick_t, pick_f, pick_tp, pick_fp, gd_tt, gd_ft, gd_tf, gd_ff, box_new, regs0, regs1, regs2, regs3, regs4, regs5, regs6, cells_agg, cells_int, cells_bool, cells_ptr, cells_slice, cells_string, cells_func, cells_nilFunc, cells_map, retK_ret, retK_normal, resL_tmp, resL_cell, resL_nil0, resL_nil1, resL_nil2, resL_nil3, resC_ptr, ex0, ex1, ex2, ex0p, ex1p, ex2p, HL.cond_true, HL.cond_false, thenK_normal, thenK_ret, thenK_exit, blockK_normal, blockK_ret, blockK_exit, scopeK_normal, scopeK_ret, scopeK_exit, wpH_pure, bin_add, bin_sub, bin_mul, bin_lss, bin_leq, bin_gtr, bin_geq, bin_quo, bin_rem, bin_quop, bin_remp, wrap_in, bin_addp, bin_subp, bin_mulp, bin_lssp, bin_leqp, bin_gtrp, bin_geqp, un_not, un_notp, un_neg, eq_int, ne_int, eq_intp, ne_intp, callV_fn, add_mk, upd_eq, upd_ne, cell_set_self, Nat.zero_add, Nat.add_zero, Option.some.injEq, exists_eq_left', List.getElem?_cons_succ, List.getElem?_cons_zero, true_and, and_true, bne_self_eq_false, beq_self_eq_true, Bool.not_true, Bool.not_false, Bool.and_true, Bool.and_self, Bool.and_false, Bool.true_and, List.length_cons, List.length_nil, ne_eq, not_false_eq_true, Nat.reduceAdd, Nat.reduceMul, if_true, if_false, oneCell_int, oneCell_bool, oneCell_ptr, oneCell_slice, oneCell_string, oneCell_func, oneCell_map, Int.toNat_natCast, List.set_cons_zero, List.set_cons_succ, Nat.lt_irrefl, Nat.zero_lt_succ, Nat.succ_lt_succ_iff, fa26_0, fa26_0p, fa26_1, fa26_1p, fa26_10, fa26_10p, fa26_11, fa26_11p, fa26_12, fa26_12p, fa26_13, fa26_13p, fa26_14, fa26_14p, fa26_15, fa26_15p, fa26_2, fa26_2p, fa26_3, fa26_3p, fa26_4, fa26_4p, fa26_5, fa26_5p, fa26_6, fa26_6p, fa26_7, fa26_7p, fa26_8, fa26_8p, fa26_9, fa26_9p, fa28_0, fa28_0p, fa28_1, fa28_1p, fa45_0, fa45_0p, fa45_1, fa45_1p, fa45_2, fa45_2p, fa45_3, fa45_3p, fa45_4, fa45_4p, fa45_5, fa45_5p, fa45_6, fa45_6p, fa49_0, fa49_0p, fa49_1, fa49_1p, fa74_0, fa74_0p, fa74_1, fa74_1p, fa74_2, fa74_2p, fa74_3, fa74_3p, fa85_0, fa85_0p, fa85_1, fa85_1p, fa93_0, fa93_0p, fa93_1, fa93_1p, fa93_2, fa93_2p, ld3, ld3p, ld4, ld4p, ld22, ld22p, ld23, ld23p, ld24, ld24p, ld26, ld26p, ld28, ld28p, ld42, ld42p, ld45, ld45p, ld49, ld49p, ld58, ld58p, ld69, ld69p, ld72, ld72p, ld85, ld85p, st3s, st4s, st22s, st23s, st24s, st26w, st28w, st42s, st45w, st49w, st85w, ix22, ix22p, ix23, ix23p, ix24, ix24p, ix31, ix31p, ix42, ix42p, ix104, ix104p, ln22, ln22p, ln23, ln23p, ln24, ln24p, ln31, ln31p, ln42, ln42p, al4, al22, al26, al28, al42, al49, al85, cf10, cf11, cf12, cf13, cf14, cf15, cf16, cf17, cf18, cf19, cf20, cf21, cf22, cf23, cf24, cf25, cf26, cf27, cf28, cf29, cf30, cf31, cf32, cf33, cf34, cf35, cf36, cf37, cf38, cf39, cf40, cf41, cf42, cf43, cf44, cf45, cf46, cf47, cf48, cf49, cf50, cf51, cf52, cf53, cf54, cf55, cf56, cf57, cf58, cf59, cf60, cf61, cf62, cf63, cf64, cf65, cf66, cf67, cf68, cf69, cf70, cf71, cf72, cf73, cf74, cf75, bd26_0_1_2_7_8_9_10_11_12_13_14_4_15, bd26_0_1_2_7_8_9_10_11_12_13_14_4_15p, bd28_, bd28_p, bd28_0, bd28_0p, bd28_0_1, bd28_0_1p, bd45_1_3_4_5_6, bd45_1_3_4_5_6p, bd49_0_1, bd49_0_1p, bd49_1, bd49_1p, bd74_0_1_2_3, bd74_0_1_2_3p, bd85_0, bd85_0p, bd85_0_1, bd85_0_1p, bd93_0_1_2, bd93_0_1_2p, bd94_0_1_2_3, bd94_0_1_2_3p, bs42_1_0, bs22_1_0, bs24_1_0, bs42_3_0_1_2, bs31_1_0, bs22_2_0_1, bs42_6_0_1_2_3_4_5, bs42_0_, eq4, eq4p, eq28, eq28p, eq42n, eq42np, eq42s, eq42sp, eq58n, eq58np, eq58s, eq58sp, eq63n, eq63np, eq63s, eq63sp, ne28, ne28p, ne45, ne45p]
    unfold S12_k4
    have cf : ∀ j, cellIn G h7 ⟨xf, j, none⟩ = _ := fun j => cell_of (look_own (s7.at 2 rfl set_self))
    have c1 : ∀ j, cellIn G h7 ⟨v1, j, none⟩ = _ := fun j => cell_of (look_own (s7.in 6 rfl _ _ b1))
    try simp -implicitDefEqProofs (disch := first | with_reducible exact Nat.ne_of_beq_eq_false rfl | omega) only [upd_ne, q14, q9, q3, q17, q5, opH_sv, cf38, fa26_15, add_mk, Nat.zero_add, ld4, ld28, Nat.add_zero, cf, List.getElem?_cons_zero, Option.some.injEq, List.getElem?_cons_succ, c1, bd45_1_3_4_5_6, bs31_1_0, exists_eq_left']
    intro b hb gb
    generalize eb : Hp.set h7 b _ = h8
    obtain ⟨l8, d8, b8⟩ := boxed eb hb d7 gb
    have s8 := s7.past (o := .cells #[.int .i64 0, .int .i64 2, .int .i64 0, .int .i64 bin, .int .i64 f.1, .int .i64 f.2, .int .i64 port.1, .int .i64 port.2, .int .i64 (-1)] 45 (0, 0)) hb
    rw [eb] at s8
    have z1 := zip_len (F := awayJ f) (A := A) (GL := GL)
    have z2 := zip_len (F := againJ f) (A := A) (GL := GL)
    refine append_piece jobC (by decide) un31 eojob (by decide) (by decide) (M := [fetchJ f bin port]) s8 d8 oa (Sees.row (c := jobC) (L := [fetchJ f bin port]) b8 rfl (Nat.le_refl _)) (by simp only [List.length_cons, List.length_nil]; omega) fun v9 a9 h9 o9 s9 d9 => ?_
    have cv0 : ∀ j, cellIn G h9 ⟨v0, j, none⟩ = _ := fun j => cell_of (look_own (s9.in 6 rfl _ _ b0'))
    try simp -implicitDefEqProofs only [cv0, List.getElem?_cons_succ, List.getElem?_cons_zero, Option.some.injEq, exists_eq_left']
    refine cond_bool (fun hb => ?_) (fun hb => ?_)
    · try simp -implicitDefEqProofs only [q18]
      refine (revj_spec (s9.sel [1, 0, 6] (by decide) rfl) og (by omega)).mono ?_
      rintro _ h10 ⟨ag', og', s10, d10⟩
      try simp -implicitDefEqProofs (disch := first | with_reducible exact Nat.ne_of_beq_eq_false rfl | omega) only [opH_sv, opH_su, pureW_sv, opH_nil, pureW_nil, pick_t, pick_f, pick_tp, pick_fp, gd_tt, gd_ft, gd_tf, gd_ff, box_new, regs0, regs1, regs2, regs3, regs4, regs5, regs6, cells_agg, cells_int, cells_bool, cells_ptr, cells_slice, cells_string, cells_func, cells_nilFunc, cells_map, retK_ret, retK_normal, resL_tmp, resL_cell, resL_nil0, resL_nil1, resL_nil2, resL_nil3, resC_ptr, ex0, ex1, ex2, ex0p, ex1p, ex2p, HL.cond_true, HL.cond_false, thenK_normal, thenK_ret, thenK_exit, blockK_normal, blockK_ret, blockK_exit, scopeK_normal, scopeK_ret, scopeK_exit, wpH_pure, bin_add, bin_sub, bin_mul, bin_lss, bin_leq, bin_gtr, bin_geq, bin_quo, bin_rem, bin_quop, bin_remp, wrap_in, bin_addp, bin_subp, bin_mulp, bin_lssp, bin_leqp, bin_gtrp, bin_geqp, un_not, un_notp, un_neg, eq_int, ne_int, eq_intp, ne_intp, callV_fn, add_mk, upd_eq, upd_ne, cell_set_self, Nat.zero_add, Nat.add_zero, Option.some.injEq, exists_eq_left', List.getElem?_cons_succ, List.getElem?_cons_zero, true_and, and_true, bne_self_eq_false, beq_self_eq_true, Bool.not_true, Bool.not_false, Bool.and_true, Bool.and_self, Bool.and_false, Bool.true_and, List.length_cons, List.length_nil, ne_eq, not_false_eq_true, Nat.reduceAdd, Nat.reduceMul, if_true, if_false, oneCell_int, oneCell_bool, oneCell_ptr, oneCell_slice, oneCell_string, oneCell_func, oneCell_map, Int.toNat_natCast, List.set_cons_zero, List.set_cons_succ, Nat.lt_irrefl, Nat.zero_lt_succ, Nat.succ_lt_succ_iff, fa26_0, fa26_0p, fa26_1, fa26_1p, fa26_10, fa26_10p, fa26_11, fa26_11p, fa26_12, fa26_12p, fa26_13, fa26_13p, fa26_14, fa26_14p, fa26_15, fa26_15p, fa26_2, fa26_2p, fa26_3, fa26_3p, fa26_4, fa26_4p, fa26_5, fa26_5p, fa26_6, fa26_6p, fa26_7, fa26_7p, fa26_8, fa26_8p, fa26_9, fa26_9p, fa28_0, fa28_0p, fa28_1, fa28_1p, fa45_0, fa45_0p, fa45_1, fa45_1p, fa45_2, fa45_2p, fa45_3, fa45_3p, fa45_4, fa45_4p, fa45_5, fa45_5p, fa45_6, fa45_6p, fa49_0, fa49_0p, fa49_1, fa49_1p, fa74_0, fa74_0p, fa74_1, fa74_1p, fa74_2, fa74_2p, fa74_3, fa74_3p, fa85_0, fa85_0p, fa85_1, fa85_1p, fa93_0, fa93_0p, fa93_1, fa93_1p, fa93_2, fa93_2p, ld3, ld3p, ld4, ld4p, ld22, ld22p, ld23, ld23p, ld24, ld24p, ld26, ld26p, ld28, ld28p, ld42, ld42p, ld45, ld45p, ld49, ld49p, ld58, ld58p, ld69, ld69p, ld72, ld72p, ld85, ld85p, st3s, st4s, st22s, st23s, st24s, st26w, st28w, st42s, st45w, st49w, st85w, ix22, ix22p, ix23, ix23p, ix24, ix24p, ix31, ix31p, ix42, ix42p, ix104, ix104p, ln22, ln22p, ln23, ln23p, ln24, ln24p, ln31, ln31p, ln42, ln42p, al4, al22, al26, al28, al42, al49, al85, cf10, cf11, cf12, cf13, cf14, cf15, cf16, cf17, cf18, cf19, cf20, cf21, cf22, cf23, cf24, cf25, cf26, cf27, cf28, cf29, cf30, cf31, cf32, cf33, cf34, cf35, cf36, cf37, cf38, cf39, cf40, cf41, cf42, cf43, cf44, cf45, cf46, cf47, cf48, cf49, cf50, cf51, cf52, cf53, cf54, cf55, cf56, cf57, cf58, cf59, cf60, cf61, cf62, cf63, cf64, cf65, cf66, cf67, cf68, cf69, cf70, cf71, cf72, cf73, cf74, cf75, bd26_0_1_2_7_8_9_10_11_12_13_14_4_15, bd26_0_1_2_7_8_9_10_11_12_13_14_4_15p, bd28_, bd28_p, bd28_0, bd28_0p, bd28_0_1, bd28_0_1p, bd45_1_3_4_5_6, bd45_1_3_4_5_6p, bd49_0_1, bd49_0_1p, bd49_1, bd49_1p, bd74_0_1_2_3, bd74_0_1_2_3p, bd85_0, bd85_0p, bd85_0_1, bd85_0_1p, bd93_0_1_2, bd93_0_1_2p, bd94_0_1_2_3, bd94_0_1_2_3p, bs42_1_0, bs22_1_0, bs24_1_0, bs42_3_0_1_2, bs31_1_0, bs22_2_0_1, bs42_6_0_1_2_3_4_5, bs42_0_, eq4, eq4p, eq28, eq28p, eq42n, eq42np, eq42s, eq42sp, eq58n, eq58np, eq58s, eq58sp, eq63n, eq63np, eq63s, eq63sp, ne28, ne28p, ne45, ne45p, q18]
      refine append_piece jobC (by decide) un31 eojob (by decide) (by decide) (s10.pick 1 rfl rfl) d10 o9 (og'.sees (by decide) (s10.in 0 rfl)) (by simp only [List.length_append, List.length_reverse, List.length_cons, List.length_nil]; omega) fun v11 a11 h11 o11 s11 d11 => ?_
      try simp -implicitDefEqProofs (disch := first | with_reducible exact Nat.ne_of_beq_eq_false rfl | omega) only [opH_sv, opH_su, pureW_sv, opH_nil, pureW_nil, pick_t, pick_f, pick_tp, pick_fp, gd_tt, gd_ft, gd_tf, gd_ff, box_new, regs0, regs1, regs2, regs3, regs4, regs5, regs6, cells_agg, cells_int, cells_bool, cells_ptr, cells_slice, cells_string, cells_func, cells_nilFunc, cells_map, retK_ret, retK_normal, resL_tmp, resL_cell, resL_nil0, resL_nil1, resL_nil2, resL_nil3, resC_ptr, ex0, ex1, ex2, ex0p, ex1p, ex2p, HL.cond_true, HL.cond_false, thenK_normal, thenK_ret, thenK_exit, blockK_normal, blockK_ret, blockK_exit, scopeK_normal, scopeK_ret, scopeK_exit, wpH_pure, bin_add, bin_sub, bin_mul, bin_lss, bin_leq, bin_gtr, bin_geq, bin_quo, bin_rem, bin_quop, bin_remp, wrap_in, bin_addp, bin_subp, bin_mulp, bin_lssp, bin_leqp, bin_gtrp, bin_geqp, un_not, un_notp, un_neg, eq_int, ne_int, eq_intp, ne_intp, callV_fn, add_mk, upd_eq, upd_ne, cell_set_self, Nat.zero_add, Nat.add_zero, Option.some.injEq, exists_eq_left', List.getElem?_cons_succ, List.getElem?_cons_zero, true_and, and_true, bne_self_eq_false, beq_self_eq_true, Bool.not_true, Bool.not_false, Bool.and_true, Bool.and_self, Bool.and_false, Bool.true_and, List.length_cons, List.length_nil, ne_eq, not_false_eq_true, Nat.reduceAdd, Nat.reduceMul, if_true, if_false, oneCell_int, oneCell_bool, oneCell_ptr, oneCell_slice, oneCell_string, oneCell_func, oneCell_map, Int.toNat_natCast, List.set_cons_zero, List.set_cons_succ, Nat.lt_irrefl, Nat.zero_lt_succ, Nat.succ_lt_succ_iff, fa26_0, fa26_0p, fa26_1, fa26_1p, fa26_10, fa26_10p, fa26_11, fa26_11p, fa26_12, fa26_12p, fa26_13, fa26_13p, fa26_14, fa26_14p, fa26_15, fa26_15p, fa26_2, fa26_2p, fa26_3, fa26_3p, fa26_4, fa26_4p, fa26_5, fa26_5p, fa26_6, fa26_6p, fa26_7, fa26_7p, fa26_8, fa26_8p, fa26_9, fa26_9p, fa28_0, fa28_0p, fa28_1, fa28_1p, fa45_0, fa45_0p, fa45_1, fa45_1p, fa45_2, fa45_2p, fa45_3, fa45_3p, fa45_4, fa45_4p, fa45_5, fa45_5p, fa45_6, fa45_6p, fa49_0, fa49_0p, fa49_1, fa49_1p, fa74_0, fa74_0p, fa74_1, fa74_1p, fa74_2, fa74_2p, fa74_3, fa74_3p, fa85_0, fa85_0p, fa85_1, fa85_1p, fa93_0, fa93_0p, fa93_1, fa93_1p, fa93_2, fa93_2p, ld3, ld3p, ld4, ld4p, ld22, ld22p, ld23, ld23p, ld24, ld24p, ld26, ld26p, ld28, ld28p, ld42, ld42p, ld45, ld45p, ld49, ld49p, ld58, ld58p, ld69, ld69p, ld72, ld72p, ld85, ld85p, st3s, st4s, st22s, st23s, st24s, st26w, st28w, st42s, st45w, st49w, st85w, ix22, ix22p, ix23, ix23p, ix24, ix24p, ix31, ix31p, ix42, ix42p, ix104, ix104p, ln22, ln22p, ln23, ln23p, ln24, ln24p, ln31, ln31p, ln42, ln42p, al4, al22, al26, al28, al42, al49, al85, cf10, cf11, cf12, cf13, cf14, cf15, cf16, cf17, cf18, cf19, cf20, cf21, cf22, cf23, cf24, cf25, cf26, cf27, cf28, cf29, cf30, cf31, cf32, cf33, cf34, cf35, cf36, cf37, cf38, cf39, cf40, cf41, cf42, cf43, cf44, cf45, cf46, cf47, cf48, cf49, cf50, cf51, cf52, cf53, cf54, cf55, cf56, cf57, cf58, cf59, cf60, cf61, cf62, cf63, cf64, cf65, cf66, cf67, cf68, cf69, cf70, cf71, cf72, cf73, cf74, cf75, bd26_0_1_2_7_8_9_10_11_12_13_14_4_15, bd26_0_1_2_7_8_9_10_11_12_13_14_4_15p, bd28_, bd28_p, bd28_0, bd28_0p, bd28_0_1, bd28_0_1p, bd45_1_3_4_5_6, bd45_1_3_4_5_6p, bd49_0_1, bd49_0_1p, bd49_1, bd49_1p, bd74_0_1_2_3, bd74_0_1_2_3p, bd85_0, bd85_0p, bd85_0_1, bd85_0_1p, bd93_0_1_2, bd93_0_1_2p, bd94_0_1_2_3, bd94_0_1_2_3p, bs42_1_0, bs22_1_0, bs24_1_0, bs42_3_0_1_2, bs31_1_0, bs22_2_0_1, bs42_6_0_1_2_3_4_5, bs42_0_, eq4, eq4p, eq28, eq28p, eq42n, eq42np, eq42s, eq42sp, eq58n, eq58np, eq58s, eq58sp, eq63n, eq63np, eq63s, eq63sp, ne28, ne28p, ne45, ne45p]
      unfold S12_k5
      rw [← hKK]
      try simp -implicitDefEqProofs (disch := first | with_reducible exact Nat.ne_of_beq_eq_false rfl | omega) only [upd_eq, retK_ret, resL_tmp, upd_ne, resL_nil2]
      refine ⟨l02.trans (s11.in 2 rfl), d11, .inl ⟨hm, a11, v11, by rw [ej0], ?_, ((s11.sel [2, 0] (by decide) rfl).cut l02).sel [1, 0] (by decide) rfl⟩⟩
      rw [ej0]
      unfold jobsOf
      rw [if_pos hb]
      exact o11
    · try simp -implicitDefEqProofs only [opH_sv, opH_su, pureW_sv, opH_nil, pureW_nil, pick_t, pick_f, pick_tp, pick_fp, gd_tt, gd_ft, gd_tf, gd_ff, box_new, regs0, regs1, regs2, regs3, regs4, regs5, regs6, cells_agg, cells_int, cells_bool, cells_ptr, cells_slice, cells_string, cells_func, cells_nilFunc, cells_map, retK_ret, retK_normal, resL_tmp, resL_cell, resL_nil0, resL_nil1, resL_nil2, resL_nil3, resC_ptr, ex0, ex1, ex2, ex0p, ex1p, ex2p, HL.cond_true, HL.cond_false, thenK_normal, thenK_ret, thenK_exit, blockK_normal, blockK_ret, blockK_exit, scopeK_normal, scopeK_ret, scopeK_exit, wpH_pure, bin_add, bin_sub, bin_mul, bin_lss, bin_leq, bin_gtr, bin_geq, bin_quo, bin_rem, bin_quop, bin_remp, wrap_in, bin_addp, bin_subp, bin_mulp, bin_lssp, bin_leqp, bin_gtrp, bin_geqp, un_not, un_notp, un_neg, eq_int, ne_int, eq_intp, ne_intp, callV_fn, add_mk, upd_eq, upd_ne, cell_set_self, Nat.zero_add, Nat.add_zero, Option.some.injEq, exists_eq_left', List.getElem?_cons_succ, List.getElem?_cons_zero, true_and, and_true, bne_self_eq_false, beq_self_eq_true, Bool.not_true, Bool.not_false, Bool.and_true, Bool.and_self, Bool.and_false, Bool.true_and, List.length_cons, List.length_nil, ne_eq, not_false_eq_true, Nat.reduceAdd, Nat.reduceMul, if_true, if_false, oneCell_int, oneCell_bool, oneCell_ptr, oneCell_slice, oneCell_string, oneCell_func, oneCell_map, Int.toNat_natCast, List.set_cons_zero, List.set_cons_succ, Nat.lt_irrefl, Nat.zero_lt_succ, Nat.succ_lt_succ_iff, fa26_0, fa26_0p, fa26_1, fa26_1p, fa26_10, fa26_10p, fa26_11, fa26_11p, fa26_12, fa26_12p, fa26_13, fa26_13p, fa26_14, fa26_14p, fa26_15, fa26_15p, fa26_2, fa26_2p, fa26_3, fa26_3p, fa26_4, fa26_4p, fa26_5, fa26_5p, fa26_6, fa26_6p, fa26_7, fa26_7p, fa26_8, fa26_8p, fa26_9, fa26_9p, fa28_0, fa28_0p, fa28_1, fa28_1p, fa45_0, fa45_0p, fa45_1, fa45_1p, fa45_2, fa45_2p, fa45_3, fa45_3p, fa45_4, fa45_4p, fa45_5, fa45_5p, fa45_6, fa45_6p, fa49_0, fa49_0p, fa49_1, fa49_1p, fa74_0, fa74_0p, fa74_1, fa74_1p, fa74_2, fa74_2p, fa74_3, fa74_3p, fa85_0, fa85_0p, fa85_1, fa85_1p, fa93_0, fa93_0p, fa93_1, fa93_1p, fa93_2, fa93_2p, ld3, ld3p, ld4, ld4p, ld22, ld22p, ld23, ld23p, ld24, ld24p, ld26, ld26p, ld28, ld28p, ld42, ld42p, ld45, ld45p, ld49, ld49p, ld58, ld58p, ld69, ld69p, ld72, ld72p, ld85, ld85p, st3s, st4s, st22s, st23s, st24s, st26w, st28w, st42s, st45w, st49w, st85w, ix22, ix22p, ix23, ix23p, ix24, ix24p, ix31, ix31p, ix42, ix42p, ix104, ix104p, ln22, ln22p, ln23, ln23p, ln24, ln24p, ln31, ln31p, ln42, ln42p, al4, al22, al26, al28, al42, al49, al85, cf10, cf11, cf12, cf13, cf14, cf15, cf16, cf17, cf18, cf19, cf20, cf21, cf22, cf23, cf24, cf25, cf26, cf27, cf28, cf29, cf30, cf31, cf32, cf33, cf34, cf35, cf36, cf37, cf38, cf39, cf40, cf41, cf42, cf43, cf44, cf45, cf46, cf47, cf48, cf49, cf50, cf51, cf52, cf53, cf54, cf55, cf56, cf57, cf58, cf59, cf60, cf61, cf62, cf63, cf64, cf65, cf66, cf67, cf68, cf69, cf70, cf71, cf72, cf73, cf74, cf75, bd26_0_1_2_7_8_9_10_11_12_13_14_4_15, bd26_0_1_2_7_8_9_10_11_12_13_14_4_15p, bd28_, bd28_p, bd28_0, bd28_0p, bd28_0_1, bd28_0_1p, bd45_1_3_4_5_6, bd45_1_3_4_5_6p, bd49_0_1, bd49_0_1p, bd49_1, bd49_1p, bd74_0_1_2_3, bd74_0_1_2_3p, bd85_0, bd85_0p, bd85_0_1, bd85_0_1p, bd93_0_1_2, bd93_0_1_2p, bd94_0_1_2_3, bd94_0_1_2_3p, bs42_1_0, bs22_1_0, bs24_1_0, bs42_3_0_1_2, bs31_1_0, bs22_2_0_1, bs42_6_0_1_2_3_4_5, bs42_0_, eq4, eq4p, eq28, eq28p, eq42n, eq42np, eq42s, eq42sp, eq58n, eq58np, eq58s, eq58sp, eq63n, eq63np, eq63s, eq63sp, ne28, ne28p, ne45, ne45p]
      unfold S12_k5
      rw [← hKK]
      try simp -implicitDefEqProofs (disch := first | with_reducible exact Nat.ne_of_beq_eq_false rfl | omega) only [upd_ne, upd_eq, retK_ret, resL_tmp, resL_nil2]
      refine ⟨l02.trans (s9.in 6 rfl), d9, .inl ⟨hm, a9, v9, by rw [ej0], ?_, ((s9.sel [6, 0] (by decide) rfl).cut l02).sel [1, 0] (by decide) rfl⟩⟩
      rw [ej0]
      unfold jobsOf
      rw [if_neg (by rw [hb]; decide), List.append_nil]
      exact o9
  obtain ⟨b, hAb⟩ : ∃ b, A[i]? = some b := ⟨_, List.getElem?_eq_getElem (by omega)⟩
  obtain ⟨ba, bo, rfl, y0⟩ := Sees.num (ov.sees (G := G) (by decide) (s7.in 3 rfl)) hAb
  unfold S12_l6_k7
  have cf : ∀ j, cellIn G h7 ⟨xf, j, none⟩ = _ := fun j => cell_of (look_own (s7.at 2 rfl set_self))
  try simp -implicitDefEqProofs (disch := first | with_reducible exact Nat.ne_of_beq_eq_false rfl | omega) only [upd_ne, q56, q58, q14, q12, thenK_ret, blockK_ret, opH_sv, opH_su, al28, cf37, ld28, add_mk, Nat.add_zero, Nat.zero_add, ix42 (Int.natCast_nonneg i) hlt, Int.toNat_natCast, Nat.mul_one, ld3, y0, Option.some.injEq, cf, List.getElem?_cons_zero, List.getElem?_cons_succ, exists_eq_left']
  refine (place_walk (from_ := f) (s7.sel [4, 5, 6, 0, 1, 2, 3] (by decide) rfl) yo go (fun G' => htv G' h2 l02) hTL).mono ?_
  rintro _ h8 ⟨rfl, s8, d8⟩
  rw [skip_given hgt', stacks_eq hm]
  have epl := hpl
  rw [show A.length - i = (A.length - (i + 1)) + 1 by omega, placesL] at epl
  generalize hbb : bestL f (skipR f C.ht S TL GL) none (rstacksL C) = bb at epl
  try simp -implicitDefEqProofs only [ex1, un_not, ex0, st28w]
  intro xt hxt gxt
  cases bb with
  | none =>
    try simp -implicitDefEqProofs only [Option.isSome_none, Bool.not_false, HL.cond_true]
    rw [← hKK]
    try simp -implicitDefEqProofs (disch := first | with_reducible exact Nat.ne_of_beq_eq_false rfl | omega) only [retK_ret, resL_tmp, upd_ne, upd_eq, resL_nil2]
    exact fail 14 _ ((s8.sel [2] (by decide) rfl).past hxt) (d8.set gxt) (jobsR_room hge e5 hft epl.symm)
  | some z =>
  obtain ⟨gv2, hroom⟩ := gv.add hbb
  have s9 := s8.new (o := cellO z) hxt
  have d9 := d8.set (o := cellO z) gxt
  try simp -implicitDefEqProofs (disch := first | with_reducible exact Nat.ne_of_beq_eq_false rfl | omega) only [Option.isSome_some, Bool.not_true, HL.cond_false]
  rw [show (bCell (some z)) = z from rfl]
  generalize Hp.set h8 xt _ = h9 at s9 d9 ⊢
  have s9 : HL.Sep [noHp.set xt (cellO z), ya, ga, h2, aw, ag, noHp.set xf (cellO f), io] h9 := s9
  unfold S12_l6_k9
  obtain ⟨om, C', ab', cb', ap', cp', ar', cr', az', cs', ty, _⟩ := id yo
  obtain ⟨om', hom, mi, nym⟩ := yo.map
  have cy : ∀ j, cellIn G h9 ⟨yp, j, none⟩ = _ := fun j => cell_of (look_own (s9.in 1 rfl _ _ (ty.at 0 rfl set_self)))
  have ct : ∀ j, cellIn G h9 ⟨xt, j, none⟩ = _ := fun j => cell_of (look_own (s9.at 0 rfl set_self))
  have hmb : h9 mb = some om' := s9.in 1 rfl _ _ hom
  have nxm : xt ≠ mb := fun e => by
    rcases s9.apart (b := ya) (by simp) xt with k | k
    · rw [set_self] at k; cases k
    · rw [e, hom] at k; cases k
  obtain ⟨n0, hn0⟩ : ∃ n0, n0 = hgt S z + (GL.count z : Int) := ⟨_, rfl⟩
  have ez : (if is (z.1, z.2) = true then hv (z.1, z.2) else 0) = n0 := by rw [hn0]; exact hgt' z
  have hn1 : 0 ≤ n0 ∧ n0 < 8 := by
    have h0 : 0 ≤ hgt S z := by unfold hgt; exact Int.natCast_nonneg _
    omega
  have kp := fun (o' : Obj) (hv' : Cell → Int) (is' : Cell → Bool) (m' : MapIs o' hv' is') (e : (if is z = true then hv z else 0) = (if is' z = true then hv' z else 0)) => soft_entry (G := G) (xb := xt) (z := z) hmb mi m' nym nxm e (a := ⟨yp, 17, none⟩) rfl rfl
  obtain ⟨Rd, hRd⟩ : ∃ Rd : Sem Next → Prop, Rd = (fun s => s = sv (Instr.loadAt 72 (.pointer (some ⟨yp, 17, none⟩))) ∨ s = sv (Instr.loadAt 28 (.pointer (some ⟨xt, 0, none⟩))) ∨ s = sv (Instr.lookup 72 (.map (some mb)) (.agg #[.int .i64 z.1, .int .i64 z.2]) false)) := ⟨_, rfl⟩
  rw [← hRd] at kp
  have r1 : Rd (sv (Instr.loadAt 72 (.pointer (some ⟨yp, 17, none⟩)))) := by rw [hRd]; exact .inl rfl
  have r2 : Rd (sv (Instr.loadAt 28 (.pointer (some ⟨xt, 0, none⟩)))) := by rw [hRd]; exact .inr (.inl rfl)
  have r3 : Rd (sv (Instr.lookup 72 (.map (some mb)) (.agg #[.int .i64 z.1, .int .i64 z.2]) false)) := by rw [hRd]; exact .inr (.inr rfl)
  refine ⟨h9, Rd, Hp.le.refl _, ?_⟩
  try simp -implicitDefEqProofs (disch := first | with_reducible exact Nat.ne_of_beq_eq_false rfl | omega) only [upd_ne, q12, upd_eq, r2, opH_sv, ld28, add_mk, Nat.add_zero, Nat.zero_add, opH_su, pureW_sv, ld28p, ct, List.getElem?_cons_zero, Option.some.injEq, List.getElem?_cons_succ, exists_eq_left', true_and, pureW_nil, fa74_2p, r1, ld72p, cy, r3, lk1 (look_own hmb) mi, ez, bin_addp, wrap_in]
  refine ment hmb mi fun o' stp me => ?_
  refine ⟨kp _ _ _ me.is ?_, ?_⟩
  · have e0 : ((z.1, z.2) == z) = true := by simp
    simp only [e0, Bool.true_or, if_true]
  rw [ez]
  try simp -implicitDefEqProofs only [ex1p]
  refine mest set_self me fun o2 m2 => ?_
  rw [set_set]
  have s10 := (s9.pick 1 rfl rfl).put (o := o2) hom
  have d10 := d9.set (o := o2) (d9 _ _ hmb)
  have yo2 := yo.put m2
  generalize Hp.set h9 mb o2 = h10 at s10 d10 ⊢
  generalize Hp.set ya mb o2 = ya2 at s10 yo2
  have s10 : HL.Sep [ya2, noHp.set xt (cellO z), ga, h2, aw, ag, noHp.set xf (cellO f), io] h10 := s10
  have cf10 : ∀ j, cellIn G h10 ⟨xf, j, none⟩ = _ := fun j => cell_of (look_own (s10.at 6 rfl set_self))
  have ct10 : ∀ j, cellIn G h10 ⟨xt, j, none⟩ = _ := fun j => cell_of (look_own (s10.at 1 rfl set_self))
  try simp -implicitDefEqProofs (disch := first | with_reducible exact Nat.ne_of_beq_eq_false rfl | omega) only [q14, q17, ld28, add_mk, Nat.add_zero, Nat.zero_add, bd45_1_3_4_5_6, bs31_1_0, cf10, List.getElem?_cons_zero, Option.some.injEq, List.getElem?_cons_succ, ct10, exists_eq_left']
  intro w1 hw1 gw1
  generalize eb : Hp.set h10 w1 _ = h11
  obtain ⟨l11, d11, b11⟩ := boxed eb hw1 d10 gw1
  have s11 := (s10.sel [4, 0, 1, 2, 3, 5, 6, 7] (by decide) rfl).past (o := .cells #[.int .i64 0, .int .i64 1, .int .i64 0, .int .i64 b, .int .i64 f.1, .int .i64 f.2, .int .i64 z.1, .int .i64 z.2, .int .i64 (-1)] 45 (0, 0)) hw1
  rw [eb] at s11
  have z1 := zip_len (F := awayJ f) (A := A.take i) (GL := GL)
  have z2 := zip_len (F := againJ f) (A := A.take i) (GL := GL)
  refine append_piece jobC (by decide) un31 eojob (by decide) (by decide) (M := [awayJ f b z]) s11 d11 oa (Sees.row (c := jobC) (L := [awayJ f b z]) b11 rfl (Nat.le_refl _)) (by simp only [List.length_cons, List.length_nil]; omega) fun v12 a12 h12 o12 s12 d12 => ?_
  -- [a12, ya2, xt, ga, h2, ag, xf, io]
  have cf12 : ∀ j, cellIn G h12 ⟨xf, j, none⟩ = _ := fun j => cell_of (look_own (s12.at 6 rfl set_self))
  have ct12 : ∀ j, cellIn G h12 ⟨xt, j, none⟩ = _ := fun j => cell_of (look_own (s12.at 2 rfl set_self))
  try simp -implicitDefEqProofs (disch := first | with_reducible exact Nat.ne_of_beq_eq_false rfl | omega) only [ct12, List.getElem?_cons_zero, Option.some.injEq, List.getElem?_cons_succ, cf12, q18, exists_eq_left']
  intro w2 hw2 gw2
  generalize eb2 : Hp.set h12 w2 _ = h13
  obtain ⟨l13, d13, b13⟩ := boxed eb2 hw2 d12 gw2
  have s13 := (s12.sel [5, 0, 6, 7, 1, 3, 4] (by decide) rfl).past (o := .cells #[.int .i64 0, .int .i64 3, .int .i64 0, .int .i64 b, .int .i64 z.1, .int .i64 z.2, .int .i64 f.1, .int .i64 f.2, .int .i64 (-1)] 45 (0, 0)) hw2
  rw [eb2] at s13
  refine append_piece jobC (by decide) un31 eojob (by decide) (by decide) (M := [againJ f b z]) s13 d13 og (Sees.row (c := jobC) (L := [againJ f b z]) b13 rfl (Nat.le_refl _)) (by simp only [List.length_cons, List.length_nil]; omega) fun v14 a14 h14 o14 s14 d14 => ?_
  -- [a14, a12, xf, io, ya2, ga, h2]
  unfold S12_l6_k8
  try simp -implicitDefEqProofs (disch := first | with_reducible exact Nat.ne_of_beq_eq_false rfl | omega) only [upd_ne, q58, thenK_normal, opH_sv, bin_add, wrap_in]
  refine HX (A.length - (i + 1)) _ _ (by omega) ⟨i + 1, GL ++ [z], a12, a14, ya2, v12, v14, _, _, rfl, by omega, by simp [hgl], gv2, epl, by simp -implicitDefEqProofs (disch := first | with_reducible exact Nat.ne_of_beq_eq_false rfl | omega) only [upd_ne, q3], by simp -implicitDefEqProofs (disch := first | with_reducible exact Nat.ne_of_beq_eq_false rfl | omega) only [upd_ne, q5], by simp -implicitDefEqProofs (disch := first | with_reducible exact Nat.ne_of_beq_eq_false rfl | omega) only [upd_ne, q9], by simp -implicitDefEqProofs (disch := first | with_reducible exact Nat.ne_of_beq_eq_false rfl | omega) only [upd_ne, q12], by simp -implicitDefEqProofs (disch := first | with_reducible exact Nat.ne_of_beq_eq_false rfl | omega) only [upd_ne, q14], by simp -implicitDefEqProofs (disch := first | with_reducible exact Nat.ne_of_beq_eq_false rfl | omega) only [upd_ne, upd_eq], by simp -implicitDefEqProofs (disch := first | with_reducible exact Nat.ne_of_beq_eq_false rfl | omega) only [upd_ne, upd_eq], by simp -implicitDefEqProofs (disch := first | with_reducible exact Nat.ne_of_beq_eq_false rfl | omega) only [upd_ne, q56], by simp -implicitDefEqProofs (disch := first | with_reducible exact Nat.ne_of_beq_eq_false rfl | omega) only [upd_ne, q57], by simp -implicitDefEqProofs (disch := first | with_reducible exact Nat.ne_of_beq_eq_false rfl | omega) only [upd_eq] <;> rfl, yo2, (fun c => ?_), ?_, ?_, s14.sel [1, 0, 2, 3, 4, 5, 6] (by decide) rfl, d14⟩
  · rw [List.count_append, List.count_singleton]
    have hc := hgt' c
    by_cases hzc : (z == c) = true
    · obtain rfl := eq_of_beq hzc
      simp [← hn0]
      omega
    · have hzc' : (z == c) = false := by simpa using hzc
      have : ((z.1, z.2) == c) = false := hzc'
      simp only [this, Bool.false_or, Bool.false_eq_true, if_false, hzc']
      rw [Nat.add_zero, ← hc]
      cases is c <;> simp
  · rw [zip_step hAb hgl]; exact o12
  · rw [zip_step hAb hgl]; exact o14

end Go.Proofs.YtangejiigopdaaaDoor
end

section
/- The reference's jobs. -/
set_option linter.unusedSimpArgs false
set_option linter.unusedVariables false
set_option maxRecDepth 100000
namespace Go.Proofs.YtangejiigopdaaaDoor
open Go Go.HL

theorem findIn_step {S : List Stk} {bin : Int} {c : Cell} : ∀ {L : List Cell} {i : Nat}, findIn S bin (L.take i) = none → L[i]? = some c →
    (bin ∈ binsL S c → findIn S bin L = some (c, aboveL (binsL S c) bin)) ∧ (bin ∉ binsL S c → findIn S bin (L.take (i + 1)) = none)
  | [], i, _, h2 => by simp at h2
  | x :: L, 0, _, h2 => by
    simp at h2
    subst h2
    exact ⟨fun hb => by rw [findIn, if_pos hb], fun hb => by rw [List.take_succ_cons, findIn, if_neg hb, List.take_zero]; rfl⟩
  | x :: L, i + 1, h1, h2 => by
    rw [List.take_succ_cons, findIn] at h1
    split at h1
    · cases h1
    · rename_i hx
      have ih := findIn_step (S := S) (bin := bin) (c := c) (L := L) (i := i) h1 (by simpa using h2)
      exact ⟨fun hb => by rw [findIn, if_neg hx]; exact ih.1 hb, fun hb => by rw [List.take_succ_cons, findIn, if_neg hx]; exact ih.2 hb⟩
theorem above_hit {B : List Int} {bin : Int} {k : Nat} (h1 : bin ∉ B.take k) (h2 : B[k]? = some bin) : (aboveL B bin).length = B.length - 1 - k ∧ bin ∈ B := by
  have hk := (List.getElem?_eq_some_iff.1 h2).1
  have hi : B.findIdx (fun x => bin == x) = k := by
    rw [List.findIdx_eq hk]
    refine ⟨by rw [(List.getElem?_eq_some_iff.1 h2).2]; simp, fun j hj => ?_⟩
    have hm : B[j]'(by omega) ∈ B.take k := by
      rw [List.mem_take_iff_getElem]
      exact ⟨j, by omega, rfl⟩
    have : bin ≠ B[j]'(by omega) := fun e => h1 (e ▸ hm)
    simpa using this
  refine ⟨?_, List.mem_of_getElem? h2⟩
  unfold aboveL
  rw [hi, List.length_reverse, List.length_drop]
  omega
theorem above_lt {B : List Int} {bin : Int} : (aboveL B bin).length ≤ B.length - 1 := by
  unfold aboveL
  rw [List.length_reverse, List.length_drop]
  omega
theorem above_get {B : List Int} {bin : Int} {k : Nat} (h : k < (aboveL B bin).length) : (aboveL B bin)[k]? = B[B.length - 1 - k]? := by
  unfold aboveL at *
  rw [List.length_reverse, List.length_drop] at h
  rw [List.getElem?_reverse (by rw [List.length_drop]; exact h), List.getElem?_drop, List.length_drop]
  congr 1
  omega

def RJobsPost (G h : Hp) (C : Conf) (S : List Stk) (TL : List Cell) (bin : Int) (port : Cell) (u : Value) (h' : Hp) : Prop := Dis G h' ∧ ∃ io vv, u = .tuple #[vv, .int .i64 (jobsR C S TL bin port).2] ∧ Slc jobC 45 io vv (jobsR C S TL bin port).1 ∧ HL.Sep [io, h] h'

set_option maxHeartbeats 8000000 in
theorem rJobs_spec {G h : Hp} {v sv tv : Value} {C : Conf} {S : List Stk} {TL : List Cell} {bin : Int} {port : Cell} (hv : CV G h v C) (hss : StS G h sv S) (ht : Sees cellC G h tv TL) (hL : C.bl.length ≤ 100000000000000) (hP : C.po.length ≤ 100000000000000) (hR : C.ro.length ≤ 100000000000000) (ew : C.w = (wC C : Int)) (ek : C.h = (kC C : Int)) (w16 : wC C ≤ 16) (k16 : kC C ≤ 16) (ht8 : 1 ≤ C.ht ∧ C.ht ≤ 8)
    (hS : S.length ≤ 100000000000000) (hTL : TL.length ≤ 100000000000000) (hB : ∀ s ∈ S, s.2.length ≤ 17592186044320) :
    HCalls Tryd.prog G 15 #[v, sv, tv, .int .i64 bin, cellV port] h (RJobsPost G h C S TL bin port) := by
  have hcl := rstacks_len w16 k16
  have hv0 := hv
  obtain ⟨ab, cb, ap, cp, ar, cr, az, cs, rfl, ca⟩ := hv
  obtain ⟨sa, sc, rfl, _⟩ := id hss
  obtain ⟨ta, tc, rfl⟩ := ht.len
  refine HCalls.assume fun d => enter15 (by simp) ?_
  unfold S15
  simp -implicitDefEqProofs only [regs0, regs4, retK_ret, resL_tmp, upd_ne, upd_eq, resL_nil2, opH_sv, cf47, box_new, cells_agg, ld28, add_mk, Nat.add_zero, Nat.zero_add, ld26, cell_set_self, List.getElem?_cons_zero, Option.some.injEq, List.getElem?_cons_succ, exists_eq_left']
  intro v0 hv0' gv0 v1 hv1 gv1
  generalize e1 : Hp.set h v0 _ = h1 at hv1 ⊢
  obtain ⟨l1, d1, b0⟩ := boxed e1 hv0' d gv0
  generalize e2 : Hp.set h1 v1 _ = h2
  obtain ⟨l2, d2, b1⟩ := boxed e2 hv1 d1 gv1
  have l02 := l1.trans l2
  have b0' := l2 _ _ b0
  have c0 : ∀ j, cellIn G h2 ⟨v0, j, none⟩ = _ := fun j => cell_of (look_own b0')
  have c1 : ∀ j, cellIn G h2 ⟨v1, j, none⟩ = _ := fun j => cell_of (look_own b1)
  try simp -implicitDefEqProofs only [c0, List.getElem?_cons_zero, Option.some.injEq, List.getElem?_cons_succ, exists_eq_left']
  refine (rport_spec (c := port) (ca.up l02 d2).cv hP).mono ?_
  rintro _ h2 ⟨rfl, rfl⟩
  have fail : ∀ (n : Int) (hh : Hp), h.le hh → Dis G hh → jobsR C S TL bin port = ([], n) → RJobsPost G h C S TL bin port (.tuple #[.slice none 0 0, .int .i64 n]) hh := by
    intro n hh l dd e
    unfold RJobsPost
    rw [e]
    exact ⟨dd, noHp, _, rfl, Slc.nil, ((Sep.one (h := hh)).cut l).none⟩
  try simp -implicitDefEqProofs only [bin_lss]
  refine cond_dec (fun hlt => ?_) (fun hge => ?_)
  · try simp -implicitDefEqProofs only [opH_sv, opH_su, pureW_sv, opH_nil, pureW_nil, pick_t, pick_f, pick_tp, pick_fp, gd_tt, gd_ft, gd_tf, gd_ff, box_new, regs0, regs1, regs2, regs3, regs4, regs5, regs6, cells_agg, cells_int, cells_bool, cells_ptr, cells_slice, cells_string, cells_func, cells_nilFunc, cells_map, retK_ret, retK_normal, resL_tmp, resL_cell, resL_nil0, resL_nil1, resL_nil2, resL_nil3, resC_ptr, ex0, ex1, ex2, ex0p, ex1p, ex2p, HL.cond_true, HL.cond_false, thenK_normal, thenK_ret, thenK_exit, blockK_normal, blockK_ret, blockK_exit, scopeK_normal, scopeK_ret, scopeK_exit, wpH_pure, bin_add, bin_sub, bin_mul, bin_lss, bin_leq, bin_gtr, bin_geq, bin_quo, bin_rem, bin_quop, bin_remp, wrap_in, bin_addp, bin_subp, bin_mulp, bin_lssp, bin_leqp, bin_gtrp, bin_geqp, un_not, un_notp, un_neg, eq_int, ne_int, eq_intp, ne_intp, callV_fn, add_mk, upd_eq, upd_ne, cell_set_self, Nat.zero_add, Nat.add_zero, Option.some.injEq, exists_eq_left', List.getElem?_cons_succ, List.getElem?_cons_zero, true_and, and_true, bne_self_eq_false, beq_self_eq_true, Bool.not_true, Bool.not_false, Bool.and_true, Bool.and_self, Bool.and_false, Bool.true_and, List.length_cons, List.length_nil, ne_eq, not_false_eq_true, Nat.reduceAdd, Nat.reduceMul, if_true, if_false, oneCell_int, oneCell_bool, oneCell_ptr, oneCell_slice, oneCell_string, oneCell_func, oneCell_map, Int.toNat_natCast, List.set_cons_zero, List.set_cons_succ, Nat.lt_irrefl, Nat.zero_lt_succ, Nat.succ_lt_succ_iff, fa26_0, fa26_0p, fa26_1, fa26_1p, fa26_10, fa26_10p, fa26_11, fa26_11p, fa26_12, fa26_12p, fa26_13, fa26_13p, fa26_14, fa26_14p, fa26_15, fa26_15p, fa26_2, fa26_2p, fa26_3, fa26_3p, fa26_4, fa26_4p, fa26_5, fa26_5p, fa26_6, fa26_6p, fa26_7, fa26_7p, fa26_8, fa26_8p, fa26_9, fa26_9p, fa28_0, fa28_0p, fa28_1, fa28_1p, fa45_0, fa45_0p, fa45_1, fa45_1p, fa45_2, fa45_2p, fa45_3, fa45_3p, fa45_4, fa45_4p, fa45_5, fa45_5p, fa45_6, fa45_6p, fa49_0, fa49_0p, fa49_1, fa49_1p, fa74_0, fa74_0p, fa74_1, fa74_1p, fa74_2, fa74_2p, fa74_3, fa74_3p, fa85_0, fa85_0p, fa85_1, fa85_1p, fa93_0, fa93_0p, fa93_1, fa93_1p, fa93_2, fa93_2p, ld3, ld3p, ld4, ld4p, ld22, ld22p, ld23, ld23p, ld24, ld24p, ld26, ld26p, ld28, ld28p, ld42, ld42p, ld45, ld45p, ld49, ld49p, ld58, ld58p, ld69, ld69p, ld72, ld72p, ld85, ld85p, st3s, st4s, st22s, st23s, st24s, st26w, st28w, st42s, st45w, st49w, st85w, ix22, ix22p, ix23, ix23p, ix24, ix24p, ix31, ix31p, ix42, ix42p, ix104, ix104p, ln22, ln22p, ln23, ln23p, ln24, ln24p, ln31, ln31p, ln42, ln42p, al4, al22, al26, al28, al42, al49, al85, cf10, cf11, cf12, cf13, cf14, cf15, cf16, cf17, cf18, cf19, cf20, cf21, cf22, cf23, cf24, cf25, cf26, cf27, cf28, cf29, cf30, cf31, cf32, cf33, cf34, cf35, cf36, cf37, cf38, cf39, cf40, cf41, cf42, cf43, cf44, cf45, cf46, cf47, cf48, cf49, cf50, cf51, cf52, cf53, cf54, cf55, cf56, cf57, cf58, cf59, cf60, cf61, cf62, cf63, cf64, cf65, cf66, cf67, cf68, cf69, cf70, cf71, cf72, cf73, cf74, cf75, bd26_0_1_2_7_8_9_10_11_12_13_14_4_15, bd26_0_1_2_7_8_9_10_11_12_13_14_4_15p, bd28_, bd28_p, bd28_0, bd28_0p, bd28_0_1, bd28_0_1p, bd45_1_3_4_5_6, bd45_1_3_4_5_6p, bd49_0_1, bd49_0_1p, bd49_1, bd49_1p, bd74_0_1_2_3, bd74_0_1_2_3p, bd85_0, bd85_0p, bd85_0_1, bd85_0_1p, bd93_0_1_2, bd93_0_1_2p, bd94_0_1_2_3, bd94_0_1_2_3p, bs42_1_0, bs22_1_0, bs24_1_0, bs42_3_0_1_2, bs31_1_0, bs22_2_0_1, bs42_6_0_1_2_3_4_5, bs42_0_, eq4, eq4p, eq28, eq28p, eq42n, eq42np, eq42s, eq42sp, eq58n, eq58np, eq58s, eq58sp, eq63n, eq63np, eq63s, eq63sp, ne28, ne28p, ne45, ne45p]
    exact fail 10 _ l02 d2 (jobsR_port hlt)
  unfold S15_k1
  try simp -implicitDefEqProofs (disch := first | with_reducible exact Nat.ne_of_beq_eq_false rfl | omega) only [upd_ne, upd_eq, cf48, opH_sv, ld26, add_mk, Nat.add_zero, c0, List.getElem?_cons_zero, Option.some.injEq, Nat.zero_add, List.getElem?_cons_succ, exists_eq_left']
  refine (rstacks_spec (ca.up l02 d2).cv hL hP hR ew ek w16 k16).mono ?_
  rintro u4 h4 ⟨ip, o4, s4, d4⟩
  have l4 : h2.le h4 := s4.in 1 rfl
  have l04 := l02.trans l4
  obtain ⟨pa, pc, rfl, _⟩ := o4.len (by decide)
  have sl := o4.sees (G := G) (by decide) (s4.in 0 rfl)
  generalize hLL : rstacksL C = L at *
  have c0' : ∀ j, cellIn G h4 ⟨v0, j, none⟩ = _ := fun j => cell_of (look_own (l4 _ _ b0'))
  have c1' : ∀ j, cellIn G h4 ⟨v1, j, none⟩ = _ := fun j => cell_of (look_own (l4 _ _ b1))
  try simp -implicitDefEqProofs (disch := first | with_reducible exact Nat.ne_of_beq_eq_false rfl | omega) only [opH_sv, opH_su, pureW_sv, opH_nil, pureW_nil, pick_t, pick_f, pick_tp, pick_fp, gd_tt, gd_ft, gd_tf, gd_ff, box_new, regs0, regs1, regs2, regs3, regs4, regs5, regs6, cells_agg, cells_int, cells_bool, cells_ptr, cells_slice, cells_string, cells_func, cells_nilFunc, cells_map, retK_ret, retK_normal, resL_tmp, resL_cell, resL_nil0, resL_nil1, resL_nil2, resL_nil3, resC_ptr, ex0, ex1, ex2, ex0p, ex1p, ex2p, HL.cond_true, HL.cond_false, thenK_normal, thenK_ret, thenK_exit, blockK_normal, blockK_ret, blockK_exit, scopeK_normal, scopeK_ret, scopeK_exit, wpH_pure, bin_add, bin_sub, bin_mul, bin_lss, bin_leq, bin_gtr, bin_geq, bin_quo, bin_rem, bin_quop, bin_remp, wrap_in, bin_addp, bin_subp, bin_mulp, bin_lssp, bin_leqp, bin_gtrp, bin_geqp, un_not, un_notp, un_neg, eq_int, ne_int, eq_intp, ne_intp, callV_fn, add_mk, upd_eq, upd_ne, cell_set_self, Nat.zero_add, Nat.add_zero, Option.some.injEq, exists_eq_left', List.getElem?_cons_succ, List.getElem?_cons_zero, true_and, and_true, bne_self_eq_false, beq_self_eq_true, Bool.not_true, Bool.not_false, Bool.and_true, Bool.and_self, Bool.and_false, Bool.true_and, List.length_cons, List.length_nil, ne_eq, not_false_eq_true, Nat.reduceAdd, Nat.reduceMul, if_true, if_false, oneCell_int, oneCell_bool, oneCell_ptr, oneCell_slice, oneCell_string, oneCell_func, oneCell_map, Int.toNat_natCast, List.set_cons_zero, List.set_cons_succ, Nat.lt_irrefl, Nat.zero_lt_succ, Nat.succ_lt_succ_iff, fa26_0, fa26_0p, fa26_1, fa26_1p, fa26_10, fa26_10p, fa26_11, fa26_11p, fa26_12, fa26_12p, fa26_13, fa26_13p, fa26_14, fa26_14p, fa26_15, fa26_15p, fa26_2, fa26_2p, fa26_3, fa26_3p, fa26_4, fa26_4p, fa26_5, fa26_5p, fa26_6, fa26_6p, fa26_7, fa26_7p, fa26_8, fa26_8p, fa26_9, fa26_9p, fa28_0, fa28_0p, fa28_1, fa28_1p, fa45_0, fa45_0p, fa45_1, fa45_1p, fa45_2, fa45_2p, fa45_3, fa45_3p, fa45_4, fa45_4p, fa45_5, fa45_5p, fa45_6, fa45_6p, fa49_0, fa49_0p, fa49_1, fa49_1p, fa74_0, fa74_0p, fa74_1, fa74_1p, fa74_2, fa74_2p, fa74_3, fa74_3p, fa85_0, fa85_0p, fa85_1, fa85_1p, fa93_0, fa93_0p, fa93_1, fa93_1p, fa93_2, fa93_2p, ld3, ld3p, ld4, ld4p, ld22, ld22p, ld23, ld23p, ld24, ld24p, ld26, ld26p, ld28, ld28p, ld42, ld42p, ld45, ld45p, ld49, ld49p, ld58, ld58p, ld69, ld69p, ld72, ld72p, ld85, ld85p, st3s, st4s, st22s, st23s, st24s, st26w, st28w, st42s, st45w, st49w, st85w, ix22, ix22p, ix23, ix23p, ix24, ix24p, ix31, ix31p, ix42, ix42p, ix104, ix104p, ln22, ln22p, ln23, ln23p, ln24, ln24p, ln31, ln31p, ln42, ln42p, al4, al22, al26, al28, al42, al49, al85, cf10, cf11, cf12, cf13, cf14, cf15, cf16, cf17, cf18, cf19, cf20, cf21, cf22, cf23, cf24, cf25, cf26, cf27, cf28, cf29, cf30, cf31, cf32, cf33, cf34, cf35, cf36, cf37, cf38, cf39, cf40, cf41, cf42, cf43, cf44, cf45, cf46, cf47, cf48, cf49, cf50, cf51, cf52, cf53, cf54, cf55, cf56, cf57, cf58, cf59, cf60, cf61, cf62, cf63, cf64, cf65, cf66, cf67, cf68, cf69, cf70, cf71, cf72, cf73, cf74, cf75, bd26_0_1_2_7_8_9_10_11_12_13_14_4_15, bd26_0_1_2_7_8_9_10_11_12_13_14_4_15p, bd28_, bd28_p, bd28_0, bd28_0p, bd28_0_1, bd28_0_1p, bd45_1_3_4_5_6, bd45_1_3_4_5_6p, bd49_0_1, bd49_0_1p, bd49_1, bd49_1p, bd74_0_1_2_3, bd74_0_1_2_3p, bd85_0, bd85_0p, bd85_0_1, bd85_0_1p, bd93_0_1_2, bd93_0_1_2p, bd94_0_1_2_3, bd94_0_1_2_3p, bs42_1_0, bs22_1_0, bs24_1_0, bs42_3_0_1_2, bs31_1_0, bs22_2_0_1, bs42_6_0_1_2_3_4_5, bs42_0_, eq4, eq4p, eq28, eq28p, eq42n, eq42np, eq42s, eq42sp, eq58n, eq58np, eq58s, eq58sp, eq63n, eq63np, eq63s, eq63sp, ne28, ne28p, ne45, ne45p]
  generalize hKK : retK Tryd.prog G _ _ = KK
  refine loop_I (fun m q h5 => ∃ i : Nat, i ≤ L.length ∧ h5 = h4 ∧ q 1 = .slice sa S.length sc ∧ q 2 = .slice ta TL.length tc ∧ q 3 = .int .i64 bin ∧ q 5 = .pointer (some ⟨v0, 0, none⟩) ∧ q 9 = .pointer (some ⟨v1, 0, none⟩) ∧ q 12 = .slice pa L.length pc ∧ q 15 = .int .i64 i ∧
      ((m = L.length - i + 1 ∧ q 13 = .int .i64 (-1) ∧ q 14 = .int .i64 0 ∧ findIn S bin (L.take i) = none) ∨ ∃ (j : Nat) (f : Cell), m = 0 ∧ q 13 = .int .i64 j ∧ L[j]? = some f ∧ bin ∈ binsL S f ∧ findIn S bin L = some (f, aboveL (binsL S f) bin) ∧ q 14 = .int .i64 (aboveL (binsL S f) bin).length)) ?_
    (m := L.length + 1) ⟨0, Nat.zero_le _, rfl, by simp -implicitDefEqProofs (disch := first | with_reducible exact Nat.ne_of_beq_eq_false rfl | omega) only [upd_ne, regs1], by simp -implicitDefEqProofs (disch := first | with_reducible exact Nat.ne_of_beq_eq_false rfl | omega) only [upd_ne, regs2], by simp -implicitDefEqProofs (disch := first | with_reducible exact Nat.ne_of_beq_eq_false rfl | omega) only [upd_ne, regs3], by simp -implicitDefEqProofs (disch := first | with_reducible exact Nat.ne_of_beq_eq_false rfl | omega) only [upd_ne, upd_eq], by simp -implicitDefEqProofs (disch := first | with_reducible exact Nat.ne_of_beq_eq_false rfl | omega) only [upd_ne, upd_eq], by simp -implicitDefEqProofs (disch := first | with_reducible exact Nat.ne_of_beq_eq_false rfl | omega) only [upd_ne, upd_eq], by simp -implicitDefEqProofs (disch := first | with_reducible exact Nat.ne_of_beq_eq_false rfl | omega) only [upd_eq] <;> rfl, .inl ⟨rfl, by simp -implicitDefEqProofs (disch := first | with_reducible exact Nat.ne_of_beq_eq_false rfl | omega) only [upd_ne, upd_eq], by simp -implicitDefEqProofs (disch := first | with_reducible exact Nat.ne_of_beq_eq_false rfl | omega) only [upd_ne, upd_eq], rfl⟩⟩
  rintro m q h5 ⟨i, hi, rfl, q1, q2, q3, q5, q9, q12, q15, hst⟩ X HX
  have leave : ∀ (K0 : Exit → Rg → Hp → Prop), True := fun _ => trivial
  -- behind the search
  have after : ∀ (r1 : Rg), r1 1 = q 1 → r1 2 = q 2 → r1 3 = q 3 → r1 5 = q 5 → r1 9 = q 9 → r1 12 = q 12 → r1 13 = q 13 → r1 14 = q 14 → ((q 13 = .int .i64 (-1) ∧ findIn S bin L = none) ∨ ∃ (j : Nat) (f : Cell), q 13 = .int .i64 j ∧ L[j]? = some f ∧ bin ∈ binsL S f ∧ findIn S bin L = some (f, aboveL (binsL S f) bin) ∧ q 14 = .int .i64 (aboveL (binsL S f) bin).length) → S15_k2 G KK r1 h5 := by
    clear hst HX X leave
    intro r1 k1 k2 k3 k5 k9 k12 k13 k14 hfin
    rw [q1] at k1
    rw [q2] at k2
    rw [q3] at k3
    rw [q5] at k5
    rw [q9] at k9
    rw [q12] at k12
    clear q1 q2 q3 q5 q9 q12 q15
    unfold S15_k2
    rcases hfin with ⟨q13, e5⟩ | ⟨j, f, q13, hj, hmem, e5, q14⟩
    · rw [q13] at k13
      simp -implicitDefEqProofs only [k13, opH_sv, bin_lss, show decide ((-1 : Int) < 0) = true from rfl, HL.cond_true]
      rw [← hKK]
      try simp -implicitDefEqProofs only [retK_ret, resL_tmp, upd_ne, upd_eq, resL_nil2]
      exact fail 9 _ l04 d4 (jobsR_bin hge (by rw [hLL]; exact e5))
    rw [q13] at k13
    rw [q14] at k14
    have hjl : (j : Int) < L.length := by have := (List.getElem?_eq_some_iff.1 hj).1; omega
    obtain ⟨zb, zo, e6, y0, y1⟩ := Sees.cell sl hj
    cases e6
    simp -implicitDefEqProofs (disch := first | with_reducible exact Nat.ne_of_beq_eq_false rfl | omega) only [k13, opH_sv, bin_lss, decide_eq_false (show ¬(j : Int) < 0 by omega), HL.cond_false]
    unfold S15_k3
    try simp -implicitDefEqProofs (disch := first | with_reducible exact Nat.ne_of_beq_eq_false rfl | omega) only [upd_ne, k12, k13, k2, cf50, opH_sv, opH_su, al28, ld28, add_mk, Nat.add_zero, Nat.zero_add, ix22 (Int.natCast_nonneg j) hjl, Int.toNat_natCast, y0, Option.some.injEq, y1, exists_eq_left', st28w, cell_set_self, List.getElem?_cons_zero, List.getElem?_cons_succ]
    intro xf hxf gxf
    generalize e7 : Hp.set h5 xf _ = h6
    obtain ⟨l6, d6, b6⟩ := boxed e7 hxf d4 gxf
    have cf : ∀ j, cellIn G h6 ⟨xf, j, none⟩ = _ := fun j => cell_of (look_own b6)
    have l06 := l04.trans l6
    try simp -implicitDefEqProofs (disch := first | with_reducible exact Nat.ne_of_beq_eq_false rfl | omega) only [opH_sv, opH_su, pureW_sv, opH_nil, pureW_nil, pick_t, pick_f, pick_tp, pick_fp, gd_tt, gd_ft, gd_tf, gd_ff, box_new, regs0, regs1, regs2, regs3, regs4, regs5, regs6, cells_agg, cells_int, cells_bool, cells_ptr, cells_slice, cells_string, cells_func, cells_nilFunc, cells_map, retK_ret, retK_normal, resL_tmp, resL_cell, resL_nil0, resL_nil1, resL_nil2, resL_nil3, resC_ptr, ex0, ex1, ex2, ex0p, ex1p, ex2p, HL.cond_true, HL.cond_false, thenK_normal, thenK_ret, thenK_exit, blockK_normal, blockK_ret, blockK_exit, scopeK_normal, scopeK_ret, scopeK_exit, wpH_pure, bin_add, bin_sub, bin_mul, bin_lss, bin_leq, bin_gtr, bin_geq, bin_quo, bin_rem, bin_quop, bin_remp, wrap_in, bin_addp, bin_subp, bin_mulp, bin_lssp, bin_leqp, bin_gtrp, bin_geqp, un_not, un_notp, un_neg, eq_int, ne_int, eq_intp, ne_intp, callV_fn, add_mk, upd_eq, upd_ne, cell_set_self, Nat.zero_add, Nat.add_zero, Option.some.injEq, exists_eq_left', List.getElem?_cons_succ, List.getElem?_cons_zero, true_and, and_true, bne_self_eq_false, beq_self_eq_true, Bool.not_true, Bool.not_false, Bool.and_true, Bool.and_self, Bool.and_false, Bool.true_and, List.length_cons, List.length_nil, ne_eq, not_false_eq_true, Nat.reduceAdd, Nat.reduceMul, if_true, if_false, oneCell_int, oneCell_bool, oneCell_ptr, oneCell_slice, oneCell_string, oneCell_func, oneCell_map, Int.toNat_natCast, List.set_cons_zero, List.set_cons_succ, Nat.lt_irrefl, Nat.zero_lt_succ, Nat.succ_lt_succ_iff, fa26_0, fa26_0p, fa26_1, fa26_1p, fa26_10, fa26_10p, fa26_11, fa26_11p, fa26_12, fa26_12p, fa26_13, fa26_13p, fa26_14, fa26_14p, fa26_15, fa26_15p, fa26_2, fa26_2p, fa26_3, fa26_3p, fa26_4, fa26_4p, fa26_5, fa26_5p, fa26_6, fa26_6p, fa26_7, fa26_7p, fa26_8, fa26_8p, fa26_9, fa26_9p, fa28_0, fa28_0p, fa28_1, fa28_1p, fa45_0, fa45_0p, fa45_1, fa45_1p, fa45_2, fa45_2p, fa45_3, fa45_3p, fa45_4, fa45_4p, fa45_5, fa45_5p, fa45_6, fa45_6p, fa49_0, fa49_0p, fa49_1, fa49_1p, fa74_0, fa74_0p, fa74_1, fa74_1p, fa74_2, fa74_2p, fa74_3, fa74_3p, fa85_0, fa85_0p, fa85_1, fa85_1p, fa93_0, fa93_0p, fa93_1, fa93_1p, fa93_2, fa93_2p, ld3, ld3p, ld4, ld4p, ld22, ld22p, ld23, ld23p, ld24, ld24p, ld26, ld26p, ld28, ld28p, ld42, ld42p, ld45, ld45p, ld49, ld49p, ld58, ld58p, ld69, ld69p, ld72, ld72p, ld85, ld85p, st3s, st4s, st22s, st23s, st24s, st26w, st28w, st42s, st45w, st49w, st85w, ix22, ix22p, ix23, ix23p, ix24, ix24p, ix31, ix31p, ix42, ix42p, ix104, ix104p, ln22, ln22p, ln23, ln23p, ln24, ln24p, ln31, ln31p, ln42, ln42p, al4, al22, al26, al28, al42, al49, al85, cf10, cf11, cf12, cf13, cf14, cf15, cf16, cf17, cf18, cf19, cf20, cf21, cf22, cf23, cf24, cf25, cf26, cf27, cf28, cf29, cf30, cf31, cf32, cf33, cf34, cf35, cf36, cf37, cf38, cf39, cf40, cf41, cf42, cf43, cf44, cf45, cf46, cf47, cf48, cf49, cf50, cf51, cf52, cf53, cf54, cf55, cf56, cf57, cf58, cf59, cf60, cf61, cf62, cf63, cf64, cf65, cf66, cf67, cf68, cf69, cf70, cf71, cf72, cf73, cf74, cf75, bd26_0_1_2_7_8_9_10_11_12_13_14_4_15, bd26_0_1_2_7_8_9_10_11_12_13_14_4_15p, bd28_, bd28_p, bd28_0, bd28_0p, bd28_0_1, bd28_0_1p, bd45_1_3_4_5_6, bd45_1_3_4_5_6p, bd49_0_1, bd49_0_1p, bd49_1, bd49_1p, bd74_0_1_2_3, bd74_0_1_2_3p, bd85_0, bd85_0p, bd85_0_1, bd85_0_1p, bd93_0_1_2, bd93_0_1_2p, bd94_0_1_2_3, bd94_0_1_2_3p, bs42_1_0, bs22_1_0, bs24_1_0, bs42_3_0_1_2, bs31_1_0, bs22_2_0_1, bs42_6_0_1_2_3_4_5, bs42_0_, eq4, eq4p, eq28, eq28p, eq42n, eq42np, eq42s, eq42sp, eq58n, eq58np, eq58s, eq58sp, eq63n, eq63np, eq63s, eq63sp, ne28, ne28p, ne45, ne45p, cf]
    refine (ramong14 (c := f) (ht.up l06 d6) hTL).mono ?_
    rintro _ h6 ⟨rfl, rfl⟩
    refine cond_dec (fun hft => ?_) (fun hft => ?_)
    · rw [← hKK]
      try simp -implicitDefEqProofs (maxSteps := 2000000) (disch := first | with_reducible exact Nat.ne_of_beq_eq_false rfl | exact oneCell_int | exact oneCell_bool | omega | rfl | (simp; done) | fail) only [retK_ret, resL_tmp, upd_ne, upd_eq, resL_nil2]
      exact fail 8 _ l06 d6 (jobsR_touched hge (by rw [hLL]; exact e5) hft)
    unfold S15_k4
    try simp -implicitDefEqProofs (maxSteps := 2000000) (disch := first | with_reducible exact Nat.ne_of_beq_eq_false rfl | exact oneCell_int | exact oneCell_bool | omega | rfl | (simp; done) | fail) only [upd_ne, upd_eq, k1, cf49, opH_sv, ld28, add_mk, Nat.add_zero, cf, List.getElem?_cons_zero, Option.some.injEq, Nat.zero_add, List.getElem?_cons_succ, exists_eq_left']
    refine (rbins14 (c := f) (hss.up l06 d6) hS).mono ?_
    rintro _ h6 ⟨⟨ba, bcap, rfl, bs⟩, rfl⟩
    have hBl : (binsL S f).length ≤ 17592186044320 := bins_le hB
    generalize hBB : binsL S f = B at *
    have hAl : (aboveL B bin).length ≤ 17592186044320 := above_len hBl
    have hAB : (aboveL B bin).length ≤ B.length - 1 := above_lt
    have hget := fun k => above_get (B := B) (bin := bin) (k := k)
    generalize hAA : aboveL B bin = A at *
    try simp -implicitDefEqProofs (disch := first | with_reducible exact Nat.ne_of_beq_eq_false rfl | omega) only [opH_sv, opH_su, pureW_sv, opH_nil, pureW_nil, pick_t, pick_f, pick_tp, pick_fp, gd_tt, gd_ft, gd_tf, gd_ff, box_new, regs0, regs1, regs2, regs3, regs4, regs5, regs6, cells_agg, cells_int, cells_bool, cells_ptr, cells_slice, cells_string, cells_func, cells_nilFunc, cells_map, retK_ret, retK_normal, resL_tmp, resL_cell, resL_nil0, resL_nil1, resL_nil2, resL_nil3, resC_ptr, ex0, ex1, ex2, ex0p, ex1p, ex2p, HL.cond_true, HL.cond_false, thenK_normal, thenK_ret, thenK_exit, blockK_normal, blockK_ret, blockK_exit, scopeK_normal, scopeK_ret, scopeK_exit, wpH_pure, bin_add, bin_sub, bin_mul, bin_lss, bin_leq, bin_gtr, bin_geq, bin_quo, bin_rem, bin_quop, bin_remp, wrap_in, bin_addp, bin_subp, bin_mulp, bin_lssp, bin_leqp, bin_gtrp, bin_geqp, un_not, un_notp, un_neg, eq_int, ne_int, eq_intp, ne_intp, callV_fn, add_mk, upd_eq, upd_ne, cell_set_self, Nat.zero_add, Nat.add_zero, Option.some.injEq, exists_eq_left', List.getElem?_cons_succ, List.getElem?_cons_zero, true_and, and_true, bne_self_eq_false, beq_self_eq_true, Bool.not_true, Bool.not_false, Bool.and_true, Bool.and_self, Bool.and_false, Bool.true_and, List.length_cons, List.length_nil, ne_eq, not_false_eq_true, Nat.reduceAdd, Nat.reduceMul, if_true, if_false, oneCell_int, oneCell_bool, oneCell_ptr, oneCell_slice, oneCell_string, oneCell_func, oneCell_map, Int.toNat_natCast, List.set_cons_zero, List.set_cons_succ, Nat.lt_irrefl, Nat.zero_lt_succ, Nat.succ_lt_succ_iff, fa26_0, fa26_0p, fa26_1, fa26_1p, fa26_10, fa26_10p, fa26_11, fa26_11p, fa26_12, fa26_12p, fa26_13, fa26_13p, fa26_14, fa26_14p, fa26_15, fa26_15p, fa26_2, fa26_2p, fa26_3, fa26_3p, fa26_4, fa26_4p, fa26_5, fa26_5p, fa26_6, fa26_6p, fa26_7, fa26_7p, fa26_8, fa26_8p, fa26_9, fa26_9p, fa28_0, fa28_0p, fa28_1, fa28_1p, fa45_0, fa45_0p, fa45_1, fa45_1p, fa45_2, fa45_2p, fa45_3, fa45_3p, fa45_4, fa45_4p, fa45_5, fa45_5p, fa45_6, fa45_6p, fa49_0, fa49_0p, fa49_1, fa49_1p, fa74_0, fa74_0p, fa74_1, fa74_1p, fa74_2, fa74_2p, fa74_3, fa74_3p, fa85_0, fa85_0p, fa85_1, fa85_1p, fa93_0, fa93_0p, fa93_1, fa93_1p, fa93_2, fa93_2p, ld3, ld3p, ld4, ld4p, ld22, ld22p, ld23, ld23p, ld24, ld24p, ld26, ld26p, ld28, ld28p, ld42, ld42p, ld45, ld45p, ld49, ld49p, ld58, ld58p, ld69, ld69p, ld72, ld72p, ld85, ld85p, st3s, st4s, st22s, st23s, st24s, st26w, st28w, st42s, st45w, st49w, st85w, ix22, ix22p, ix23, ix23p, ix24, ix24p, ix31, ix31p, ix42, ix42p, ix104, ix104p, ln22, ln22p, ln23, ln23p, ln24, ln24p, ln31, ln31p, ln42, ln42p, al4, al22, al26, al28, al42, al49, al85, cf10, cf11, cf12, cf13, cf14, cf15, cf16, cf17, cf18, cf19, cf20, cf21, cf22, cf23, cf24, cf25, cf26, cf27, cf28, cf29, cf30, cf31, cf32, cf33, cf34, cf35, cf36, cf37, cf38, cf39, cf40, cf41, cf42, cf43, cf44, cf45, cf46, cf47, cf48, cf49, cf50, cf51, cf52, cf53, cf54, cf55, cf56, cf57, cf58, cf59, cf60, cf61, cf62, cf63, cf64, cf65, cf66, cf67, cf68, cf69, cf70, cf71, cf72, cf73, cf74, cf75, bd26_0_1_2_7_8_9_10_11_12_13_14_4_15, bd26_0_1_2_7_8_9_10_11_12_13_14_4_15p, bd28_, bd28_p, bd28_0, bd28_0p, bd28_0_1, bd28_0_1p, bd45_1_3_4_5_6, bd45_1_3_4_5_6p, bd49_0_1, bd49_0_1p, bd49_1, bd49_1p, bd74_0_1_2_3, bd74_0_1_2_3p, bd85_0, bd85_0p, bd85_0_1, bd85_0_1p, bd93_0_1_2, bd93_0_1_2p, bd94_0_1_2_3, bd94_0_1_2_3p, bs42_1_0, bs22_1_0, bs24_1_0, bs42_3_0_1_2, bs31_1_0, bs22_2_0_1, bs42_6_0_1_2_3_4_5, bs42_0_, eq4, eq4p, eq28, eq28p, eq42n, eq42np, eq42s, eq42sp, eq58n, eq58np, eq58s, eq58sp, eq63n, eq63np, eq63s, eq63sp, ne28, ne28p, ne45, ne45p]
    refine loop_I (fun m q h7 => ∃ (k : Nat) (GL : List Cell) (jo go : Hp) (jv gv : Value), m = A.length - k ∧ k ≤ A.length ∧ GL.length = k ∧ Given S C.ht L GL ∧ placesL S TL C.ht f L (A.length - k) GL = placesL S TL C.ht f L A.length [] ∧
        q 1 = .slice sa S.length sc ∧ q 2 = .slice ta TL.length tc ∧ q 3 = .int .i64 bin ∧ q 5 = .pointer (some ⟨v0, 0, none⟩) ∧ q 9 = .pointer (some ⟨v1, 0, none⟩) ∧ q 14 = .int .i64 A.length ∧ q 18 = .pointer (some ⟨xf, 0, none⟩) ∧ q 19 = jv ∧ q 20 = gv ∧ q 21 = .slice ba B.length bcap ∧ q 22 = .int .i64 k ∧
        Slc jobC 45 jo jv (List.zipWith (awayJ f) (A.take k) GL) ∧ Slc cellC 28 go gv GL ∧ HL.Sep [jo, go, h6] h7 ∧ Dis G h7) ?_
      (m := A.length) ⟨0, [], noHp, noHp, .slice none 0 0, .slice none 0 0, rfl, Nat.zero_le _, rfl, Given.nil (by omega), rfl, by simp -implicitDefEqProofs (disch := first | with_reducible exact Nat.ne_of_beq_eq_false rfl | omega) only [upd_ne, k1], by simp -implicitDefEqProofs (disch := first | with_reducible exact Nat.ne_of_beq_eq_false rfl | omega) only [upd_ne, k2], by simp -implicitDefEqProofs (disch := first | with_reducible exact Nat.ne_of_beq_eq_false rfl | omega) only [upd_ne, k3], by simp -implicitDefEqProofs (disch := first | with_reducible exact Nat.ne_of_beq_eq_false rfl | omega) only [upd_ne, k5], by simp -implicitDefEqProofs (disch := first | with_reducible exact Nat.ne_of_beq_eq_false rfl | omega) only [upd_ne, k9], by simp -implicitDefEqProofs (disch := first | with_reducible exact Nat.ne_of_beq_eq_false rfl | omega) only [upd_ne, k14], by simp -implicitDefEqProofs (disch := first | with_reducible exact Nat.ne_of_beq_eq_false rfl | omega) only [upd_ne, upd_eq], by simp -implicitDefEqProofs (disch := first | with_reducible exact Nat.ne_of_beq_eq_false rfl | omega) only [upd_ne, upd_eq], by simp -implicitDefEqProofs (disch := first | with_reducible exact Nat.ne_of_beq_eq_false rfl | omega) only [upd_ne, upd_eq], by simp -implicitDefEqProofs (maxSteps := 2000000) (disch := first | with_reducible exact Nat.ne_of_beq_eq_false rfl | exact oneCell_int | exact oneCell_bool | omega | rfl | (simp; done) | fail) only [upd_ne, upd_eq], by simp -implicitDefEqProofs (maxSteps := 2000000) (disch := first | with_reducible exact Nat.ne_of_beq_eq_false rfl | exact oneCell_int | exact oneCell_bool | omega | rfl | (simp; done) | fail) only [upd_eq] <;> rfl, Slc.nil, Slc.nil, Sep.one.none.none, d6⟩
    clear k1 k2 k3 k5 k9 k12 k13 k14 q13 q14 r1
    rintro m q h7 ⟨k, GL, jo, go, jv, gv, rfl, hk, hgl, gvn, hpl, q1, q2, q3, q5, q9, q14, q18, q19, q20, q21, q22, oj, og, s7, d7⟩ X HX
    have hgl8 := gvn.len ht8.2 hcl
    have l67 : h6.le h7 := s7.in 2 rfl
    have l07 := l06.trans l67
    have b07 := l67 _ _ (l6 _ _ (l4 _ _ b0'))
    have b17 := l67 _ _ (l6 _ _ (l4 _ _ b1))
    have bf7 := l67 _ _ b6
    have z1 := zip_len (F := awayJ f) (A := A.take k) (GL := GL)
    unfold S15_l10
    simp -implicitDefEqProofs (maxSteps := 2000000) (disch := first | with_reducible exact Nat.ne_of_beq_eq_false rfl | exact oneCell_int | exact oneCell_bool | omega | rfl | (simp; done) | fail) only [q22, q14, thenK_exit, blockK_exit, thenK_normal, if_true, opH_sv, bin_lss]
    refine cond_dec (fun hlt => ?_) (fun hge2 => ?_)
    · unfold S15_l10_k11
      have c0 : ∀ j, cellIn G h7 ⟨v0, j, none⟩ = _ := fun j => cell_of (look_own b07)
      have cf : ∀ j, cellIn G h7 ⟨xf, j, none⟩ = _ := fun j => cell_of (look_own bf7)
      try simp -implicitDefEqProofs (maxSteps := 2000000) (disch := first | with_reducible exact Nat.ne_of_beq_eq_false rfl | exact oneCell_int | exact oneCell_bool | omega | rfl | (simp; done) | fail) only [upd_ne, q5, q18, q1, q2, q20, thenK_ret, blockK_ret, opH_sv, opH_su, al28, cf51, ld28, add_mk, Nat.add_zero, Nat.zero_add, ld26, c0, List.getElem?_cons_zero, Option.some.injEq, List.getElem?_cons_succ, cf, exists_eq_left']
      refine (rplace_spec (from_ := f) (GL := GL) (ca.up l07 d7).cv (hss.up l07 d7) (ht.up l07 d7) (og.sees (by decide) (s7.in 1 rfl)) hL hP hR ew ek w16 k16 hS hTL (by omega) (fun s hs => Nat.le_trans (hB s hs) (by omega)) (by rw [hLL]; omega)).mono ?_
      rintro _ h7 ⟨rfl, rfl⟩
      rw [hLL]
      have epl := hpl
      rw [show A.length - k = (A.length - (k + 1)) + 1 by omega, placesL] at epl
      generalize hbb : bestL f (skipR f C.ht S TL GL) none L = bb at epl
      try simp -implicitDefEqProofs (maxSteps := 2000000) (disch := first | with_reducible exact Nat.ne_of_beq_eq_false rfl | exact oneCell_int | exact oneCell_bool | omega | rfl | (simp; done) | fail) only [ex1, un_not, ex0, st28w]
      intro xt hxt gxt
      cases bb with
      | none =>
        try simp -implicitDefEqProofs (maxSteps := 2000000) (disch := first | with_reducible exact Nat.ne_of_beq_eq_false rfl | exact oneCell_int | exact oneCell_bool | omega | rfl | (simp; done) | fail) only [Option.isSome_none, Bool.not_false, HL.cond_true]
        rw [← hKK]
        try simp -implicitDefEqProofs (maxSteps := 2000000) (disch := first | with_reducible exact Nat.ne_of_beq_eq_false rfl | exact oneCell_int | exact oneCell_bool | omega | rfl | (simp; done) | fail) only [retK_ret, resL_tmp, upd_ne, upd_eq, resL_nil2]
        exact fail 14 _ (l07.trans (le_set hxt)) (d7.set gxt) (jobsR_room (A := A) hge (by rw [hLL]; exact e5) hft (by rw [hLL]; exact epl.symm))
      | some z =>
      obtain ⟨gv2, hroom⟩ := gvn.add hbb
      try simp -implicitDefEqProofs (maxSteps := 2000000) (disch := first | with_reducible exact Nat.ne_of_beq_eq_false rfl | exact oneCell_int | exact oneCell_bool | omega | rfl | (simp; done) | fail) only [Option.isSome_some, Bool.not_true, HL.cond_false]
      rw [show (bCell (some z)) = z from rfl]
      have s8 := s7.new (o := cellO z) hxt
      have d8 := d7.set (o := cellO z) gxt
      generalize Hp.set h7 xt _ = h8 at s8 d8 ⊢
      have s8 : HL.Sep [noHp.set xt (cellO z), jo, go, h6] h8 := s8
      obtain ⟨b, hAb⟩ : ∃ b, A[k]? = some b := ⟨_, List.getElem?_eq_getElem (by omega)⟩
      have hBb : B[B.length - 1 - k]? = some b := by rw [← hget k (by omega)]; exact hAb
      have hkB : B.length - 1 - k < B.length := (List.getElem?_eq_some_iff.1 hBb).1
      unfold S15_l10_k13
      have ct : ∀ j, cellIn G h8 ⟨xt, j, none⟩ = _ := fun j => cell_of (look_own (s8.at 0 rfl set_self))
      try simp -implicitDefEqProofs (maxSteps := 2000000) (disch := first | with_reducible exact Nat.ne_of_beq_eq_false rfl | exact oneCell_int | exact oneCell_bool | omega | rfl | (simp; done) | fail) only [upd_ne, upd_eq, q20, opH_sv, pureW_sv, ld28p, add_mk, Nat.add_zero, Nat.zero_add, ld28, ct, List.getElem?_cons_zero, Option.some.injEq, List.getElem?_cons_succ, bs22_1_0, exists_eq_left']
      intro w1 hw1 gw1
      generalize eb : Hp.set h8 w1 _ = h9
      obtain ⟨l9, d9, b9⟩ := boxed eb hw1 d8 gw1
      have s9 := (s8.sel [2, 0, 1, 3] (by decide) rfl).past (o := .cells #[.int .i64 z.1, .int .i64 z.2] 28 (0, 0)) hw1
      rw [eb] at s9
      refine append_piece cellC (by decide) un22 eocell (by decide) (by decide) (M := [z]) s9 d9 og (Sees.row (c := cellC) (L := [z]) b9 rfl (Nat.le_refl _)) (by simp only [List.length_cons, List.length_nil]; omega) fun v10 a10 h10 o10 s10 d10 => ?_
      -- [a10, xt, jo, h6]
      have cf10 : ∀ j, cellIn G h10 ⟨xf, j, none⟩ = _ := fun j => cell_of (look_own (s10.in 3 rfl _ _ b6))
      have ct10 : ∀ j, cellIn G h10 ⟨xt, j, none⟩ = _ := fun j => cell_of (look_own (s10.at 1 rfl set_self))
      obtain ⟨ba', bo', e', yb⟩ := Sees.num (bs.up (s10.in 3 rfl) d10) hBb
      subst e'
      have e1k : (B.length : Int) - 1 - (k : Int) = ((B.length - 1 - k : Nat) : Int) := by omega
      try simp -implicitDefEqProofs (maxSteps := 2000000) (disch := first | with_reducible exact Nat.ne_of_beq_eq_false rfl | exact oneCell_int | exact oneCell_bool | omega | rfl | (simp; done) | fail) only [q21, q22, q18, ct10, List.getElem?_cons_zero, Option.some.injEq, List.getElem?_cons_succ, q19, exists_eq_left', ld28p, add_mk, Nat.add_zero, cf10, Nat.zero_add, ln42p, bin_subp, wrap_in, e1k, ix42p (Int.natCast_nonneg (B.length - 1 - k)) (show ((B.length - 1 - k : Nat) : Int) < (B.length : Int) by omega), Int.toNat_natCast, Nat.mul_one, ld3p, yb, bd45_1_3_4_5_6p, bs31_1_0]
      intro w2 hw2 gw2
      generalize eb2 : Hp.set h10 w2 _ = h11
      obtain ⟨l11, d11, b11⟩ := boxed eb2 hw2 d10 gw2
      have s11 := (s10.sel [2, 0, 3] (by decide) rfl).past (o := .cells #[.int .i64 0, .int .i64 1, .int .i64 0, .int .i64 b, .int .i64 f.1, .int .i64 f.2, .int .i64 z.1, .int .i64 z.2, .int .i64 (-1)] 45 (0, 0)) hw2
      rw [eb2] at s11
      refine append_piece jobC (by decide) un31 eojob (by decide) (by decide) (M := [awayJ f b z]) s11 d11 oj (Sees.row (c := jobC) (L := [awayJ f b z]) b11 rfl (Nat.le_refl _)) (by simp only [List.length_cons, List.length_nil]; omega) fun v12 a12 h12 o12 s12 d12 => ?_
      unfold S15_l10_k12
      try simp -implicitDefEqProofs (disch := first | with_reducible exact Nat.ne_of_beq_eq_false rfl | omega) only [upd_ne, q22, thenK_normal, opH_sv, bin_add, wrap_in]
      exact HX (A.length - (k + 1)) _ _ (by omega) ⟨k + 1, GL ++ [z], a12, a10, v12, v10, rfl, by omega, by simp [hgl], gv2, epl, by simp -implicitDefEqProofs (disch := first | with_reducible exact Nat.ne_of_beq_eq_false rfl | omega) only [upd_ne, q1], by simp -implicitDefEqProofs (disch := first | with_reducible exact Nat.ne_of_beq_eq_false rfl | omega) only [upd_ne, q2], by simp -implicitDefEqProofs (disch := first | with_reducible exact Nat.ne_of_beq_eq_false rfl | omega) only [upd_ne, q3], by simp -implicitDefEqProofs (disch := first | with_reducible exact Nat.ne_of_beq_eq_false rfl | omega) only [upd_ne, q5], by simp -implicitDefEqProofs (disch := first | with_reducible exact Nat.ne_of_beq_eq_false rfl | omega) only [upd_ne, q9], by simp -implicitDefEqProofs (disch := first | with_reducible exact Nat.ne_of_beq_eq_false rfl | omega) only [upd_ne, q14], by simp -implicitDefEqProofs (disch := first | with_reducible exact Nat.ne_of_beq_eq_false rfl | omega) only [upd_ne, q18], by simp -implicitDefEqProofs (disch := first | with_reducible exact Nat.ne_of_beq_eq_false rfl | omega) only [upd_ne, upd_eq], by simp -implicitDefEqProofs (disch := first | with_reducible exact Nat.ne_of_beq_eq_false rfl | omega) only [upd_ne, upd_eq], by simp -implicitDefEqProofs (maxSteps := 2000000) (disch := first | with_reducible exact Nat.ne_of_beq_eq_false rfl | exact oneCell_int | exact oneCell_bool | omega | rfl | (simp; done) | fail) only [upd_ne, q21], by simp -implicitDefEqProofs (maxSteps := 2000000) (disch := first | with_reducible exact Nat.ne_of_beq_eq_false rfl | exact oneCell_int | exact oneCell_bool | omega | rfl | (simp; done) | fail) only [upd_eq] <;> rfl, by rw [zip_step hAb hgl]; exact o12, o10, s12, d12⟩
    obtain rfl : k = A.length := by omega
    rw [List.take_of_length_le (Nat.le_refl _)] at oj z1
    rw [Nat.sub_self, placesL] at hpl
    have ej0 := jobsR_ok (port := port) (GL := GL) hge (show findIn S bin (rstacksL C) = some (f, A) by rw [hLL]; exact e5) hft (by rw [hLL]; exact hpl.symm)
    try simp -implicitDefEqProofs (maxSteps := 2000000) (disch := first | with_reducible exact Nat.ne_of_beq_eq_false rfl | exact oneCell_int | exact oneCell_bool | omega | rfl | (simp; done) | fail) only [opH_sv, opH_su, pureW_sv, opH_nil, pureW_nil, pick_t, pick_f, pick_tp, pick_fp, gd_tt, gd_ft, gd_tf, gd_ff, box_new, regs0, regs1, regs2, regs3, regs4, regs5, regs6, cells_agg, cells_int, cells_bool, cells_ptr, cells_slice, cells_string, cells_func, cells_nilFunc, cells_map, retK_ret, retK_normal, resL_tmp, resL_cell, resL_nil0, resL_nil1, resL_nil2, resL_nil3, resC_ptr, ex0, ex1, ex2, ex0p, ex1p, ex2p, HL.cond_true, HL.cond_false, thenK_normal, thenK_ret, thenK_exit, blockK_normal, blockK_ret, blockK_exit, scopeK_normal, scopeK_ret, scopeK_exit, wpH_pure, bin_add, bin_sub, bin_mul, bin_lss, bin_leq, bin_gtr, bin_geq, bin_quo, bin_rem, bin_quop, bin_remp, wrap_in, bin_addp, bin_subp, bin_mulp, bin_lssp, bin_leqp, bin_gtrp, bin_geqp, un_not, un_notp, un_neg, eq_int, ne_int, eq_intp, ne_intp, callV_fn, add_mk, upd_eq, upd_ne, cell_set_self, Nat.zero_add, Nat.add_zero, Option.some.injEq, exists_eq_left', List.getElem?_cons_succ, List.getElem?_cons_zero, true_and, and_true, bne_self_eq_false, beq_self_eq_true, Bool.not_true, Bool.not_false, Bool.and_true, Bool.and_self, Bool.and_false, Bool.true_and, List.length_cons, List.length_nil, ne_eq, not_false_eq_true, Nat.reduceAdd, Nat.reduceMul, if_true, if_false, oneCell_int, oneCell_bool, oneCell_ptr, oneCell_slice, oneCell_string, oneCell_func, oneCell_map, Int.toNat_natCast, List.set_cons_zero, List.set_cons_succ, Nat.lt_irrefl, Nat.zero_lt_succ, Nat.succ_lt_succ_iff, fa26_0, fa26_0p, fa26_1, fa26_1p, fa26_10, fa26_10p, fa26_11, fa26_11p, fa26_12, fa26_12p, fa26_13, fa26_13p, fa26_14, fa26_14p, fa26_15, fa26_15p, fa26_2, fa26_2p, fa26_3, fa26_3p, fa26_4, fa26_4p, fa26_5, fa26_5p, fa26_6, fa26_6p, fa26_7, fa26_7p, fa26_8, fa26_8p, fa26_9, fa26_9p, fa28_0, fa28_0p, fa28_1, fa28_1p, fa45_0, fa45_0p, fa45_1, fa45_1p, fa45_2, fa45_2p, fa45_3, fa45_3p, fa45_4, fa45_4p, fa45_5, fa45_5p, fa45_6, fa45_6p, fa49_0, fa49_0p, fa49_1, fa49_1p, fa74_0, fa74_0p, fa74_1, fa74_1p, fa74_2, fa74_2p, fa74_3, fa74_3p, fa85_0, fa85_0p, fa85_1, fa85_1p, fa93_0, fa93_0p, fa93_1, fa93_1p, fa93_2, fa93_2p, ld3, ld3p, ld4, ld4p, ld22, ld22p, ld23, ld23p, ld24, ld24p, ld26, ld26p, ld28, ld28p, ld42, ld42p, ld45, ld45p, ld49, ld49p, ld58, ld58p, ld69, ld69p, ld72, ld72p, ld85, ld85p, st3s, st4s, st22s, st23s, st24s, st26w, st28w, st42s, st45w, st49w, st85w, ix22, ix22p, ix23, ix23p, ix24, ix24p, ix31, ix31p, ix42, ix42p, ix104, ix104p, ln22, ln22p, ln23, ln23p, ln24, ln24p, ln31, ln31p, ln42, ln42p, al4, al22, al26, al28, al42, al49, al85, cf10, cf11, cf12, cf13, cf14, cf15, cf16, cf17, cf18, cf19, cf20, cf21, cf22, cf23, cf24, cf25, cf26, cf27, cf28, cf29, cf30, cf31, cf32, cf33, cf34, cf35, cf36, cf37, cf38, cf39, cf40, cf41, cf42, cf43, cf44, cf45, cf46, cf47, cf48, cf49, cf50, cf51, cf52, cf53, cf54, cf55, cf56, cf57, cf58, cf59, cf60, cf61, cf62, cf63, cf64, cf65, cf66, cf67, cf68, cf69, cf70, cf71, cf72, cf73, cf74, cf75, bd26_0_1_2_7_8_9_10_11_12_13_14_4_15, bd26_0_1_2_7_8_9_10_11_12_13_14_4_15p, bd28_, bd28_p, bd28_0, bd28_0p, bd28_0_1, bd28_0_1p, bd45_1_3_4_5_6, bd45_1_3_4_5_6p, bd49_0_1, bd49_0_1p, bd49_1, bd49_1p, bd74_0_1_2_3, bd74_0_1_2_3p, bd85_0, bd85_0p, bd85_0_1, bd85_0_1p, bd93_0_1_2, bd93_0_1_2p, bd94_0_1_2_3, bd94_0_1_2_3p, bs42_1_0, bs22_1_0, bs24_1_0, bs42_3_0_1_2, bs31_1_0, bs22_2_0_1, bs42_6_0_1_2_3_4_5, bs42_0_, eq4, eq4p, eq28, eq28p, eq42n, eq42np, eq42s, eq42sp, eq58n, eq58np, eq58s, eq58sp, eq63n, eq63np, eq63s, eq63sp, ne28, ne28p, ne45, ne45p]
    unfold S15_k5
    have c0 : ∀ j, cellIn G h7 ⟨v0, j, none⟩ = _ := fun j => cell_of (look_own b07)
    have c1 : ∀ j, cellIn G h7 ⟨v1, j, none⟩ = _ := fun j => cell_of (look_own b17)
    have cf : ∀ j, cellIn G h7 ⟨xf, j, none⟩ = _ := fun j => cell_of (look_own bf7)
    try simp -implicitDefEqProofs (maxSteps := 2000000) (disch := first | with_reducible exact Nat.ne_of_beq_eq_false rfl | exact oneCell_int | exact oneCell_bool | omega | rfl | (simp; done) | fail) only [upd_ne, q18, q9, q3, q19, opH_sv, ld28, add_mk, Nat.add_zero, Nat.zero_add, cf, List.getElem?_cons_zero, Option.some.injEq, List.getElem?_cons_succ, c1, bd45_1_3_4_5_6, bs31_1_0, exists_eq_left']
    intro b hb gb
    generalize eb : Hp.set h7 b _ = h8
    obtain ⟨l8, d8, b8⟩ := boxed eb hb d7 gb
    have s8 := (s7.sel [0, 2] (by decide) rfl).past (o := .cells #[.int .i64 0, .int .i64 2, .int .i64 0, .int .i64 bin, .int .i64 f.1, .int .i64 f.2, .int .i64 port.1, .int .i64 port.2, .int .i64 (-1)] 45 (0, 0)) hb
    rw [eb] at s8
    refine append_piece jobC (by decide) un31 eojob (by decide) (by decide) (M := [fetchJ f bin port]) s8 d8 oj (Sees.row (c := jobC) (L := [fetchJ f bin port]) b8 rfl (Nat.le_refl _)) (by simp only [List.length_cons, List.length_nil]; omega) fun v9 a9 h9 o9 s9 d9 => ?_
    have c0 : ∀ j, cellIn G h9 ⟨v0, j, none⟩ = _ := fun j => cell_of (look_own (s9.in 1 rfl _ _ (l6 _ _ (l4 _ _ b0'))))
    try simp -implicitDefEqProofs (disch := first | with_reducible exact Nat.ne_of_beq_eq_false rfl | omega) only [q5, fa26_15, add_mk, Nat.zero_add, ld4, c0, List.getElem?_cons_succ, List.getElem?_cons_zero, Option.some.injEq, exists_eq_left']
    have done : ∀ (r1 : Rg) (hh io : Hp) (vv : Value), HL.Sep [io, h6] hh → Dis G hh → r1 19 = vv → Slc jobC 45 io vv (jobsOf f A GL bin port C.back) → S15_k6 G KK r1 hh := by
      intro r1 hh io vv ss dd k19 oo
      unfold S15_k6
      rw [← hKK]
      try simp -implicitDefEqProofs (disch := first | with_reducible exact Nat.ne_of_beq_eq_false rfl | omega) only [k19, retK_ret, resL_tmp, upd_ne, upd_eq, resL_nil2]
      refine ⟨dd, io, vv, by rw [ej0], by rw [ej0]; exact oo, ((ss.pick 1 rfl rfl).cut l06).pick 1 rfl rfl⟩
    refine cond_bool (fun hb => ?_) (fun hb => ?_)
    rotate_left
    · refine done _ _ a9 v9 s9 d9 (by simp -implicitDefEqProofs (disch := first | with_reducible exact Nat.ne_of_beq_eq_false rfl | omega) only [upd_ne, upd_eq]) ?_
      unfold jobsOf
      rw [if_neg (by rw [hb]; decide), List.append_nil]
      exact o9
    try simp -implicitDefEqProofs (disch := first | with_reducible exact Nat.ne_of_beq_eq_false rfl | omega) only [q14, bin_sub, wrap_in]
    have zal : (List.zipWith (againJ f) A GL).length = A.length := by rw [List.length_zipWith, hgl, Nat.min_self]
    have zwl : (List.zipWith (awayJ f) A GL).length = A.length := by rw [List.length_zipWith, hgl, Nat.min_self]
    refine loop_I (fun m q h10 => ∃ (n : Nat) (jo : Hp) (jv : Value), m = n ∧ n ≤ A.length ∧ q 18 = .pointer (some ⟨xf, 0, none⟩) ∧ q 19 = jv ∧ q 25 = .int .i64 ((n : Int) - 1) ∧ Slc jobC 45 jo jv (List.zipWith (awayJ f) A GL ++ [fetchJ f bin port] ++ ((List.zipWith (againJ f) A GL).drop n).reverse) ∧ HL.Sep [jo, h6] h10 ∧ Dis G h10) ?_
      (m := A.length) ⟨A.length, a9, v9, rfl, Nat.le_refl _, by simp -implicitDefEqProofs (disch := first | with_reducible exact Nat.ne_of_beq_eq_false rfl | omega) only [upd_ne, q18], by simp -implicitDefEqProofs (disch := first | with_reducible exact Nat.ne_of_beq_eq_false rfl | omega) only [upd_ne, upd_eq], by simp -implicitDefEqProofs (disch := first | with_reducible exact Nat.ne_of_beq_eq_false rfl | omega) only [upd_eq], by rw [List.drop_of_length_le (by omega), List.reverse_nil, List.append_nil]; exact o9, s9, d9⟩
    clear HX X q1 q2 q3 q5 q9 q14 q18 q19 q20 q21 q22
    rintro n q h10 ⟨_, jo, jv, rfl, hn, q18, q19, q25, oj2, s10, d10⟩ X HX
    unfold S15_l7
    simp -implicitDefEqProofs (maxSteps := 2000000) (disch := first | with_reducible exact Nat.ne_of_beq_eq_false rfl | exact oneCell_int | exact oneCell_bool | omega | rfl | (simp; done) | fail) only [q25, thenK_exit, blockK_exit, thenK_normal, if_true, opH_sv, bin_geq]
    refine cond_dec (fun hlt => ?_) (fun hge3 => ?_)
    rotate_left
    · obtain rfl : n = 0 := by omega
      try simp -implicitDefEqProofs (maxSteps := 2000000) (disch := first | with_reducible exact Nat.ne_of_beq_eq_false rfl | exact oneCell_int | exact oneCell_bool | omega | rfl | (simp; done) | fail) only [opH_sv, opH_su, pureW_sv, opH_nil, pureW_nil, pick_t, pick_f, pick_tp, pick_fp, gd_tt, gd_ft, gd_tf, gd_ff, box_new, regs0, regs1, regs2, regs3, regs4, regs5, regs6, cells_agg, cells_int, cells_bool, cells_ptr, cells_slice, cells_string, cells_func, cells_nilFunc, cells_map, retK_ret, retK_normal, resL_tmp, resL_cell, resL_nil0, resL_nil1, resL_nil2, resL_nil3, resC_ptr, ex0, ex1, ex2, ex0p, ex1p, ex2p, HL.cond_true, HL.cond_false, thenK_normal, thenK_ret, thenK_exit, blockK_normal, blockK_ret, blockK_exit, scopeK_normal, scopeK_ret, scopeK_exit, wpH_pure, bin_add, bin_sub, bin_mul, bin_lss, bin_leq, bin_gtr, bin_geq, bin_quo, bin_rem, bin_quop, bin_remp, wrap_in, bin_addp, bin_subp, bin_mulp, bin_lssp, bin_leqp, bin_gtrp, bin_geqp, un_not, un_notp, un_neg, eq_int, ne_int, eq_intp, ne_intp, callV_fn, add_mk, upd_eq, upd_ne, cell_set_self, Nat.zero_add, Nat.add_zero, Option.some.injEq, exists_eq_left', List.getElem?_cons_succ, List.getElem?_cons_zero, true_and, and_true, bne_self_eq_false, beq_self_eq_true, Bool.not_true, Bool.not_false, Bool.and_true, Bool.and_self, Bool.and_false, Bool.true_and, List.length_cons, List.length_nil, ne_eq, not_false_eq_true, Nat.reduceAdd, Nat.reduceMul, if_true, if_false, oneCell_int, oneCell_bool, oneCell_ptr, oneCell_slice, oneCell_string, oneCell_func, oneCell_map, Int.toNat_natCast, List.set_cons_zero, List.set_cons_succ, Nat.lt_irrefl, Nat.zero_lt_succ, Nat.succ_lt_succ_iff, fa26_0, fa26_0p, fa26_1, fa26_1p, fa26_10, fa26_10p, fa26_11, fa26_11p, fa26_12, fa26_12p, fa26_13, fa26_13p, fa26_14, fa26_14p, fa26_15, fa26_15p, fa26_2, fa26_2p, fa26_3, fa26_3p, fa26_4, fa26_4p, fa26_5, fa26_5p, fa26_6, fa26_6p, fa26_7, fa26_7p, fa26_8, fa26_8p, fa26_9, fa26_9p, fa28_0, fa28_0p, fa28_1, fa28_1p, fa45_0, fa45_0p, fa45_1, fa45_1p, fa45_2, fa45_2p, fa45_3, fa45_3p, fa45_4, fa45_4p, fa45_5, fa45_5p, fa45_6, fa45_6p, fa49_0, fa49_0p, fa49_1, fa49_1p, fa74_0, fa74_0p, fa74_1, fa74_1p, fa74_2, fa74_2p, fa74_3, fa74_3p, fa85_0, fa85_0p, fa85_1, fa85_1p, fa93_0, fa93_0p, fa93_1, fa93_1p, fa93_2, fa93_2p, ld3, ld3p, ld4, ld4p, ld22, ld22p, ld23, ld23p, ld24, ld24p, ld26, ld26p, ld28, ld28p, ld42, ld42p, ld45, ld45p, ld49, ld49p, ld58, ld58p, ld69, ld69p, ld72, ld72p, ld85, ld85p, st3s, st4s, st22s, st23s, st24s, st26w, st28w, st42s, st45w, st49w, st85w, ix22, ix22p, ix23, ix23p, ix24, ix24p, ix31, ix31p, ix42, ix42p, ix104, ix104p, ln22, ln22p, ln23, ln23p, ln24, ln24p, ln31, ln31p, ln42, ln42p, al4, al22, al26, al28, al42, al49, al85, cf10, cf11, cf12, cf13, cf14, cf15, cf16, cf17, cf18, cf19, cf20, cf21, cf22, cf23, cf24, cf25, cf26, cf27, cf28, cf29, cf30, cf31, cf32, cf33, cf34, cf35, cf36, cf37, cf38, cf39, cf40, cf41, cf42, cf43, cf44, cf45, cf46, cf47, cf48, cf49, cf50, cf51, cf52, cf53, cf54, cf55, cf56, cf57, cf58, cf59, cf60, cf61, cf62, cf63, cf64, cf65, cf66, cf67, cf68, cf69, cf70, cf71, cf72, cf73, cf74, cf75, bd26_0_1_2_7_8_9_10_11_12_13_14_4_15, bd26_0_1_2_7_8_9_10_11_12_13_14_4_15p, bd28_, bd28_p, bd28_0, bd28_0p, bd28_0_1, bd28_0_1p, bd45_1_3_4_5_6, bd45_1_3_4_5_6p, bd49_0_1, bd49_0_1p, bd49_1, bd49_1p, bd74_0_1_2_3, bd74_0_1_2_3p, bd85_0, bd85_0p, bd85_0_1, bd85_0_1p, bd93_0_1_2, bd93_0_1_2p, bd94_0_1_2_3, bd94_0_1_2_3p, bs42_1_0, bs22_1_0, bs24_1_0, bs42_3_0_1_2, bs31_1_0, bs22_2_0_1, bs42_6_0_1_2_3_4_5, bs42_0_, eq4, eq4p, eq28, eq28p, eq42n, eq42np, eq42s, eq42sp, eq58n, eq58np, eq58s, eq58sp, eq63n, eq63np, eq63s, eq63sp, ne28, ne28p, ne45, ne45p]
      refine done _ _ jo jv s10 d10 (by simp -implicitDefEqProofs (maxSteps := 2000000) (disch := first | with_reducible exact Nat.ne_of_beq_eq_false rfl | exact oneCell_int | exact oneCell_bool | omega | rfl | (simp; done) | fail) only [upd_ne, q19]) ?_
      unfold jobsOf
      rw [if_pos hb]
      exact oj2
    obtain ⟨n', rfl⟩ : ∃ n', n = n' + 1 := ⟨n - 1, by omega⟩
    rw [show ((n' + 1 : Nat) : Int) - 1 = (n' : Int) by omega] at q25
    obtain ⟨x, hx⟩ : ∃ x, A[n']? = some x := ⟨_, List.getElem?_eq_getElem (by omega)⟩
    obtain ⟨z, hz⟩ : ∃ z, GL[n']? = some z := ⟨_, List.getElem?_eq_getElem (by omega)⟩
    have eaw : (List.zipWith (awayJ f) A GL)[n']? = some (awayJ f x z) := by rw [List.getElem?_zipWith, hx, hz]
    have eag : (List.zipWith (againJ f) A GL)[n']? = some (againJ f x z) := by rw [List.getElem?_zipWith, hx, hz]
    have ej : (List.zipWith (awayJ f) A GL ++ [fetchJ f bin port] ++ ((List.zipWith (againJ f) A GL).drop (n' + 1)).reverse)[n']? = some (awayJ f x z) := by
      rw [List.append_assoc, List.getElem?_append_left (by rw [zwl]; omega)]
      exact eaw
    have jl := (List.getElem?_eq_some_iff.1 ej).1
    have hdl : ((List.zipWith (againJ f) A GL).drop (n' + 1)).length ≤ 8000 := by rw [List.length_drop, zal]; omega
    have estep : ((List.zipWith (againJ f) A GL).drop n').reverse = ((List.zipWith (againJ f) A GL).drop (n' + 1)).reverse ++ [againJ f x z] := by
      rw [List.drop_eq_getElem_cons (i := n') (by rw [zal]; omega), List.reverse_cons, show (List.zipWith (againJ f) A GL)[n']'(by rw [zal]; omega) = againJ f x z from (List.getElem?_eq_some_iff.1 eag).2]
    generalize eJJ : List.zipWith (awayJ f) A GL ++ [fetchJ f bin port] ++ ((List.zipWith (againJ f) A GL).drop (n' + 1)).reverse = JJ at *
    have hJl : JJ.length ≤ 17000 := by rw [← eJJ]; simp only [List.length_append, List.length_reverse, List.length_cons, List.length_nil]; omega
    obtain ⟨ja, jc, rfl, _⟩ := oj2.len (by decide)
    obtain ⟨jb, jof, rfl, x0, x1, x2, x3, x4, x5, x6, x7, x8⟩ := Sees.job (oj2.sees (G := G) (by decide) (s10.in 0 rfl)) ej
    unfold S15_l7_k8
    have cf : ∀ j, cellIn G h10 ⟨xf, j, none⟩ = _ := fun j => cell_of (look_own (s10.in 1 rfl _ _ b6))
    try simp -implicitDefEqProofs (maxSteps := 2000000) (disch := first | with_reducible exact Nat.ne_of_beq_eq_false rfl | exact oneCell_int | exact oneCell_bool | omega | rfl | (simp; done) | fail) only [upd_ne, q19, q25, q18, opH_sv, pureW_sv, ld28p, add_mk, Nat.add_zero, cf, List.getElem?_cons_zero, Option.some.injEq, Nat.zero_add, List.getElem?_cons_succ, exists_eq_left', ix31p (Int.natCast_nonneg n') (show (n' : Int) < (JJ.length : Int) by omega), Int.toNat_natCast, fa45_5p, x6, x7, fa45_3p, ld3p, x3, bd45_1_3_4_5_6p, bs31_1_0]
    intro w1 hw1 gw1
    generalize eb1 : Hp.set h10 w1 _ = h11
    obtain ⟨l11, d11, b11⟩ := boxed eb1 hw1 d10 gw1
    have s11 : HL.Sep [jo, h6] h11 := by rw [← eb1]; exact s10.past hw1
    refine append_piece jobC (by decide) un31 eojob (by decide) (by decide) (M := [againJ f x z]) s11 d11 oj2 (Sees.row (c := jobC) (L := [againJ f x z]) b11 rfl (Nat.le_refl _)) (by simp only [List.length_cons, List.length_nil]; omega) fun v12 a12 h12 o12 s12 d12 => ?_
    unfold S15_l7_k9
    try simp -implicitDefEqProofs (disch := first | with_reducible exact Nat.ne_of_beq_eq_false rfl | omega) only [upd_ne, q25, thenK_normal, opH_sv, bin_sub, wrap_in]
    exact HX n' _ _ (by omega) ⟨n', a12, v12, rfl, by omega, by simp -implicitDefEqProofs (disch := first | with_reducible exact Nat.ne_of_beq_eq_false rfl | omega) only [upd_ne, q18], by simp -implicitDefEqProofs (disch := first | with_reducible exact Nat.ne_of_beq_eq_false rfl | omega) only [upd_ne, upd_eq], by simp -implicitDefEqProofs (disch := first | with_reducible exact Nat.ne_of_beq_eq_false rfl | omega) only [upd_eq], by rw [estep, ← List.append_assoc, eJJ]; exact o12, s12, d12⟩
  unfold S15_l14
  rcases hst with ⟨rfl, q13, q14, hfn⟩ | ⟨j, f, rfl, q13, hj, hmem, e5, q14⟩
  rotate_left
  · simp -implicitDefEqProofs only [q12, q15, q13, thenK_exit, blockK_exit, thenK_normal, if_true, opH_sv, ln22, bin_lss]
    by_cases hlt : (i : Int) < L.length
    · try simp -implicitDefEqProofs (disch := first | with_reducible exact Nat.ne_of_beq_eq_false rfl | omega) only [decide_eq_true hlt, pick_t, gd_tt, opH_sv, bin_lss]
      exact after _ (by simp -implicitDefEqProofs (disch := first | with_reducible exact Nat.ne_of_beq_eq_false rfl | omega) only [upd_ne]) (by simp -implicitDefEqProofs (disch := first | with_reducible exact Nat.ne_of_beq_eq_false rfl | omega) only [upd_ne]) (by simp -implicitDefEqProofs (disch := first | with_reducible exact Nat.ne_of_beq_eq_false rfl | omega) only [upd_ne]) (by simp -implicitDefEqProofs (disch := first | with_reducible exact Nat.ne_of_beq_eq_false rfl | omega) only [upd_ne]) (by simp -implicitDefEqProofs (disch := first | with_reducible exact Nat.ne_of_beq_eq_false rfl | omega) only [upd_ne]) (by simp -implicitDefEqProofs (disch := first | with_reducible exact Nat.ne_of_beq_eq_false rfl | omega) only [upd_ne]) (by simp -implicitDefEqProofs (disch := first | with_reducible exact Nat.ne_of_beq_eq_false rfl | omega) only [upd_ne]) (by simp -implicitDefEqProofs (disch := first | with_reducible exact Nat.ne_of_beq_eq_false rfl | omega) only [upd_ne]) (.inr ⟨j, f, q13, hj, hmem, e5, q14⟩)
    · try simp -implicitDefEqProofs (disch := first | with_reducible exact Nat.ne_of_beq_eq_false rfl | omega) only [decide_eq_false hlt, pick_f, HL.cond_false, gd_ft]
      exact after _ (by simp -implicitDefEqProofs (disch := first | with_reducible exact Nat.ne_of_beq_eq_false rfl | omega) only [upd_ne]) (by simp -implicitDefEqProofs (disch := first | with_reducible exact Nat.ne_of_beq_eq_false rfl | omega) only [upd_ne]) (by simp -implicitDefEqProofs (disch := first | with_reducible exact Nat.ne_of_beq_eq_false rfl | omega) only [upd_ne]) (by simp -implicitDefEqProofs (disch := first | with_reducible exact Nat.ne_of_beq_eq_false rfl | omega) only [upd_ne]) (by simp -implicitDefEqProofs (disch := first | with_reducible exact Nat.ne_of_beq_eq_false rfl | omega) only [upd_ne]) (by simp -implicitDefEqProofs (disch := first | with_reducible exact Nat.ne_of_beq_eq_false rfl | omega) only [upd_ne]) (by simp -implicitDefEqProofs (disch := first | with_reducible exact Nat.ne_of_beq_eq_false rfl | omega) only [upd_ne]) (by simp -implicitDefEqProofs (disch := first | with_reducible exact Nat.ne_of_beq_eq_false rfl | omega) only [upd_ne]) (.inr ⟨j, f, q13, hj, hmem, e5, q14⟩)
  simp -implicitDefEqProofs only [q12, q15, q13, thenK_exit, blockK_exit, thenK_normal, if_true, opH_sv, ln22, bin_lss]
  by_cases hlt : (i : Int) < L.length
  rotate_left
  · obtain rfl : i = L.length := by omega
    rw [List.take_of_length_le (Nat.le_refl _)] at hfn
    try simp -implicitDefEqProofs (disch := first | with_reducible exact Nat.ne_of_beq_eq_false rfl | omega) only [decide_eq_false hlt, pick_f, HL.cond_false, gd_ft]
    exact after _ (by simp -implicitDefEqProofs (disch := first | with_reducible exact Nat.ne_of_beq_eq_false rfl | omega) only [upd_ne]) (by simp -implicitDefEqProofs (disch := first | with_reducible exact Nat.ne_of_beq_eq_false rfl | omega) only [upd_ne]) (by simp -implicitDefEqProofs (disch := first | with_reducible exact Nat.ne_of_beq_eq_false rfl | omega) only [upd_ne]) (by simp -implicitDefEqProofs (disch := first | with_reducible exact Nat.ne_of_beq_eq_false rfl | omega) only [upd_ne]) (by simp -implicitDefEqProofs (disch := first | with_reducible exact Nat.ne_of_beq_eq_false rfl | omega) only [upd_ne]) (by simp -implicitDefEqProofs (disch := first | with_reducible exact Nat.ne_of_beq_eq_false rfl | omega) only [upd_ne]) (by simp -implicitDefEqProofs (disch := first | with_reducible exact Nat.ne_of_beq_eq_false rfl | omega) only [upd_ne]) (by simp -implicitDefEqProofs (disch := first | with_reducible exact Nat.ne_of_beq_eq_false rfl | omega) only [upd_ne]) (.inl ⟨q13, hfn⟩)
  try simp -implicitDefEqProofs (disch := first | with_reducible exact Nat.ne_of_beq_eq_false rfl | omega) only [decide_eq_true hlt, pick_t, gd_tt, opH_sv, bin_lss]
  clear after
  obtain ⟨c, hc⟩ : ∃ c, L[i]? = some c := ⟨_, List.getElem?_eq_getElem (by omega)⟩
  obtain ⟨zb, zo, rfl, y0, y1⟩ := Sees.cell sl hc
  obtain ⟨fs1, fs2⟩ := findIn_step hfn hc
  unfold S15_l14_k15
  try simp -implicitDefEqProofs (maxSteps := 2000000) (disch := first | with_reducible exact Nat.ne_of_beq_eq_false rfl | exact oneCell_int | exact oneCell_bool | omega | rfl | (simp; done) | fail) only [upd_ne, q12, q15, q1, cf49, opH_sv, ix22 (Int.natCast_nonneg i) hlt, Int.toNat_natCast, add_mk, ld28, Nat.add_zero, y0, Option.some.injEq, y1, exists_eq_left']
  refine (rbins14 (c := c) (hss.up l04 d4) hS).mono ?_
  rintro _ h5 ⟨⟨ba, bcap, rfl, bs⟩, rfl⟩
  have hBl : (binsL S c).length ≤ 17592186044320 := bins_le hB
  have hhit := fun k => above_hit (B := binsL S c) (bin := bin) (k := k)
  generalize hBB : binsL S c = B at *
  try simp -implicitDefEqProofs (disch := first | with_reducible exact Nat.ne_of_beq_eq_false rfl | omega) only [opH_sv, opH_su, pureW_sv, opH_nil, pureW_nil, pick_t, pick_f, pick_tp, pick_fp, gd_tt, gd_ft, gd_tf, gd_ff, box_new, regs0, regs1, regs2, regs3, regs4, regs5, regs6, cells_agg, cells_int, cells_bool, cells_ptr, cells_slice, cells_string, cells_func, cells_nilFunc, cells_map, retK_ret, retK_normal, resL_tmp, resL_cell, resL_nil0, resL_nil1, resL_nil2, resL_nil3, resC_ptr, ex0, ex1, ex2, ex0p, ex1p, ex2p, HL.cond_true, HL.cond_false, thenK_normal, thenK_ret, thenK_exit, blockK_normal, blockK_ret, blockK_exit, scopeK_normal, scopeK_ret, scopeK_exit, wpH_pure, bin_add, bin_sub, bin_mul, bin_lss, bin_leq, bin_gtr, bin_geq, bin_quo, bin_rem, bin_quop, bin_remp, wrap_in, bin_addp, bin_subp, bin_mulp, bin_lssp, bin_leqp, bin_gtrp, bin_geqp, un_not, un_notp, un_neg, eq_int, ne_int, eq_intp, ne_intp, callV_fn, add_mk, upd_eq, upd_ne, cell_set_self, Nat.zero_add, Nat.add_zero, Option.some.injEq, exists_eq_left', List.getElem?_cons_succ, List.getElem?_cons_zero, true_and, and_true, bne_self_eq_false, beq_self_eq_true, Bool.not_true, Bool.not_false, Bool.and_true, Bool.and_self, Bool.and_false, Bool.true_and, List.length_cons, List.length_nil, ne_eq, not_false_eq_true, Nat.reduceAdd, Nat.reduceMul, if_true, if_false, oneCell_int, oneCell_bool, oneCell_ptr, oneCell_slice, oneCell_string, oneCell_func, oneCell_map, Int.toNat_natCast, List.set_cons_zero, List.set_cons_succ, Nat.lt_irrefl, Nat.zero_lt_succ, Nat.succ_lt_succ_iff, fa26_0, fa26_0p, fa26_1, fa26_1p, fa26_10, fa26_10p, fa26_11, fa26_11p, fa26_12, fa26_12p, fa26_13, fa26_13p, fa26_14, fa26_14p, fa26_15, fa26_15p, fa26_2, fa26_2p, fa26_3, fa26_3p, fa26_4, fa26_4p, fa26_5, fa26_5p, fa26_6, fa26_6p, fa26_7, fa26_7p, fa26_8, fa26_8p, fa26_9, fa26_9p, fa28_0, fa28_0p, fa28_1, fa28_1p, fa45_0, fa45_0p, fa45_1, fa45_1p, fa45_2, fa45_2p, fa45_3, fa45_3p, fa45_4, fa45_4p, fa45_5, fa45_5p, fa45_6, fa45_6p, fa49_0, fa49_0p, fa49_1, fa49_1p, fa74_0, fa74_0p, fa74_1, fa74_1p, fa74_2, fa74_2p, fa74_3, fa74_3p, fa85_0, fa85_0p, fa85_1, fa85_1p, fa93_0, fa93_0p, fa93_1, fa93_1p, fa93_2, fa93_2p, ld3, ld3p, ld4, ld4p, ld22, ld22p, ld23, ld23p, ld24, ld24p, ld26, ld26p, ld28, ld28p, ld42, ld42p, ld45, ld45p, ld49, ld49p, ld58, ld58p, ld69, ld69p, ld72, ld72p, ld85, ld85p, st3s, st4s, st22s, st23s, st24s, st26w, st28w, st42s, st45w, st49w, st85w, ix22, ix22p, ix23, ix23p, ix24, ix24p, ix31, ix31p, ix42, ix42p, ix104, ix104p, ln22, ln22p, ln23, ln23p, ln24, ln24p, ln31, ln31p, ln42, ln42p, al4, al22, al26, al28, al42, al49, al85, cf10, cf11, cf12, cf13, cf14, cf15, cf16, cf17, cf18, cf19, cf20, cf21, cf22, cf23, cf24, cf25, cf26, cf27, cf28, cf29, cf30, cf31, cf32, cf33, cf34, cf35, cf36, cf37, cf38, cf39, cf40, cf41, cf42, cf43, cf44, cf45, cf46, cf47, cf48, cf49, cf50, cf51, cf52, cf53, cf54, cf55, cf56, cf57, cf58, cf59, cf60, cf61, cf62, cf63, cf64, cf65, cf66, cf67, cf68, cf69, cf70, cf71, cf72, cf73, cf74, cf75, bd26_0_1_2_7_8_9_10_11_12_13_14_4_15, bd26_0_1_2_7_8_9_10_11_12_13_14_4_15p, bd28_, bd28_p, bd28_0, bd28_0p, bd28_0_1, bd28_0_1p, bd45_1_3_4_5_6, bd45_1_3_4_5_6p, bd49_0_1, bd49_0_1p, bd49_1, bd49_1p, bd74_0_1_2_3, bd74_0_1_2_3p, bd85_0, bd85_0p, bd85_0_1, bd85_0_1p, bd93_0_1_2, bd93_0_1_2p, bd94_0_1_2_3, bd94_0_1_2_3p, bs42_1_0, bs22_1_0, bs24_1_0, bs42_3_0_1_2, bs31_1_0, bs22_2_0_1, bs42_6_0_1_2_3_4_5, bs42_0_, eq4, eq4p, eq28, eq28p, eq42n, eq42np, eq42s, eq42sp, eq58n, eq58np, eq58s, eq58sp, eq63n, eq63np, eq63s, eq63sp, ne28, ne28p, ne45, ne45p]
  refine loop_I (fun m q' h6 => ∃ k : Nat, m = B.length - k ∧ k ≤ B.length ∧ h6 = h5 ∧ (∀ t, t ≤ 15 → q' t = q t) ∧ q' 16 = .slice ba B.length bcap ∧ q' 17 = .int .i64 k ∧ bin ∉ B.take k) ?_
    (m := B.length) ⟨0, rfl, Nat.zero_le _, rfl, (fun t ht => by simp (disch := omega) only [upd_ne]), by simp -implicitDefEqProofs (disch := first | with_reducible exact Nat.ne_of_beq_eq_false rfl | omega) only [upd_ne, upd_eq], by simp -implicitDefEqProofs only [upd_eq] <;> rfl, by simp⟩
  rintro m q' h6 ⟨k, rfl, hk, rfl, hq, q16, q17, hnb⟩ X' HX'
  unfold S15_l14_l17
  simp -implicitDefEqProofs only [q16, q17, thenK_exit, blockK_exit, blockK_normal, thenK_normal, if_true, opH_sv, ln42, bin_lss]
  refine cond_dec (fun hlk => ?_) (fun hgk => ?_)
  rotate_left
  · obtain rfl : k = B.length := by omega
    rw [List.take_of_length_le (Nat.le_refl _)] at hnb
    try simp -implicitDefEqProofs (disch := first | with_reducible exact Nat.ne_of_beq_eq_false rfl | omega) only [opH_sv, opH_su, pureW_sv, opH_nil, pureW_nil, pick_t, pick_f, pick_tp, pick_fp, gd_tt, gd_ft, gd_tf, gd_ff, box_new, regs0, regs1, regs2, regs3, regs4, regs5, regs6, cells_agg, cells_int, cells_bool, cells_ptr, cells_slice, cells_string, cells_func, cells_nilFunc, cells_map, retK_ret, retK_normal, resL_tmp, resL_cell, resL_nil0, resL_nil1, resL_nil2, resL_nil3, resC_ptr, ex0, ex1, ex2, ex0p, ex1p, ex2p, HL.cond_true, HL.cond_false, thenK_normal, thenK_ret, thenK_exit, blockK_normal, blockK_ret, blockK_exit, scopeK_normal, scopeK_ret, scopeK_exit, wpH_pure, bin_add, bin_sub, bin_mul, bin_lss, bin_leq, bin_gtr, bin_geq, bin_quo, bin_rem, bin_quop, bin_remp, wrap_in, bin_addp, bin_subp, bin_mulp, bin_lssp, bin_leqp, bin_gtrp, bin_geqp, un_not, un_notp, un_neg, eq_int, ne_int, eq_intp, ne_intp, callV_fn, add_mk, upd_eq, upd_ne, cell_set_self, Nat.zero_add, Nat.add_zero, Option.some.injEq, exists_eq_left', List.getElem?_cons_succ, List.getElem?_cons_zero, true_and, and_true, bne_self_eq_false, beq_self_eq_true, Bool.not_true, Bool.not_false, Bool.and_true, Bool.and_self, Bool.and_false, Bool.true_and, List.length_cons, List.length_nil, ne_eq, not_false_eq_true, Nat.reduceAdd, Nat.reduceMul, if_true, if_false, oneCell_int, oneCell_bool, oneCell_ptr, oneCell_slice, oneCell_string, oneCell_func, oneCell_map, Int.toNat_natCast, List.set_cons_zero, List.set_cons_succ, Nat.lt_irrefl, Nat.zero_lt_succ, Nat.succ_lt_succ_iff, fa26_0, fa26_0p, fa26_1, fa26_1p, fa26_10, fa26_10p, fa26_11, fa26_11p, fa26_12, fa26_12p, fa26_13, fa26_13p, fa26_14, fa26_14p, fa26_15, fa26_15p, fa26_2, fa26_2p, fa26_3, fa26_3p, fa26_4, fa26_4p, fa26_5, fa26_5p, fa26_6, fa26_6p, fa26_7, fa26_7p, fa26_8, fa26_8p, fa26_9, fa26_9p, fa28_0, fa28_0p, fa28_1, fa28_1p, fa45_0, fa45_0p, fa45_1, fa45_1p, fa45_2, fa45_2p, fa45_3, fa45_3p, fa45_4, fa45_4p, fa45_5, fa45_5p, fa45_6, fa45_6p, fa49_0, fa49_0p, fa49_1, fa49_1p, fa74_0, fa74_0p, fa74_1, fa74_1p, fa74_2, fa74_2p, fa74_3, fa74_3p, fa85_0, fa85_0p, fa85_1, fa85_1p, fa93_0, fa93_0p, fa93_1, fa93_1p, fa93_2, fa93_2p, ld3, ld3p, ld4, ld4p, ld22, ld22p, ld23, ld23p, ld24, ld24p, ld26, ld26p, ld28, ld28p, ld42, ld42p, ld45, ld45p, ld49, ld49p, ld58, ld58p, ld69, ld69p, ld72, ld72p, ld85, ld85p, st3s, st4s, st22s, st23s, st24s, st26w, st28w, st42s, st45w, st49w, st85w, ix22, ix22p, ix23, ix23p, ix24, ix24p, ix31, ix31p, ix42, ix42p, ix104, ix104p, ln22, ln22p, ln23, ln23p, ln24, ln24p, ln31, ln31p, ln42, ln42p, al4, al22, al26, al28, al42, al49, al85, cf10, cf11, cf12, cf13, cf14, cf15, cf16, cf17, cf18, cf19, cf20, cf21, cf22, cf23, cf24, cf25, cf26, cf27, cf28, cf29, cf30, cf31, cf32, cf33, cf34, cf35, cf36, cf37, cf38, cf39, cf40, cf41, cf42, cf43, cf44, cf45, cf46, cf47, cf48, cf49, cf50, cf51, cf52, cf53, cf54, cf55, cf56, cf57, cf58, cf59, cf60, cf61, cf62, cf63, cf64, cf65, cf66, cf67, cf68, cf69, cf70, cf71, cf72, cf73, cf74, cf75, bd26_0_1_2_7_8_9_10_11_12_13_14_4_15, bd26_0_1_2_7_8_9_10_11_12_13_14_4_15p, bd28_, bd28_p, bd28_0, bd28_0p, bd28_0_1, bd28_0_1p, bd45_1_3_4_5_6, bd45_1_3_4_5_6p, bd49_0_1, bd49_0_1p, bd49_1, bd49_1p, bd74_0_1_2_3, bd74_0_1_2_3p, bd85_0, bd85_0p, bd85_0_1, bd85_0_1p, bd93_0_1_2, bd93_0_1_2p, bd94_0_1_2_3, bd94_0_1_2_3p, bs42_1_0, bs22_1_0, bs24_1_0, bs42_3_0_1_2, bs31_1_0, bs22_2_0_1, bs42_6_0_1_2_3_4_5, bs42_0_, eq4, eq4p, eq28, eq28p, eq42n, eq42np, eq42s, eq42sp, eq58n, eq58np, eq58s, eq58sp, eq63n, eq63np, eq63s, eq63sp, ne28, ne28p, ne45, ne45p]
    unfold S15_l14_k16
    try simp -implicitDefEqProofs (disch := first | with_reducible exact Nat.ne_of_beq_eq_false rfl | omega) only [upd_ne, hq 15 (by decide), q15, thenK_normal, opH_sv, bin_add, wrap_in]
    exact HX (L.length - (i + 1) + 1) _ _ (by omega) ⟨i + 1, by omega, rfl, by simp -implicitDefEqProofs (disch := first | with_reducible exact Nat.ne_of_beq_eq_false rfl | omega) only [upd_ne, hq 1 (by decide), q1], by simp -implicitDefEqProofs (disch := first | with_reducible exact Nat.ne_of_beq_eq_false rfl | omega) only [upd_ne, hq 2 (by decide), q2], by simp -implicitDefEqProofs (disch := first | with_reducible exact Nat.ne_of_beq_eq_false rfl | omega) only [upd_ne, hq 3 (by decide), q3], by simp -implicitDefEqProofs (disch := first | with_reducible exact Nat.ne_of_beq_eq_false rfl | omega) only [upd_ne, hq 5 (by decide), q5], by simp -implicitDefEqProofs (disch := first | with_reducible exact Nat.ne_of_beq_eq_false rfl | omega) only [upd_ne, hq 9 (by decide), q9], by simp -implicitDefEqProofs (disch := first | with_reducible exact Nat.ne_of_beq_eq_false rfl | omega) only [upd_ne, hq 12 (by decide), q12], by simp -implicitDefEqProofs (disch := first | with_reducible exact Nat.ne_of_beq_eq_false rfl | omega) only [upd_eq] <;> rfl, .inl ⟨rfl, by simp -implicitDefEqProofs (disch := first | with_reducible exact Nat.ne_of_beq_eq_false rfl | omega) only [upd_ne, hq 13 (by decide), q13], by simp -implicitDefEqProofs (disch := first | with_reducible exact Nat.ne_of_beq_eq_false rfl | omega) only [upd_ne, hq 14 (by decide), q14], fs2 hnb⟩⟩
  obtain ⟨x, hx⟩ : ∃ x, B[k]? = some x := ⟨_, List.getElem?_eq_getElem (by omega)⟩
  obtain ⟨ba', bo', rfl, yb⟩ := Sees.num bs hx
  unfold S15_l14_l17_k18
  try simp -implicitDefEqProofs (maxSteps := 2000000) (disch := first | with_reducible exact Nat.ne_of_beq_eq_false rfl | exact oneCell_int | exact oneCell_bool | omega | rfl | (simp; done) | fail) only [upd_ne, q16, q17, hq 3 (by decide), q3, thenK_exit, blockK_exit, blockK_normal, thenK_normal, if_true, opH_sv, ln42, bin_sub, wrap_in, ix42 (Int.natCast_nonneg k) hlk, Int.toNat_natCast, Nat.mul_one, add_mk, ld3, yb, Option.some.injEq, exists_eq_left', eq_int]
  refine cond_bool (fun hb => ?_) (fun hb => ?_)
  · obtain rfl := eq_of_beq hb
    obtain ⟨ha1, ha2⟩ := hhit k hnb hx
    try simp -implicitDefEqProofs (disch := first | with_reducible exact Nat.ne_of_beq_eq_false rfl | omega) only [beq_self_eq_true, hq 15 (by decide), q15]
    unfold S15_l14_k16
    try simp -implicitDefEqProofs (disch := first | with_reducible exact Nat.ne_of_beq_eq_false rfl | omega) only [upd_ne, hq 15 (by decide), q15, thenK_normal, opH_sv, bin_add, wrap_in]
    refine HX 0 _ _ (by omega) ⟨i + 1, by omega, rfl, by simp -implicitDefEqProofs (disch := first | with_reducible exact Nat.ne_of_beq_eq_false rfl | omega) only [upd_ne, hq 1 (by decide), q1], by simp -implicitDefEqProofs (disch := first | with_reducible exact Nat.ne_of_beq_eq_false rfl | omega) only [upd_ne, hq 2 (by decide), q2], by simp -implicitDefEqProofs (disch := first | with_reducible exact Nat.ne_of_beq_eq_false rfl | omega) only [upd_ne, hq 3 (by decide), q3], by simp -implicitDefEqProofs (disch := first | with_reducible exact Nat.ne_of_beq_eq_false rfl | omega) only [upd_ne, hq 5 (by decide), q5], by simp -implicitDefEqProofs (disch := first | with_reducible exact Nat.ne_of_beq_eq_false rfl | omega) only [upd_ne, hq 9 (by decide), q9], by simp -implicitDefEqProofs (disch := first | with_reducible exact Nat.ne_of_beq_eq_false rfl | omega) only [upd_ne, hq 12 (by decide), q12], by simp -implicitDefEqProofs (disch := first | with_reducible exact Nat.ne_of_beq_eq_false rfl | omega) only [upd_eq] <;> rfl, .inr ⟨i, c, rfl, by simp -implicitDefEqProofs (disch := first | with_reducible exact Nat.ne_of_beq_eq_false rfl | omega) only [upd_ne, upd_eq], hc, by rw [hBB]; exact ha2, by rw [hBB]; exact fs1 ha2, ?_⟩⟩
    simp -implicitDefEqProofs (disch := first | with_reducible exact Nat.ne_of_beq_eq_false rfl | omega) only [upd_ne, upd_eq]
    rw [hBB, ha1]
    congr 1
    omega
  · unfold S15_l14_l17_k19
    try simp -implicitDefEqProofs (disch := first | with_reducible exact Nat.ne_of_beq_eq_false rfl | omega) only [upd_ne, q17, thenK_normal, opH_sv, bin_add, wrap_in]
    refine HX' (B.length - (k + 1)) _ _ (by omega) ⟨k + 1, rfl, by omega, rfl, (fun t ht => by simp (disch := omega) only [upd_ne, hq]), by simp -implicitDefEqProofs (disch := first | with_reducible exact Nat.ne_of_beq_eq_false rfl | omega) only [upd_ne, q16], by simp -implicitDefEqProofs (disch := first | with_reducible exact Nat.ne_of_beq_eq_false rfl | omega) only [upd_eq] <;> rfl, ?_⟩
    rw [List.take_add_one, hx, List.mem_append]
    rintro (h | h)
    · exact hnb h
    · simp at h
      subst h
      rw [beq_self_eq_true] at hb
      cases hb

end Go.Proofs.YtangejiigopdaaaDoor
end
