/- Slots and stretches held against each other; stretches gathered; a place. -/
import Derived.Test.YtbloobepmgmbgaaRH
set_option linter.unusedSimpArgs false
set_option linter.unusedVariables false
set_option maxRecDepth 100000
namespace Go.Proofs.Ytbloobepmgmbgaa
open Go Go.HL Go.Proofs.Resv

theorem deq58 (d : Nat) {a b c e : Int} : Det Try.prog (Op.equalIn (d + 1 + 1) 58 (.agg #[.int .i64 a, .int .i64 b]) (.agg #[.int .i64 c, .int .i64 e])) ((a == c) && (b == e)) := by
  have hb : ∀ (α β : Type) (s : Sem α) (g : α → Sem β), (s >>= g) = s.bind g := fun _ _ _ _ => rfl
  have hi : ∃ i, Try.prog.info? 3 = some i ∧ i.size = 1 := by
    have := sz3
    cases h : Try.prog.info? 3 with
    | none => rw [h] at this; cases this
    | some i => rw [h] at this; simp at this; exact ⟨i, rfl, this⟩
  obtain ⟨i, hi, hs⟩ := hi
  have u3 : Try.prog.underlying 3 = some (.int .i64) := by kernel_rfl
  have p0 : ∀ x y : Value, Det Try.prog (part 3 #[x, y] (0 * 1)) x := fun x y => part_cell u3 rfl rfl
  have p1 : ∀ x y : Value, Det Try.prog (part 3 #[x, y] (1 * 1)) y := fun x y => part_cell u3 rfl rfl
  have q : ∀ x y : Int, Det Try.prog (Op.equalIn (d + 1) 3 (.int .i64 x) (.int .i64 y)) (x == y) := fun x y => eqD_int u3
  constructor
  · intro G h K
    unfold Op.equalIn
    simp only [underlying, program, hb, Sem.bind, wpH, un58, pure, sizeOf, typeInfo, hi, hs]
    rw [Std.Legacy.Range.forIn_eq_forIn_range']
    simp only [Std.Legacy.Range.size, List.range', List.forIn_cons, List.forIn_nil, hb, wpH_bind, Nat.sub_zero, Nat.reduceAdd, Nat.add_one_sub_one, Nat.div_one]
    rw [(p0 _ _).w, (p0 _ _).w, (q _ _).w]
    cases a == c with
    | false => rfl
    | true =>
      simp only [Bool.not_true, Bool.false_eq_true, if_false, wpH, wpH_bind]
      rw [(p1 _ _).w, (p1 _ _).w, (q _ _).w]
      cases b == e <;> rfl
  · intro G h K
    unfold Op.equalIn
    simp only [underlying, program, hb, Sem.bind, pw, un58, pure, sizeOf, typeInfo, hi, hs]
    rw [Std.Legacy.Range.forIn_eq_forIn_range']
    simp only [Std.Legacy.Range.size, List.range', List.forIn_cons, List.forIn_nil, hb, pw_bind, Nat.sub_zero, Nat.reduceAdd, Nat.add_one_sub_one, Nat.div_one]
    rw [(p0 _ _).p, (p0 _ _).p, (q _ _).p]
    cases a == c with
    | false => rfl
    | true =>
      simp only [Bool.not_true, Bool.false_eq_true, if_false, pw, pw_bind]
      rw [(p1 _ _).p, (p1 _ _).p, (q _ _).p]
      cases b == e <;> rfl

theorem eq58 {G h : Hp} {cx cy : Operand} {a b c e : Int} {K : Value → Hp → Prop} : opH Try.prog G (xEq .eql 58 cx cy (.agg #[.int .i64 a, .int .i64 b]) (.agg #[.int .i64 c, .int .i64 e])) h K = K (.bool ((a == c) && (b == e))) h := eq_agg (by kernel_rfl) (deq58 9998)
def pairC : Cod (Int × Int) := ⟨2, fun g => [.int .i64 g.1, .int .i64 g.2], fun _ => rfl, fun _ v hv => by simp at hv; rcases hv with rfl | rfl <;> rfl⟩
theorem eopair : ElemOk Try.prog 58 pairC.n 16 := eo58
abbrev pairO (g : Int × Int) : Obj := .cells #[.int .i64 g.1, .int .i64 g.2] 58 (0, 0)
theorem Sees.pair {G h : Hp} {sa : Option Addr} {cap n : Nat} {L : List (Int × Int)} (s : Sees pairC G h (.slice sa n cap) L) {i : Nat} {x : Int × Int} (hx : L[i]? = some x) :
    ∃ b o, sa = some ⟨b, o, none⟩ ∧ cellIn G h ⟨b, o + i * 2, none⟩ = some (.int .i64 x.1) ∧ cellIn G h ⟨b, o + i * 2 + 1, none⟩ = some (.int .i64 x.2) := by
  obtain ⟨b, o, c, e1, e2⟩ := s.get hx
  simp only [Value.slice.injEq] at e1
  obtain ⟨rfl, -, -⟩ := e1
  have x0 := e2 0 (by decide)
  have x1 := e2 1 (by decide)
  simp only [pairC, Nat.add_zero, List.getElem?_cons_zero, List.getElem?_cons_succ] at x0 x1
  exact ⟨b, o, rfl, x0, x1⟩

theorem store39 {G h : Hp} {lb : Nat} {z : Value} {a : Option Addr} {n c : Nat} {K : Unit → Hp → Prop} (hb : h lb = some (.cells #[z] 39 (0, 0))) :
    wpH Try.prog G (Instr.storeAt 39 (.pointer (some ⟨lb, 0, none⟩)) (.slice a n c)) h K = K () (h.set lb (.cells #[.slice a n c] 39 (0, 0))) := by
  rw [store1_eq sz39 rfl hb (by simp)]
  rfl

theorem yield_spec {G a : Hp} {lb mb : Nat} {most : Int} {L : List (Int × Int)} {m : Int × Int} (y : GYb pairC 58 39 most lb mb L a) (hm : most ≤ 100000) :
    HCalls Try.prog G 35 #[.int .i64 m.1, .int .i64 m.2, .pointer (some ⟨lb, 0, none⟩), .pointer (some ⟨mb, 0, none⟩)] a (fun v a' => v = .bool (lessC most (L ++ [m])) ∧ GY pairC 58 39 most lb mb (L ++ [m]) a') := by
  obtain ⟨⟨ip, v, o, s⟩, hlen⟩ := y
  refine HCalls.assume fun d => enter35 (by simp) ?_
  unfold S35
  have clb : ∀ j, cellIn G a ⟨lb, j, none⟩ = _ := fun j => cell_of (look_own (s.at 1 rfl set_self))
  simp -implicitDefEqProofs (maxSteps := 2000000) (disch := first | with_reducible exact Nat.ne_of_beq_eq_false rfl | exact oneCell_int | exact oneCell_bool | omega | rfl | (simp; done) | fail) only [regs2, regs0, regs1, regs3, retK_ret, resL_tmp, upd_eq, resL_nil1, opH_sv, ld3, ld39, opH_su, bd58_0_1, bs39_1_0, clb, List.getElem?_cons_zero, Option.some.injEq, exists_eq_left']
  intro b hb gb
  have s2 := s.past (o := pairO m) hb
  have d2 := d.set (o := pairO m) gb
  have hb2 : (a.set b (pairO m)) b = some (pairO m) := set_self
  generalize Hp.set a b _ = h2 at s2 d2 hb2 ⊢
  refine append_piece pairC (by decide) un39 eopair (by decide) (by decide) (M := [m]) s2 d2 o (Sees.row (c := pairC) (L := [m]) hb2 rfl (Nat.le_refl _)) (by simp; omega) fun v3 a3 h3 o3 s3 d3 => ?_
  obtain ⟨sa, cap, rfl, hcap⟩ := o3.len (by decide)
  have hlb3 := s3.at 1 rfl set_self
  try simp -implicitDefEqProofs (maxSteps := 2000000) (disch := first | with_reducible exact Nat.ne_of_beq_eq_false rfl | exact oneCell_int | exact oneCell_bool | omega | rfl | (simp; done) | fail) only [opH_sv, opH_su, pureW_sv, opH_nil, pureW_nil, pick_t, pick_f, pick_tp, pick_fp, gd_tt, gd_ft, gd_tf, gd_ff, box_new, regs0, regs1, regs2, regs3, regs4, regs5, regs6, cells_agg, cells_int, cells_bool, cells_ptr, cells_slice, cells_string, cells_func, cells_nilFunc, cells_map, retK_ret, retK_normal, resL_tmp, resL_cell, resL_nil0, resL_nil1, resL_nil2, resL_nil3, resC_ptr, ex0, ex1, ex2, ex0p, ex1p, ex2p, HL.cond_true, HL.cond_false, thenK_normal, thenK_ret, thenK_exit, blockK_normal, blockK_ret, blockK_exit, scopeK_normal, scopeK_ret, scopeK_exit, wpH_pure, bin_add, bin_sub, bin_mul, bin_lss, bin_leq, bin_gtr, bin_geq, bin_quo, bin_rem, bin_quop, bin_remp, wrap_in, bin_addp, bin_subp, bin_mulp, bin_lssp, bin_leqp, bin_gtrp, bin_geqp, un_not, un_notp, un_neg, eq_int, ne_int, eq_intp, ne_intp, callV_fn, add_mk, upd_eq, upd_ne, cell_set_self, Nat.zero_add, Nat.add_zero, Option.some.injEq, exists_eq_left', List.getElem?_cons_succ, List.getElem?_cons_zero, true_and, and_true, bne_self_eq_false, beq_self_eq_true, Bool.not_true, Bool.not_false, Bool.and_true, Bool.and_self, Bool.and_false, Bool.true_and, List.length_cons, List.length_nil, ne_eq, not_false_eq_true, Nat.reduceAdd, Nat.reduceMul, if_true, if_false, oneCell_int, oneCell_bool, oneCell_ptr, oneCell_slice, oneCell_string, oneCell_func, oneCell_map, Int.toNat_natCast, List.set_cons_zero, List.set_cons_succ, Nat.lt_irrefl, Nat.zero_lt_succ, Nat.succ_lt_succ_iff, fa30_0, fa30_0p, fa30_1, fa30_1p, fa30_2, fa30_2p, fa35_0, fa35_0p, fa35_1, fa35_1p, fa35_2, fa35_2p, fa51_0, fa51_0p, fa51_1, fa51_1p, fa51_2, fa51_2p, fa51_3, fa51_3p, fa51_4, fa51_4p, fa51_5, fa51_5p, fa68_0, fa68_0p, fa76_0, fa76_0p, fa88_0, fa88_0p, fa88_1, fa88_1p, fa88_2, fa88_2p, fa90_0, fa90_0p, fa90_1, fa90_1p, ld3, ld3p, ld22, ld22p, ld23, ld23p, ld30, ld30p, ld32, ld32p, ld35, ld35p, ld39, ld39p, ld51, ld51p, ld58, ld58p, ld66, ld66p, st3s, st30w, st32s, st35w, st39s, st51w, st58w, st88w, st90w, ix22, ix22p, ix32, ix32p, ix39, ix39p, ix46, ix46p, ix64, ix64p, ix66, ix66p, ix78, ix78p, ix81, ix81p, ln22, ln22p, ln32, ln32p, ln39, ln39p, ln46, ln46p, ln64, ln64p, ln66, ln66p, ln78, ln78p, ln81, ln81p, al30, al35, al39, al56, al58, cf12, cf13, cf14, cf15, cf16, cf17, cf18, cf19, cf20, cf21, cf22, cf23, cf24, cf25, cf26, cf27, cf28, cf29, cf30, cf31, cf32, cf33, cf34, cf35, cf36, cf37, cf38, cf39, cf40, cf41, cf42, cf43, cf44, cf45, cf46, cf47, cf48, cf49, cf50, cf51, cf52, cf53, cf54, cf55, cf56, cf57, cf58, cf60, cf61, cf62, cf63, cf64, bd30_0_1_2, bd30_0_1_2p, bd30_1, bd30_1p, bd30_1_2, bd30_1_2p, bd35_0, bd35_0p, bd35_0_1_2, bd35_0_1_2p, bd58_0_1, bd58_0_1p, bd68_0, bd68_0p, bd76_0, bd76_0p, bd88_0_1_2, bd88_0_1_2p, bd90_0_1, bd90_0_1p, bs22_1_0, bs32_1_0, bs39_1_0, bs78_1_0, bs81_1_0, eq4, eq4p, eq23n, eq23np, eq23s, eq23sp, eq37n, eq37np, eq37s, eq37sp, ne4, ne4p, ne23n, ne23np, ne23s, ne23sp, ne35, ne35p]
  rw [store39 hlb3]
  have s4 := (s3.pick 1 rfl rfl).put (o := .cells #[.slice sa (L ++ [m]).length cap] 39 (0, 0)) set_self
  rw [set_set] at s4
  have clb4 : ∀ j, cellIn G (h3.set lb (.cells #[.slice sa (L ++ [m]).length cap] 39 (0, 0))) ⟨lb, j, none⟩ = _ := fun j => cell_of (look_own (s4.at 0 rfl set_self))
  have cmb4 : ∀ j, cellIn G (h3.set lb (.cells #[.slice sa (L ++ [m]).length cap] 39 (0, 0))) ⟨mb, j, none⟩ = _ := fun j => cell_of (look_own (s4.at 2 rfl set_self))
  try simp -implicitDefEqProofs (maxSteps := 2000000) (disch := first | with_reducible exact Nat.ne_of_beq_eq_false rfl | exact oneCell_int | exact oneCell_bool | omega | rfl | (simp; done) | fail) only [clb4, List.getElem?_cons_zero, Option.some.injEq, exists_eq_left', ln39, cmb4, bin_lss]
  refine ⟨?_, a3, _, o3, s4.swap⟩
  first | rfl | simp [lessC]

theorem gather_yl {G : Hp} {lb mb : Nat} {most : Int} (hm : most ≤ 100000) : Yl Try.prog gapA G (.func (.func 35) #[] #[.pointer (some ⟨lb, 0, none⟩), .pointer (some ⟨mb, 0, none⟩)]) (GYb pairC 58 39 most lb mb) (GY pairC 58 39 most lb mb) (lessC most) := by
  intro L m a q h y s d
  simp -implicitDefEqProofs (maxSteps := 2000000) (disch := first | with_reducible exact Nat.ne_of_beq_eq_false rfl | exact oneCell_int | exact oneCell_bool | omega | rfl | (simp; done) | fail) only [callV_fn, cf35]
  refine (s.on (yield_spec y hm)).mono ?_
  rintro v h' ⟨a', ⟨rfl, gy⟩, s', d'⟩
  refine ⟨a', rfl, s', d', ?_⟩
  split
  · rename_i hc
    exact ⟨gy, of_decide_eq_true hc⟩
  · exact gy

set_option maxHeartbeats 2000000 in
/-- Stretches of a table. -/
theorem stretches_spec {G h : Hp} {b1 b2 b3 tp : Nat} {T : Tb} {c r most : Int} (h1 : h b1 = some (.cells #[.pointer (some ⟨tp, 0, none⟩)] 23 (0, 0))) (h2 : h b2 = some (.cells #[.int .i64 c] 3 (0, 0))) (h3 : h b3 = some (.cells #[.int .i64 r] 3 (0, 0))) (ts : TSee G h tp T)
    (fw : ∀ L ∈ T, L.length ≤ 50000) (hm1 : 1 ≤ most) (hm2 : most ≤ 100000) :
    HCalls Try.prog G 18 #[.func (.func 34) #[] #[.pointer (some ⟨b1, 0, none⟩), .pointer (some ⟨b2, 0, none⟩), .pointer (some ⟨b3, 0, none⟩)], .int .i64 most] h (fun u h' => ∃ ip, Slc pairC 58 ip u ((if inT T.length c = true then gapsL (rowT T c) r else []).take most.toNat) ∧ HL.Sep [ip, h] h' ∧ Dis G h') := by
  refine HCalls.assume fun d => enter18 (by simp) ?_
  unfold S18
  simp -implicitDefEqProofs (maxSteps := 2000000) (disch := first | with_reducible exact Nat.ne_of_beq_eq_false rfl | exact oneCell_int | exact oneCell_bool | omega | rfl | (simp; done) | fail) only [regs1, regs0, retK_ret, resL_tmp, upd_eq, resL_nil1, eq37s, pick_f, gd_ff, opH_sv, al39, box_new, cells_int, ld3]
  intro mb hmb gmb lb hlb glb
  have s2 := ((Sep.one (h := h)).new (o := .cells #[.int .i64 most] 3 (0, 0)) hmb).new (o := .cells #[.slice none 0 0] 39 (0, 0)) hlb
  have d2 := (d.set (o := .cells #[.int .i64 most] 3 (0, 0)) gmb).set (o := .cells #[.slice none 0 0] 39 (0, 0)) glb
  generalize Hp.set (Hp.set h mb _) lb _ = k2 at s2 d2 ⊢
  have cmb : ∀ j, cellIn G k2 ⟨mb, j, none⟩ = _ := fun j => cell_of (look_own (s2.at 1 rfl set_self))
  have e1 : decide (most < 1) = false := decide_eq_false (by omega)
  try simp -implicitDefEqProofs (maxSteps := 2000000) (disch := first | with_reducible exact Nat.ne_of_beq_eq_false rfl | exact oneCell_int | exact oneCell_bool | omega | rfl | (simp; done) | fail) only [cmb, List.getElem?_cons_zero, Option.some.injEq, exists_eq_left', bin_lss, e1, HL.cond_false]
  unfold S18_k1
  try simp -implicitDefEqProofs (maxSteps := 2000000) (disch := first | with_reducible exact Nat.ne_of_beq_eq_false rfl | exact oneCell_int | exact oneCell_bool | omega | rfl | (simp; done) | fail) only [upd_ne, regs0, upd_eq, callV_fn, retK_ret, resL_tmp, resL_nil1, opH_sv, ld39, cf34]
  obtain ⟨a, s3, sa⟩ := sep_pack3 s2.none
  have ya : GYb pairC 58 39 most lb mb [] a := ⟨⟨noHp, _, Slc.nil, sa⟩, by simp; omega⟩
  refine (gaps1_spec (r := r) (gather_yl hm2) ya s3 h1 h2 h3 ts fw).mono ?_
  rintro _ h4 ⟨a4, s4, d4, z4⟩
  rw [feed_less (by simp; omega)] at z4
  generalize (if inT T.length c = true then gapsL (rowT T c) r else []) = GL at *
  have gy : GY pairC 58 39 most lb mb (GL.take most.toNat) a4 := by
    unfold HL.Fin at z4
    simp only [List.nil_append, List.length_nil, Nat.sub_zero] at z4
    split at z4
    · exact z4.1
    · exact z4
  obtain ⟨ip, v, o, t4⟩ := gy
  have s5 : HL.Sep [h, ip, noHp.set lb (.cells #[v] 39 (0, 0)), noHp.set mb (.cells #[.int .i64 most] 3 (0, 0))] h4 := by
    have := s4.swap.split t4
    simpa using this
  have clb : ∀ j, cellIn G h4 ⟨lb, j, none⟩ = _ := fun j => cell_of (look_own (s5.at 2 rfl set_self))
  try simp -implicitDefEqProofs (maxSteps := 2000000) (disch := first | with_reducible exact Nat.ne_of_beq_eq_false rfl | exact oneCell_int | exact oneCell_bool | omega | rfl | (simp; done) | fail) only [clb, List.getElem?_cons_zero, Option.some.injEq, exists_eq_left']
  exact ⟨ip, o, (s5.take 2 rfl).swap, d4⟩

theorem slot_beq3 {x y : Slot} : (((x.f == y.f) && ((x.t == y.t) && (x.r == y.r)))) = decide (x = y) := by
  obtain ⟨a, b, c⟩ := x
  obtain ⟨a', b', c'⟩ := y
  rw [Bool.eq_iff_iff]
  simp
theorem sameslots_spec {G h : Hp} {u v : Value} {L M : List Slot} (hL : Sees slotC G h u L) (hM : Sees slotC G h v M) (hlen : L.length ≤ 100000000000000) :
    HCalls Try.prog G 19 #[u, v] h (fun w h' => w = .bool (decide (L = M)) ∧ h' = h) := by
  refine quietly (enter19 (by simp) ?_)
  obtain ⟨sa, cap, rfl⟩ := hL.len
  obtain ⟨sb, cap', rfl⟩ := hM.len
  unfold S19
  simp -implicitDefEqProofs (maxSteps := 2000000) (disch := first | with_reducible exact Nat.ne_of_beq_eq_false rfl | exact oneCell_int | exact oneCell_bool | omega | rfl | (simp; done) | fail) only [regs0, regs1, retK_ret, resL_tmp, upd_eq, resL_nil1, opH_sv, ln32, ne_int]
  by_cases hlm : L.length = M.length
  · rw [show ((L.length : Int) != (M.length : Int)) = false by simp [hlm]]
    simp -implicitDefEqProofs (maxSteps := 2000000) (disch := first | with_reducible exact Nat.ne_of_beq_eq_false rfl | exact oneCell_int | exact oneCell_bool | omega | rfl | (simp; done) | fail) only [HL.cond_false]
    unfold S19_k1
    refine loop_I (fun m r h3 => ∃ (i : Nat), m = L.length - i ∧ i ≤ L.length ∧ r 0 = .slice sa L.length cap ∧ r 1 = .slice sb M.length cap' ∧ r 5 = .int .i64 i ∧ h3 = h ∧ L.take i = M.take i) ?_
     (m := L.length) ⟨0, rfl, Nat.zero_le _, by simp -implicitDefEqProofs (maxSteps := 2000000) (disch := first | with_reducible exact Nat.ne_of_beq_eq_false rfl | exact oneCell_int | exact oneCell_bool | omega | rfl | (simp; done) | fail) only [upd_ne, regs0], by simp -implicitDefEqProofs (maxSteps := 2000000) (disch := first | with_reducible exact Nat.ne_of_beq_eq_false rfl | exact oneCell_int | exact oneCell_bool | omega | rfl | (simp; done) | fail) only [upd_ne, regs1], by simp -implicitDefEqProofs (maxSteps := 2000000) (disch := first | with_reducible exact Nat.ne_of_beq_eq_false rfl | exact oneCell_int | exact oneCell_bool | omega | rfl | (simp; done) | fail) only [upd_eq]; rfl, rfl, by simp⟩
    rintro m r h ⟨i, rfl, hi, g0, g1, g5, rfl, htk⟩ X HX
    unfold S19_l3
    simp -implicitDefEqProofs (maxSteps := 2000000) (disch := first | with_reducible exact Nat.ne_of_beq_eq_false rfl | exact oneCell_int | exact oneCell_bool | omega | rfl | (simp; done) | fail) only [g0, g5, thenK_exit, blockK_exit, thenK_normal, if_true, opH_sv, ln32, bin_lss]
    refine cond_dec (fun hlt => ?_) (fun hge => ?_)
    · have hlt' : i < L.length := by omega
      obtain ⟨x, hx⟩ : ∃ x, L[i]? = some x := ⟨_, List.getElem?_eq_getElem hlt'⟩
      obtain ⟨y, hy⟩ : ∃ x, M[i]? = some x := ⟨_, List.getElem?_eq_getElem (by omega)⟩
      obtain ⟨b, o, rfl, x0, x1, x2⟩ := Sees.slot hL hx
      obtain ⟨b', o', rfl, y0, y1, y2⟩ := Sees.slot hM hy
      unfold S19_l3_k4
      simp -implicitDefEqProofs (maxSteps := 2000000) (disch := first | with_reducible exact Nat.ne_of_beq_eq_false rfl | exact oneCell_int | exact oneCell_bool | omega | rfl | (simp; done) | fail) only [upd_ne, g0, g5, g1, thenK_ret, blockK_ret, retK_ret, resL_tmp, upd_eq, resL_nil1, pureW_sv, ix32p (Int.natCast_nonneg i) (show (i : Int) < M.length by omega), Int.toNat_natCast, add_mk, ld35p, Nat.add_zero, y0, Option.some.injEq, y1, y2, exists_eq_left', ix32p (Int.natCast_nonneg i) hlt, x0, x1, x2, ne35p, Bool.and_true, slot_beq3]
      by_cases hxy : x = y
      · simp -implicitDefEqProofs (maxSteps := 2000000) (disch := first | with_reducible exact Nat.ne_of_beq_eq_false rfl | exact oneCell_int | exact oneCell_bool | omega | rfl | (simp; done) | fail) only [decide_eq_true hxy, Bool.not_true, HL.cond_false]
        unfold S19_l3_k5
        simp -implicitDefEqProofs (maxSteps := 2000000) (disch := first | with_reducible exact Nat.ne_of_beq_eq_false rfl | exact oneCell_int | exact oneCell_bool | omega | rfl | (simp; done) | fail) only [upd_ne, g5, thenK_normal, opH_sv, bin_add, wrap_in]
        refine HX (L.length - (i + 1)) _ _ (by omega) ⟨i + 1, rfl, hlt', by simp -implicitDefEqProofs (maxSteps := 2000000) (disch := first | with_reducible exact Nat.ne_of_beq_eq_false rfl | exact oneCell_int | exact oneCell_bool | omega | rfl | (simp; done) | fail) only [upd_ne, g0], by simp -implicitDefEqProofs (maxSteps := 2000000) (disch := first | with_reducible exact Nat.ne_of_beq_eq_false rfl | exact oneCell_int | exact oneCell_bool | omega | rfl | (simp; done) | fail) only [upd_ne, g1], by simp -implicitDefEqProofs (maxSteps := 2000000) (disch := first | with_reducible exact Nat.ne_of_beq_eq_false rfl | exact oneCell_int | exact oneCell_bool | omega | rfl | (simp; done) | fail) only [upd_eq]; rfl, rfl, ?_⟩
        rw [List.take_add_one, List.take_add_one, hx, hy, htk, hxy]
      · simp -implicitDefEqProofs (maxSteps := 2000000) (disch := first | with_reducible exact Nat.ne_of_beq_eq_false rfl | exact oneCell_int | exact oneCell_bool | omega | rfl | (simp; done) | fail) only [decide_eq_false hxy, Bool.not_false, HL.cond_true]
        refine ⟨?_, Hp.le.refl h⟩
        congr 1
        symm
        apply dec_f
        rintro rfl
        rw [hx] at hy
        cases hy
        exact hxy rfl
    · obtain rfl : i = L.length := by omega
      show S19_k2 _ _ _ _
      unfold S19_k2
      simp -implicitDefEqProofs (maxSteps := 2000000) (disch := first | with_reducible exact Nat.ne_of_beq_eq_false rfl | exact oneCell_int | exact oneCell_bool | omega | rfl | (simp; done) | fail) only [retK_ret, resL_tmp, upd_eq, resL_nil1]
      rw [List.take_of_length_le (Nat.le_refl _), List.take_of_length_le (by omega)] at htk
      exact ⟨by rw [dec_t htk], Hp.le.refl h⟩
  · rw [show ((L.length : Int) != (M.length : Int)) = true by simp; omega]
    simp -implicitDefEqProofs (maxSteps := 2000000) (disch := first | with_reducible exact Nat.ne_of_beq_eq_false rfl | exact oneCell_int | exact oneCell_bool | omega | rfl | (simp; done) | fail) only [HL.cond_true]
    exact ⟨by rw [dec_f (fun e => hlm (by rw [e]))], Hp.le.refl h⟩

def Bd (x : Int) : Prop := -9223372036854775808 ≤ x ∧ x ≤ 9223372036854775807
theorem place_spec {G h : Hp} {a n : Int} (ha : Bd a) (hn : 0 < n) (hn2 : n ≤ 1000000) : HCalls Try.prog G 14 #[.int .i64 a, .int .i64 n] h (fun v h' => v = .int .i64 (a % n) ∧ h' = h) := by
  refine quietly (enter14 (by simp) ?_)
  obtain ⟨ha1, ha2⟩ := ha
  unfold S14
  have e1 : a.tmod n = if 0 ≤ a ∨ a % n = 0 then a % n else a % n - n := by
    rw [Int.tmod_eq_emod]
    have : (n.natAbs : Int) = n := by omega
    by_cases h0 : 0 ≤ a
    · simp [h0]
    · simp [h0, this, Int.dvd_iff_emod_eq_zero]
      split <;> omega
  have hb := Int.emod_nonneg a (show n ≠ 0 by omega)
  have hb2 := Int.emod_lt_of_pos a hn
  simp -implicitDefEqProofs (maxSteps := 2000000) (disch := first | with_reducible exact Nat.ne_of_beq_eq_false rfl | exact oneCell_int | exact oneCell_bool | omega | rfl | (simp; done) | fail) only [regs0, regs1, opH_sv, bin_rem, bin_add, wrap_in, bin_lss]
  by_cases hc : 0 ≤ a ∨ a % n = 0
  · rw [if_pos hc] at e1
    rw [e1, dec_f (show ¬ a % n < 0 by omega)]
    simp -implicitDefEqProofs (maxSteps := 2000000) (disch := first | with_reducible exact Nat.ne_of_beq_eq_false rfl | exact oneCell_int | exact oneCell_bool | omega | rfl | (simp; done) | fail) only [HL.cond_false]
    unfold S14_k1
    simp -implicitDefEqProofs (maxSteps := 2000000) (disch := first | with_reducible exact Nat.ne_of_beq_eq_false rfl | exact oneCell_int | exact oneCell_bool | omega | rfl | (simp; done) | fail) only [upd_ne, upd_eq, retK_ret, resL_tmp, resL_nil1, true_and]
    exact Hp.le.refl h
  · rw [if_neg hc] at e1
    have : a % n ≠ 0 := fun e => hc (.inr e)
    rw [e1, dec_t (show a % n - n < 0 by omega)]
    simp -implicitDefEqProofs (maxSteps := 2000000) (disch := first | with_reducible exact Nat.ne_of_beq_eq_false rfl | exact oneCell_int | exact oneCell_bool | omega | rfl | (simp; done) | fail) only [HL.cond_true]
    unfold S14_k1
    simp -implicitDefEqProofs (maxSteps := 2000000) (disch := first | with_reducible exact Nat.ne_of_beq_eq_false rfl | exact oneCell_int | exact oneCell_bool | omega | rfl | (simp; done) | fail) only [upd_eq, retK_ret, resL_tmp, resL_nil1]
    exact ⟨by congr 1; omega, Hp.le.refl h⟩

end Go.Proofs.Ytbloobepmgmbgaa
