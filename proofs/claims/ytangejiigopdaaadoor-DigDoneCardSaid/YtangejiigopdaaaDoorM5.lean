/- Texts of the proof, one behind the other. -/
import Derived.Test.YtangejiigopdaaaDoorM4
import Derived.Test.YtangejiigopdaaaDoorH4
section
/- The yard laid. -/
set_option linter.unusedSimpArgs false
set_option linter.unusedVariables false
set_option maxRecDepth 100000
namespace Go.Proofs.YtangejiigopdaaaDoor
open Go Go.HL

theorem pack2 {x y h : Hp} {R : List Hp} (s : HL.Sep (x :: y :: R) h) : ∃ b, HL.Sep (b :: R) h ∧ HL.Sep [x, y] b := by
  obtain ⟨s1, ap⟩ := s.join
  exact ⟨_, s1, ⟨fun a ha => by
    simp only [List.mem_cons, List.not_mem_nil, or_false] at ha
    rcases ha with rfl | rfl
    · exact Hp.le_join
    · exact Hp.le_join2 ap, by simp [ap]⟩⟩

abbrev Stk := Cell × List Int
/-- Stacks as they lie. -/
def StS (G h : Hp) (v : Value) (S : List Stk) : Prop := ∃ a cap, v = .slice a S.length cap ∧ ∃ raw : List Raw, Sees rawC G h (.slice a S.length cap) raw ∧ ∀ (i : Nat) (r : Raw) (s : Stk), raw[i]? = some r → S[i]? = some s → (r.x, r.y) = s.1 ∧ r.n = s.2.length ∧ Sees icC G h (.slice r.a s.2.length r.c) s.2
theorem StS.up {G h h' : Hp} {v : Value} {S : List Stk} (s : StS G h v S) (l : h.le h') (d : Dis G h') : StS G h' v S := by
  obtain ⟨a, cap, e, raw, e1, e2⟩ := s
  exact ⟨a, cap, e, raw, e1.up l d, fun i r s h1 h2 => let ⟨k1, k2, k3⟩ := e2 i r s h1 h2; ⟨k1, k2, k3.up l d⟩⟩

/-- The first stack of a cell. -/
def binsL : List Stk → Cell → List Int
  | [], _ => []
  | s :: S, c => if s.1 == c then s.2 else binsL S c
def hgt (S : List Stk) (c : Cell) : Int := (binsL S c).length
theorem binsL_take {S : List Stk} {c : Cell} : ∀ {i : Nat} {s : Stk}, S[i]? = some s → binsL (S.take (i + 1)) c = if (S.take i).any (fun x => x.1 == c) = true then binsL (S.take i) c else if (s.1 == c) = true then s.2 else [] := by
  induction S with
  | nil => intro i s h; simp at h
  | cons x S ih =>
    intro i s h
    cases i with
    | zero =>
      simp at h
      subst h
      simp [binsL]
    | succ i =>
      simp at h
      have := ih h
      rw [List.take_succ_cons, List.take_succ_cons, binsL, binsL, List.any_cons]
      cases hx : (x.1 == c) with
      | true => simp
      | false => rw [Bool.false_or]; simpa using this
theorem binsL_not {S : List Stk} {c : Cell} (h : S.any (fun x => x.1 == c) = false) : binsL S c = [] := by
  induction S with
  | nil => rfl
  | cons x S ih =>
    rw [List.any_cons, Bool.or_eq_false_iff] at h
    rw [binsL, h.1]
    exact ih h.2

abbrev CMap := KMap (fun c : Cell => cellV c)
/-- A map of numbers by cells: those that were set, the number. -/
def MapIs (o : Obj) (hv : Cell → Int) (is : Cell → Bool) : Prop := ∃ M : List (Cell × Value), CMap o M ∧ ∀ c, kget M c = if is c = true then some (.int .i64 (hv c)) else none

theorem unm : Tryd.prog.underlying 72 = some (.map 28 3) := by kernel_rfl
theorem zmi : zeroOf Tryd.prog 3 = some (.int .i64 0) := by kernel_rfl

theorem mkmap {T : TypeId} {G h : Hp} {K : Value → Hp → Prop} : wpH Tryd.prog G (Instr.makeMap T none) h K = ∀ x, h x = none → G x = none → K (.map (some x)) (h.set x (.map #[] 0)) := by
  simp [Instr.makeMap, bind, Sem.bind, pure, wpH, newObj]
theorem MapIs.new {hv : Cell → Int} : MapIs (.map #[] 0) hv (fun _ => false) := ⟨[], KMap.empty, fun c => rfl⟩
theorem lk2 {G h : Hp} {mb : Nat} {o : Obj} {hv : Cell → Int} {is : Cell → Bool} {x y : Int} {K : Value → Prop} (hb : HL.look G h mb = some o) (m : MapIs o hv is) :
    pw Tryd.prog G h (Instr.lookup 72 (.map (some mb)) (.agg #[.int .i64 x, .int .i64 y]) true) K = K (.tuple #[.int .i64 (if is (x, y) = true then hv (x, y) else 0), .bool (is (x, y))]) := by
  obtain ⟨M, hm, hg⟩ := m
  have := lookup2_keyp (k := ((x, y) : Cell)) (K := K) cell_key unm zmi hb hm
  rw [hg] at this
  refine this.trans ?_
  cases is (x, y) <;> rfl
theorem lk1 {G h : Hp} {mb : Nat} {o : Obj} {hv : Cell → Int} {is : Cell → Bool} {x y : Int} {K : Value → Prop} (hb : HL.look G h mb = some o) (m : MapIs o hv is) :
    pw Tryd.prog G h (Instr.lookup 72 (.map (some mb)) (.agg #[.int .i64 x, .int .i64 y]) false) K = K (.int .i64 (if is (x, y) = true then hv (x, y) else 0)) := by
  obtain ⟨M, hm, hg⟩ := m
  have := lookup_keyp (k := ((x, y) : Cell)) (K := K) cell_key unm zmi hb hm
  rw [hg] at this
  refine this.trans ?_
  cases is (x, y) <;> rfl
theorem mpu {G h : Hp} {mb : Nat} {o : Obj} {hv : Cell → Int} {is : Cell → Bool} {x y n : Int} {K : Unit → Hp → Prop} (hb : h mb = some o) (m : MapIs o hv is)
    (H : ∀ o', MapIs o' (fun c => if ((x, y) == c) = true then n else hv c) (fun c => (x, y) == c || is c) → K () (h.set mb o')) :
    wpH Tryd.prog G (Instr.mapUpdate 72 (.map (some mb)) (.agg #[.int .i64 x, .int .i64 y]) (.int .i64 n)) h K := by
  obtain ⟨M, hm, hg⟩ := m
  refine mapput_key (k := ((x, y) : Cell)) cell_key unm hb hm fun o' hm' => H o' ⟨_, hm', fun c => ?_⟩
  rw [kget_put, hg]
  show (if (((x, y) : Cell) == c) = true then some (Value.int .i64 n) else _) = if ((((x, y) : Cell) == c) || is c) = true then some (Value.int .i64 (if (((x, y) : Cell) == c) = true then n else hv c)) else none
  cases (((x, y) : Cell) == c) <;> rfl

theorem MapIs.congr {o : Obj} {hv hv' : Cell → Int} {is is' : Cell → Bool} (m : MapIs o hv is) (h1 : ∀ c, is' c = is c) (h2 : ∀ c, is c = true → hv' c = hv c) : MapIs o hv' is' := by
  obtain ⟨M, hm, hg⟩ := m
  refine ⟨M, hm, fun c => ?_⟩
  rw [hg, h1]
  by_cases h : is c = true
  · rw [if_pos h, if_pos h, h2 c h]
  · rw [if_neg h, if_neg h]
theorem hgt_step {S : List Stk} {i : Nat} {s : Stk} (hs : S[i]? = some s) (c : Cell) : hgt (S.take (i + 1)) c = if (S.take i).any (fun x => x.1 == c) = true then hgt (S.take i) c else if (s.1 == c) = true then (s.2.length : Int) else 0 := by
  unfold hgt
  rw [binsL_take hs]
  split
  · rfl
  · split <;> rfl
theorem any_step {S : List Stk} {i : Nat} {s : Stk} (hs : S[i]? = some s) (c : Cell) : (S.take (i + 1)).any (fun x => x.1 == c) = ((S.take i).any (fun x => x.1 == c) || s.1 == c) := by
  rw [List.take_add_one, hs, List.any_append]
  simp

def YardO (a : Hp) (yp gp mb : Nat) (ht : Int) (tv : Value) (hv : Cell → Int) (is : Cell → Bool) : Prop := ∃ (o : Obj) (C : Conf) (ab : Option Addr) (cb : Nat) (ap : Option Addr) (cp : Nat) (ar : Option Addr) (cr : Nat) (az : Option Addr) (cs : Nat),
  HL.Sep [noHp.set yp (.cells #[.int .i64 C.w, .int .i64 C.h, .int .i64 ht, .slice ab C.bl.length cb, .slice ap C.po.length cp, .slice ar C.ro.length cr, .slice az C.st.length cs, .int .i64 C.un, .int .i64 C.ac, .int .i64 C.sp, .int .i64 C.tu, .int .i64 C.ho, .int .i64 C.qu, .int .i64 C.re, .int .i64 C.bu, .bool C.back, .pointer (some ⟨gp, 0, none⟩), .map (some mb), tv] 74 (0, 0)), noHp.set mb o] a ∧ MapIs o hv is

set_option maxHeartbeats 4000000 in
theorem dlaid_spec {G h : Hp} {v sv tv : Value} {C : Conf} {S : List Stk} {TL : List Cell} (hv : CV G h v C) (hss : StS G h sv S) (ht : Sees cellC G h tv TL) (st : Steps G) (hp : ∀ p ∈ C.ro, PB p) (hsl : C.st.length ≤ 100000000000000) (hS : S.length ≤ 100000000000000) :
    HCalls Tryd.prog G 33 #[v, sv, tv] h (fun u h' => h.le h' ∧ Dis G h' ∧ ((MadeOk C ∧ ∃ ya ga yp gp kb mb is, u = .tuple #[.pointer (some ⟨yp, 0, none⟩), .int .i64 0] ∧ HL.Sep [ya, ga, h] h' ∧ GO ga gp kb (wC C) (kC C) (f3C C) ∧ YardO ya yp gp mb C.ht tv (hgt S) is ∧ (∀ c, is c = false → hgt S c = 0)) ∨ (¬ MadeOk C ∧ u = .tuple #[.pointer none, .int .i64 5]))) := by
  obtain ⟨ta, tc, rfl⟩ := ht.len
  obtain ⟨sa, sc, rfl, raw, sr, srr⟩ := id hss
  obtain ⟨ab, cb, ap, cp, ar, cr, az, cs, rfl, ca⟩ := hv
  refine HCalls.assume fun d => enter33 (by simp) ?_
  unfold S33
  simp -implicitDefEqProofs only [regs0, retK_ret, resL_tmp, upd_ne, upd_eq, resL_nil2, opH_sv, cf28, box_new, cells_agg, ld26, add_mk, Nat.add_zero, cell_set_self, List.getElem?_cons_zero, Option.some.injEq, Nat.zero_add, List.getElem?_cons_succ, exists_eq_left']
  intro x hx gx
  generalize e1 : Hp.set h x _ = h1
  obtain ⟨l1, d1, b1⟩ := boxed e1 hx d gx
  have cx : ∀ j, cellIn G h1 ⟨x, j, none⟩ = _ := fun j => cell_of (look_own b1)
  try simp -implicitDefEqProofs (disch := first | with_reducible exact Nat.ne_of_beq_eq_false rfl | omega) only [opH_sv, opH_su, pureW_sv, opH_nil, pureW_nil, pick_t, pick_f, pick_tp, pick_fp, gd_tt, gd_ft, gd_tf, gd_ff, box_new, regs0, regs1, regs2, regs3, regs4, regs5, regs6, cells_agg, cells_int, cells_bool, cells_ptr, cells_slice, cells_string, cells_func, cells_nilFunc, cells_map, retK_ret, retK_normal, resL_tmp, resL_cell, resL_nil0, resL_nil1, resL_nil2, resL_nil3, resC_ptr, ex0, ex1, ex2, ex0p, ex1p, ex2p, HL.cond_true, HL.cond_false, thenK_normal, thenK_ret, thenK_exit, blockK_normal, blockK_ret, blockK_exit, scopeK_normal, scopeK_ret, scopeK_exit, wpH_pure, bin_add, bin_sub, bin_mul, bin_lss, bin_leq, bin_gtr, bin_geq, bin_quo, bin_rem, bin_quop, bin_remp, wrap_in, bin_addp, bin_subp, bin_mulp, bin_lssp, bin_leqp, bin_gtrp, bin_geqp, un_not, un_notp, un_neg, eq_int, ne_int, eq_intp, ne_intp, callV_fn, add_mk, upd_eq, upd_ne, cell_set_self, Nat.zero_add, Nat.add_zero, Option.some.injEq, exists_eq_left', List.getElem?_cons_succ, List.getElem?_cons_zero, true_and, and_true, bne_self_eq_false, beq_self_eq_true, Bool.not_true, Bool.not_false, Bool.and_true, Bool.and_self, Bool.and_false, Bool.true_and, List.length_cons, List.length_nil, ne_eq, not_false_eq_true, Nat.reduceAdd, Nat.reduceMul, if_true, if_false, oneCell_int, oneCell_bool, oneCell_ptr, oneCell_slice, oneCell_string, oneCell_func, oneCell_map, Int.toNat_natCast, List.set_cons_zero, List.set_cons_succ, Nat.lt_irrefl, Nat.zero_lt_succ, Nat.succ_lt_succ_iff, fa26_0, fa26_0p, fa26_1, fa26_1p, fa26_10, fa26_10p, fa26_11, fa26_11p, fa26_12, fa26_12p, fa26_13, fa26_13p, fa26_14, fa26_14p, fa26_15, fa26_15p, fa26_2, fa26_2p, fa26_3, fa26_3p, fa26_4, fa26_4p, fa26_5, fa26_5p, fa26_6, fa26_6p, fa26_7, fa26_7p, fa26_8, fa26_8p, fa26_9, fa26_9p, fa28_0, fa28_0p, fa28_1, fa28_1p, fa45_0, fa45_0p, fa45_1, fa45_1p, fa45_2, fa45_2p, fa45_3, fa45_3p, fa45_4, fa45_4p, fa45_5, fa45_5p, fa45_6, fa45_6p, fa49_0, fa49_0p, fa49_1, fa49_1p, fa74_0, fa74_0p, fa74_1, fa74_1p, fa74_2, fa74_2p, fa74_3, fa74_3p, fa85_0, fa85_0p, fa85_1, fa85_1p, fa93_0, fa93_0p, fa93_1, fa93_1p, fa93_2, fa93_2p, ld3, ld3p, ld4, ld4p, ld22, ld22p, ld23, ld23p, ld24, ld24p, ld26, ld26p, ld28, ld28p, ld42, ld42p, ld45, ld45p, ld49, ld49p, ld58, ld58p, ld69, ld69p, ld72, ld72p, ld85, ld85p, st3s, st4s, st22s, st23s, st24s, st26w, st28w, st42s, st45w, st49w, st85w, ix22, ix22p, ix23, ix23p, ix24, ix24p, ix31, ix31p, ix42, ix42p, ix104, ix104p, ln22, ln22p, ln23, ln23p, ln24, ln24p, ln31, ln31p, ln42, ln42p, al4, al22, al26, al28, al42, al49, al85, cf10, cf11, cf12, cf13, cf14, cf15, cf16, cf17, cf18, cf19, cf20, cf21, cf22, cf23, cf24, cf25, cf26, cf27, cf28, cf29, cf30, cf31, cf32, cf33, cf34, cf35, cf36, cf37, cf38, cf39, cf40, cf41, cf42, cf43, cf44, cf45, cf46, cf47, cf48, cf49, cf50, cf51, cf52, cf53, cf54, cf55, cf56, cf57, cf58, cf59, cf60, cf61, cf62, cf63, cf64, cf65, cf66, cf67, cf68, cf69, cf70, cf71, cf72, cf73, cf74, cf75, bd26_0_1_2_7_8_9_10_11_12_13_14_4_15, bd26_0_1_2_7_8_9_10_11_12_13_14_4_15p, bd28_, bd28_p, bd28_0, bd28_0p, bd28_0_1, bd28_0_1p, bd45_1_3_4_5_6, bd45_1_3_4_5_6p, bd49_0_1, bd49_0_1p, bd49_1, bd49_1p, bd74_0_1_2_3, bd74_0_1_2_3p, bd85_0, bd85_0p, bd85_0_1, bd85_0_1p, bd93_0_1_2, bd93_0_1_2p, bd94_0_1_2_3, bd94_0_1_2_3p, bs42_1_0, bs22_1_0, bs24_1_0, bs42_3_0_1_2, bs31_1_0, bs22_2_0_1, bs42_6_0_1_2_3_4_5, bs42_0_, eq4, eq4p, eq28, eq28p, eq42n, eq42np, eq42s, eq42sp, eq58n, eq58np, eq58s, eq58sp, eq63n, eq63np, eq63s, eq63sp, ne28, ne28p, ne45, ne45p, cx]
  refine (new_spec (ca.up l1 d1).cv st hp hsl).mono ?_
  rintro _ h2 ⟨l2, d2, ⟨hm, ga, gp, kb, rfl, go, s2⟩ | ⟨hm, rfl⟩⟩
  rotate_left
  · try simp -implicitDefEqProofs (maxSteps := 2000000) (disch := first | with_reducible exact Nat.ne_of_beq_eq_false rfl | exact oneCell_int | exact oneCell_bool | omega | rfl | (simp; done) | fail) only [ex1, and_true, ne_int, ex0]
    exact ⟨l1.trans l2, d2, .inr hm⟩
  have b2 := l2 _ _ b1
  have cx2 : ∀ j, cellIn G h2 ⟨x, j, none⟩ = _ := fun j => cell_of (look_own b2)
  try simp -implicitDefEqProofs only [ex1, ne_int, bne_self_eq_false, HL.cond_false, ex0]
  unfold S33_k1
  try simp -implicitDefEqProofs (disch := first | with_reducible exact Nat.ne_of_beq_eq_false rfl | omega) only [upd_ne, upd_eq, regs2, regs1, opH_sv, ln24, box_new, ld26, add_mk, Nat.add_zero, cx2, List.getElem?_cons_zero, Option.some.injEq, Nat.zero_add, List.getElem?_cons_succ, exists_eq_left']
  rw [mkmap]
  intro mb hmb gmb
  try simp -implicitDefEqProofs (disch := first | with_reducible exact Nat.ne_of_beq_eq_false rfl | omega) only [bd74_0_1_2_3, cells_agg]
  intro yp hyp gyp
  have hr : h.le h2 := l1.trans l2
  have sA : HL.Sep [ga, h] h2 := (s2.swap.cut l1).swap
  have sB := (sA.new (o := .map #[] 0) hmb)
  have dB := d2.set (o := .map #[] 0) gmb
  generalize eB : Hp.set h2 mb _ = hB at hyp sB dB ⊢
  have sC := sB.new (o := .cells #[.int .i64 C.w, .int .i64 C.h, .int .i64 C.ht, .slice ab C.bl.length cb, .slice ap C.po.length cp, .slice ar C.ro.length cr, .slice az C.st.length cs, .int .i64 C.un, .int .i64 C.ac, .int .i64 C.sp, .int .i64 C.tu, .int .i64 C.ho, .int .i64 C.qu, .int .i64 C.re, .int .i64 C.bu, .bool C.back, .pointer (some ⟨gp, 0, none⟩), .map (some mb), .slice ta TL.length tc] 74 (0, 0)) hyp
  have dC := dB.set (o := .cells #[.int .i64 C.w, .int .i64 C.h, .int .i64 C.ht, .slice ab C.bl.length cb, .slice ap C.po.length cp, .slice ar C.ro.length cr, .slice az C.st.length cs, .int .i64 C.un, .int .i64 C.ac, .int .i64 C.sp, .int .i64 C.tu, .int .i64 C.ho, .int .i64 C.qu, .int .i64 C.re, .int .i64 C.bu, .bool C.back, .pointer (some ⟨gp, 0, none⟩), .map (some mb), .slice ta TL.length tc] 74 (0, 0)) gyp
  generalize Hp.set hB yp _ = hC at sC dC ⊢
  have hrl : raw.length = S.length := by
    obtain ⟨s', cap', e⟩ := sr.len
    simp at e
    omega
  generalize hKK : retK Tryd.prog G _ _ = KK
  refine loop_I (fun m q h3 => ∃ (i : Nat) (o : Obj) (is : Cell → Bool), m = S.length - i ∧ i ≤ S.length ∧ q 10 = .pointer (some ⟨yp, 0, none⟩) ∧ q 29 = .slice sa S.length sc ∧ q 30 = .int .i64 S.length ∧ q 31 = .int .i64 i ∧ MapIs o (hgt (S.take i)) is ∧ (∀ c, is c = (S.take i).any (fun x => x.1 == c)) ∧ HL.Sep [noHp.set yp (.cells #[.int .i64 C.w, .int .i64 C.h, .int .i64 C.ht, .slice ab C.bl.length cb, .slice ap C.po.length cp, .slice ar C.ro.length cr, .slice az C.st.length cs, .int .i64 C.un, .int .i64 C.ac, .int .i64 C.sp, .int .i64 C.tu, .int .i64 C.ho, .int .i64 C.qu, .int .i64 C.re, .int .i64 C.bu, .bool C.back, .pointer (some ⟨gp, 0, none⟩), .map (some mb), .slice ta TL.length tc] 74 (0, 0)), noHp.set mb o, ga, h] h3 ∧ Dis G h3) ?_
    (m := S.length) ⟨0, _, _, rfl, Nat.zero_le _, by simp -implicitDefEqProofs (disch := first | with_reducible exact Nat.ne_of_beq_eq_false rfl | omega) only [upd_ne, upd_eq], by simp -implicitDefEqProofs (disch := first | with_reducible exact Nat.ne_of_beq_eq_false rfl | omega) only [upd_ne, upd_eq], by simp -implicitDefEqProofs (disch := first | with_reducible exact Nat.ne_of_beq_eq_false rfl | omega) only [upd_ne, upd_eq], by simp -implicitDefEqProofs only [upd_eq] <;> rfl, MapIs.new, fun c => rfl, sC, dC⟩
  clear sC dC hC sB dB eB hyp gyp hmb gmb hB sA s2 d2 l2 b2 cx2 hr
  clear h2 e1 l1 d1 b1 cx hx gx
  clear h1 x
  rintro m q h3 ⟨i, o, is, rfl, hi, q10, q29, q30, q31, mi, his, s3, d3⟩ X HX
  unfold S33_l3
  simp -implicitDefEqProofs only [q31, q30, thenK_exit, blockK_exit, thenK_normal, if_true, opH_sv, bin_lss]
  refine cond_dec (fun hlt => ?_) (fun hge => ?_)
  rotate_left
  · obtain rfl : i = S.length := by omega
    rw [List.take_of_length_le (Nat.le_refl _)] at mi his
    try simp -implicitDefEqProofs (disch := first | with_reducible exact Nat.ne_of_beq_eq_false rfl | omega) only [opH_sv, opH_su, pureW_sv, opH_nil, pureW_nil, pick_t, pick_f, pick_tp, pick_fp, gd_tt, gd_ft, gd_tf, gd_ff, box_new, regs0, regs1, regs2, regs3, regs4, regs5, regs6, cells_agg, cells_int, cells_bool, cells_ptr, cells_slice, cells_string, cells_func, cells_nilFunc, cells_map, retK_ret, retK_normal, resL_tmp, resL_cell, resL_nil0, resL_nil1, resL_nil2, resL_nil3, resC_ptr, ex0, ex1, ex2, ex0p, ex1p, ex2p, HL.cond_true, HL.cond_false, thenK_normal, thenK_ret, thenK_exit, blockK_normal, blockK_ret, blockK_exit, scopeK_normal, scopeK_ret, scopeK_exit, wpH_pure, bin_add, bin_sub, bin_mul, bin_lss, bin_leq, bin_gtr, bin_geq, bin_quo, bin_rem, bin_quop, bin_remp, wrap_in, bin_addp, bin_subp, bin_mulp, bin_lssp, bin_leqp, bin_gtrp, bin_geqp, un_not, un_notp, un_neg, eq_int, ne_int, eq_intp, ne_intp, callV_fn, add_mk, upd_eq, upd_ne, cell_set_self, Nat.zero_add, Nat.add_zero, Option.some.injEq, exists_eq_left', List.getElem?_cons_succ, List.getElem?_cons_zero, true_and, and_true, bne_self_eq_false, beq_self_eq_true, Bool.not_true, Bool.not_false, Bool.and_true, Bool.and_self, Bool.and_false, Bool.true_and, List.length_cons, List.length_nil, ne_eq, not_false_eq_true, Nat.reduceAdd, Nat.reduceMul, if_true, if_false, oneCell_int, oneCell_bool, oneCell_ptr, oneCell_slice, oneCell_string, oneCell_func, oneCell_map, Int.toNat_natCast, List.set_cons_zero, List.set_cons_succ, Nat.lt_irrefl, Nat.zero_lt_succ, Nat.succ_lt_succ_iff, fa26_0, fa26_0p, fa26_1, fa26_1p, fa26_10, fa26_10p, fa26_11, fa26_11p, fa26_12, fa26_12p, fa26_13, fa26_13p, fa26_14, fa26_14p, fa26_15, fa26_15p, fa26_2, fa26_2p, fa26_3, fa26_3p, fa26_4, fa26_4p, fa26_5, fa26_5p, fa26_6, fa26_6p, fa26_7, fa26_7p, fa26_8, fa26_8p, fa26_9, fa26_9p, fa28_0, fa28_0p, fa28_1, fa28_1p, fa45_0, fa45_0p, fa45_1, fa45_1p, fa45_2, fa45_2p, fa45_3, fa45_3p, fa45_4, fa45_4p, fa45_5, fa45_5p, fa45_6, fa45_6p, fa49_0, fa49_0p, fa49_1, fa49_1p, fa74_0, fa74_0p, fa74_1, fa74_1p, fa74_2, fa74_2p, fa74_3, fa74_3p, fa85_0, fa85_0p, fa85_1, fa85_1p, fa93_0, fa93_0p, fa93_1, fa93_1p, fa93_2, fa93_2p, ld3, ld3p, ld4, ld4p, ld22, ld22p, ld23, ld23p, ld24, ld24p, ld26, ld26p, ld28, ld28p, ld42, ld42p, ld45, ld45p, ld49, ld49p, ld58, ld58p, ld69, ld69p, ld72, ld72p, ld85, ld85p, st3s, st4s, st22s, st23s, st24s, st26w, st28w, st42s, st45w, st49w, st85w, ix22, ix22p, ix23, ix23p, ix24, ix24p, ix31, ix31p, ix42, ix42p, ix104, ix104p, ln22, ln22p, ln23, ln23p, ln24, ln24p, ln31, ln31p, ln42, ln42p, al4, al22, al26, al28, al42, al49, al85, cf10, cf11, cf12, cf13, cf14, cf15, cf16, cf17, cf18, cf19, cf20, cf21, cf22, cf23, cf24, cf25, cf26, cf27, cf28, cf29, cf30, cf31, cf32, cf33, cf34, cf35, cf36, cf37, cf38, cf39, cf40, cf41, cf42, cf43, cf44, cf45, cf46, cf47, cf48, cf49, cf50, cf51, cf52, cf53, cf54, cf55, cf56, cf57, cf58, cf59, cf60, cf61, cf62, cf63, cf64, cf65, cf66, cf67, cf68, cf69, cf70, cf71, cf72, cf73, cf74, cf75, bd26_0_1_2_7_8_9_10_11_12_13_14_4_15, bd26_0_1_2_7_8_9_10_11_12_13_14_4_15p, bd28_, bd28_p, bd28_0, bd28_0p, bd28_0_1, bd28_0_1p, bd45_1_3_4_5_6, bd45_1_3_4_5_6p, bd49_0_1, bd49_0_1p, bd49_1, bd49_1p, bd74_0_1_2_3, bd74_0_1_2_3p, bd85_0, bd85_0p, bd85_0_1, bd85_0_1p, bd93_0_1_2, bd93_0_1_2p, bd94_0_1_2_3, bd94_0_1_2_3p, bs42_1_0, bs22_1_0, bs24_1_0, bs42_3_0_1_2, bs31_1_0, bs22_2_0_1, bs42_6_0_1_2_3_4_5, bs42_0_, eq4, eq4p, eq28, eq28p, eq42n, eq42np, eq42s, eq42sp, eq58n, eq58np, eq58s, eq58sp, eq63n, eq63np, eq63s, eq63sp, ne28, ne28p, ne45, ne45p]
    unfold S33_k2
    rw [← hKK]
    obtain ⟨ya, s4, t4⟩ := pack2 s3
    simp -implicitDefEqProofs (disch := first | with_reducible exact Nat.ne_of_beq_eq_false rfl | omega) only [upd_ne, q10, retK_ret, resL_tmp, upd_eq, resL_nil2]
    exact ⟨s4.in 2 rfl, d3, .inl ⟨hm, ya, ga, yp, gp, kb, mb, is, rfl, s4, go, ⟨o, C, ab, cb, ap, cp, ar, cr, az, cs, t4, mi⟩, fun c hc => by
      rw [his] at hc
      unfold hgt
      rw [binsL_not hc]
      rfl⟩⟩
  obtain ⟨s, hs⟩ : ∃ s, S[i]? = some s := ⟨_, List.getElem?_eq_getElem (by omega)⟩
  obtain ⟨r, hr⟩ : ∃ r, raw[i]? = some r := ⟨_, List.getElem?_eq_getElem (by omega)⟩
  obtain ⟨er, en, _⟩ := srr i r s hr hs
  obtain ⟨b, of, cc, e3, e4⟩ := (sr.up (s3.in 3 rfl) d3).get hr
  simp only [Value.slice.injEq] at e3
  obtain ⟨rfl, -, -⟩ := e3
  have z0 := e4 0 (by decide)
  have z1 := e4 1 (by decide)
  have z2 := e4 2 (by decide)
  simp only [rawC, Nat.add_zero, List.getElem?_cons_zero, List.getElem?_cons_succ] at z0 z1 z2
  unfold S33_l3_k4
  simp -implicitDefEqProofs (maxSteps := 2000000) (disch := first | with_reducible exact Nat.ne_of_beq_eq_false rfl | exact oneCell_int | exact oneCell_bool | omega | rfl | (simp; done) | fail) only [upd_ne, q29, q31, q10, opH_su, pureW_sv, pureW_nil, fa74_2p, add_mk, Nat.zero_add, ld72p, opH_sv, al49, fa49_1p, ld42p, fa49_0p, Nat.add_zero, ld28p, ix24 (Int.natCast_nonneg i) hlt, Int.toNat_natCast, ld49, z0, Option.some.injEq, z1, z2, exists_eq_left', st49w, cell_set_self, List.getElem?_cons_zero, List.getElem?_cons_succ]
  intro y hy gy
  generalize eh : Hp.set h3 y _ = h4
  obtain ⟨l4, d4, b4⟩ := boxed eh hy d3 gy
  have s4 := s3.past (o := .cells #[.int .i64 r.x, .int .i64 r.y, .slice r.a r.n r.c] 49 (0, 0)) hy
  rw [eh] at s4
  have cy : ∀ j, cellIn G h4 ⟨y, j, none⟩ = _ := fun j => cell_of (look_own b4)
  have cyp : ∀ j, cellIn G h4 ⟨yp, j, none⟩ = _ := fun j => cell_of (look_own (s4.at 0 rfl set_self))
  have lm : HL.look G h4 mb = some o := look_own (s4.at 1 rfl set_self)
  have next : ∀ (K0 : Exit → Rg → Hp → Prop) (r1 : Rg) (h5 : Hp) (o' : Obj) (is' : Cell → Bool), r1 10 = q 10 → r1 29 = q 29 → r1 30 = q 30 → r1 31 = q 31 → MapIs o' (hgt (S.take (i + 1))) is' → (∀ c, is' c = (S.take (i + 1)).any (fun x => x.1 == c)) → HL.Sep [noHp.set yp (.cells #[.int .i64 C.w, .int .i64 C.h, .int .i64 C.ht, .slice ab C.bl.length cb, .slice ap C.po.length cp, .slice ar C.ro.length cr, .slice az C.st.length cs, .int .i64 C.un, .int .i64 C.ac, .int .i64 C.sp, .int .i64 C.tu, .int .i64 C.ho, .int .i64 C.qu, .int .i64 C.re, .int .i64 C.bu, .bool C.back, .pointer (some ⟨gp, 0, none⟩), .map (some mb), .slice ta TL.length tc] 74 (0, 0)), noHp.set mb o', ga, h] h5 → Dis G h5 → S33_l3_k5 G (thenK X K0) r1 h5 := by
    intro K0 r1 h5 o' is' k10 k29 k30 k31 m' i' s5 d5
    unfold S33_l3_k5
    simp -implicitDefEqProofs (disch := first | with_reducible exact Nat.ne_of_beq_eq_false rfl | omega) only [k31, q31, thenK_normal, opH_sv, bin_add, wrap_in]
    exact HX (S.length - (i + 1)) _ _ (by omega) ⟨i + 1, o', is', rfl, by omega, by simp -implicitDefEqProofs (disch := first | with_reducible exact Nat.ne_of_beq_eq_false rfl | omega) only [upd_ne, k10, q10], by simp -implicitDefEqProofs (disch := first | with_reducible exact Nat.ne_of_beq_eq_false rfl | omega) only [upd_ne, k29, q29], by simp -implicitDefEqProofs (disch := first | with_reducible exact Nat.ne_of_beq_eq_false rfl | omega) only [upd_ne, k30, q30], by simp -implicitDefEqProofs (disch := first | with_reducible exact Nat.ne_of_beq_eq_false rfl | omega) only [upd_eq] <;> rfl, m', i', s5, d5⟩
  have es : s.1 = (r.x, r.y) := er.symm
  try simp -implicitDefEqProofs (disch := first | with_reducible exact Nat.ne_of_beq_eq_false rfl | omega) only [cyp, List.getElem?_cons_succ, List.getElem?_cons_zero, Option.some.injEq, exists_eq_left', lk2 lm mi, ex1p, un_not, cy, ln42p, ex0p]
  refine cond_bool (fun hb => ?_) (fun hb => ?_)
  · have hn : is (r.x, r.y) = false := by simpa using hb
    try simp -implicitDefEqProofs (disch := first | with_reducible exact Nat.ne_of_beq_eq_false rfl | omega) only [opH_sv, opH_su, pureW_sv, opH_nil, pureW_nil, pick_t, pick_f, pick_tp, pick_fp, gd_tt, gd_ft, gd_tf, gd_ff, box_new, regs0, regs1, regs2, regs3, regs4, regs5, regs6, cells_agg, cells_int, cells_bool, cells_ptr, cells_slice, cells_string, cells_func, cells_nilFunc, cells_map, retK_ret, retK_normal, resL_tmp, resL_cell, resL_nil0, resL_nil1, resL_nil2, resL_nil3, resC_ptr, ex0, ex1, ex2, ex0p, ex1p, ex2p, HL.cond_true, HL.cond_false, thenK_normal, thenK_ret, thenK_exit, blockK_normal, blockK_ret, blockK_exit, scopeK_normal, scopeK_ret, scopeK_exit, wpH_pure, bin_add, bin_sub, bin_mul, bin_lss, bin_leq, bin_gtr, bin_geq, bin_quo, bin_rem, bin_quop, bin_remp, wrap_in, bin_addp, bin_subp, bin_mulp, bin_lssp, bin_leqp, bin_gtrp, bin_geqp, un_not, un_notp, un_neg, eq_int, ne_int, eq_intp, ne_intp, callV_fn, add_mk, upd_eq, upd_ne, cell_set_self, Nat.zero_add, Nat.add_zero, Option.some.injEq, exists_eq_left', List.getElem?_cons_succ, List.getElem?_cons_zero, true_and, and_true, bne_self_eq_false, beq_self_eq_true, Bool.not_true, Bool.not_false, Bool.and_true, Bool.and_self, Bool.and_false, Bool.true_and, List.length_cons, List.length_nil, ne_eq, not_false_eq_true, Nat.reduceAdd, Nat.reduceMul, if_true, if_false, oneCell_int, oneCell_bool, oneCell_ptr, oneCell_slice, oneCell_string, oneCell_func, oneCell_map, Int.toNat_natCast, List.set_cons_zero, List.set_cons_succ, Nat.lt_irrefl, Nat.zero_lt_succ, Nat.succ_lt_succ_iff, fa26_0, fa26_0p, fa26_1, fa26_1p, fa26_10, fa26_10p, fa26_11, fa26_11p, fa26_12, fa26_12p, fa26_13, fa26_13p, fa26_14, fa26_14p, fa26_15, fa26_15p, fa26_2, fa26_2p, fa26_3, fa26_3p, fa26_4, fa26_4p, fa26_5, fa26_5p, fa26_6, fa26_6p, fa26_7, fa26_7p, fa26_8, fa26_8p, fa26_9, fa26_9p, fa28_0, fa28_0p, fa28_1, fa28_1p, fa45_0, fa45_0p, fa45_1, fa45_1p, fa45_2, fa45_2p, fa45_3, fa45_3p, fa45_4, fa45_4p, fa45_5, fa45_5p, fa45_6, fa45_6p, fa49_0, fa49_0p, fa49_1, fa49_1p, fa74_0, fa74_0p, fa74_1, fa74_1p, fa74_2, fa74_2p, fa74_3, fa74_3p, fa85_0, fa85_0p, fa85_1, fa85_1p, fa93_0, fa93_0p, fa93_1, fa93_1p, fa93_2, fa93_2p, ld3, ld3p, ld4, ld4p, ld22, ld22p, ld23, ld23p, ld24, ld24p, ld26, ld26p, ld28, ld28p, ld42, ld42p, ld45, ld45p, ld49, ld49p, ld58, ld58p, ld69, ld69p, ld72, ld72p, ld85, ld85p, st3s, st4s, st22s, st23s, st24s, st26w, st28w, st42s, st45w, st49w, st85w, ix22, ix22p, ix23, ix23p, ix24, ix24p, ix31, ix31p, ix42, ix42p, ix104, ix104p, ln22, ln22p, ln23, ln23p, ln24, ln24p, ln31, ln31p, ln42, ln42p, al4, al22, al26, al28, al42, al49, al85, cf10, cf11, cf12, cf13, cf14, cf15, cf16, cf17, cf18, cf19, cf20, cf21, cf22, cf23, cf24, cf25, cf26, cf27, cf28, cf29, cf30, cf31, cf32, cf33, cf34, cf35, cf36, cf37, cf38, cf39, cf40, cf41, cf42, cf43, cf44, cf45, cf46, cf47, cf48, cf49, cf50, cf51, cf52, cf53, cf54, cf55, cf56, cf57, cf58, cf59, cf60, cf61, cf62, cf63, cf64, cf65, cf66, cf67, cf68, cf69, cf70, cf71, cf72, cf73, cf74, cf75, bd26_0_1_2_7_8_9_10_11_12_13_14_4_15, bd26_0_1_2_7_8_9_10_11_12_13_14_4_15p, bd28_, bd28_p, bd28_0, bd28_0p, bd28_0_1, bd28_0_1p, bd45_1_3_4_5_6, bd45_1_3_4_5_6p, bd49_0_1, bd49_0_1p, bd49_1, bd49_1p, bd74_0_1_2_3, bd74_0_1_2_3p, bd85_0, bd85_0p, bd85_0_1, bd85_0_1p, bd93_0_1_2, bd93_0_1_2p, bd94_0_1_2_3, bd94_0_1_2_3p, bs42_1_0, bs22_1_0, bs24_1_0, bs42_3_0_1_2, bs31_1_0, bs22_2_0_1, bs42_6_0_1_2_3_4_5, bs42_0_, eq4, eq4p, eq28, eq28p, eq42n, eq42np, eq42s, eq42sp, eq58n, eq58np, eq58s, eq58sp, eq63n, eq63np, eq63s, eq63sp, ne28, ne28p, ne45, ne45p, q10, cyp, cy]
    refine mpu (s4.at 1 rfl set_self) mi fun o' m' => ?_
    have s5 := ((s4.pick 1 rfl rfl).put (o := o') set_self)
    rw [set_set] at s5
    refine next _ _ _ o' (fun c => ((r.x, r.y) : Cell) == c || is c) (by simp -implicitDefEqProofs (disch := first | with_reducible exact Nat.ne_of_beq_eq_false rfl | omega) only [upd_ne]) (by simp -implicitDefEqProofs (disch := first | with_reducible exact Nat.ne_of_beq_eq_false rfl | omega) only [upd_ne]) (by simp -implicitDefEqProofs (disch := first | with_reducible exact Nat.ne_of_beq_eq_false rfl | omega) only [upd_ne]) (by simp -implicitDefEqProofs (disch := first | with_reducible exact Nat.ne_of_beq_eq_false rfl | omega) only [upd_ne]) (m'.congr (fun c => rfl) fun c hc => ?_) (fun c => ?_) (s5.pick 1 rfl rfl) (d4.set (d4 _ _ (s4.at 1 rfl set_self)))
    · rw [hgt_step hs, ← his, es]
      cases h1 : is c with
      | true =>
        have : ((((r.x, r.y) : Cell) == c)) = false := by
          cases h2 : (((r.x, r.y) : Cell) == c) with
          | false => rfl
          | true => rw [eq_of_beq h2, h1] at hn; cases hn
        rw [if_pos rfl, this]
        rfl
      | false =>
        rw [h1, Bool.or_false] at hc
        rw [if_neg (by decide), if_pos hc, if_pos hc, en]
    · rw [any_step hs, ← his, es, Bool.or_comm]
  · have hn : is (r.x, r.y) = true := by simpa using hb
    refine next _ _ h4 o is (by simp -implicitDefEqProofs (disch := first | with_reducible exact Nat.ne_of_beq_eq_false rfl | omega) only [upd_ne]) (by simp -implicitDefEqProofs (disch := first | with_reducible exact Nat.ne_of_beq_eq_false rfl | omega) only [upd_ne]) (by simp -implicitDefEqProofs (disch := first | with_reducible exact Nat.ne_of_beq_eq_false rfl | omega) only [upd_ne]) (by simp -implicitDefEqProofs (disch := first | with_reducible exact Nat.ne_of_beq_eq_false rfl | omega) only [upd_ne]) (mi.congr (fun c => rfl) fun c hc => ?_) (fun c => ?_) s4 d4
    · rw [hgt_step hs, ← his, hc, if_pos rfl]
    · rw [any_step hs, ← his, es]
      cases h2 : (((r.x, r.y) : Cell) == c) with
      | false => rw [Bool.or_false]
      | true => rw [← eq_of_beq h2, hn]; rfl

end Go.Proofs.YtangejiigopdaaaDoor
end

section
/- The place for a bin. -/
set_option linter.unusedSimpArgs false
set_option linter.unusedVariables false
set_option maxRecDepth 100000
namespace Go.Proofs.YtangejiigopdaaaDoor
open Go Go.HL

theorem opE55 {G : Hp} {a y : Value} {h : Hp} {K : Value → Hp → Prop} : opE Tryd.prog G (xCallV (.func (.func 55) #[] #[a]) #[y]) h K = HCalls Tryd.prog G 55 #[y, a] h K := by kernel_rfl

theorem permute {L L' : List Hp} {h : Hp} (s : HL.Sep L h) (p : L.Perm L') : HL.Sep L' h := ⟨fun a ha => s.1 a (p.mem_iff.2 ha), (List.Perm.pairwise_iff (fun h => h.symm) p).1 s.2⟩
theorem packs {q h : Hp} : ∀ {L : List Hp} {A : List Hp} {b : Hp}, HL.Sep (b :: (L ++ [q])) h → HL.Sep A b → ∃ a, HL.Sep [a, q] h ∧ HL.Sep (A ++ L) a
  | [], A, b, s, t => ⟨b, s, by rw [List.append_nil]; exact t⟩
  | x :: L, A, b, s, t => by
    obtain ⟨b', s1, t1⟩ := pack2 s
    have t2 := HL.Sep.split t1.swap t
    rw [List.append_nil] at t2
    obtain ⟨a, s3, t3⟩ := packs (A := A ++ [x]) s1 (permute t2 (List.perm_append_comm (l₁ := [x])))
    exact ⟨a, s3, by simpa using t3⟩
theorem packAll {q h : Hp} {L : List Hp} (s : HL.Sep (L ++ [q]) h) : ∃ a, HL.Sep [a, q] h ∧ HL.Sep L a := by
  obtain ⟨a, s1, t1⟩ := packs (A := []) (b := noHp) (L := L) s.none ⟨(fun _ h => by cases h), List.Pairwise.nil⟩
  exact ⟨a, s1, t1⟩

theorem stacks_new {G h : Hp} {gp : Nat} : HCalls Tryd.prog G 30 #[.pointer (some ⟨gp, 0, none⟩)] h (fun u h' => ∃ b1, u = .func (.func 55) #[] #[.pointer (some ⟨b1, 0, none⟩)] ∧ h b1 = none ∧ G b1 = none ∧ h' = h.set b1 (.cells #[.pointer (some ⟨gp, 0, none⟩)] 58 (0, 0))) := by
  refine HCalls.assume fun d => enter30 (by simp) ?_
  unfold S30
  simp -implicitDefEqProofs only [regs0, retK_ret, resL_tmp, upd_eq, resL_nil1, opH_sv, box_new, cells_ptr]
  intro x hx gx
  exact ⟨x, rfl, hx, gx, rfl⟩

/-- The best of a row, in its order. -/
def nearer (from_ : Cell) (b : Option Cell) (c : Cell) : Bool := match b with
  | none => true
  | some x => decide (awayI from_ c < awayI from_ x)
def bestL (from_ : Cell) (skip : Cell → Bool) : Option Cell → List Cell → Option Cell
  | b, [] => b
  | b, c :: L => bestL from_ skip (if skip c = true then b else if nearer from_ b c = true then some c else b) L
theorem bestL_app {f : Cell} {sk : Cell → Bool} : ∀ {L M : List Cell} {b : Option Cell}, bestL f sk b (L ++ M) = bestL f sk (bestL f sk b L) M
  | [], M, b => rfl
  | c :: L, M, b => by rw [List.cons_append, bestL, bestL, bestL_app]
def skipB (from_ : Cell) (ht : Int) (hv : Cell → Int) (is : Cell → Bool) (TL : List Cell) (c : Cell) : Bool := c == from_ || (decide ((if is c = true then hv c else 0) ≥ ht) || decide (c ∈ TL))

def bCell (b : Option Cell) : Cell := b.getD (0, 0)
abbrev boolO (b : Bool) : Obj := .cells #[.bool b] 4 (0, 0)

theorem st_cell {G h : Hp} {b : Nat} {c m : Cell} {K : Unit → Hp → Prop} (hb : h b = some (cellO c)) : wpH Tryd.prog G (Instr.storeAt 28 (.pointer (some ⟨b, 0, none⟩)) (.agg #[.int .i64 m.1, .int .i64 m.2])) h K = K () (h.set b (cellO m)) := by
  rw [store_eq (n := 2) sz28 hb rfl (by simp) (by intro v hv; simp [Value.cells] at hv; rcases hv with rfl | rfl <;> rfl)]
  rfl
theorem szb : (Tryd.prog.info? 4).map (·.size) = some 1 := by kernel_rfl
theorem st_bool {G h : Hp} {b : Nat} {c m : Bool} {K : Unit → Hp → Prop} (hb : h b = some (boolO c)) : wpH Tryd.prog G (Instr.storeAt 4 (.pointer (some ⟨b, 0, none⟩)) (.bool m)) h K = K () (h.set b (boolO m)) := by
  rw [store1_eq szb rfl hb (by simp)]
  rfl

/-- What the round has: the loop's record, the best yet, what it reads. -/
def PY (ya w : Hp) (l xb xo v0 v1 yp : Nat) (o : Obj) (from_ : Cell) (sk : Cell → Bool) (L : List Cell) (a : Hp) : Prop :=
  HL.Sep [noHp.set l o, noHp.set xb (cellO (bCell (bestL from_ sk none L))), noHp.set xo (boolO (bestL from_ sk none L).isSome), ya, w, noHp.set v0 (.cells #[.pointer (some ⟨yp, 0, none⟩)] 69 (0, 0)), noHp.set v1 (cellO from_)] a

set_option maxHeartbeats 4000000 in
theorem place_yield {G : Hp} {y' : Value} {ya w : Hp} {l xb xo v0 v1 yp gp mb : Nat} {o : Option Exit → Obj} {from_ : Cell} {ht : Int} {hv : Cell → Int} {is : Cell → Bool} {TL : List Cell} {tv : Value} {r : Rg} (gl : G l = none) (ho : ∀ e, isCells (o e) = false)
    (yo : YardO ya yp gp mb ht tv hv is) (tw : ∀ G, Sees cellC G w tv TL) (hTL : TL.length ≤ 100000000000000)
    (r2 : r 2 = .pointer (some ⟨v0, 0, none⟩)) (r3 : r 3 = .pointer (some ⟨v1, 0, none⟩)) (r6 : r 6 = .pointer (some ⟨xb, 0, none⟩)) (r7 : r 7 = .pointer (some ⟨xo, 0, none⟩))
    (hy : ∀ (args : Array Value) (h1 : Hp) (K1 : Value → Hp → Prop), args.size = 1 → h1 l = some (o none) →
      S37_a2 G (setR 55 #[15] args r) h1 (fun e r2 h2 => e = .normal ∧ h2 l = some (o none) ∧ ∀ ob, isCells ob = false → S37_b2 G r2 (h2.set l ob) (fun e _ h3 => h3 l = some ob ∧ match e with
        | .normal => K1 (.bool true) (h3.set l (o none))
        | .panic _ => False
        | .outgrown => False
        | e => K1 (.bool false) (h3.set l (o (some e))))) →
      opH Tryd.prog G (xCallV y' args) h1 K1) :
    Yl cellV G y' (PY ya w l xb xo v0 v1 yp (o none) from_ (skipB from_ ht hv is TL)) (fun _ _ => False) (fun _ => true) := by
  rintro L m a q h pa s d
  have s1 := s.swap.split pa
  simp only [List.append_nil] at s1
  refine hy #[cellV m] h _ rfl (s1.at 1 rfl set_self) ?_
  rw [setR1 (by decide)]
  unfold S37_a2
  simp -implicitDefEqProofs only [upd_eq, if_true, true_and, opH_su, opH_sv, al28, st28w]
  intro x hx gx
  try simp -implicitDefEqProofs only [opH_sv, opH_su, pureW_sv, opH_nil, pureW_nil, pick_t, pick_f, pick_tp, pick_fp, gd_tt, gd_ft, gd_tf, gd_ff, box_new, regs0, regs1, regs2, regs3, regs4, regs5, regs6, cells_agg, cells_int, cells_bool, cells_ptr, cells_slice, cells_string, cells_func, cells_nilFunc, cells_map, retK_ret, retK_normal, resL_tmp, resL_cell, resL_nil0, resL_nil1, resL_nil2, resL_nil3, resC_ptr, ex0, ex1, ex2, ex0p, ex1p, ex2p, HL.cond_true, HL.cond_false, thenK_normal, thenK_ret, thenK_exit, blockK_normal, blockK_ret, blockK_exit, scopeK_normal, scopeK_ret, scopeK_exit, wpH_pure, bin_add, bin_sub, bin_mul, bin_lss, bin_leq, bin_gtr, bin_geq, bin_quo, bin_rem, bin_quop, bin_remp, wrap_in, bin_addp, bin_subp, bin_mulp, bin_lssp, bin_leqp, bin_gtrp, bin_geqp, un_not, un_notp, un_neg, eq_int, ne_int, eq_intp, ne_intp, callV_fn, add_mk, upd_eq, upd_ne, cell_set_self, Nat.zero_add, Nat.add_zero, Option.some.injEq, exists_eq_left', List.getElem?_cons_succ, List.getElem?_cons_zero, true_and, and_true, bne_self_eq_false, beq_self_eq_true, Bool.not_true, Bool.not_false, Bool.and_true, Bool.and_self, Bool.and_false, Bool.true_and, List.length_cons, List.length_nil, ne_eq, not_false_eq_true, Nat.reduceAdd, Nat.reduceMul, if_true, if_false, oneCell_int, oneCell_bool, oneCell_ptr, oneCell_slice, oneCell_string, oneCell_func, oneCell_map, Int.toNat_natCast, List.set_cons_zero, List.set_cons_succ, Nat.lt_irrefl, Nat.zero_lt_succ, Nat.succ_lt_succ_iff, fa26_0, fa26_0p, fa26_1, fa26_1p, fa26_10, fa26_10p, fa26_11, fa26_11p, fa26_12, fa26_12p, fa26_13, fa26_13p, fa26_14, fa26_14p, fa26_15, fa26_15p, fa26_2, fa26_2p, fa26_3, fa26_3p, fa26_4, fa26_4p, fa26_5, fa26_5p, fa26_6, fa26_6p, fa26_7, fa26_7p, fa26_8, fa26_8p, fa26_9, fa26_9p, fa28_0, fa28_0p, fa28_1, fa28_1p, fa45_0, fa45_0p, fa45_1, fa45_1p, fa45_2, fa45_2p, fa45_3, fa45_3p, fa45_4, fa45_4p, fa45_5, fa45_5p, fa45_6, fa45_6p, fa49_0, fa49_0p, fa49_1, fa49_1p, fa74_0, fa74_0p, fa74_1, fa74_1p, fa74_2, fa74_2p, fa74_3, fa74_3p, fa85_0, fa85_0p, fa85_1, fa85_1p, fa93_0, fa93_0p, fa93_1, fa93_1p, fa93_2, fa93_2p, ld3, ld3p, ld4, ld4p, ld22, ld22p, ld23, ld23p, ld24, ld24p, ld26, ld26p, ld28, ld28p, ld42, ld42p, ld45, ld45p, ld49, ld49p, ld58, ld58p, ld69, ld69p, ld72, ld72p, ld85, ld85p, st3s, st4s, st22s, st23s, st24s, st26w, st28w, st42s, st45w, st49w, st85w, ix22, ix22p, ix23, ix23p, ix24, ix24p, ix31, ix31p, ix42, ix42p, ix104, ix104p, ln22, ln22p, ln23, ln23p, ln24, ln24p, ln31, ln31p, ln42, ln42p, al4, al22, al26, al28, al42, al49, al85, cf10, cf11, cf12, cf13, cf14, cf15, cf16, cf17, cf18, cf19, cf20, cf21, cf22, cf23, cf24, cf25, cf26, cf27, cf28, cf29, cf30, cf31, cf32, cf33, cf34, cf35, cf36, cf37, cf38, cf39, cf40, cf41, cf42, cf43, cf44, cf45, cf46, cf47, cf48, cf49, cf50, cf51, cf52, cf53, cf54, cf55, cf56, cf57, cf58, cf59, cf60, cf61, cf62, cf63, cf64, cf65, cf66, cf67, cf68, cf69, cf70, cf71, cf72, cf73, cf74, cf75, bd26_0_1_2_7_8_9_10_11_12_13_14_4_15, bd26_0_1_2_7_8_9_10_11_12_13_14_4_15p, bd28_, bd28_p, bd28_0, bd28_0p, bd28_0_1, bd28_0_1p, bd45_1_3_4_5_6, bd45_1_3_4_5_6p, bd49_0_1, bd49_0_1p, bd49_1, bd49_1p, bd74_0_1_2_3, bd74_0_1_2_3p, bd85_0, bd85_0p, bd85_0_1, bd85_0_1p, bd93_0_1_2, bd93_0_1_2p, bd94_0_1_2_3, bd94_0_1_2_3p, bs42_1_0, bs22_1_0, bs24_1_0, bs42_3_0_1_2, bs31_1_0, bs22_2_0_1, bs42_6_0_1_2_3_4_5, bs42_0_, eq4, eq4p, eq28, eq28p, eq42n, eq42np, eq42s, eq42sp, eq58n, eq58np, eq58s, eq58sp, eq63n, eq63np, eq63s, eq63sp, ne28, ne28p, ne45, ne45p]
  have sx := s1.new (o := cellO m) hx
  have d2 := d.set (o := cellO m) gx
  have nlx : l ≠ x := fun e => by rw [← e, s1.at 1 rfl set_self] at hx; cases hx
  refine ⟨by rw [set_other nlx]; exact s1.at 1 rfl set_self, fun ob hob => ?_⟩
  generalize Hp.set h x _ = h2 at sx d2 ⊢
  have s3 := (sx.pick 2 rfl rfl).put (o := ob) set_self
  rw [set_set] at s3
  have d3 : Dis G (h2.set l ob) := d2.set gl
  generalize Hp.set h2 l ob = h3 at s3 d3 ⊢
  generalize hbb : bestL from_ (skipB from_ ht hv is TL) none L = bb at s3
  have s4 : HL.Sep [noHp.set l ob, noHp.set x (cellO m), q, noHp.set xb (cellO (bCell bb)), noHp.set xo (boolO bb.isSome), ya, w, noHp.set v0 (.cells #[.pointer (some ⟨yp, 0, none⟩)] 69 (0, 0)), noHp.set v1 (cellO from_)] h3 := s3
  clear s3 sx s1 d2 d
  obtain ⟨om, C, ab, cb, ap, cp, ar, cr, az, cs, ty, mi⟩ := yo
  have cyp : ∀ j, cellIn G h3 ⟨yp, j, none⟩ = _ := fun j => cell_of (look_own (s4.in 5 rfl _ _ (ty.at 0 rfl set_self)))
  have lm : HL.look G h3 mb = some om := look_own (s4.in 5 rfl _ _ (ty.at 1 rfl set_self))
  have cx : ∀ j, cellIn G h3 ⟨x, j, none⟩ = _ := fun j => cell_of (look_own (s4.at 1 rfl set_self))
  have cxb : ∀ j, cellIn G h3 ⟨xb, j, none⟩ = _ := fun j => cell_of (look_own (s4.at 3 rfl set_self))
  have cxo : ∀ j, cellIn G h3 ⟨xo, j, none⟩ = _ := fun j => cell_of (look_own (s4.at 4 rfl set_self))
  have cv0 : ∀ j, cellIn G h3 ⟨v0, j, none⟩ = _ := fun j => cell_of (look_own (s4.at 7 rfl set_self))
  have cv1 : ∀ j, cellIn G h3 ⟨v1, j, none⟩ = _ := fun j => cell_of (look_own (s4.at 8 rfl set_self))
  have hl3 : h3 l = some ob := s4.at 0 rfl set_self
  have estep : bestL from_ (skipB from_ ht hv is TL) none (L ++ [m]) = if skipB from_ ht hv is TL m = true then bb else if nearer from_ bb m = true then some m else bb := by rw [bestL_app, hbb]; rfl
  have done : ∀ b2 : Option Cell, bestL from_ (skipB from_ ht hv is TL) none (L ++ [m]) = b2 → ∀ h5 : Hp, HL.Sep [noHp.set l ob, noHp.set x (cellO m), q, noHp.set xb (cellO (bCell b2)), noHp.set xo (boolO b2.isSome), ya, w, noHp.set v0 (.cells #[.pointer (some ⟨yp, 0, none⟩)] 69 (0, 0)), noHp.set v1 (cellO from_)] h5 → Dis G h5 →
      h5 l = some ob ∧ ∃ a', HL.Sep [a', q] (h5.set l (o none)) ∧ Dis G (h5.set l (o none)) ∧ PY ya w l xb xo v0 v1 yp (o none) from_ (skipB from_ ht hv is TL) (L ++ [m]) a' := by
    intro b2 eb h5 s5 d5
    refine ⟨s5.at 0 rfl set_self, ?_⟩
    have s6 := s5.put (o := o none) set_self
    rw [set_set] at s6
    have s7 := (s6.pick 1 rfl rfl).drop
    have s8 : HL.Sep ([noHp.set l (o none), noHp.set xb (cellO (bCell b2)), noHp.set xo (boolO b2.isSome), ya, w, noHp.set v0 (.cells #[.pointer (some ⟨yp, 0, none⟩)] 69 (0, 0)), noHp.set v1 (cellO from_)] ++ [q]) (h5.set l (o none)) := permute s7 (by
      refine List.Perm.cons _ ?_
      exact List.perm_append_comm (l₁ := [q]))
    obtain ⟨a', s9, t9⟩ := packAll s8
    exact ⟨a', s9, d5.set gl, by unfold PY; rw [eb]; exact t9⟩
  unfold S37_b2
  cases hb1 : (m == from_) with
  | true =>
    try simp -implicitDefEqProofs (disch := first | with_reducible exact Nat.ne_of_beq_eq_false rfl | omega) only [upd_eq, upd_ne, r3, r2, pureW_sv, ld28p, add_mk, Nat.add_zero, cv1, List.getElem?_cons_zero, Option.some.injEq, Nat.zero_add, List.getElem?_cons_succ, exists_eq_left', cx, eq28p, Bool.and_true, cell_beq, hb1, pick_tp, HL.cond_true, gd_tf]
    have hsk : skipB from_ ht hv is TL m = true := by unfold skipB; rw [hb1]; rfl
    rw [if_pos hsk] at estep
    exact done bb estep h3 s4 d3
  | false =>
  try simp -implicitDefEqProofs (disch := first | with_reducible exact Nat.ne_of_beq_eq_false rfl | omega) only [upd_eq, upd_ne, r3, r2, pureW_sv, ld28p, add_mk, Nat.add_zero, cv1, List.getElem?_cons_zero, Option.some.injEq, Nat.zero_add, List.getElem?_cons_succ, exists_eq_left', cx, eq28p, Bool.and_true, cell_beq, hb1, pick_fp, gd_ff, ld69p, cv0, pureW_nil, fa74_0p, fa26_2p, ld3p, cyp, fa74_2p, ld72p, lk1 lm mi, bin_geqp]
  by_cases hb2 : (if is (m.1, m.2) = true then hv (m.1, m.2) else 0) ≥ ht
  · try simp -implicitDefEqProofs (maxSteps := 2000000) (disch := first | with_reducible exact Nat.ne_of_beq_eq_false rfl | exact oneCell_int | exact oneCell_bool | omega | rfl | (simp; done) | fail) only [show decide ((if is (m.1, m.2) = true then hv (m.1, m.2) else 0) ≥ ht) = true from decide_eq_true hb2, pick_tp, HL.cond_true, gd_tf]
    have hsk : skipB from_ ht hv is TL m = true := by unfold skipB; rw [show decide ((if is m = true then hv m else 0) ≥ ht) = true from decide_eq_true hb2, Bool.true_or, Bool.or_true]
    rw [if_pos hsk] at estep
    exact done bb estep h3 s4 d3
  try simp -implicitDefEqProofs (maxSteps := 2000000) (disch := first | with_reducible exact Nat.ne_of_beq_eq_false rfl | exact oneCell_int | exact oneCell_bool | omega | rfl | (simp; done) | fail) only [show decide ((if is (m.1, m.2) = true then hv (m.1, m.2) else 0) ≥ ht) = false from decide_eq_false hb2, pick_fp, gd_ff, cf36, pureW_sv, ld28p, add_mk, Nat.add_zero, cx, List.getElem?_cons_zero, Option.some.injEq, Nat.zero_add, List.getElem?_cons_succ, exists_eq_left', ld69p, cv0, pureW_nil, fa74_3p, ld22p, cyp]
  refine (contains_spec (c := m) ((tw G).up (s4.in 6 rfl) d3) hTL).mono ?_
  rintro _ h3 ⟨rfl, rfl⟩
  by_cases hb3 : m ∈ TL
  · try simp -implicitDefEqProofs (disch := first | with_reducible exact Nat.ne_of_beq_eq_false rfl | omega) only [decide_eq_true hb3, HL.cond_true]
    have hsk : skipB from_ ht hv is TL m = true := by unfold skipB; rw [decide_eq_true hb3, Bool.or_true, Bool.or_true]
    rw [if_pos hsk] at estep
    exact done bb estep h3 s4 d3
  have hsk : skipB from_ ht hv is TL m = false := by
    unfold skipB
    rw [hb1, decide_eq_false hb3, show decide ((if is m = true then hv m else 0) ≥ ht) = false from decide_eq_false hb2]
    rfl
  rw [if_neg (by rw [hsk]; decide)] at estep
  try simp -implicitDefEqProofs (disch := first | with_reducible exact Nat.ne_of_beq_eq_false rfl | omega) only [decide_eq_false hb3, HL.cond_false]
  unfold S37_b2_k3
  have store : ∀ (K2 : Hp → Prop), nearer from_ bb m = true → (∀ h5, (h5 l = some ob ∧ ∃ a', HL.Sep [a', q] (h5.set l (o none)) ∧ Dis G (h5.set l (o none)) ∧ PY ya w l xb xo v0 v1 yp (o none) from_ (skipB from_ ht hv is TL) (L ++ [m]) a') → K2 h5) → K2 ((h3.set xb (cellO m)).set xo (boolO true)) := by
    intro K2 hn H
    rw [if_pos hn] at estep
    refine H _ (done (some m) estep _ ?_ ((d3.set (d3 _ _ (s4.at 3 rfl set_self))).set (d3 _ _ (s4.at 4 rfl set_self))))
    have s5 := (s4.pick 3 rfl rfl).put (o := cellO m) set_self
    rw [set_set] at s5
    have s6 := (s5.pick 4 rfl rfl).put (o := boolO true) set_self
    rw [set_set] at s6
    exact (((s6.pick 1 rfl rfl).pick 4 rfl rfl).pick 4 rfl rfl).pick 4 rfl rfl
  have nbo : xo ≠ xb := fun e => by
    rcases (s4.pick 3 rfl rfl).apart (b := noHp.set xo (boolO bb.isSome)) (by simp) xb with k | k
    · rw [set_self] at k; cases k
    · rw [← e, set_self] at k; cases k
  have hxb : h3 xb = some (cellO (bCell bb)) := s4.at 3 rfl set_self
  have hxo : h3 xo = some (boolO bb.isSome) := s4.at 4 rfl set_self
  have hxo' : (h3.set xb (cellO m)) xo = some (boolO bb.isSome) := by rw [set_other nbo]; exact hxo
  cases hbb' : bb with
  | none =>
    subst hbb'
    refine ⟨h3, Hp.le.refl h3, ?_⟩
    try simp -implicitDefEqProofs (disch := first | with_reducible exact Nat.ne_of_beq_eq_false rfl | omega) only [upd_ne, r7, upd_eq, cf31, r6, opH_su, opH_sv, ld28, add_mk, Nat.add_zero, Nat.zero_add, pureW_sv, ld4p, cxo, Option.isSome_none, List.getElem?_cons_zero, Option.some.injEq, exists_eq_left', un_notp, Bool.not_false, pick_tp, HL.cond_true, gd_tf, cx, List.getElem?_cons_succ]
    rw [st_cell hxb, st_bool hxo']
    exact store _ rfl fun h5 H => H
  | some z =>
    subst hbb'
    refine ⟨h3, Hp.le.refl h3, ?_⟩
    try simp -implicitDefEqProofs (disch := first | with_reducible exact Nat.ne_of_beq_eq_false rfl | omega) only [upd_ne, r7, r3, upd_eq, cf31, r6, opH_su, opH_sv, ld28, add_mk, Nat.add_zero, Nat.zero_add, pureW_sv, ld4p, cxo, Option.isSome_some, List.getElem?_cons_zero, Option.some.injEq, exists_eq_left', un_notp, Bool.not_true, pick_fp, gd_ff, ld28p, cxb, List.getElem?_cons_succ, cv1, cx]
    refine (away_spec (a := from_) (b := m)).mono ?_
    rintro _ h3 ⟨rfl, rfl⟩
    refine ⟨Hp.le.refl h3, ?_⟩
    try simp -implicitDefEqProofs only [opH_sv, opH_su, pureW_sv, opH_nil, pureW_nil, pick_t, pick_f, pick_tp, pick_fp, gd_tt, gd_ft, gd_tf, gd_ff, box_new, regs0, regs1, regs2, regs3, regs4, regs5, regs6, cells_agg, cells_int, cells_bool, cells_ptr, cells_slice, cells_string, cells_func, cells_nilFunc, cells_map, retK_ret, retK_normal, resL_tmp, resL_cell, resL_nil0, resL_nil1, resL_nil2, resL_nil3, resC_ptr, ex0, ex1, ex2, ex0p, ex1p, ex2p, HL.cond_true, HL.cond_false, thenK_normal, thenK_ret, thenK_exit, blockK_normal, blockK_ret, blockK_exit, scopeK_normal, scopeK_ret, scopeK_exit, wpH_pure, bin_add, bin_sub, bin_mul, bin_lss, bin_leq, bin_gtr, bin_geq, bin_quo, bin_rem, bin_quop, bin_remp, wrap_in, bin_addp, bin_subp, bin_mulp, bin_lssp, bin_leqp, bin_gtrp, bin_geqp, un_not, un_notp, un_neg, eq_int, ne_int, eq_intp, ne_intp, callV_fn, add_mk, upd_eq, upd_ne, cell_set_self, Nat.zero_add, Nat.add_zero, Option.some.injEq, exists_eq_left', List.getElem?_cons_succ, List.getElem?_cons_zero, true_and, and_true, bne_self_eq_false, beq_self_eq_true, Bool.not_true, Bool.not_false, Bool.and_true, Bool.and_self, Bool.and_false, Bool.true_and, List.length_cons, List.length_nil, ne_eq, not_false_eq_true, Nat.reduceAdd, Nat.reduceMul, if_true, if_false, oneCell_int, oneCell_bool, oneCell_ptr, oneCell_slice, oneCell_string, oneCell_func, oneCell_map, Int.toNat_natCast, List.set_cons_zero, List.set_cons_succ, Nat.lt_irrefl, Nat.zero_lt_succ, Nat.succ_lt_succ_iff, fa26_0, fa26_0p, fa26_1, fa26_1p, fa26_10, fa26_10p, fa26_11, fa26_11p, fa26_12, fa26_12p, fa26_13, fa26_13p, fa26_14, fa26_14p, fa26_15, fa26_15p, fa26_2, fa26_2p, fa26_3, fa26_3p, fa26_4, fa26_4p, fa26_5, fa26_5p, fa26_6, fa26_6p, fa26_7, fa26_7p, fa26_8, fa26_8p, fa26_9, fa26_9p, fa28_0, fa28_0p, fa28_1, fa28_1p, fa45_0, fa45_0p, fa45_1, fa45_1p, fa45_2, fa45_2p, fa45_3, fa45_3p, fa45_4, fa45_4p, fa45_5, fa45_5p, fa45_6, fa45_6p, fa49_0, fa49_0p, fa49_1, fa49_1p, fa74_0, fa74_0p, fa74_1, fa74_1p, fa74_2, fa74_2p, fa74_3, fa74_3p, fa85_0, fa85_0p, fa85_1, fa85_1p, fa93_0, fa93_0p, fa93_1, fa93_1p, fa93_2, fa93_2p, ld3, ld3p, ld4, ld4p, ld22, ld22p, ld23, ld23p, ld24, ld24p, ld26, ld26p, ld28, ld28p, ld42, ld42p, ld45, ld45p, ld49, ld49p, ld58, ld58p, ld69, ld69p, ld72, ld72p, ld85, ld85p, st3s, st4s, st22s, st23s, st24s, st26w, st28w, st42s, st45w, st49w, st85w, ix22, ix22p, ix23, ix23p, ix24, ix24p, ix31, ix31p, ix42, ix42p, ix104, ix104p, ln22, ln22p, ln23, ln23p, ln24, ln24p, ln31, ln31p, ln42, ln42p, al4, al22, al26, al28, al42, al49, al85, cf10, cf11, cf12, cf13, cf14, cf15, cf16, cf17, cf18, cf19, cf20, cf21, cf22, cf23, cf24, cf25, cf26, cf27, cf28, cf29, cf30, cf31, cf32, cf33, cf34, cf35, cf36, cf37, cf38, cf39, cf40, cf41, cf42, cf43, cf44, cf45, cf46, cf47, cf48, cf49, cf50, cf51, cf52, cf53, cf54, cf55, cf56, cf57, cf58, cf59, cf60, cf61, cf62, cf63, cf64, cf65, cf66, cf67, cf68, cf69, cf70, cf71, cf72, cf73, cf74, cf75, bd26_0_1_2_7_8_9_10_11_12_13_14_4_15, bd26_0_1_2_7_8_9_10_11_12_13_14_4_15p, bd28_, bd28_p, bd28_0, bd28_0p, bd28_0_1, bd28_0_1p, bd45_1_3_4_5_6, bd45_1_3_4_5_6p, bd49_0_1, bd49_0_1p, bd49_1, bd49_1p, bd74_0_1_2_3, bd74_0_1_2_3p, bd85_0, bd85_0p, bd85_0_1, bd85_0_1p, bd93_0_1_2, bd93_0_1_2p, bd94_0_1_2_3, bd94_0_1_2_3p, bs42_1_0, bs22_1_0, bs24_1_0, bs42_3_0_1_2, bs31_1_0, bs22_2_0_1, bs42_6_0_1_2_3_4_5, bs42_0_, eq4, eq4p, eq28, eq28p, eq42n, eq42np, eq42s, eq42sp, eq58n, eq58np, eq58s, eq58sp, eq63n, eq63np, eq63s, eq63sp, ne28, ne28p, ne45, ne45p, r3, r6, r7, cxo, cxb, cv1, cx]
    refine (away_spec (a := from_) (b := z)).mono ?_
    rintro _ h3 ⟨rfl, rfl⟩
    try simp -implicitDefEqProofs only [bin_lssp]
    refine cond_dec (fun hlt => ?_) (fun hge => ?_)
    · try simp -implicitDefEqProofs only [cx, List.getElem?_cons_zero, Option.some.injEq, List.getElem?_cons_succ, exists_eq_left']
      rw [st_cell hxb, st_bool hxo']
      exact store _ (by unfold nearer; exact decide_eq_true hlt) fun h5 H => H
    · try simp -implicitDefEqProofs only [opH_sv, opH_su, pureW_sv, opH_nil, pureW_nil, pick_t, pick_f, pick_tp, pick_fp, gd_tt, gd_ft, gd_tf, gd_ff, box_new, regs0, regs1, regs2, regs3, regs4, regs5, regs6, cells_agg, cells_int, cells_bool, cells_ptr, cells_slice, cells_string, cells_func, cells_nilFunc, cells_map, retK_ret, retK_normal, resL_tmp, resL_cell, resL_nil0, resL_nil1, resL_nil2, resL_nil3, resC_ptr, ex0, ex1, ex2, ex0p, ex1p, ex2p, HL.cond_true, HL.cond_false, thenK_normal, thenK_ret, thenK_exit, blockK_normal, blockK_ret, blockK_exit, scopeK_normal, scopeK_ret, scopeK_exit, wpH_pure, bin_add, bin_sub, bin_mul, bin_lss, bin_leq, bin_gtr, bin_geq, bin_quo, bin_rem, bin_quop, bin_remp, wrap_in, bin_addp, bin_subp, bin_mulp, bin_lssp, bin_leqp, bin_gtrp, bin_geqp, un_not, un_notp, un_neg, eq_int, ne_int, eq_intp, ne_intp, callV_fn, add_mk, upd_eq, upd_ne, cell_set_self, Nat.zero_add, Nat.add_zero, Option.some.injEq, exists_eq_left', List.getElem?_cons_succ, List.getElem?_cons_zero, true_and, and_true, bne_self_eq_false, beq_self_eq_true, Bool.not_true, Bool.not_false, Bool.and_true, Bool.and_self, Bool.and_false, Bool.true_and, List.length_cons, List.length_nil, ne_eq, not_false_eq_true, Nat.reduceAdd, Nat.reduceMul, if_true, if_false, oneCell_int, oneCell_bool, oneCell_ptr, oneCell_slice, oneCell_string, oneCell_func, oneCell_map, Int.toNat_natCast, List.set_cons_zero, List.set_cons_succ, Nat.lt_irrefl, Nat.zero_lt_succ, Nat.succ_lt_succ_iff, fa26_0, fa26_0p, fa26_1, fa26_1p, fa26_10, fa26_10p, fa26_11, fa26_11p, fa26_12, fa26_12p, fa26_13, fa26_13p, fa26_14, fa26_14p, fa26_15, fa26_15p, fa26_2, fa26_2p, fa26_3, fa26_3p, fa26_4, fa26_4p, fa26_5, fa26_5p, fa26_6, fa26_6p, fa26_7, fa26_7p, fa26_8, fa26_8p, fa26_9, fa26_9p, fa28_0, fa28_0p, fa28_1, fa28_1p, fa45_0, fa45_0p, fa45_1, fa45_1p, fa45_2, fa45_2p, fa45_3, fa45_3p, fa45_4, fa45_4p, fa45_5, fa45_5p, fa45_6, fa45_6p, fa49_0, fa49_0p, fa49_1, fa49_1p, fa74_0, fa74_0p, fa74_1, fa74_1p, fa74_2, fa74_2p, fa74_3, fa74_3p, fa85_0, fa85_0p, fa85_1, fa85_1p, fa93_0, fa93_0p, fa93_1, fa93_1p, fa93_2, fa93_2p, ld3, ld3p, ld4, ld4p, ld22, ld22p, ld23, ld23p, ld24, ld24p, ld26, ld26p, ld28, ld28p, ld42, ld42p, ld45, ld45p, ld49, ld49p, ld58, ld58p, ld69, ld69p, ld72, ld72p, ld85, ld85p, st3s, st4s, st22s, st23s, st24s, st26w, st28w, st42s, st45w, st49w, st85w, ix22, ix22p, ix23, ix23p, ix24, ix24p, ix31, ix31p, ix42, ix42p, ix104, ix104p, ln22, ln22p, ln23, ln23p, ln24, ln24p, ln31, ln31p, ln42, ln42p, al4, al22, al26, al28, al42, al49, al85, cf10, cf11, cf12, cf13, cf14, cf15, cf16, cf17, cf18, cf19, cf20, cf21, cf22, cf23, cf24, cf25, cf26, cf27, cf28, cf29, cf30, cf31, cf32, cf33, cf34, cf35, cf36, cf37, cf38, cf39, cf40, cf41, cf42, cf43, cf44, cf45, cf46, cf47, cf48, cf49, cf50, cf51, cf52, cf53, cf54, cf55, cf56, cf57, cf58, cf59, cf60, cf61, cf62, cf63, cf64, cf65, cf66, cf67, cf68, cf69, cf70, cf71, cf72, cf73, cf74, cf75, bd26_0_1_2_7_8_9_10_11_12_13_14_4_15, bd26_0_1_2_7_8_9_10_11_12_13_14_4_15p, bd28_, bd28_p, bd28_0, bd28_0p, bd28_0_1, bd28_0_1p, bd45_1_3_4_5_6, bd45_1_3_4_5_6p, bd49_0_1, bd49_0_1p, bd49_1, bd49_1p, bd74_0_1_2_3, bd74_0_1_2_3p, bd85_0, bd85_0p, bd85_0_1, bd85_0_1p, bd93_0_1_2, bd93_0_1_2p, bd94_0_1_2_3, bd94_0_1_2_3p, bs42_1_0, bs22_1_0, bs24_1_0, bs42_3_0_1_2, bs31_1_0, bs22_2_0_1, bs42_6_0_1_2_3_4_5, bs42_0_, eq4, eq4p, eq28, eq28p, eq42n, eq42np, eq42s, eq42sp, eq58n, eq58np, eq58s, eq58sp, eq63n, eq63np, eq63s, eq63sp, ne28, ne28p, ne45, ne45p]
      rw [if_neg (by unfold nearer; simpa using hge)] at estep
      exact done (some z) estep h3 s4 d3

end Go.Proofs.YtangejiigopdaaaDoor
end

section
/- The place for a bin: the walk. -/
set_option linter.unusedSimpArgs false
set_option linter.unusedVariables false
set_option maxRecDepth 100000
namespace Go.Proofs.YtangejiigopdaaaDoor
open Go Go.HL

theorem feed_all {α : Type} : ∀ {M L : List α}, feed (fun _ => true) L M = (L ++ M, true)
  | [], L => by simp [feed]
  | m :: M, L => by rw [feed_t rfl, feed_all]; simp

set_option maxHeartbeats 4000000 in
theorem place_in {G h ya ga w : Hp} {yp gp kb mb wn k : Nat} {f : Nat → Nat → Int} {from_ : Cell} {ht : Int} {hv : Cell → Int} {is : Cell → Bool} {TL : List Cell} {tv : Value} (s : HL.Sep [ya, ga, w] h) (yo : YardO ya yp gp mb ht tv hv is) (go : GO ga gp kb wn k f) (tw : ∀ G, Sees cellC G w tv TL) (hTL : TL.length ≤ 100000000000000) :
    HCalls Tryd.prog G 37 #[.pointer (some ⟨yp, 0, none⟩), cellV from_] h (fun u h' => u = .tuple #[cellV (bCell (bestL from_ (skipB from_ ht hv is TL) none (stacksW wn k f))), .bool (bestL from_ (skipB from_ ht hv is TL) none (stacksW wn k f)).isSome] ∧ HL.Sep [ya, ga, w] h' ∧ Dis G h') := by
  refine HCalls.assume fun d => enter37 (by simp) ?_
  unfold S37
  simp -implicitDefEqProofs only [regs0, regs1, cf30, opH_sv, opH_su, al4, al28, bd28_, box_new, cells_agg, cells_ptr, ld69]
  intro v0 hv0 gv0 v1 hv1 gv1 v2 hv2 gv2 xb hxb gxb xo hxo gxo
  have s1 := s.new (o := .cells #[.pointer (some ⟨yp, 0, none⟩)] 69 (0, 0)) hv0
  have d1 := d.set (o := .cells #[.pointer (some ⟨yp, 0, none⟩)] 69 (0, 0)) gv0
  generalize Hp.set h v0 _ = h1 at s1 d1 hv1 hv2 hxb hxo ⊢
  have s2 := s1.new (o := cellO from_) hv1
  have d2 := d1.set (o := cellO from_) gv1
  generalize Hp.set h1 v1 _ = h2 at s2 d2 hv2 hxb hxo ⊢
  have s3 := s2.new (o := cellO (0, 0)) hv2
  have d3 := d2.set (o := cellO (0, 0)) gv2
  generalize Hp.set h2 v2 _ = h3 at s3 d3 hxb hxo ⊢
  have s4 := s3.new (o := cellO (0, 0)) hxb
  have d4 := d3.set (o := cellO (0, 0)) gxb
  generalize Hp.set h3 xb _ = h4 at s4 d4 hxo ⊢
  have s5 := s4.new (o := boolO false) hxo
  have d5 := d4.set (o := boolO false) gxo
  generalize Hp.set h4 xo _ = h5 at s5 d5 ⊢
  have hxb5 : h5 xb = some (cellO (0, 0)) := s5.at 1 rfl set_self
  have nbo : xo ≠ xb := fun e => by
    rcases s5.apart (b := noHp.set xb (cellO (0, 0))) (by simp) xb with k | k
    · rw [← e, set_self] at k; cases k
    · rw [set_self] at k; cases k
  have hxo5 : (h5.set xb (cellO (0, 0))) xo = some (boolO false) := by rw [set_other nbo]; exact s5.at 0 rfl set_self
  rw [st_cell (m := (0, 0)) hxb5, st_bool hxo5]
  have s6 := (s5.pick 1 rfl rfl).put (o := cellO (0, 0)) set_self
  rw [set_set] at s6
  have s7 := (s6.pick 1 rfl rfl).put (o := boolO false) set_self
  rw [set_set] at s7
  have d7 := (d5.set (o := cellO (0, 0)) gxb).set (o := boolO false) gxo
  generalize Hp.set (Hp.set h5 xb _) xo _ = h7 at s7 d7 ⊢
  have s8 : HL.Sep [noHp.set xo (boolO false), noHp.set xb (cellO (0, 0)), noHp.set v2 (cellO (0, 0)), noHp.set v1 (cellO from_), noHp.set v0 (.cells #[.pointer (some ⟨yp, 0, none⟩)] 69 (0, 0)), ya, ga, w] h7 := s7
  clear s7 s6 s5 s4 s3 s2 s1 d5 d4 d3 d2 d1 hxb5 hxo5 hxo hxb hv2 hv1 hv0
  obtain ⟨om, C, ab, cb, ap, cp, ar, cr, az, cs, ty, mi⟩ := id yo
  have cyp : ∀ j, cellIn G h7 ⟨yp, j, none⟩ = _ := fun j => cell_of (look_own (s8.in 5 rfl _ _ (ty.at 0 rfl set_self)))
  have cv0 : ∀ j, cellIn G h7 ⟨v0, j, none⟩ = _ := fun j => cell_of (look_own (s8.at 4 rfl set_self))
  try simp -implicitDefEqProofs only [cv0, List.getElem?_cons_zero, Option.some.injEq, exists_eq_left', opH_nil, fa74_1, add_mk, Nat.zero_add, ld58, cyp, List.getElem?_cons_succ]
  refine stacks_new.mono ?_
  rintro _ _ ⟨b1, rfl, hb1, gb1, rfl⟩
  have s9 := s8.new (o := .cells #[.pointer (some ⟨gp, 0, none⟩)] 58 (0, 0)) hb1
  have d9 := d7.set (o := .cells #[.pointer (some ⟨gp, 0, none⟩)] 58 (0, 0)) gb1
  generalize Hp.set h7 b1 _ = h9 at s9 d9 ⊢
  intro y' l o hl gl ho HY
  rw [opE55]
  have s10 := s9.new (o := o none) hl
  have d10 := d9.set (o := o none) gl
  generalize Hp.set h9 l _ = h10 at s10 d10 ⊢
  -- what the rounds have, and what the telling has
  have s11 : HL.Sep [ga, noHp.set b1 (.cells #[.pointer (some ⟨gp, 0, none⟩)] 58 (0, 0)), noHp.set v2 (cellO (0, 0)), noHp.set l (o none), noHp.set xo (boolO false), noHp.set xb (cellO (0, 0)), noHp.set v1 (cellO from_), noHp.set v0 (.cells #[.pointer (some ⟨yp, 0, none⟩)] 69 (0, 0)), ya, w] h10 := ((s10.pick 4 rfl rfl).pick 2 rfl rfl).pick 8 rfl rfl
  obtain ⟨qq, s12, tq⟩ := s11.pack3
  have s13 : HL.Sep ([noHp.set l (o none), noHp.set xo (boolO false), noHp.set xb (cellO (0, 0)), noHp.set v1 (cellO from_), noHp.set v0 (.cells #[.pointer (some ⟨yp, 0, none⟩)] 69 (0, 0)), ya, w] ++ [qq]) h10 := permute s12 (List.perm_append_comm (l₁ := [qq]))
  obtain ⟨aa, s14, ta⟩ := packAll s13
  have py : PY ya w l xb xo v0 v1 yp (o none) from_ (skipB from_ ht hv is TL) [] aa := by
    exact ((((((ta.pick 3 rfl rfl).pick 4 rfl rfl).pick 6 rfl rfl).pick 6 rfl rfl).pick 5 rfl rfl).pick 6 rfl rfl).pick 6 rfl rfl
  refine (stacks1_spec (place_yield gl ho yo tw hTL (by simp -implicitDefEqProofs (disch := first | with_reducible exact Nat.ne_of_beq_eq_false rfl | omega) only [upd_ne, upd_eq]) (by simp -implicitDefEqProofs (disch := first | with_reducible exact Nat.ne_of_beq_eq_false rfl | omega) only [upd_ne, upd_eq]) (by simp -implicitDefEqProofs (disch := first | with_reducible exact Nat.ne_of_beq_eq_false rfl | omega) only [upd_ne, upd_eq]) (by simp -implicitDefEqProofs (disch := first | with_reducible exact Nat.ne_of_beq_eq_false rfl | omega) only [upd_ne, upd_eq]) HY) py s14 (tq.at 1 rfl set_self) ((go.gs (G := G)).up (tq.in 0 rfl) (fun b o e => d10 b o (s14.in 1 rfl _ _ e)))).mono ?_
  rintro _ h12 ⟨a12, s15, d15, z⟩
  rw [feed_all, List.nil_append] at z
  have py2 : PY ya w l xb xo v0 v1 yp (o none) from_ (skipB from_ ht hv is TL) (stacksW wn k f) a12 := z
  unfold PY at py2
  clear z
  generalize bestL from_ (skipB from_ ht hv is TL) none (stacksW wn k f) = bb at py2 ⊢
  have s16 := HL.Sep.split s15.swap py2
  have s17 : HL.Sep (noHp.set l (o none) :: ([ga, noHp.set b1 (.cells #[.pointer (some ⟨gp, 0, none⟩)] 58 (0, 0)), noHp.set v2 (cellO (0, 0))] ++ [noHp.set xb (cellO (bCell bb)), noHp.set xo (boolO bb.isSome), ya, w, noHp.set v0 (.cells #[.pointer (some ⟨yp, 0, none⟩)] 69 (0, 0)), noHp.set v1 (cellO from_)])) h12 := HL.Sep.split (s16.swap) tq
  have s18 : HL.Sep ([ga, noHp.set b1 (.cells #[.pointer (some ⟨gp, 0, none⟩)] 58 (0, 0)), noHp.set v2 (cellO (0, 0)), noHp.set xb (cellO (bCell bb)), noHp.set xo (boolO bb.isSome), ya, w, noHp.set v0 (.cells #[.pointer (some ⟨yp, 0, none⟩)] 69 (0, 0)), noHp.set v1 (cellO from_)] ++ [noHp.set l (o none)]) h12 := permute s17 (List.perm_append_comm (l₁ := [noHp.set l (o none)]))
  obtain ⟨a20, s20, t20⟩ := packAll s18
  refine ⟨a20, s20.in 0 rfl, ?_, .inl ⟨s20.at 1 rfl set_self, ?_⟩⟩
  · rcases s20.apart (b := noHp.set l (o none)) (by simp) l with e | e
    · exact e
    · rw [set_self] at e; cases e
  have d20 : Dis G a20 := fun b o e => d15 b o (s20.in 0 rfl _ _ e)
  have t21 := (t20.pick 4 rfl rfl).pick 4 rfl rfl
  obtain ⟨qx, t22, tx⟩ := pack2 t21
  have t23 : HL.Sep [qx, ga, noHp.set b1 (.cells #[.pointer (some ⟨gp, 0, none⟩)] 58 (0, 0)), noHp.set v2 (cellO (0, 0)), ya, w, noHp.set v0 (.cells #[.pointer (some ⟨yp, 0, none⟩)] 69 (0, 0)), noHp.set v1 (cellO from_)] a20 := t22
  try simp -implicitDefEqProofs only [blockK_normal, thenK_normal]
  unfold S37_k1
  refine ⟨qx, t23.in 0 rfl, ?_⟩
  have cb : ∀ j, cellIn G qx ⟨xb, j, none⟩ = _ := fun j => cell_of (look_own (tx.at 0 rfl set_self))
  have co : ∀ j, cellIn G qx ⟨xo, j, none⟩ = _ := fun j => cell_of (look_own (tx.at 1 rfl set_self))
  have hv2 : a20 v2 = some (cellO (0, 0)) := t23.at 3 rfl set_self
  try simp -implicitDefEqProofs (disch := first | with_reducible exact Nat.ne_of_beq_eq_false rfl | omega) only [upd_ne, upd_eq, retK_ret, resL_cell, resC_ptr, resL_tmp, resL_nil2, ld28, add_mk, Nat.add_zero, Nat.zero_add, opH_su, pureW_sv, ld4p, co, List.getElem?_cons_zero, Option.some.injEq, exists_eq_left', ld28p, cb, List.getElem?_cons_succ]
  rw [st_cell (m := bCell bb) hv2]
  have t24 := (t23.pick 3 rfl rfl).put (o := cellO (bCell bb)) set_self
  rw [set_set] at t24
  have d24 := d20.set (o := cellO (bCell bb)) (d20 _ _ hv2)
  generalize Hp.set a20 v2 _ = h24 at t24 d24 ⊢
  have t25 : HL.Sep [noHp.set v2 (cellO (bCell bb)), qx, ga, noHp.set b1 (.cells #[.pointer (some ⟨gp, 0, none⟩)] 58 (0, 0)), ya, w, noHp.set v0 (.cells #[.pointer (some ⟨yp, 0, none⟩)] 69 (0, 0)), noHp.set v1 (cellO from_)] h24 := t24
  refine ⟨t25.in 1 rfl, ?_⟩
  have c2 : ∀ j, cellIn G h24 ⟨v2, j, none⟩ = _ := fun j => cell_of (look_own (t25.at 0 rfl set_self))
  try simp -implicitDefEqProofs only [c2, List.getElem?_cons_zero, Option.some.injEq, List.getElem?_cons_succ, exists_eq_left', true_and]
  exact ⟨(((t25.pick 5 rfl rfl).pick 3 rfl rfl).pick 5 rfl rfl).take 3 rfl, d24⟩

/-- The place, among other pieces. -/
theorem place_walk {G h ya ga w : Hp} {R : List Hp} {yp gp kb mb wn k : Nat} {f : Nat → Nat → Int} {from_ : Cell} {ht : Int} {hv : Cell → Int} {is : Cell → Bool} {TL : List Cell} {tv : Value} (s : HL.Sep (ya :: ga :: w :: R) h) (yo : YardO ya yp gp mb ht tv hv is) (go : GO ga gp kb wn k f) (tw : ∀ G, Sees cellC G w tv TL) (hTL : TL.length ≤ 100000000000000) :
    HCalls Tryd.prog G 37 #[.pointer (some ⟨yp, 0, none⟩), cellV from_] h (fun u h' => u = .tuple #[cellV (bCell (bestL from_ (skipB from_ ht hv is TL) none (stacksW wn k f))), .bool (bestL from_ (skipB from_ ht hv is TL) none (stacksW wn k f)).isSome] ∧ HL.Sep (ya :: ga :: w :: R) h' ∧ Dis G h') := by
  obtain ⟨b, s1, t1⟩ := s.pack3
  refine (s1.on (place_in t1 yo go tw hTL)).mono ?_
  rintro _ h' ⟨b', ⟨rfl, t2, _⟩, s2, d2⟩
  refine ⟨rfl, ?_, d2⟩
  cases R with
  | nil =>
    have := HL.Sep.split (s2.none) t2
    rw [List.append_nil] at this
    exact this.drop
  | cons c R =>
    have := HL.Sep.split s2.swap t2
    exact permute this (by
      refine List.Perm.trans (List.Perm.cons _ (List.perm_append_comm (l₁ := [ya, ga, w]))) ?_
      exact List.perm_append_comm (l₁ := c :: R))

end Go.Proofs.YtangejiigopdaaaDoor
end

section
/- The reference: bins of a cell, a cell among others. -/
set_option linter.unusedSimpArgs false
set_option linter.unusedVariables false
set_option maxRecDepth 100000
namespace Go.Proofs.YtangejiigopdaaaDoor
open Go Go.HL

end Go.Proofs.YtangejiigopdaaaDoor
end

section
/- The reference: the place. -/
set_option linter.unusedSimpArgs false
set_option linter.unusedVariables false
set_option maxRecDepth 100000
namespace Go.Proofs.YtangejiigopdaaaDoor
open Go Go.HL

def skipR (from_ : Cell) (ht : Int) (S : List Stk) (TL GL : List Cell) (c : Cell) : Bool := (c == from_ || decide (c ∈ TL)) || decide (hgt S c + (GL.count c : Int) ≥ ht)

theorem bins_le {n : Nat} {c : Cell} : ∀ {S : List Stk}, (∀ s ∈ S, s.2.length ≤ n) → (binsL S c).length ≤ n
  | [], _ => Nat.zero_le _
  | s :: S, h => by
    rw [binsL]
    split
    · exact h s (.head _)
    · exact bins_le fun x hx => h x (.tail _ hx)

end Go.Proofs.YtangejiigopdaaaDoor
end

section
/- Place, the program's and the reference's. -/
set_option linter.unusedSimpArgs false
set_option linter.unusedVariables false
set_option maxRecDepth 100000
namespace Go.Proofs.YtangejiigopdaaaDoor
open Go Go.HL

end Go.Proofs.YtangejiigopdaaaDoor
end

section
/- Found in rows: a number, a stack. -/
set_option linter.unusedSimpArgs false
set_option linter.unusedVariables false
set_option maxRecDepth 100000
namespace Go.Proofs.YtangejiigopdaaaDoor
open Go Go.HL

theorem Sees.num {G h : Hp} {sa : Option Addr} {cap n : Nat} {L : List Int} (s : Sees icC G h (.slice sa n cap) L) {i : Nat} {x : Int} (hx : L[i]? = some x) :
    ∃ b o, sa = some ⟨b, o, none⟩ ∧ cellIn G h ⟨b, o + i, none⟩ = some (.int .i64 x) := by
  obtain ⟨b, o, c, e1, e2⟩ := s.get hx
  simp only [Value.slice.injEq] at e1
  obtain ⟨rfl, -, -⟩ := e1
  have x0 := e2 0 (by decide)
  simp only [icC, Nat.add_zero, Nat.mul_one, List.getElem?_cons_zero] at x0
  exact ⟨b, o, rfl, x0⟩

/-- Where it stands first. -/
def FirstAt {α : Type} (p : α → Bool) (L : List α) (n : Int) : Prop := (n = -1 ∧ L.any p = false) ∨ ∃ i : Nat, n = i ∧ (∃ x, L[i]? = some x ∧ p x = true) ∧ (L.take i).any p = false

theorem indexi_spec {G h : Hp} {v : Value} {L : List Int} {c : Int} (hv : Sees icC G h v L) (hL : L.length ≤ 100000000000000) : HCalls Tryd.prog G 61 #[v, .int .i64 c] h (fun u h' => (∃ n : Int, u = .int .i64 n ∧ FirstAt (fun x => c == x) L n) ∧ h' = h) := by
  obtain ⟨sa, cap, rfl⟩ := hv.len
  refine HCalls.assume fun d => quietly (enter61 (by simp) ?_)
  unfold S61
  simp -implicitDefEqProofs only [regs0, opH_sv, ln42]
  generalize hKK : retK Tryd.prog G _ _ = KK
  refine loop_I (fun m r h3 => ∃ i : Nat, m = L.length - i ∧ i ≤ L.length ∧ r 0 = .slice sa L.length cap ∧ r 1 = .int .i64 c ∧ r 7 = .int .i64 L.length ∧ r 8 = .int .i64 i ∧ h3 = h ∧ (L.take i).any (fun x => c == x) = false) ?_
    (m := L.length) ⟨0, rfl, Nat.zero_le _, by simp -implicitDefEqProofs (disch := first | with_reducible exact Nat.ne_of_beq_eq_false rfl | omega) only [upd_ne, regs0], by simp -implicitDefEqProofs (disch := first | with_reducible exact Nat.ne_of_beq_eq_false rfl | omega) only [upd_ne, regs1], by simp -implicitDefEqProofs (disch := first | with_reducible exact Nat.ne_of_beq_eq_false rfl | omega) only [upd_ne, upd_eq], by simp -implicitDefEqProofs only [upd_eq] <;> rfl, rfl, by simp⟩
  rintro m r h3 ⟨i, rfl, hi, g0, g1, g7, g8, rfl, hn⟩ X HX
  unfold S61_l2
  simp -implicitDefEqProofs only [g8, g7, thenK_exit, blockK_exit, thenK_normal, if_true, opH_sv, bin_lss]
  refine cond_dec (fun hlt => ?_) (fun hge => ?_)
  · obtain ⟨y, hy⟩ : ∃ x, L[i]? = some x := ⟨_, List.getElem?_eq_getElem (by omega)⟩
    obtain ⟨b, o, rfl, y0⟩ := Sees.num hv hy
    unfold S61_l2_k3
    simp -implicitDefEqProofs (disch := first | with_reducible exact Nat.ne_of_beq_eq_false rfl | omega) only [upd_ne, g0, g8, g1, thenK_ret, blockK_ret, opH_sv, ix42 (Int.natCast_nonneg i) hlt, Int.toNat_natCast, Nat.mul_one, add_mk, ld3, y0, Option.some.injEq, exists_eq_left', eq_int]
    refine cond_bool (fun hb => ?_) (fun hb => ?_)
    · rw [← hKK]
      simp -implicitDefEqProofs only [retK_ret, resL_tmp, upd_eq, resL_nil1]
      exact ⟨⟨_, rfl, .inr ⟨i, rfl, ⟨y, hy, hb⟩, hn⟩⟩, Hp.le.refl _⟩
    · unfold S61_l2_k4
      simp -implicitDefEqProofs (disch := first | with_reducible exact Nat.ne_of_beq_eq_false rfl | omega) only [upd_ne, g8, thenK_normal, opH_sv, bin_add, wrap_in]
      exact HX (L.length - (i + 1)) _ _ (by omega) ⟨i + 1, rfl, by omega, by simp -implicitDefEqProofs (disch := first | with_reducible exact Nat.ne_of_beq_eq_false rfl | omega) only [upd_ne, g0], by simp -implicitDefEqProofs (disch := first | with_reducible exact Nat.ne_of_beq_eq_false rfl | omega) only [upd_ne, g1], by simp -implicitDefEqProofs (disch := first | with_reducible exact Nat.ne_of_beq_eq_false rfl | omega) only [upd_ne, g7], by simp -implicitDefEqProofs (disch := first | with_reducible exact Nat.ne_of_beq_eq_false rfl | omega) only [upd_eq] <;> rfl, rfl, by rw [List.take_add_one, hy, List.any_append, hn]; simpa using hb⟩
  · obtain rfl : i = L.length := by omega
    rw [List.take_of_length_le (Nat.le_refl _)] at hn
    try simp -implicitDefEqProofs only [opH_sv, opH_su, pureW_sv, opH_nil, pureW_nil, pick_t, pick_f, pick_tp, pick_fp, gd_tt, gd_ft, gd_tf, gd_ff, box_new, regs0, regs1, regs2, regs3, regs4, regs5, regs6, cells_agg, cells_int, cells_bool, cells_ptr, cells_slice, cells_string, cells_func, cells_nilFunc, cells_map, retK_ret, retK_normal, resL_tmp, resL_cell, resL_nil0, resL_nil1, resL_nil2, resL_nil3, resC_ptr, ex0, ex1, ex2, ex0p, ex1p, ex2p, HL.cond_true, HL.cond_false, thenK_normal, thenK_ret, thenK_exit, blockK_normal, blockK_ret, blockK_exit, scopeK_normal, scopeK_ret, scopeK_exit, wpH_pure, bin_add, bin_sub, bin_mul, bin_lss, bin_leq, bin_gtr, bin_geq, bin_quo, bin_rem, bin_quop, bin_remp, wrap_in, bin_addp, bin_subp, bin_mulp, bin_lssp, bin_leqp, bin_gtrp, bin_geqp, un_not, un_notp, un_neg, eq_int, ne_int, eq_intp, ne_intp, callV_fn, add_mk, upd_eq, upd_ne, cell_set_self, Nat.zero_add, Nat.add_zero, Option.some.injEq, exists_eq_left', List.getElem?_cons_succ, List.getElem?_cons_zero, true_and, and_true, bne_self_eq_false, beq_self_eq_true, Bool.not_true, Bool.not_false, Bool.and_true, Bool.and_self, Bool.and_false, Bool.true_and, List.length_cons, List.length_nil, ne_eq, not_false_eq_true, Nat.reduceAdd, Nat.reduceMul, if_true, if_false, oneCell_int, oneCell_bool, oneCell_ptr, oneCell_slice, oneCell_string, oneCell_func, oneCell_map, Int.toNat_natCast, List.set_cons_zero, List.set_cons_succ, Nat.lt_irrefl, Nat.zero_lt_succ, Nat.succ_lt_succ_iff, fa26_0, fa26_0p, fa26_1, fa26_1p, fa26_10, fa26_10p, fa26_11, fa26_11p, fa26_12, fa26_12p, fa26_13, fa26_13p, fa26_14, fa26_14p, fa26_15, fa26_15p, fa26_2, fa26_2p, fa26_3, fa26_3p, fa26_4, fa26_4p, fa26_5, fa26_5p, fa26_6, fa26_6p, fa26_7, fa26_7p, fa26_8, fa26_8p, fa26_9, fa26_9p, fa28_0, fa28_0p, fa28_1, fa28_1p, fa45_0, fa45_0p, fa45_1, fa45_1p, fa45_2, fa45_2p, fa45_3, fa45_3p, fa45_4, fa45_4p, fa45_5, fa45_5p, fa45_6, fa45_6p, fa49_0, fa49_0p, fa49_1, fa49_1p, fa74_0, fa74_0p, fa74_1, fa74_1p, fa74_2, fa74_2p, fa74_3, fa74_3p, fa85_0, fa85_0p, fa85_1, fa85_1p, fa93_0, fa93_0p, fa93_1, fa93_1p, fa93_2, fa93_2p, ld3, ld3p, ld4, ld4p, ld22, ld22p, ld23, ld23p, ld24, ld24p, ld26, ld26p, ld28, ld28p, ld42, ld42p, ld45, ld45p, ld49, ld49p, ld58, ld58p, ld69, ld69p, ld72, ld72p, ld85, ld85p, st3s, st4s, st22s, st23s, st24s, st26w, st28w, st42s, st45w, st49w, st85w, ix22, ix22p, ix23, ix23p, ix24, ix24p, ix31, ix31p, ix42, ix42p, ix104, ix104p, ln22, ln22p, ln23, ln23p, ln24, ln24p, ln31, ln31p, ln42, ln42p, al4, al22, al26, al28, al42, al49, al85, cf10, cf11, cf12, cf13, cf14, cf15, cf16, cf17, cf18, cf19, cf20, cf21, cf22, cf23, cf24, cf25, cf26, cf27, cf28, cf29, cf30, cf31, cf32, cf33, cf34, cf35, cf36, cf37, cf38, cf39, cf40, cf41, cf42, cf43, cf44, cf45, cf46, cf47, cf48, cf49, cf50, cf51, cf52, cf53, cf54, cf55, cf56, cf57, cf58, cf59, cf60, cf61, cf62, cf63, cf64, cf65, cf66, cf67, cf68, cf69, cf70, cf71, cf72, cf73, cf74, cf75, bd26_0_1_2_7_8_9_10_11_12_13_14_4_15, bd26_0_1_2_7_8_9_10_11_12_13_14_4_15p, bd28_, bd28_p, bd28_0, bd28_0p, bd28_0_1, bd28_0_1p, bd45_1_3_4_5_6, bd45_1_3_4_5_6p, bd49_0_1, bd49_0_1p, bd49_1, bd49_1p, bd74_0_1_2_3, bd74_0_1_2_3p, bd85_0, bd85_0p, bd85_0_1, bd85_0_1p, bd93_0_1_2, bd93_0_1_2p, bd94_0_1_2_3, bd94_0_1_2_3p, bs42_1_0, bs22_1_0, bs24_1_0, bs42_3_0_1_2, bs31_1_0, bs22_2_0_1, bs42_6_0_1_2_3_4_5, bs42_0_, eq4, eq4p, eq28, eq28p, eq42n, eq42np, eq42s, eq42sp, eq58n, eq58np, eq58s, eq58sp, eq63n, eq63np, eq63s, eq63sp, ne28, ne28p, ne45, ne45p]
    unfold S61_k1
    rw [← hKK]
    simp -implicitDefEqProofs only [retK_ret, resL_tmp, upd_eq, resL_nil1]
    exact ⟨⟨_, rfl, .inl ⟨rfl, hn⟩⟩, Hp.le.refl _⟩

theorem find1_spec {G h : Hp} {r : Raw} {ab : Nat} {c : Cell} (hc : h ab = some (cellO c)) : HCalls Tryd.prog G 60 #[.agg #[.int .i64 r.x, .int .i64 r.y, .slice r.a r.n r.c], .pointer (some ⟨ab, 0, none⟩)] h (fun u h' => u = .bool ((r.x, r.y) == c) ∧ h' = h) := by
  refine HCalls.assume fun d => quietly (enter60 (by simp) ?_)
  unfold S60
  simp -implicitDefEqProofs only [regs0, regs1, retK_ret, resL_tmp, upd_eq, resL_nil1, opH_sv, ld28, add_mk, Nat.add_zero, Nat.zero_add, box_new, cells_agg, fa49_0, cell_set_self, List.getElem?_cons_zero, Option.some.injEq, List.getElem?_cons_succ, exists_eq_left']
  intro x hx gx
  generalize ex : Hp.set h x _ = h2
  obtain ⟨l2, d2, b2⟩ := boxed ex hx d gx
  have cx : ∀ k, cellIn G h2 ⟨x, k, none⟩ = _ := fun k => cell_of (look_own b2)
  have cc : ∀ k, cellIn G h2 ⟨ab, k, none⟩ = _ := fun k => cell_of (look_own (l2 _ _ hc))
  try simp -implicitDefEqProofs only [cc, List.getElem?_cons_zero, Option.some.injEq, List.getElem?_cons_succ, exists_eq_left', eq28, Bool.and_true]
  exact ⟨rfl, l2⟩

theorem indexs_spec {G h : Hp} {v : Value} {S : List Stk} {ab : Nat} {c : Cell} (hss : StS G h v S) (hc : h ab = some (cellO c)) (hL : S.length ≤ 100000000000000) : HCalls Tryd.prog G 59 #[v, .func (.func 60) #[] #[.pointer (some ⟨ab, 0, none⟩)]] h (fun u h' => (∃ n : Int, u = .int .i64 n ∧ FirstAt (fun x : Stk => x.1 == c) S n) ∧ h' = h) := by
  obtain ⟨sa, sc, rfl, raw, sr, srr⟩ := id hss
  refine HCalls.assume fun d => quietly (enter59 (by simp) ?_)
  unfold S59
  simp -implicitDefEqProofs only [regs0, opH_sv, ln24]
  have hrl : raw.length = S.length := by
    obtain ⟨s', cap', e⟩ := sr.len
    simp at e
    omega
  generalize hKK : retK Tryd.prog G _ _ = KK
  refine loop_I (fun m r h3 => ∃ i : Nat, m = S.length - i ∧ i ≤ S.length ∧ r 0 = .slice sa S.length sc ∧ r 1 = .func (.func 60) #[] #[.pointer (some ⟨ab, 0, none⟩)] ∧ r 7 = .int .i64 S.length ∧ r 8 = .int .i64 i ∧ h3 = h ∧ (S.take i).any (fun x => x.1 == c) = false) ?_
    (m := S.length) ⟨0, rfl, Nat.zero_le _, by simp -implicitDefEqProofs (disch := first | with_reducible exact Nat.ne_of_beq_eq_false rfl | omega) only [upd_ne, regs0], by simp -implicitDefEqProofs (disch := first | with_reducible exact Nat.ne_of_beq_eq_false rfl | omega) only [upd_ne, regs1], by simp -implicitDefEqProofs (disch := first | with_reducible exact Nat.ne_of_beq_eq_false rfl | omega) only [upd_ne, upd_eq], by simp -implicitDefEqProofs only [upd_eq] <;> rfl, rfl, by simp⟩
  rintro m q h3 ⟨i, rfl, hi, g0, g1, g7, g8, rfl, hn⟩ X HX
  unfold S59_l2
  simp -implicitDefEqProofs only [g8, g7, thenK_exit, blockK_exit, thenK_normal, if_true, opH_sv, bin_lss]
  refine cond_dec (fun hlt => ?_) (fun hge => ?_)
  · obtain ⟨s, hs⟩ : ∃ s, S[i]? = some s := ⟨_, List.getElem?_eq_getElem (by omega)⟩
    obtain ⟨r, hr⟩ : ∃ r, raw[i]? = some r := ⟨_, List.getElem?_eq_getElem (by omega)⟩
    obtain ⟨er, en, eb⟩ := srr i r s hr hs
    obtain ⟨b, of, cc, e3, e4⟩ := sr.get hr
    simp only [Value.slice.injEq] at e3
    obtain ⟨rfl, -, -⟩ := e3
    have z0 := e4 0 (by decide)
    have z1 := e4 1 (by decide)
    have z2 := e4 2 (by decide)
    simp only [rawC, Nat.add_zero, List.getElem?_cons_zero, List.getElem?_cons_succ] at z0 z1 z2
    unfold S59_l2_k3
    simp -implicitDefEqProofs (disch := first | with_reducible exact Nat.ne_of_beq_eq_false rfl | omega) only [upd_ne, g0, g8, g1, callV_fn, thenK_ret, blockK_ret, cf60, opH_sv, ix24 (Int.natCast_nonneg i) hlt, Int.toNat_natCast, add_mk, ld49, Nat.add_zero, z0, Option.some.injEq, z1, z2, exists_eq_left']
    refine (find1_spec (r := r) hc).mono ?_
    rintro _ h3 ⟨rfl, rfl⟩
    refine cond_bool (fun hb => ?_) (fun hb => ?_)
    · rw [← hKK]
      simp -implicitDefEqProofs only [retK_ret, resL_tmp, upd_eq, resL_nil1]
      exact ⟨⟨_, rfl, .inr ⟨i, rfl, ⟨s, hs, by show (s.1 == c) = true; rw [← er]; exact hb⟩, hn⟩⟩, Hp.le.refl _⟩
    · unfold S59_l2_k4
      simp -implicitDefEqProofs (disch := first | with_reducible exact Nat.ne_of_beq_eq_false rfl | omega) only [upd_ne, g8, thenK_normal, opH_sv, bin_add, wrap_in]
      exact HX (S.length - (i + 1)) _ _ (by omega) ⟨i + 1, rfl, by omega, by simp -implicitDefEqProofs (disch := first | with_reducible exact Nat.ne_of_beq_eq_false rfl | omega) only [upd_ne, g0], by simp -implicitDefEqProofs (disch := first | with_reducible exact Nat.ne_of_beq_eq_false rfl | omega) only [upd_ne, g1], by simp -implicitDefEqProofs (disch := first | with_reducible exact Nat.ne_of_beq_eq_false rfl | omega) only [upd_ne, g7], by simp -implicitDefEqProofs (disch := first | with_reducible exact Nat.ne_of_beq_eq_false rfl | omega) only [upd_eq] <;> rfl, rfl, by rw [any_step hs, hn, ← er, hb]; rfl⟩
  · obtain rfl : i = S.length := by omega
    rw [List.take_of_length_le (Nat.le_refl _)] at hn
    try simp -implicitDefEqProofs only [opH_sv, opH_su, pureW_sv, opH_nil, pureW_nil, pick_t, pick_f, pick_tp, pick_fp, gd_tt, gd_ft, gd_tf, gd_ff, box_new, regs0, regs1, regs2, regs3, regs4, regs5, regs6, cells_agg, cells_int, cells_bool, cells_ptr, cells_slice, cells_string, cells_func, cells_nilFunc, cells_map, retK_ret, retK_normal, resL_tmp, resL_cell, resL_nil0, resL_nil1, resL_nil2, resL_nil3, resC_ptr, ex0, ex1, ex2, ex0p, ex1p, ex2p, HL.cond_true, HL.cond_false, thenK_normal, thenK_ret, thenK_exit, blockK_normal, blockK_ret, blockK_exit, scopeK_normal, scopeK_ret, scopeK_exit, wpH_pure, bin_add, bin_sub, bin_mul, bin_lss, bin_leq, bin_gtr, bin_geq, bin_quo, bin_rem, bin_quop, bin_remp, wrap_in, bin_addp, bin_subp, bin_mulp, bin_lssp, bin_leqp, bin_gtrp, bin_geqp, un_not, un_notp, un_neg, eq_int, ne_int, eq_intp, ne_intp, callV_fn, add_mk, upd_eq, upd_ne, cell_set_self, Nat.zero_add, Nat.add_zero, Option.some.injEq, exists_eq_left', List.getElem?_cons_succ, List.getElem?_cons_zero, true_and, and_true, bne_self_eq_false, beq_self_eq_true, Bool.not_true, Bool.not_false, Bool.and_true, Bool.and_self, Bool.and_false, Bool.true_and, List.length_cons, List.length_nil, ne_eq, not_false_eq_true, Nat.reduceAdd, Nat.reduceMul, if_true, if_false, oneCell_int, oneCell_bool, oneCell_ptr, oneCell_slice, oneCell_string, oneCell_func, oneCell_map, Int.toNat_natCast, List.set_cons_zero, List.set_cons_succ, Nat.lt_irrefl, Nat.zero_lt_succ, Nat.succ_lt_succ_iff, fa26_0, fa26_0p, fa26_1, fa26_1p, fa26_10, fa26_10p, fa26_11, fa26_11p, fa26_12, fa26_12p, fa26_13, fa26_13p, fa26_14, fa26_14p, fa26_15, fa26_15p, fa26_2, fa26_2p, fa26_3, fa26_3p, fa26_4, fa26_4p, fa26_5, fa26_5p, fa26_6, fa26_6p, fa26_7, fa26_7p, fa26_8, fa26_8p, fa26_9, fa26_9p, fa28_0, fa28_0p, fa28_1, fa28_1p, fa45_0, fa45_0p, fa45_1, fa45_1p, fa45_2, fa45_2p, fa45_3, fa45_3p, fa45_4, fa45_4p, fa45_5, fa45_5p, fa45_6, fa45_6p, fa49_0, fa49_0p, fa49_1, fa49_1p, fa74_0, fa74_0p, fa74_1, fa74_1p, fa74_2, fa74_2p, fa74_3, fa74_3p, fa85_0, fa85_0p, fa85_1, fa85_1p, fa93_0, fa93_0p, fa93_1, fa93_1p, fa93_2, fa93_2p, ld3, ld3p, ld4, ld4p, ld22, ld22p, ld23, ld23p, ld24, ld24p, ld26, ld26p, ld28, ld28p, ld42, ld42p, ld45, ld45p, ld49, ld49p, ld58, ld58p, ld69, ld69p, ld72, ld72p, ld85, ld85p, st3s, st4s, st22s, st23s, st24s, st26w, st28w, st42s, st45w, st49w, st85w, ix22, ix22p, ix23, ix23p, ix24, ix24p, ix31, ix31p, ix42, ix42p, ix104, ix104p, ln22, ln22p, ln23, ln23p, ln24, ln24p, ln31, ln31p, ln42, ln42p, al4, al22, al26, al28, al42, al49, al85, cf10, cf11, cf12, cf13, cf14, cf15, cf16, cf17, cf18, cf19, cf20, cf21, cf22, cf23, cf24, cf25, cf26, cf27, cf28, cf29, cf30, cf31, cf32, cf33, cf34, cf35, cf36, cf37, cf38, cf39, cf40, cf41, cf42, cf43, cf44, cf45, cf46, cf47, cf48, cf49, cf50, cf51, cf52, cf53, cf54, cf55, cf56, cf57, cf58, cf59, cf60, cf61, cf62, cf63, cf64, cf65, cf66, cf67, cf68, cf69, cf70, cf71, cf72, cf73, cf74, cf75, bd26_0_1_2_7_8_9_10_11_12_13_14_4_15, bd26_0_1_2_7_8_9_10_11_12_13_14_4_15p, bd28_, bd28_p, bd28_0, bd28_0p, bd28_0_1, bd28_0_1p, bd45_1_3_4_5_6, bd45_1_3_4_5_6p, bd49_0_1, bd49_0_1p, bd49_1, bd49_1p, bd74_0_1_2_3, bd74_0_1_2_3p, bd85_0, bd85_0p, bd85_0_1, bd85_0_1p, bd93_0_1_2, bd93_0_1_2p, bd94_0_1_2_3, bd94_0_1_2_3p, bs42_1_0, bs22_1_0, bs24_1_0, bs42_3_0_1_2, bs31_1_0, bs22_2_0_1, bs42_6_0_1_2_3_4_5, bs42_0_, eq4, eq4p, eq28, eq28p, eq42n, eq42np, eq42s, eq42sp, eq58n, eq58np, eq58s, eq58sp, eq63n, eq63np, eq63s, eq63sp, ne28, ne28p, ne45, ne45p]
    unfold S59_k1
    rw [← hKK]
    simp -implicitDefEqProofs only [retK_ret, resL_tmp, upd_eq, resL_nil1]
    exact ⟨⟨_, rfl, .inl ⟨rfl, hn⟩⟩, Hp.le.refl _⟩

end Go.Proofs.YtangejiigopdaaaDoor
end

section
/- A row cloned. -/
set_option linter.unusedSimpArgs false
set_option linter.unusedVariables false
set_option maxRecDepth 100000
namespace Go.Proofs.YtangejiigopdaaaDoor
open Go Go.HL

theorem clone_spec {G h : Hp} {v : Value} {L : List Int} (hv : Sees icC G h v L) (hL : L.length ≤ 17592186044320) : HCalls Tryd.prog G 62 #[v] h (fun u h' => ∃ ip, Slc icC 3 ip u L ∧ HL.Sep [ip, h] h' ∧ Dis G h') := by
  refine HCalls.assume fun d => enter62 (by simp) ?_
  unfold S62
  obtain ⟨sa, cap, rfl⟩ := hv.len
  cases sa with
  | none =>
    have hL0 : L = [] := by
      obtain ⟨s, c, e, _, h1 | ⟨b, o, rfl, _⟩⟩ := hv
      · exact h1
      · cases e
    subst hL0
    try simp -implicitDefEqProofs only [List.length_nil, regs0, retK_ret, resL_tmp, upd_eq, resL_nil1, eq42n, HL.cond_true]
    exact ⟨noHp, Slc.nil, Sep.one.none, d⟩
  | some ad =>
    try simp -implicitDefEqProofs only [regs0, retK_ret, resL_tmp, upd_eq, resL_nil1, eq42s, HL.cond_false]
    unfold S62_k1
    try simp -implicitDefEqProofs only [upd_ne, regs0, retK_ret, resL_tmp, upd_eq, resL_nil1, opH_sv, bs42_0_]
    intro x hx gx
    have s1 := (Sep.one (h := h)).new (o := .cells #[] 3 (0, 0)) hx
    have d1 := d.set (o := .cells #[] 3 (0, 0)) gx
    have o1 : Slc icC 3 (noHp.set x (.cells #[] 3 (0, 0))) (.slice (some ⟨x, 0, none⟩) 0 0) [] := ⟨some x, 0, [], rfl, set_self, rfl⟩
    have hv1 := hv.up (s1.in 1 rfl) d1
    generalize Hp.set h x _ = h1 at s1 d1 hv1 ⊢
    refine append_big icC (by decide) un42 eoint (by decide) (L := []) (M := L) s1 d1 o1 hv1 (by simp; omega) fun v2 a2 h2 o2 s2 d2 => ?_
    rw [List.nil_append] at o2
    try simp -implicitDefEqProofs (disch := first | with_reducible exact Nat.ne_of_beq_eq_false rfl | omega) only [opH_sv, opH_su, pureW_sv, opH_nil, pureW_nil, pick_t, pick_f, pick_tp, pick_fp, gd_tt, gd_ft, gd_tf, gd_ff, box_new, regs0, regs1, regs2, regs3, regs4, regs5, regs6, cells_agg, cells_int, cells_bool, cells_ptr, cells_slice, cells_string, cells_func, cells_nilFunc, cells_map, retK_ret, retK_normal, resL_tmp, resL_cell, resL_nil0, resL_nil1, resL_nil2, resL_nil3, resC_ptr, ex0, ex1, ex2, ex0p, ex1p, ex2p, HL.cond_true, HL.cond_false, thenK_normal, thenK_ret, thenK_exit, blockK_normal, blockK_ret, blockK_exit, scopeK_normal, scopeK_ret, scopeK_exit, wpH_pure, bin_add, bin_sub, bin_mul, bin_lss, bin_leq, bin_gtr, bin_geq, bin_quo, bin_rem, bin_quop, bin_remp, wrap_in, bin_addp, bin_subp, bin_mulp, bin_lssp, bin_leqp, bin_gtrp, bin_geqp, un_not, un_notp, un_neg, eq_int, ne_int, eq_intp, ne_intp, callV_fn, add_mk, upd_eq, upd_ne, cell_set_self, Nat.zero_add, Nat.add_zero, Option.some.injEq, exists_eq_left', List.getElem?_cons_succ, List.getElem?_cons_zero, true_and, and_true, bne_self_eq_false, beq_self_eq_true, Bool.not_true, Bool.not_false, Bool.and_true, Bool.and_self, Bool.and_false, Bool.true_and, List.length_cons, List.length_nil, ne_eq, not_false_eq_true, Nat.reduceAdd, Nat.reduceMul, if_true, if_false, oneCell_int, oneCell_bool, oneCell_ptr, oneCell_slice, oneCell_string, oneCell_func, oneCell_map, Int.toNat_natCast, List.set_cons_zero, List.set_cons_succ, Nat.lt_irrefl, Nat.zero_lt_succ, Nat.succ_lt_succ_iff, fa26_0, fa26_0p, fa26_1, fa26_1p, fa26_10, fa26_10p, fa26_11, fa26_11p, fa26_12, fa26_12p, fa26_13, fa26_13p, fa26_14, fa26_14p, fa26_15, fa26_15p, fa26_2, fa26_2p, fa26_3, fa26_3p, fa26_4, fa26_4p, fa26_5, fa26_5p, fa26_6, fa26_6p, fa26_7, fa26_7p, fa26_8, fa26_8p, fa26_9, fa26_9p, fa28_0, fa28_0p, fa28_1, fa28_1p, fa45_0, fa45_0p, fa45_1, fa45_1p, fa45_2, fa45_2p, fa45_3, fa45_3p, fa45_4, fa45_4p, fa45_5, fa45_5p, fa45_6, fa45_6p, fa49_0, fa49_0p, fa49_1, fa49_1p, fa74_0, fa74_0p, fa74_1, fa74_1p, fa74_2, fa74_2p, fa74_3, fa74_3p, fa85_0, fa85_0p, fa85_1, fa85_1p, fa93_0, fa93_0p, fa93_1, fa93_1p, fa93_2, fa93_2p, ld3, ld3p, ld4, ld4p, ld22, ld22p, ld23, ld23p, ld24, ld24p, ld26, ld26p, ld28, ld28p, ld42, ld42p, ld45, ld45p, ld49, ld49p, ld58, ld58p, ld69, ld69p, ld72, ld72p, ld85, ld85p, st3s, st4s, st22s, st23s, st24s, st26w, st28w, st42s, st45w, st49w, st85w, ix22, ix22p, ix23, ix23p, ix24, ix24p, ix31, ix31p, ix42, ix42p, ix104, ix104p, ln22, ln22p, ln23, ln23p, ln24, ln24p, ln31, ln31p, ln42, ln42p, al4, al22, al26, al28, al42, al49, al85, cf10, cf11, cf12, cf13, cf14, cf15, cf16, cf17, cf18, cf19, cf20, cf21, cf22, cf23, cf24, cf25, cf26, cf27, cf28, cf29, cf30, cf31, cf32, cf33, cf34, cf35, cf36, cf37, cf38, cf39, cf40, cf41, cf42, cf43, cf44, cf45, cf46, cf47, cf48, cf49, cf50, cf51, cf52, cf53, cf54, cf55, cf56, cf57, cf58, cf59, cf60, cf61, cf62, cf63, cf64, cf65, cf66, cf67, cf68, cf69, cf70, cf71, cf72, cf73, cf74, cf75, bd26_0_1_2_7_8_9_10_11_12_13_14_4_15, bd26_0_1_2_7_8_9_10_11_12_13_14_4_15p, bd28_, bd28_p, bd28_0, bd28_0p, bd28_0_1, bd28_0_1p, bd45_1_3_4_5_6, bd45_1_3_4_5_6p, bd49_0_1, bd49_0_1p, bd49_1, bd49_1p, bd74_0_1_2_3, bd74_0_1_2_3p, bd85_0, bd85_0p, bd85_0_1, bd85_0_1p, bd93_0_1_2, bd93_0_1_2p, bd94_0_1_2_3, bd94_0_1_2_3p, bs42_1_0, bs22_1_0, bs24_1_0, bs42_3_0_1_2, bs31_1_0, bs22_2_0_1, bs42_6_0_1_2_3_4_5, bs42_0_, eq4, eq4p, eq28, eq28p, eq42n, eq42np, eq42s, eq42sp, eq58n, eq58np, eq58s, eq58sp, eq63n, eq63np, eq63s, eq63sp, ne28, ne28p, ne45, ne45p]
    exact ⟨a2, o2, s2, d2⟩

/-- Changed about up to i from both ends. -/
def Flipped {α : Type} (L M : List α) (i : Nat) : Prop := M.length = L.length ∧ ∀ p : Nat, p < L.length → M[p]? = if p < i ∨ L.length - i ≤ p then L[L.length - 1 - p]? else L[p]?
theorem Flipped.zero {α : Type} {L : List α} : Flipped L L 0 := ⟨rfl, fun p hp => by rw [if_neg (by omega)]⟩
theorem Flipped.all {α : Type} {L M : List α} {i : Nat} (f : Flipped L M i) (h : L.length ≤ 2 * i + 1) : M = L.reverse := by
  refine List.ext_getElem? fun p => ?_
  by_cases hp : p < L.length
  · rw [f.2 p hp, List.getElem?_reverse hp]
    split
    · rfl
    · congr 1
      omega
  · rw [List.getElem?_eq_none (by rw [f.1]; omega), List.getElem?_eq_none (by simp; omega)]
theorem Flipped.next {α : Type} {L M : List α} {i : Nat} {x y : α} (f : Flipped L M i) (h : 2 * i + 1 < L.length) (hx : M[i]? = some x) (hy : M[L.length - 1 - i]? = some y) : Flipped L ((M.set i y).set (L.length - 1 - i) x) (i + 1) := by
  refine ⟨by rw [List.length_set, List.length_set, f.1], fun p hp => ?_⟩
  have e1 : L[i]? = some x := by rw [← hx, f.2 i (by omega), if_neg (by omega)]
  have e2 : L[L.length - 1 - i]? = some y := by rw [← hy, f.2 _ (by omega), if_neg (by omega)]
  by_cases h1 : p = L.length - 1 - i
  · subst h1
    rw [List.getElem?_set_self (by rw [List.length_set, f.1]; omega), if_pos (by omega), show L.length - 1 - (L.length - 1 - i) = i by omega, e1]
  · rw [List.getElem?_set_ne (by omega)]
    by_cases h2 : p = i
    · subst h2
      rw [List.getElem?_set_self (by rw [f.1]; omega), if_pos (by omega), e2]
    · rw [List.getElem?_set_ne (by omega), f.2 p hp]
      by_cases h3 : p < i ∨ L.length - i ≤ p
      · rw [if_pos h3, if_pos (by omega)]
      · rw [if_neg h3, if_neg (by omega)]

set_option maxHeartbeats 4000000 in
theorem revi_spec {G h a : Hp} {R : List Hp} {v : Value} {L : List Int} (s : HL.Sep (a :: R) h) (o : Slc icC 3 a v L) (hL : L.length ≤ 17592186044320) : HCalls Tryd.prog G 63 #[v] h (fun u h' => ∃ a', Slc icC 3 a' v L.reverse ∧ HL.Sep (a' :: R) h' ∧ Dis G h') := by
  refine HCalls.assume fun d => enter63 (by simp) ?_
  unfold S63
  obtain ⟨sa, cap, rfl, _⟩ := o.len (by decide)
  simp -implicitDefEqProofs (disch := first | with_reducible exact Nat.ne_of_beq_eq_false rfl | omega) only [regs0, opH_sv, ln42, bin_sub, wrap_in]
  generalize hKK : retK Tryd.prog G _ _ = KK
  refine loop_I (fun m q h3 => ∃ (i : Nat) (a : Hp) (M : List Int), m = L.length - i ∧ 2 * i ≤ L.length + 1 ∧ q 0 = .slice sa L.length cap ∧ q 2 = .int .i64 i ∧ q 3 = .int .i64 ((L.length : Int) - 1 - i) ∧ Slc icC 3 a (.slice sa L.length cap) M ∧ Flipped L M i ∧ HL.Sep (a :: R) h3 ∧ Dis G h3) ?_
    (m := L.length) ⟨0, a, L, rfl, by omega, by simp -implicitDefEqProofs (maxSteps := 2000000) (disch := first | with_reducible exact Nat.ne_of_beq_eq_false rfl | exact oneCell_int | exact oneCell_bool | omega | rfl | (simp; done) | fail) only [upd_ne, regs0], by simp -implicitDefEqProofs (maxSteps := 2000000) (disch := first | with_reducible exact Nat.ne_of_beq_eq_false rfl | exact oneCell_int | exact oneCell_bool | omega | rfl | (simp; done) | fail) only [upd_ne, upd_eq] <;> rfl, by simp -implicitDefEqProofs (maxSteps := 2000000) (disch := first | with_reducible exact Nat.ne_of_beq_eq_false rfl | exact oneCell_int | exact oneCell_bool | omega | rfl | (simp; done) | fail) only [upd_eq]; simp, o, Flipped.zero, s, d⟩
  clear s o d
  rintro m q h3 ⟨i, a, M, rfl, hi, q0, q2, q3, o, fl, s3, d3⟩ X HX
  unfold S63_l1
  simp -implicitDefEqProofs only [q2, q3, thenK_exit, blockK_exit, if_true, opH_sv, bin_lss]
  refine cond_dec (fun hlt => ?_) (fun hge => ?_)
  rotate_left
  · try simp -implicitDefEqProofs only [opH_sv, opH_su, pureW_sv, opH_nil, pureW_nil, pick_t, pick_f, pick_tp, pick_fp, gd_tt, gd_ft, gd_tf, gd_ff, box_new, regs0, regs1, regs2, regs3, regs4, regs5, regs6, cells_agg, cells_int, cells_bool, cells_ptr, cells_slice, cells_string, cells_func, cells_nilFunc, cells_map, retK_ret, retK_normal, resL_tmp, resL_cell, resL_nil0, resL_nil1, resL_nil2, resL_nil3, resC_ptr, ex0, ex1, ex2, ex0p, ex1p, ex2p, HL.cond_true, HL.cond_false, thenK_normal, thenK_ret, thenK_exit, blockK_normal, blockK_ret, blockK_exit, scopeK_normal, scopeK_ret, scopeK_exit, wpH_pure, bin_add, bin_sub, bin_mul, bin_lss, bin_leq, bin_gtr, bin_geq, bin_quo, bin_rem, bin_quop, bin_remp, wrap_in, bin_addp, bin_subp, bin_mulp, bin_lssp, bin_leqp, bin_gtrp, bin_geqp, un_not, un_notp, un_neg, eq_int, ne_int, eq_intp, ne_intp, callV_fn, add_mk, upd_eq, upd_ne, cell_set_self, Nat.zero_add, Nat.add_zero, Option.some.injEq, exists_eq_left', List.getElem?_cons_succ, List.getElem?_cons_zero, true_and, and_true, bne_self_eq_false, beq_self_eq_true, Bool.not_true, Bool.not_false, Bool.and_true, Bool.and_self, Bool.and_false, Bool.true_and, List.length_cons, List.length_nil, ne_eq, not_false_eq_true, Nat.reduceAdd, Nat.reduceMul, if_true, if_false, oneCell_int, oneCell_bool, oneCell_ptr, oneCell_slice, oneCell_string, oneCell_func, oneCell_map, Int.toNat_natCast, List.set_cons_zero, List.set_cons_succ, Nat.lt_irrefl, Nat.zero_lt_succ, Nat.succ_lt_succ_iff, fa26_0, fa26_0p, fa26_1, fa26_1p, fa26_10, fa26_10p, fa26_11, fa26_11p, fa26_12, fa26_12p, fa26_13, fa26_13p, fa26_14, fa26_14p, fa26_15, fa26_15p, fa26_2, fa26_2p, fa26_3, fa26_3p, fa26_4, fa26_4p, fa26_5, fa26_5p, fa26_6, fa26_6p, fa26_7, fa26_7p, fa26_8, fa26_8p, fa26_9, fa26_9p, fa28_0, fa28_0p, fa28_1, fa28_1p, fa45_0, fa45_0p, fa45_1, fa45_1p, fa45_2, fa45_2p, fa45_3, fa45_3p, fa45_4, fa45_4p, fa45_5, fa45_5p, fa45_6, fa45_6p, fa49_0, fa49_0p, fa49_1, fa49_1p, fa74_0, fa74_0p, fa74_1, fa74_1p, fa74_2, fa74_2p, fa74_3, fa74_3p, fa85_0, fa85_0p, fa85_1, fa85_1p, fa93_0, fa93_0p, fa93_1, fa93_1p, fa93_2, fa93_2p, ld3, ld3p, ld4, ld4p, ld22, ld22p, ld23, ld23p, ld24, ld24p, ld26, ld26p, ld28, ld28p, ld42, ld42p, ld45, ld45p, ld49, ld49p, ld58, ld58p, ld69, ld69p, ld72, ld72p, ld85, ld85p, st3s, st4s, st22s, st23s, st24s, st26w, st28w, st42s, st45w, st49w, st85w, ix22, ix22p, ix23, ix23p, ix24, ix24p, ix31, ix31p, ix42, ix42p, ix104, ix104p, ln22, ln22p, ln23, ln23p, ln24, ln24p, ln31, ln31p, ln42, ln42p, al4, al22, al26, al28, al42, al49, al85, cf10, cf11, cf12, cf13, cf14, cf15, cf16, cf17, cf18, cf19, cf20, cf21, cf22, cf23, cf24, cf25, cf26, cf27, cf28, cf29, cf30, cf31, cf32, cf33, cf34, cf35, cf36, cf37, cf38, cf39, cf40, cf41, cf42, cf43, cf44, cf45, cf46, cf47, cf48, cf49, cf50, cf51, cf52, cf53, cf54, cf55, cf56, cf57, cf58, cf59, cf60, cf61, cf62, cf63, cf64, cf65, cf66, cf67, cf68, cf69, cf70, cf71, cf72, cf73, cf74, cf75, bd26_0_1_2_7_8_9_10_11_12_13_14_4_15, bd26_0_1_2_7_8_9_10_11_12_13_14_4_15p, bd28_, bd28_p, bd28_0, bd28_0p, bd28_0_1, bd28_0_1p, bd45_1_3_4_5_6, bd45_1_3_4_5_6p, bd49_0_1, bd49_0_1p, bd49_1, bd49_1p, bd74_0_1_2_3, bd74_0_1_2_3p, bd85_0, bd85_0p, bd85_0_1, bd85_0_1p, bd93_0_1_2, bd93_0_1_2p, bd94_0_1_2_3, bd94_0_1_2_3p, bs42_1_0, bs22_1_0, bs24_1_0, bs42_3_0_1_2, bs31_1_0, bs22_2_0_1, bs42_6_0_1_2_3_4_5, bs42_0_, eq4, eq4p, eq28, eq28p, eq42n, eq42np, eq42s, eq42sp, eq58n, eq58np, eq58s, eq58sp, eq63n, eq63np, eq63s, eq63sp, ne28, ne28p, ne45, ne45p]
    rw [← hKK]
    try simp -implicitDefEqProofs only [retK_normal, resL_nil0]
    rw [fl.all (by omega)] at o
    exact ⟨a, o, s3, d3⟩
  have hij : 2 * i + 1 < L.length := by omega
  obtain ⟨j, ej⟩ : ∃ j : Nat, j = L.length - 1 - i := ⟨_, rfl⟩
  have ejn : (L.length : Int) - 1 - (i : Int) = (j : Int) := by omega
  rw [ejn] at q3
  have hil : (i : Int) < L.length := by omega
  have hjl : (j : Int) < L.length := by omega
  obtain ⟨x, hx⟩ : ∃ x, M[i]? = some x := ⟨_, List.getElem?_eq_getElem (by rw [fl.1]; omega)⟩
  obtain ⟨y, hy⟩ : ∃ y, M[j]? = some y := ⟨_, List.getElem?_eq_getElem (by rw [fl.1]; omega)⟩
  have sv := o.sees (G := G) (by decide) (s3.in 0 rfl)
  obtain ⟨b, of, rfl, zx⟩ := Sees.num sv hx
  obtain ⟨b', of', e', zy⟩ := Sees.num sv hy
  cases e'
  obtain ⟨ob, o'⟩ := o
  cases ob with
  | none => exact absurd o'.2 (fun e => by rw [e] at hx; simp at hx)
  | some ob =>
  obtain ⟨cap', t, e9, hb, hbl⟩ := o'
  rw [fl.1] at e9
  simp only [Value.slice.injEq, Option.some.injEq, Addr.mk.injEq, and_true, true_and] at e9
  obtain ⟨⟨rfl, rfl⟩, rfl⟩ := e9
  rw [Nat.zero_add] at zx zy
  have hb3 := s3.at 0 rfl hb
  unfold S63_l1_k2
  simp -implicitDefEqProofs (disch := first | with_reducible exact Nat.ne_of_beq_eq_false rfl | omega) only [upd_ne, q0, q3, q2, opH_su, pureW_sv, ix42p, Int.toNat_natCast, Nat.mul_one, add_mk, Nat.zero_add, ld3p, zx, Option.some.injEq, exists_eq_left', zy]
  have hset : ∀ {N : List Int} {p : Nat} {n : Int}, p < N.length → (icC.rows N ++ t).set p (.int .i64 n) = icC.rows (N.set p n) ++ t := by
    intro N p n hp
    have := icC.rows_put (t := t) (x := n) hp
    rw [show icC.n = 1 from rfl, Nat.mul_one] at this
    exact this
  have hlen : ∀ {N : List Int} {p : Nat}, p < N.length → p < (icC.rows N ++ t).length := by
    intro N p hp
    rw [List.length_append, icC.rows_length, show icC.n = 1 from rfl]
    omega
  rw [store1_eq sz3 rfl hb3 (hlen (by rw [fl.1]; omega)), hset (by rw [fl.1]; omega)]
  have s4 := s3.put (o := .cells (icC.rows (M.set i y) ++ t).toArray 3 (0, 0)) hb
  have d4 := d3.set (o := .cells (icC.rows (M.set i y) ++ t).toArray 3 (0, 0)) (d3 _ _ hb3)
  generalize Hp.set h3 b _ = h4 at s4 d4 ⊢
  try simp -implicitDefEqProofs only [opH_sv, opH_su, pureW_sv, opH_nil, pureW_nil, pick_t, pick_f, pick_tp, pick_fp, gd_tt, gd_ft, gd_tf, gd_ff, box_new, regs0, regs1, regs2, regs3, regs4, regs5, regs6, cells_agg, cells_int, cells_bool, cells_ptr, cells_slice, cells_string, cells_func, cells_nilFunc, cells_map, retK_ret, retK_normal, resL_tmp, resL_cell, resL_nil0, resL_nil1, resL_nil2, resL_nil3, resC_ptr, ex0, ex1, ex2, ex0p, ex1p, ex2p, HL.cond_true, HL.cond_false, thenK_normal, thenK_ret, thenK_exit, blockK_normal, blockK_ret, blockK_exit, scopeK_normal, scopeK_ret, scopeK_exit, wpH_pure, bin_add, bin_sub, bin_mul, bin_lss, bin_leq, bin_gtr, bin_geq, bin_quo, bin_rem, bin_quop, bin_remp, wrap_in, bin_addp, bin_subp, bin_mulp, bin_lssp, bin_leqp, bin_gtrp, bin_geqp, un_not, un_notp, un_neg, eq_int, ne_int, eq_intp, ne_intp, callV_fn, add_mk, upd_eq, upd_ne, cell_set_self, Nat.zero_add, Nat.add_zero, Option.some.injEq, exists_eq_left', List.getElem?_cons_succ, List.getElem?_cons_zero, true_and, and_true, bne_self_eq_false, beq_self_eq_true, Bool.not_true, Bool.not_false, Bool.and_true, Bool.and_self, Bool.and_false, Bool.true_and, List.length_cons, List.length_nil, ne_eq, not_false_eq_true, Nat.reduceAdd, Nat.reduceMul, if_true, if_false, oneCell_int, oneCell_bool, oneCell_ptr, oneCell_slice, oneCell_string, oneCell_func, oneCell_map, Int.toNat_natCast, List.set_cons_zero, List.set_cons_succ, Nat.lt_irrefl, Nat.zero_lt_succ, Nat.succ_lt_succ_iff, fa26_0, fa26_0p, fa26_1, fa26_1p, fa26_10, fa26_10p, fa26_11, fa26_11p, fa26_12, fa26_12p, fa26_13, fa26_13p, fa26_14, fa26_14p, fa26_15, fa26_15p, fa26_2, fa26_2p, fa26_3, fa26_3p, fa26_4, fa26_4p, fa26_5, fa26_5p, fa26_6, fa26_6p, fa26_7, fa26_7p, fa26_8, fa26_8p, fa26_9, fa26_9p, fa28_0, fa28_0p, fa28_1, fa28_1p, fa45_0, fa45_0p, fa45_1, fa45_1p, fa45_2, fa45_2p, fa45_3, fa45_3p, fa45_4, fa45_4p, fa45_5, fa45_5p, fa45_6, fa45_6p, fa49_0, fa49_0p, fa49_1, fa49_1p, fa74_0, fa74_0p, fa74_1, fa74_1p, fa74_2, fa74_2p, fa74_3, fa74_3p, fa85_0, fa85_0p, fa85_1, fa85_1p, fa93_0, fa93_0p, fa93_1, fa93_1p, fa93_2, fa93_2p, ld3, ld3p, ld4, ld4p, ld22, ld22p, ld23, ld23p, ld24, ld24p, ld26, ld26p, ld28, ld28p, ld42, ld42p, ld45, ld45p, ld49, ld49p, ld58, ld58p, ld69, ld69p, ld72, ld72p, ld85, ld85p, st3s, st4s, st22s, st23s, st24s, st26w, st28w, st42s, st45w, st49w, st85w, ix22, ix22p, ix23, ix23p, ix24, ix24p, ix31, ix31p, ix42, ix42p, ix104, ix104p, ln22, ln22p, ln23, ln23p, ln24, ln24p, ln31, ln31p, ln42, ln42p, al4, al22, al26, al28, al42, al49, al85, cf10, cf11, cf12, cf13, cf14, cf15, cf16, cf17, cf18, cf19, cf20, cf21, cf22, cf23, cf24, cf25, cf26, cf27, cf28, cf29, cf30, cf31, cf32, cf33, cf34, cf35, cf36, cf37, cf38, cf39, cf40, cf41, cf42, cf43, cf44, cf45, cf46, cf47, cf48, cf49, cf50, cf51, cf52, cf53, cf54, cf55, cf56, cf57, cf58, cf59, cf60, cf61, cf62, cf63, cf64, cf65, cf66, cf67, cf68, cf69, cf70, cf71, cf72, cf73, cf74, cf75, bd26_0_1_2_7_8_9_10_11_12_13_14_4_15, bd26_0_1_2_7_8_9_10_11_12_13_14_4_15p, bd28_, bd28_p, bd28_0, bd28_0p, bd28_0_1, bd28_0_1p, bd45_1_3_4_5_6, bd45_1_3_4_5_6p, bd49_0_1, bd49_0_1p, bd49_1, bd49_1p, bd74_0_1_2_3, bd74_0_1_2_3p, bd85_0, bd85_0p, bd85_0_1, bd85_0_1p, bd93_0_1_2, bd93_0_1_2p, bd94_0_1_2_3, bd94_0_1_2_3p, bs42_1_0, bs22_1_0, bs24_1_0, bs42_3_0_1_2, bs31_1_0, bs22_2_0_1, bs42_6_0_1_2_3_4_5, bs42_0_, eq4, eq4p, eq28, eq28p, eq42n, eq42np, eq42s, eq42sp, eq58n, eq58np, eq58s, eq58sp, eq63n, eq63np, eq63s, eq63sp, ne28, ne28p, ne45, ne45p, q0, q3, ix42 (Int.natCast_nonneg j) hjl, Int.toNat_natCast, Nat.mul_one]
  rw [store1_eq sz3 rfl (s4.at 0 rfl set_self) (hlen (by rw [List.length_set, fl.1]; omega)), hset (by rw [List.length_set, fl.1]; omega)]
  have s5 := s4.put (o := .cells (icC.rows ((M.set i y).set j x) ++ t).toArray 3 (0, 0)) set_self
  rw [set_set] at s5
  have d5 := d4.set (o := .cells (icC.rows ((M.set i y).set j x) ++ t).toArray 3 (0, 0)) (d4 _ _ (s4.at 0 rfl set_self))
  generalize Hp.set h4 b _ = h5 at s5 d5 ⊢
  have fn := fl.next hij hx (by rw [← ej]; exact hy)
  rw [← ej] at fn
  unfold S63_l1_k3
  simp -implicitDefEqProofs (disch := first | with_reducible exact Nat.ne_of_beq_eq_false rfl | omega) only [upd_ne, q2, q3, thenK_normal, opH_sv, bin_sub, wrap_in, bin_add]
  refine HX (L.length - (i + 1)) _ _ (by omega) ⟨i + 1, _, _, rfl, by omega, by simp -implicitDefEqProofs (disch := first | with_reducible exact Nat.ne_of_beq_eq_false rfl | omega) only [upd_ne, q0], by simp -implicitDefEqProofs (disch := first | with_reducible exact Nat.ne_of_beq_eq_false rfl | omega) only [upd_ne, upd_eq] <;> rfl, by simp -implicitDefEqProofs (disch := first | with_reducible exact Nat.ne_of_beq_eq_false rfl | omega) only [upd_eq] <;> (congr 1; omega), ⟨some b, cap, t, by rw [fn.1], set_self, ?_⟩, fn, s5, d5⟩
  rw [← hbl, List.length_append, List.length_append, icC.rows_length, icC.rows_length, List.length_set, List.length_set]

end Go.Proofs.YtangejiigopdaaaDoor
end

section
/- A bin found. -/
set_option linter.unusedSimpArgs false
set_option linter.unusedVariables false
set_option maxRecDepth 100000
namespace Go.Proofs.YtangejiigopdaaaDoor
open Go Go.HL

/-- Where a bin stands first, and what stands above it (the highest first). -/
def aboveL (B : List Int) (bin : Int) : List Int := (B.drop (B.findIdx (fun x => bin == x) + 1)).reverse
def findIn (S : List Stk) (bin : Int) : List Cell → Option (Cell × List Int)
  | [] => none
  | c :: L => if bin ∈ binsL S c then some (c, aboveL (binsL S c) bin) else findIn S bin L
/-- The telling goes on while the bin is not there. -/
def goesOn (S : List Stk) (bin : Int) (L : List Cell) : Bool := match L.getLast? with
  | none => true
  | some c => decide (bin ∉ binsL S c)

theorem firstS {S : List Stk} {c : Cell} {n : Int} (f : FirstAt (fun x : Stk => x.1 == c) S n) : (n = -1 ∧ binsL S c = []) ∨ ∃ (i : Nat) (s : Stk), n = i ∧ S[i]? = some s ∧ binsL S c = s.2 := by
  rcases f with ⟨h1, h2⟩ | ⟨i, h1, ⟨s, h2, h3⟩, h4⟩
  · exact .inl ⟨h1, binsL_not h2⟩
  · refine .inr ⟨i, s, h1, h2, ?_⟩
    clear h1
    induction S generalizing i with
    | nil => simp at h2
    | cons y S ih =>
      rw [binsL]
      cases i with
      | zero =>
        simp at h2
        subst h2
        rw [if_pos h3]
      | succ i =>
        simp at h2
        rw [List.take_succ_cons, List.any_cons, Bool.or_eq_false_iff] at h4
        rw [if_neg (by rw [h4.1]; decide)]
        exact ih i h4.2 h2
theorem firstI {B : List Int} {bin n : Int} (f : FirstAt (fun x => bin == x) B n) : (n = -1 ∧ bin ∉ B) ∨ ∃ i : Nat, n = i ∧ i < B.length ∧ bin ∈ B ∧ B.findIdx (fun x => bin == x) = i := by
  rcases f with ⟨h1, h2⟩ | ⟨i, h1, ⟨s, h2, h3⟩, h4⟩
  · refine .inl ⟨h1, fun hm => ?_⟩
    have := List.any_eq_false.1 h2 bin hm
    simp at this
  · have hlt := (List.getElem?_eq_some_iff.1 h2).1
    refine .inr ⟨i, h1, hlt, by rw [eq_of_beq h3]; exact List.mem_of_getElem? h2, ?_⟩
    rw [List.findIdx_eq hlt]
    refine ⟨by rw [(List.getElem?_eq_some_iff.1 h2).2]; exact h3, fun j hj => ?_⟩
    have hm : B[j]'(by omega) ∈ B.take i := by
      rw [List.mem_take_iff_getElem]
      exact ⟨j, by omega, rfl⟩
    simpa using List.any_eq_false.1 h4 _ hm

end Go.Proofs.YtangejiigopdaaaDoor
end

section
/- A bin found: one round. -/
set_option linter.unusedSimpArgs false
set_option linter.unusedVariables false
set_option maxRecDepth 100000
namespace Go.Proofs.YtangejiigopdaaaDoor
open Go Go.HL

abbrev svO (v : Value) : Obj := .cells #[v] 24 (0, 0)
abbrev ivO (v : Value) : Obj := .cells #[v] 42 (0, 0)
abbrev inO (n : Int) : Obj := .cells #[.int .i64 n] 3 (0, 0)
def FYs (w : Hp) (l x6 x7 x8 v0 v1 : Nat) (o : Obj) (sv : Value) (bin : Int) (c : Cell) (vv : Value) (ok : Bool) : List Hp :=
  [noHp.set l o, noHp.set x6 (cellO c), noHp.set x7 (ivO vv), noHp.set x8 (boolO ok), w, noHp.set v0 (svO sv), noHp.set v1 (inO bin)]
def FY (w : Hp) (l x6 x7 x8 v0 v1 : Nat) (o : Obj) (sv : Value) (bin : Int) (L : List Cell) (a : Hp) : Prop := HL.Sep (FYs w l x6 x7 x8 v0 v1 o sv bin (0, 0) (.slice none 0 0) false) a
def FZ (w : Hp) (l x6 x7 x8 v0 v1 : Nat) (o : Obj) (sv : Value) (bin : Int) (S : List Stk) (L : List Cell) (a : Hp) : Prop :=
  ∃ c io vv, L.getLast? = some c ∧ bin ∈ binsL S c ∧ Slc icC 3 io vv (aboveL (binsL S c) bin) ∧ HL.Sep (FYs w l x6 x7 x8 v0 v1 o sv bin c vv true ++ [io]) a

theorem st_iv {G h : Hp} {b : Nat} {z : Value} {a : Option Addr} {n c : Nat} {K : Unit → Hp → Prop} (hb : h b = some (ivO z)) : wpH Tryd.prog G (Instr.storeAt 42 (.pointer (some ⟨b, 0, none⟩)) (.slice a n c)) h K = K () (h.set b (ivO (.slice a n c))) := by
  rw [store1_eq sz42 rfl hb (by simp)]
  rfl

set_option maxHeartbeats 4000000 in
theorem find_yield {G : Hp} {y' : Value} {w : Hp} {l x6 x7 x8 v0 v1 : Nat} {o : Option Exit → Obj} {S : List Stk} {sv : Value} {bin : Int} {r : Rg} (gl : G l = none) (ho : ∀ e, isCells (o e) = false)
    (hss : ∀ G, StS G w sv S) (hS : S.length ≤ 100000000000000) (hB : ∀ s ∈ S, s.2.length ≤ 17592186044320)
    (r4 : r 4 = .pointer (some ⟨v0, 0, none⟩)) (r5 : r 5 = .pointer (some ⟨v1, 0, none⟩)) (r6 : r 6 = .pointer (some ⟨x6, 0, none⟩)) (r7 : r 7 = .pointer (some ⟨x7, 0, none⟩)) (r8 : r 8 = .pointer (some ⟨x8, 0, none⟩))
    (hy : ∀ (args : Array Value) (h1 : Hp) (K1 : Value → Hp → Prop), args.size = 1 → h1 l = some (o none) →
      S35_a2 G (setR 47 #[18] args r) h1 (fun e r2 h2 => e = .normal ∧ h2 l = some (o none) ∧ ∀ ob, isCells ob = false → S35_b2 G r2 (h2.set l ob) (fun e _ h3 => h3 l = some ob ∧ match e with
        | .normal => K1 (.bool true) (h3.set l (o none))
        | .panic _ => False
        | .outgrown => False
        | e => K1 (.bool false) (h3.set l (o (some e))))) →
      opH Tryd.prog G (xCallV y' args) h1 K1) :
    Yl cellV G y' (FY w l x6 x7 x8 v0 v1 (o none) sv bin) (FZ w l x6 x7 x8 v0 v1 (o (some .ret)) sv bin S) (goesOn S bin) := by
  rintro L m a q h pa s d
  have s1 := s.swap.split pa
  simp only [List.append_nil] at s1
  unfold FYs at s1
  refine hy #[cellV m] h _ rfl (s1.at 1 rfl set_self) ?_
  rw [setR1 (by decide)]
  unfold S35_a2
  simp -implicitDefEqProofs only [upd_eq, true_and, opH_su, opH_sv, al28, st28w]
  intro x hx gx
  try simp -implicitDefEqProofs only [opH_sv, opH_su, pureW_sv, opH_nil, pureW_nil, pick_t, pick_f, pick_tp, pick_fp, gd_tt, gd_ft, gd_tf, gd_ff, box_new, regs0, regs1, regs2, regs3, regs4, regs5, regs6, cells_agg, cells_int, cells_bool, cells_ptr, cells_slice, cells_string, cells_func, cells_nilFunc, cells_map, retK_ret, retK_normal, resL_tmp, resL_cell, resL_nil0, resL_nil1, resL_nil2, resL_nil3, resC_ptr, ex0, ex1, ex2, ex0p, ex1p, ex2p, HL.cond_true, HL.cond_false, thenK_normal, thenK_ret, thenK_exit, blockK_normal, blockK_ret, blockK_exit, scopeK_normal, scopeK_ret, scopeK_exit, wpH_pure, bin_add, bin_sub, bin_mul, bin_lss, bin_leq, bin_gtr, bin_geq, bin_quo, bin_rem, bin_quop, bin_remp, wrap_in, bin_addp, bin_subp, bin_mulp, bin_lssp, bin_leqp, bin_gtrp, bin_geqp, un_not, un_notp, un_neg, eq_int, ne_int, eq_intp, ne_intp, callV_fn, add_mk, upd_eq, upd_ne, cell_set_self, Nat.zero_add, Nat.add_zero, Option.some.injEq, exists_eq_left', List.getElem?_cons_succ, List.getElem?_cons_zero, true_and, and_true, bne_self_eq_false, beq_self_eq_true, Bool.not_true, Bool.not_false, Bool.and_true, Bool.and_self, Bool.and_false, Bool.true_and, List.length_cons, List.length_nil, ne_eq, not_false_eq_true, Nat.reduceAdd, Nat.reduceMul, if_true, if_false, oneCell_int, oneCell_bool, oneCell_ptr, oneCell_slice, oneCell_string, oneCell_func, oneCell_map, Int.toNat_natCast, List.set_cons_zero, List.set_cons_succ, Nat.lt_irrefl, Nat.zero_lt_succ, Nat.succ_lt_succ_iff, fa26_0, fa26_0p, fa26_1, fa26_1p, fa26_10, fa26_10p, fa26_11, fa26_11p, fa26_12, fa26_12p, fa26_13, fa26_13p, fa26_14, fa26_14p, fa26_15, fa26_15p, fa26_2, fa26_2p, fa26_3, fa26_3p, fa26_4, fa26_4p, fa26_5, fa26_5p, fa26_6, fa26_6p, fa26_7, fa26_7p, fa26_8, fa26_8p, fa26_9, fa26_9p, fa28_0, fa28_0p, fa28_1, fa28_1p, fa45_0, fa45_0p, fa45_1, fa45_1p, fa45_2, fa45_2p, fa45_3, fa45_3p, fa45_4, fa45_4p, fa45_5, fa45_5p, fa45_6, fa45_6p, fa49_0, fa49_0p, fa49_1, fa49_1p, fa74_0, fa74_0p, fa74_1, fa74_1p, fa74_2, fa74_2p, fa74_3, fa74_3p, fa85_0, fa85_0p, fa85_1, fa85_1p, fa93_0, fa93_0p, fa93_1, fa93_1p, fa93_2, fa93_2p, ld3, ld3p, ld4, ld4p, ld22, ld22p, ld23, ld23p, ld24, ld24p, ld26, ld26p, ld28, ld28p, ld42, ld42p, ld45, ld45p, ld49, ld49p, ld58, ld58p, ld69, ld69p, ld72, ld72p, ld85, ld85p, st3s, st4s, st22s, st23s, st24s, st26w, st28w, st42s, st45w, st49w, st85w, ix22, ix22p, ix23, ix23p, ix24, ix24p, ix31, ix31p, ix42, ix42p, ix104, ix104p, ln22, ln22p, ln23, ln23p, ln24, ln24p, ln31, ln31p, ln42, ln42p, al4, al22, al26, al28, al42, al49, al85, cf10, cf11, cf12, cf13, cf14, cf15, cf16, cf17, cf18, cf19, cf20, cf21, cf22, cf23, cf24, cf25, cf26, cf27, cf28, cf29, cf30, cf31, cf32, cf33, cf34, cf35, cf36, cf37, cf38, cf39, cf40, cf41, cf42, cf43, cf44, cf45, cf46, cf47, cf48, cf49, cf50, cf51, cf52, cf53, cf54, cf55, cf56, cf57, cf58, cf59, cf60, cf61, cf62, cf63, cf64, cf65, cf66, cf67, cf68, cf69, cf70, cf71, cf72, cf73, cf74, cf75, bd26_0_1_2_7_8_9_10_11_12_13_14_4_15, bd26_0_1_2_7_8_9_10_11_12_13_14_4_15p, bd28_, bd28_p, bd28_0, bd28_0p, bd28_0_1, bd28_0_1p, bd45_1_3_4_5_6, bd45_1_3_4_5_6p, bd49_0_1, bd49_0_1p, bd49_1, bd49_1p, bd74_0_1_2_3, bd74_0_1_2_3p, bd85_0, bd85_0p, bd85_0_1, bd85_0_1p, bd93_0_1_2, bd93_0_1_2p, bd94_0_1_2_3, bd94_0_1_2_3p, bs42_1_0, bs22_1_0, bs24_1_0, bs42_3_0_1_2, bs31_1_0, bs22_2_0_1, bs42_6_0_1_2_3_4_5, bs42_0_, eq4, eq4p, eq28, eq28p, eq42n, eq42np, eq42s, eq42sp, eq58n, eq58np, eq58s, eq58sp, eq63n, eq63np, eq63s, eq63sp, ne28, ne28p, ne45, ne45p]
  have sx := s1.new (o := cellO m) hx
  have d2 := d.set (o := cellO m) gx
  have nlx : l ≠ x := fun e => by rw [← e, s1.at 1 rfl set_self] at hx; cases hx
  refine ⟨by rw [set_other nlx]; exact s1.at 1 rfl set_self, fun ob hob => ?_⟩
  generalize Hp.set h x _ = h2 at sx d2 ⊢
  have s3 := (sx.pick 2 rfl rfl).put (o := ob) set_self
  rw [set_set] at s3
  have d3 : Dis G (h2.set l ob) := d2.set gl
  generalize Hp.set h2 l ob = h3 at s3 d3 ⊢
  have s4 : HL.Sep [noHp.set l ob, noHp.set x (cellO m), q, noHp.set x6 (cellO (0, 0)), noHp.set x7 (ivO (.slice none 0 0)), noHp.set x8 (boolO false), w, noHp.set v0 (svO sv), noHp.set v1 (inO bin)] h3 := s3
  clear s3 sx s1 d2 d
  have hl3 : h3 l = some ob := s4.at 0 rfl set_self
  have hx3 : h3 x = some (cellO m) := s4.at 1 rfl set_self
  have cx : ∀ j, cellIn G h3 ⟨x, j, none⟩ = _ := fun j => cell_of (look_own hx3)
  have c0 : ∀ j, cellIn G h3 ⟨v0, j, none⟩ = _ := fun j => cell_of (look_own (s4.at 7 rfl set_self))
  have c1 : ∀ j, cellIn G h3 ⟨v1, j, none⟩ = _ := fun j => cell_of (look_own (s4.at 8 rfl set_self))
  have hlast : (L ++ [m]).getLast? = some m := by simp
  have ss3 := (hss G).up (s4.in 6 rfl) d3
  have goon : bin ∉ binsL S m → h3 l = some ob ∧ ∃ a', Value.bool true = Value.bool (goesOn S bin (L ++ [m])) ∧ HL.Sep [a', q] (h3.set l (o none)) ∧ Dis G (h3.set l (o none)) ∧ (if goesOn S bin (L ++ [m]) = true then FY w l x6 x7 x8 v0 v1 (o none) sv bin (L ++ [m]) a' else FZ w l x6 x7 x8 v0 v1 (o (some .ret)) sv bin S (L ++ [m]) a') := by
    intro hn
    have eg : goesOn S bin (L ++ [m]) = true := by unfold goesOn; rw [hlast]; exact decide_eq_true hn
    refine ⟨hl3, ?_⟩
    have s6 := s4.put (o := o none) set_self
    rw [set_set] at s6
    have s7 := (s6.pick 1 rfl rfl).drop
    have s8 : HL.Sep (FYs w l x6 x7 x8 v0 v1 (o none) sv bin (0, 0) (.slice none 0 0) false ++ [q]) (h3.set l (o none)) := permute s7 (List.Perm.cons _ (List.perm_append_comm (l₁ := [q])))
    obtain ⟨a', s9, t9⟩ := packAll s8
    exact ⟨a', by rw [eg], s9, d3.set gl, by rw [eg, if_pos rfl]; exact t9⟩
  unfold S35_b2
  try simp -implicitDefEqProofs (disch := first | with_reducible exact Nat.ne_of_beq_eq_false rfl | omega) only [upd_ne, r4, upd_eq, opH_sv, cf59, ld24, c0, List.getElem?_cons_zero, Option.some.injEq, exists_eq_left']
  refine (indexs_spec (c := m) ss3 hx3 hS).mono ?_
  rintro _ h3 ⟨⟨n, rfl, fS⟩, rfl⟩
  rcases firstS fS with ⟨rfl, e1⟩ | ⟨i, st, rfl, hs, e1⟩
  · try simp -implicitDefEqProofs only [bin_lss, show decide ((-1 : Int) < 0) = true from rfl, HL.cond_true]
    exact goon (by rw [e1]; simp)
  try simp -implicitDefEqProofs (disch := first | with_reducible exact Nat.ne_of_beq_eq_false rfl | omega) only [bin_lss, decide_eq_false (show ¬(i : Int) < 0 by omega), HL.cond_false]
  unfold S35_b2_k3
  obtain ⟨sa, sc, rfl, raw, sr, srr⟩ := ss3
  have hil : (i : Int) < S.length := by have := (List.getElem?_eq_some_iff.1 hs).1; omega
  have hrl : raw.length = S.length := by
    obtain ⟨s', cap', e⟩ := sr.len
    simp at e
    omega
  obtain ⟨rr, hr⟩ : ∃ r, raw[i]? = some r := ⟨_, List.getElem?_eq_getElem (by omega)⟩
  obtain ⟨er, en, eb⟩ := srr i rr st hr hs
  obtain ⟨b, of, cc, e3, e4⟩ := sr.get hr
  simp only [Value.slice.injEq] at e3
  obtain ⟨rfl, -, -⟩ := e3
  have z2 := e4 2 (by decide)
  simp only [rawC, Nat.add_zero, List.getElem?_cons_zero, List.getElem?_cons_succ] at z2
  have hbl : st.2.length ≤ 17592186044320 := hB st (List.mem_of_getElem? hs)
  rw [← en] at eb
  try simp -implicitDefEqProofs (disch := first | with_reducible exact Nat.ne_of_beq_eq_false rfl | omega) only [upd_ne, r4, upd_eq, r5, opH_sv, cf61, pureW_sv, ld3p, c1, List.getElem?_cons_zero, Option.some.injEq, exists_eq_left', ld24p, c0, ix24p, Int.toNat_natCast, add_mk, fa49_1p, ld42p, z2]
  refine (indexi_spec (c := bin) (show Sees icC G h3 (.slice rr.a rr.n rr.c) st.2 from eb) (by omega)).mono ?_
  rintro _ h3 ⟨⟨n, rfl, fI⟩, rfl⟩
  rcases firstI fI with ⟨rfl, hni⟩ | ⟨p, rfl, hp, hmem, hidx⟩
  · try simp -implicitDefEqProofs (disch := first | with_reducible exact Nat.ne_of_beq_eq_false rfl | omega) only [bin_lss, show decide ((-1 : Int) < 0) = true from rfl, HL.cond_true]
    exact goon (by rw [e1]; exact hni)
  try simp -implicitDefEqProofs (disch := first | with_reducible exact Nat.ne_of_beq_eq_false rfl | omega) only [bin_lss, decide_eq_false (show ¬(p : Int) < 0 by omega), HL.cond_false]
  unfold S35_b2_k4
  try simp -implicitDefEqProofs (disch := first | with_reducible exact Nat.ne_of_beq_eq_false rfl | omega) only [upd_ne, r4, upd_eq, opH_su, opH_sv, ld28, add_mk, Nat.add_zero, Nat.zero_add, cf63, cf62, bin_add, wrap_in, ld24, c0, List.getElem?_cons_zero, Option.some.injEq, exists_eq_left', ix24 (Int.natCast_nonneg i) hil, Int.toNat_natCast, fa49_1, ld42, z2]
  have ew : IntKind.i64.wrap ((p : Int) + 1) = ((p + 1 : Nat) : Int) := by rw [wrap_in (by omega) (by omega)]; omega
  refine sees_from (c := icC) (L := st.2) (j := ((p : Int) + 1)) un42 sz3 eb (fun e => by rw [e] at hp; simp at hp) (by omega) (by omega) fun v5 s5 => ?_
  refine (clone_spec s5 (by simp; omega)).mono ?_
  rintro v6 h6 ⟨io, o6, s6, d6⟩
  have s7 := HL.Sep.split s6 s4
  rw [List.append_nil] at s7
  refine (revi_spec s7 o6 (by simp; omega)).mono ?_
  rintro _ h8 ⟨io8, o8, s8, d8⟩
  rw [show (st.2.drop ((p : Int) + 1).toNat).reverse = aboveL (binsL S m) bin by unfold aboveL; rw [e1, hidx]; rfl] at o8
  have hx8 : h8 x = some (cellO m) := s8.at 2 rfl set_self
  have cx8 : ∀ j, cellIn G h8 ⟨x, j, none⟩ = _ := fun j => cell_of (look_own hx8)
  try simp -implicitDefEqProofs only [cx8, List.getElem?_cons_zero, Option.some.injEq, List.getElem?_cons_succ, r6, r7, r8, exists_eq_left']
  obtain ⟨va, vc, rfl, _⟩ := o8.len (by decide)
  rw [st_cell (m := m) (s8.at 4 rfl set_self)]
  have s9 := (s8.pick 4 rfl rfl).put (o := cellO m) set_self
  rw [set_set] at s9
  have d9 := d8.set (o := cellO m) (d8 _ _ (s8.at 4 rfl set_self))
  generalize Hp.set h8 x6 _ = h9 at s9 d9 ⊢
  rw [st_iv (s9.at 5 rfl set_self)]
  have s10 := (s9.pick 5 rfl rfl).put (o := ivO (.slice va (aboveL (binsL S m) bin).length vc)) set_self
  rw [set_set] at s10
  have d10 := d9.set (o := ivO (.slice va (aboveL (binsL S m) bin).length vc)) (d9 _ _ (s9.at 5 rfl set_self))
  generalize Hp.set h9 x7 _ = h10 at s10 d10 ⊢
  rw [st_bool (s10.at 6 rfl set_self)]
  have s11 := (s10.pick 6 rfl rfl).put (o := boolO true) set_self
  rw [set_set] at s11
  have d11 := d10.set (o := boolO true) (d10 _ _ (s10.at 6 rfl set_self))
  generalize Hp.set h10 x8 _ = h11 at s11 d11 ⊢
  have eg : goesOn S bin (L ++ [m]) = false := by unfold goesOn; rw [hlast]; exact decide_eq_false (by rw [e1]; simpa using hmem)
  refine ⟨s11.at 4 rfl set_self, ?_⟩
  have s12 := (s11.pick 4 rfl rfl).put (o := o (some .ret)) set_self
  rw [set_set] at s12
  have s13 := (s12.pick 5 rfl rfl).drop
  have s14 := ((((((((s13.pick 5 rfl rfl).pick 5 rfl rfl).pick 8 rfl rfl).pick 8 rfl rfl).pick 8 rfl rfl).pick 6 rfl rfl).pick 7 rfl rfl).pick 8 rfl rfl).pick 8 rfl rfl
  obtain ⟨a', s15, t15⟩ := packAll (L := FYs w l x6 x7 x8 v0 v1 (o (some .ret)) (.slice (some ⟨b, of, none⟩) S.length sc) bin m (.slice va (aboveL (binsL S m) bin).length vc) true ++ [io8]) (q := q) s14
  exact ⟨a', by rw [eg], s15, d11.set gl, by rw [eg, if_neg (by decide)]; exact ⟨m, io8, _, hlast, by rw [e1]; exact hmem, o8, t15⟩⟩

end Go.Proofs.YtangejiigopdaaaDoor
end

section
/- A bin found: the walk. -/
set_option linter.unusedSimpArgs false
set_option linter.unusedVariables false
set_option maxRecDepth 100000
namespace Go.Proofs.YtangejiigopdaaaDoor
open Go Go.HL

theorem feed_find {S : List Stk} {bin : Int} : ∀ {M L : List Cell}, (findIn S bin M = none ∧ feed (goesOn S bin) L M = (L ++ M, true)) ∨ (∃ c N, findIn S bin M = some (c, aboveL (binsL S c) bin) ∧ feed (goesOn S bin) L M = (N, false) ∧ N.getLast? = some c)
  | [], L => .inl ⟨rfl, by simp [feed]⟩
  | c :: M, L => by
    have hl : (L ++ [c]).getLast? = some c := by simp
    by_cases hb : bin ∈ binsL S c
    · have hg : goesOn S bin (L ++ [c]) = false := by unfold goesOn; rw [hl]; exact decide_eq_false (by simpa using hb)
      exact .inr ⟨c, L ++ [c], by rw [findIn, if_pos hb], feed_f hg, hl⟩
    · have hg : goesOn S bin (L ++ [c]) = true := by unfold goesOn; rw [hl]; exact decide_eq_true hb
      rw [findIn, if_neg hb, feed_t hg]
      rcases feed_find (M := M) (L := L ++ [c]) with ⟨h1, h2⟩ | h
      · exact .inl ⟨h1, by rw [h2]; simp⟩
      · exact .inr h

set_option maxHeartbeats 4000000 in
theorem find_in {G h ya ga w : Hp} {yp gp kb mb wn k : Nat} {f : Nat → Nat → Int} {ht bin : Int} {hv : Cell → Int} {is : Cell → Bool} {S : List Stk} {sv tv : Value} (s : HL.Sep [ya, ga, w] h) (yo : YardO ya yp gp mb ht tv hv is) (go : GO ga gp kb wn k f) (hss : ∀ G, StS G w sv S) (hS : S.length ≤ 100000000000000) (hB : ∀ s ∈ S, s.2.length ≤ 17592186044320) :
    HCalls Tryd.prog G 35 #[.pointer (some ⟨yp, 0, none⟩), sv, .int .i64 bin] h (fun u h' => Dis G h' ∧ ((findIn S bin (stacksW wn k f) = none ∧ u = .tuple #[cellV (0, 0), .slice none 0 0, .bool false] ∧ HL.Sep [ya, ga, w] h') ∨
      (∃ c io vv, findIn S bin (stacksW wn k f) = some (c, aboveL (binsL S c) bin) ∧ bin ∈ binsL S c ∧ u = .tuple #[cellV c, vv, .bool true] ∧ Slc icC 3 io vv (aboveL (binsL S c) bin) ∧ HL.Sep [io, ya, ga, w] h'))) := by
  obtain ⟨sa, sc, rfl, _⟩ := hss G
  refine HCalls.assume fun d => enter35 (by simp) ?_
  unfold S35
  simp -implicitDefEqProofs only [regs1, regs2, regs0, cf30, opH_sv, opH_nil, fa74_1, add_mk, Nat.zero_add, ld58, al4, al42, al28, box_new, cells_int, cells_slice]
  intro v0 hv0 gv0 v1 hv1 gv1 x6 hx6 gx6 x7 hx7 gx7 x8 hx8 gx8
  have s1 := s.new (o := svO (.slice sa S.length sc)) hv0
  have d1 := d.set (o := svO (.slice sa S.length sc)) gv0
  generalize Hp.set h v0 _ = h1 at s1 d1 hv1 hx6 hx7 hx8 ⊢
  have s2 := s1.new (o := inO bin) hv1
  have d2 := d1.set (o := inO bin) gv1
  generalize Hp.set h1 v1 _ = h2 at s2 d2 hx6 hx7 hx8 ⊢
  have s3 := s2.new (o := cellO (0, 0)) hx6
  have d3 := d2.set (o := cellO (0, 0)) gx6
  generalize Hp.set h2 x6 _ = h3 at s3 d3 hx7 hx8 ⊢
  have s4 := s3.new (o := ivO (.slice none 0 0)) hx7
  have d4 := d3.set (o := ivO (.slice none 0 0)) gx7
  generalize Hp.set h3 x7 _ = h4 at s4 d4 hx8 ⊢
  have s5 := s4.new (o := boolO false) hx8
  have d5 := d4.set (o := boolO false) gx8
  generalize Hp.set h4 x8 _ = h5 at s5 d5 ⊢
  have s8 : HL.Sep [noHp.set x8 (boolO false), noHp.set x7 (ivO (.slice none 0 0)), noHp.set x6 (cellO (0, 0)), noHp.set v1 (inO bin), noHp.set v0 (svO (.slice sa S.length sc)), ya, ga, w] h5 := s5
  clear s5 s4 s3 s2 s1 d4 d3 d2 d1 hx8 hx7 hx6 hv1 hv0
  obtain ⟨om, C, ab, cb, ap, cp, ar, cr, az, cs, ty, mi⟩ := id yo
  have cyp : ∀ j, cellIn G h5 ⟨yp, j, none⟩ = _ := fun j => cell_of (look_own (s8.in 5 rfl _ _ (ty.at 0 rfl set_self)))
  try simp -implicitDefEqProofs only [cyp, List.getElem?_cons_succ, List.getElem?_cons_zero, Option.some.injEq, exists_eq_left']
  refine stacks_new.mono ?_
  rintro _ _ ⟨b1, rfl, hb1, gb1, rfl⟩
  have s9 := s8.new (o := .cells #[.pointer (some ⟨gp, 0, none⟩)] 58 (0, 0)) hb1
  have d9 := d5.set (o := .cells #[.pointer (some ⟨gp, 0, none⟩)] 58 (0, 0)) gb1
  generalize Hp.set h5 b1 _ = h9 at s9 d9 ⊢
  intro y' l o hl gl ho HY
  rw [opE55]
  have s10 := s9.new (o := o none) hl
  have d10 := d9.set (o := o none) gl
  generalize Hp.set h9 l _ = h10 at s10 d10 ⊢
  -- [l, b1, x8, x7, x6, v1, v0, ya, ga, w]
  have s11 := (((((((((s10.pick 5 rfl rfl).pick 6 rfl rfl).pick 9 rfl rfl).pick 5 rfl rfl).pick 6 rfl rfl).pick 7 rfl rfl).pick 6 rfl rfl).pick 8 rfl rfl).pick 8 rfl rfl).pick 9 rfl rfl
  have s12 : HL.Sep (ga :: noHp.set b1 (.cells #[.pointer (some ⟨gp, 0, none⟩)] 58 (0, 0)) :: ya :: FYs w l x6 x7 x8 v0 v1 (o none) (.slice sa S.length sc) bin (0, 0) (.slice none 0 0) false) h10 := s11
  obtain ⟨qq, s13, tq⟩ := s12.pack3
  obtain ⟨aa, s14, ta⟩ := packAll (permute s13 (List.perm_append_comm (l₁ := [qq])))
  refine (stacks1_spec (find_yield gl ho hss hS hB (by simp -implicitDefEqProofs (disch := first | with_reducible exact Nat.ne_of_beq_eq_false rfl | omega) only [upd_ne, upd_eq]) (by simp -implicitDefEqProofs (disch := first | with_reducible exact Nat.ne_of_beq_eq_false rfl | omega) only [upd_ne, upd_eq]) (by simp -implicitDefEqProofs (disch := first | with_reducible exact Nat.ne_of_beq_eq_false rfl | omega) only [upd_ne, upd_eq]) (by simp -implicitDefEqProofs (disch := first | with_reducible exact Nat.ne_of_beq_eq_false rfl | omega) only [upd_ne, upd_eq]) (by simp -implicitDefEqProofs (disch := first | with_reducible exact Nat.ne_of_beq_eq_false rfl | omega) only [upd_ne, upd_eq]) HY) (show FY w l x6 x7 x8 v0 v1 (o none) (.slice sa S.length sc) bin [] aa from ta) s14 (tq.at 1 rfl set_self) ((go.gs (G := G)).up (tq.in 0 rfl) (fun b o e => d10 b o (s14.in 1 rfl _ _ e)))).mono ?_
  rintro _ h12 ⟨a12, s15, d15, z⟩
  rcases feed_find (S := S) (bin := bin) (M := stacksW wn k f) (L := []) with ⟨e1, e2⟩ | ⟨c, N, e1, e2, e3⟩
  · rw [e2] at z
    have z' : HL.Sep (FYs w l x6 x7 x8 v0 v1 (o none) (.slice sa S.length sc) bin (0, 0) (.slice none 0 0) false) a12 := z
    have s16 := HL.Sep.split s15.swap z'
    have s17 := HL.Sep.split (s16.swap) tq
    have s18 : HL.Sep ([ga, noHp.set b1 (.cells #[.pointer (some ⟨gp, 0, none⟩)] 58 (0, 0)), ya, noHp.set x6 (cellO (0, 0)), noHp.set x7 (ivO (.slice none 0 0)), noHp.set x8 (boolO false), w, noHp.set v0 (svO (.slice sa S.length sc)), noHp.set v1 (inO bin)] ++ [noHp.set l (o none)]) h12 := permute s17 (List.perm_append_comm (l₁ := [noHp.set l (o none)]))
    obtain ⟨a20, s20, t20⟩ := packAll s18
    refine ⟨a20, s20.in 0 rfl, ?_, .inl ⟨s20.at 1 rfl set_self, ?_⟩⟩
    · rcases s20.apart (b := noHp.set l (o none)) (by simp) l with e | e
      · exact e
      · rw [set_self] at e; cases e
    have d20 : Dis G a20 := fun b o e => d15 b o (s20.in 0 rfl _ _ e)
    try simp -implicitDefEqProofs only [blockK_normal, thenK_normal]
    unfold S35_k1
    try simp -implicitDefEqProofs (disch := first | with_reducible exact Nat.ne_of_beq_eq_false rfl | omega) only [upd_ne, upd_eq, retK_ret, resL_cell, resC_ptr, resL_nil3, ld4, ld42, ld28, add_mk, Nat.add_zero, Nat.zero_add, opH_su, opH_sv, bd28_]
    rw [st_cell (m := (0, 0)) (t20.at 3 rfl set_self)]
    have t21 := (t20.pick 3 rfl rfl).put (o := cellO (0, 0)) set_self
    rw [set_set] at t21
    have d21 := d20.set (o := cellO (0, 0)) (d20 _ _ (t20.at 3 rfl set_self))
    generalize Hp.set a20 x6 _ = h21 at t21 d21 ⊢
    rw [st_iv (t21.at 4 rfl set_self)]
    have t22 := (t21.pick 4 rfl rfl).put (o := ivO (.slice none 0 0)) set_self
    rw [set_set] at t22
    have d22 := d21.set (o := ivO (.slice none 0 0)) (d21 _ _ (t21.at 4 rfl set_self))
    generalize Hp.set h21 x7 _ = h22 at t22 d22 ⊢
    rw [st_bool (t22.at 5 rfl set_self)]
    have t23 := (t22.pick 5 rfl rfl).put (o := boolO false) set_self
    rw [set_set] at t23
    have d23 := d22.set (o := boolO false) (d22 _ _ (t22.at 5 rfl set_self))
    generalize Hp.set h22 x8 _ = h23 at t23 d23 ⊢
    -- [x8, x7, x6, ga, b1, ya, w, v0, v1]
    have q8 : ∀ j, cellIn G h23 ⟨x8, j, none⟩ = _ := fun j => cell_of (look_own (t23.at 0 rfl set_self))
    have q7 : ∀ j, cellIn G h23 ⟨x7, j, none⟩ = _ := fun j => cell_of (look_own (t23.at 1 rfl set_self))
    have q6 : ∀ j, cellIn G h23 ⟨x6, j, none⟩ = _ := fun j => cell_of (look_own (t23.at 2 rfl set_self))
    try simp -implicitDefEqProofs only [q6, List.getElem?_cons_zero, Option.some.injEq, List.getElem?_cons_succ, q7, q8, exists_eq_left', true_and]
    exact ⟨d23, .inl ⟨e1, (((t23.pick 6 rfl rfl).pick 4 rfl rfl).pick 6 rfl rfl).take 3 rfl⟩⟩
  · rw [e2] at z
    have z' : FZ w l x6 x7 x8 v0 v1 (o (some .ret)) (.slice sa S.length sc) bin S N a12 := z
    obtain ⟨c', io, vv, hl', hmem, ov, sz⟩ := z'
    rw [e3] at hl'
    cases hl'
    have s16 := HL.Sep.split s15.swap sz
    have s17 := HL.Sep.split (s16.swap) tq
    have s18 : HL.Sep ([ga, noHp.set b1 (.cells #[.pointer (some ⟨gp, 0, none⟩)] 58 (0, 0)), ya, noHp.set x6 (cellO c), noHp.set x7 (ivO vv), noHp.set x8 (boolO true), w, noHp.set v0 (svO (.slice sa S.length sc)), noHp.set v1 (inO bin), io] ++ [noHp.set l (o (some .ret))]) h12 := permute s17 (List.perm_append_comm (l₁ := [noHp.set l (o (some .ret))]))
    obtain ⟨a20, s20, t20⟩ := packAll s18
    refine ⟨a20, s20.in 0 rfl, ?_, .inr ⟨.ret, trivial, s20.at 1 rfl set_self, ?_⟩⟩
    · rcases s20.apart (b := noHp.set l (o (some .ret))) (by simp) l with e | e
      · exact e
      · rw [set_self] at e; cases e
    have d20 : Dis G a20 := fun b o e => d15 b o (s20.in 0 rfl _ _ e)
    have q6 : ∀ j, cellIn G a20 ⟨x6, j, none⟩ = _ := fun j => cell_of (look_own (t20.at 3 rfl set_self))
    have q7 : ∀ j, cellIn G a20 ⟨x7, j, none⟩ = _ := fun j => cell_of (look_own (t20.at 4 rfl set_self))
    have q8 : ∀ j, cellIn G a20 ⟨x8, j, none⟩ = _ := fun j => cell_of (look_own (t20.at 5 rfl set_self))
    try simp -implicitDefEqProofs (disch := first | with_reducible exact Nat.ne_of_beq_eq_false rfl | omega) only [blockK_ret, thenK_ret, retK_ret, resL_cell, upd_ne, upd_eq, resC_ptr, resL_nil3, ld4, ld42, ld28, add_mk, Nat.add_zero, q6, List.getElem?_cons_zero, Option.some.injEq, Nat.zero_add, List.getElem?_cons_succ, q7, q8, exists_eq_left']
    exact ⟨d20, .inr ⟨c, io, vv, e1, hmem, rfl, ov, ((((t20.pick 6 rfl rfl).pick 1 rfl rfl).pick 3 rfl rfl).pick 9 rfl rfl).take 4 rfl⟩⟩

end Go.Proofs.YtangejiigopdaaaDoor
end

section
/- Jobs in a row; the row turned round. -/
set_option linter.unusedSimpArgs false
set_option linter.unusedVariables false
set_option maxRecDepth 100000
namespace Go.Proofs.YtangejiigopdaaaDoor
open Go Go.HL

structure Job where
  id : Int
  kind : Int
  order : Int
  bin : Int
  fx : Int
  fy : Int
  tx : Int
  ty : Int
  robot : Int
def jobL (j : Job) : List Value := [.int .i64 j.id, .int .i64 j.kind, .int .i64 j.order, .int .i64 j.bin, .int .i64 j.fx, .int .i64 j.fy, .int .i64 j.tx, .int .i64 j.ty, .int .i64 j.robot]
def jobC : Cod Job := ⟨9, jobL, fun _ => rfl, fun _ v hv => by simp [jobL] at hv; rcases hv with rfl | rfl | rfl | rfl | rfl | rfl | rfl | rfl | rfl <;> rfl⟩
abbrev jobV (j : Job) : Value := .agg #[.int .i64 j.id, .int .i64 j.kind, .int .i64 j.order, .int .i64 j.bin, .int .i64 j.fx, .int .i64 j.fy, .int .i64 j.tx, .int .i64 j.ty, .int .i64 j.robot]
theorem eojob : ElemOk Tryd.prog 45 jobC.n 72 := eo45
theorem Sees.job {G h : Hp} {sa : Option Addr} {cap n : Nat} {L : List Job} (s : Sees jobC G h (.slice sa n cap) L) {i : Nat} {x : Job} (hx : L[i]? = some x) :
    ∃ b o, sa = some ⟨b, o, none⟩ ∧ cellIn G h ⟨b, o + i * 9, none⟩ = some (.int .i64 x.id) ∧ cellIn G h ⟨b, o + i * 9 + 1, none⟩ = some (.int .i64 x.kind) ∧ cellIn G h ⟨b, o + i * 9 + 2, none⟩ = some (.int .i64 x.order) ∧ cellIn G h ⟨b, o + i * 9 + 3, none⟩ = some (.int .i64 x.bin) ∧
      cellIn G h ⟨b, o + i * 9 + 4, none⟩ = some (.int .i64 x.fx) ∧ cellIn G h ⟨b, o + i * 9 + 5, none⟩ = some (.int .i64 x.fy) ∧ cellIn G h ⟨b, o + i * 9 + 6, none⟩ = some (.int .i64 x.tx) ∧ cellIn G h ⟨b, o + i * 9 + 7, none⟩ = some (.int .i64 x.ty) ∧ cellIn G h ⟨b, o + i * 9 + 8, none⟩ = some (.int .i64 x.robot) := by
  obtain ⟨b, o, c, e1, e2⟩ := s.get hx
  simp only [Value.slice.injEq] at e1
  obtain ⟨rfl, -, -⟩ := e1
  exact ⟨b, o, rfl, e2 0 (by decide), e2 1 (by decide), e2 2 (by decide), e2 3 (by decide), e2 4 (by decide), e2 5 (by decide), e2 6 (by decide), e2 7 (by decide), e2 8 (by decide)⟩

/-- A job stored in a row. -/
theorem st_job {G h : Hp} {b i : Nat} {M : List Job} {t : List Value} {j : Job} {K : Unit → Hp → Prop} (hb : h b = some (.cells (jobC.rows M ++ t).toArray 45 (0, 0))) (hi : i < M.length) :
    wpH Tryd.prog G (Instr.storeAt 45 (.pointer (some ⟨b, i * 9, none⟩)) (jobV j)) h K = K () (h.set b (.cells (jobC.rows (M.set i j) ++ t).toArray 45 (0, 0))) := by
  rw [store_eq (n := 9) sz45 hb rfl (by rw [List.length_append, jobC.rows_length, show jobC.n = 9 from rfl]; omega) (by intro v hv; simp [Value.cells] at hv; rcases hv with rfl | rfl | rfl | rfl | rfl | rfl | rfl | rfl | rfl <;> rfl)]
  have := jobC.rows_put (t := t) (x := j) hi
  rw [← this]
  rfl

set_option maxHeartbeats 4000000 in
theorem revj_spec {G h a : Hp} {R : List Hp} {v : Value} {L : List Job} (s : HL.Sep (a :: R) h) (o : Slc jobC 45 a v L) (hL : L.length ≤ 100000) : HCalls Tryd.prog G 38 #[v] h (fun u h' => ∃ a', Slc jobC 45 a' v L.reverse ∧ HL.Sep (a' :: R) h' ∧ Dis G h') := by
  refine HCalls.assume fun d => enter38 (by simp) ?_
  unfold S38
  obtain ⟨sa, cap, rfl, _⟩ := o.len (by decide)
  simp -implicitDefEqProofs (disch := first | with_reducible exact Nat.ne_of_beq_eq_false rfl | omega) only [regs0, opH_sv, ln31, bin_sub, wrap_in]
  generalize hKK : retK Tryd.prog G _ _ = KK
  refine loop_I (fun m q h3 => ∃ (i : Nat) (a : Hp) (M : List Job), m = L.length - i ∧ 2 * i ≤ L.length + 1 ∧ q 0 = .slice sa L.length cap ∧ q 2 = .int .i64 i ∧ q 3 = .int .i64 ((L.length : Int) - 1 - i) ∧ Slc jobC 45 a (.slice sa L.length cap) M ∧ Flipped L M i ∧ HL.Sep (a :: R) h3 ∧ Dis G h3) ?_
    (m := L.length) ⟨0, a, L, rfl, by omega, by simp -implicitDefEqProofs (maxSteps := 2000000) (disch := first | with_reducible exact Nat.ne_of_beq_eq_false rfl | exact oneCell_int | exact oneCell_bool | omega | rfl | (simp; done) | fail) only [upd_ne, regs0], by simp -implicitDefEqProofs (maxSteps := 2000000) (disch := first | with_reducible exact Nat.ne_of_beq_eq_false rfl | exact oneCell_int | exact oneCell_bool | omega | rfl | (simp; done) | fail) only [upd_ne, upd_eq] <;> rfl, by simp -implicitDefEqProofs (maxSteps := 2000000) (disch := first | with_reducible exact Nat.ne_of_beq_eq_false rfl | exact oneCell_int | exact oneCell_bool | omega | rfl | (simp; done) | fail) only [upd_eq]; simp, o, Flipped.zero, s, d⟩
  clear s o d
  rintro m q h3 ⟨i, a, M, rfl, hi, q0, q2, q3, o, fl, s3, d3⟩ X HX
  unfold S38_l1
  simp -implicitDefEqProofs only [q2, q3, thenK_exit, blockK_exit, if_true, opH_sv, bin_lss]
  refine cond_dec (fun hlt => ?_) (fun hge => ?_)
  rotate_left
  · try simp -implicitDefEqProofs only [opH_sv, opH_su, pureW_sv, opH_nil, pureW_nil, pick_t, pick_f, pick_tp, pick_fp, gd_tt, gd_ft, gd_tf, gd_ff, box_new, regs0, regs1, regs2, regs3, regs4, regs5, regs6, cells_agg, cells_int, cells_bool, cells_ptr, cells_slice, cells_string, cells_func, cells_nilFunc, cells_map, retK_ret, retK_normal, resL_tmp, resL_cell, resL_nil0, resL_nil1, resL_nil2, resL_nil3, resC_ptr, ex0, ex1, ex2, ex0p, ex1p, ex2p, HL.cond_true, HL.cond_false, thenK_normal, thenK_ret, thenK_exit, blockK_normal, blockK_ret, blockK_exit, scopeK_normal, scopeK_ret, scopeK_exit, wpH_pure, bin_add, bin_sub, bin_mul, bin_lss, bin_leq, bin_gtr, bin_geq, bin_quo, bin_rem, bin_quop, bin_remp, wrap_in, bin_addp, bin_subp, bin_mulp, bin_lssp, bin_leqp, bin_gtrp, bin_geqp, un_not, un_notp, un_neg, eq_int, ne_int, eq_intp, ne_intp, callV_fn, add_mk, upd_eq, upd_ne, cell_set_self, Nat.zero_add, Nat.add_zero, Option.some.injEq, exists_eq_left', List.getElem?_cons_succ, List.getElem?_cons_zero, true_and, and_true, bne_self_eq_false, beq_self_eq_true, Bool.not_true, Bool.not_false, Bool.and_true, Bool.and_self, Bool.and_false, Bool.true_and, List.length_cons, List.length_nil, ne_eq, not_false_eq_true, Nat.reduceAdd, Nat.reduceMul, if_true, if_false, oneCell_int, oneCell_bool, oneCell_ptr, oneCell_slice, oneCell_string, oneCell_func, oneCell_map, Int.toNat_natCast, List.set_cons_zero, List.set_cons_succ, Nat.lt_irrefl, Nat.zero_lt_succ, Nat.succ_lt_succ_iff, fa26_0, fa26_0p, fa26_1, fa26_1p, fa26_10, fa26_10p, fa26_11, fa26_11p, fa26_12, fa26_12p, fa26_13, fa26_13p, fa26_14, fa26_14p, fa26_15, fa26_15p, fa26_2, fa26_2p, fa26_3, fa26_3p, fa26_4, fa26_4p, fa26_5, fa26_5p, fa26_6, fa26_6p, fa26_7, fa26_7p, fa26_8, fa26_8p, fa26_9, fa26_9p, fa28_0, fa28_0p, fa28_1, fa28_1p, fa45_0, fa45_0p, fa45_1, fa45_1p, fa45_2, fa45_2p, fa45_3, fa45_3p, fa45_4, fa45_4p, fa45_5, fa45_5p, fa45_6, fa45_6p, fa49_0, fa49_0p, fa49_1, fa49_1p, fa74_0, fa74_0p, fa74_1, fa74_1p, fa74_2, fa74_2p, fa74_3, fa74_3p, fa85_0, fa85_0p, fa85_1, fa85_1p, fa93_0, fa93_0p, fa93_1, fa93_1p, fa93_2, fa93_2p, ld3, ld3p, ld4, ld4p, ld22, ld22p, ld23, ld23p, ld24, ld24p, ld26, ld26p, ld28, ld28p, ld42, ld42p, ld45, ld45p, ld49, ld49p, ld58, ld58p, ld69, ld69p, ld72, ld72p, ld85, ld85p, st3s, st4s, st22s, st23s, st24s, st26w, st28w, st42s, st45w, st49w, st85w, ix22, ix22p, ix23, ix23p, ix24, ix24p, ix31, ix31p, ix42, ix42p, ix104, ix104p, ln22, ln22p, ln23, ln23p, ln24, ln24p, ln31, ln31p, ln42, ln42p, al4, al22, al26, al28, al42, al49, al85, cf10, cf11, cf12, cf13, cf14, cf15, cf16, cf17, cf18, cf19, cf20, cf21, cf22, cf23, cf24, cf25, cf26, cf27, cf28, cf29, cf30, cf31, cf32, cf33, cf34, cf35, cf36, cf37, cf38, cf39, cf40, cf41, cf42, cf43, cf44, cf45, cf46, cf47, cf48, cf49, cf50, cf51, cf52, cf53, cf54, cf55, cf56, cf57, cf58, cf59, cf60, cf61, cf62, cf63, cf64, cf65, cf66, cf67, cf68, cf69, cf70, cf71, cf72, cf73, cf74, cf75, bd26_0_1_2_7_8_9_10_11_12_13_14_4_15, bd26_0_1_2_7_8_9_10_11_12_13_14_4_15p, bd28_, bd28_p, bd28_0, bd28_0p, bd28_0_1, bd28_0_1p, bd45_1_3_4_5_6, bd45_1_3_4_5_6p, bd49_0_1, bd49_0_1p, bd49_1, bd49_1p, bd74_0_1_2_3, bd74_0_1_2_3p, bd85_0, bd85_0p, bd85_0_1, bd85_0_1p, bd93_0_1_2, bd93_0_1_2p, bd94_0_1_2_3, bd94_0_1_2_3p, bs42_1_0, bs22_1_0, bs24_1_0, bs42_3_0_1_2, bs31_1_0, bs22_2_0_1, bs42_6_0_1_2_3_4_5, bs42_0_, eq4, eq4p, eq28, eq28p, eq42n, eq42np, eq42s, eq42sp, eq58n, eq58np, eq58s, eq58sp, eq63n, eq63np, eq63s, eq63sp, ne28, ne28p, ne45, ne45p]
    rw [← hKK]
    try simp -implicitDefEqProofs only [retK_normal, resL_nil0]
    rw [fl.all (by omega)] at o
    exact ⟨a, o, s3, d3⟩
  have hij : 2 * i + 1 < L.length := by omega
  obtain ⟨j, ej⟩ : ∃ j : Nat, j = L.length - 1 - i := ⟨_, rfl⟩
  have ejn : (L.length : Int) - 1 - (i : Int) = (j : Int) := by omega
  rw [ejn] at q3
  have hil : (i : Int) < L.length := by omega
  have hjl : (j : Int) < L.length := by omega
  obtain ⟨x, hx⟩ : ∃ x, M[i]? = some x := ⟨_, List.getElem?_eq_getElem (by rw [fl.1]; omega)⟩
  obtain ⟨y, hy⟩ : ∃ y, M[j]? = some y := ⟨_, List.getElem?_eq_getElem (by rw [fl.1]; omega)⟩
  have sv := o.sees (G := G) (by decide) (s3.in 0 rfl)
  obtain ⟨b, of, rfl, x0, x1, x2, x3, x4, x5, x6, x7, x8⟩ := Sees.job sv hx
  obtain ⟨b', of', e', y0, y1, y2, y3, y4, y5, y6, y7, y8⟩ := Sees.job sv hy
  cases e'
  obtain ⟨ob, o'⟩ := o
  cases ob with
  | none => exact absurd o'.2 (fun e => by rw [e] at hx; simp at hx)
  | some ob =>
  obtain ⟨cap', t, e9, hb, hbl⟩ := o'
  rw [fl.1] at e9
  simp only [Value.slice.injEq, Option.some.injEq, Addr.mk.injEq, and_true, true_and] at e9
  obtain ⟨⟨rfl, rfl⟩, rfl⟩ := e9
  rw [Nat.zero_add] at x0 x1 x2 x3 x4 x5 x6 x7 x8 y0 y1 y2 y3 y4 y5 y6 y7 y8
  have hb3 := s3.at 0 rfl hb
  unfold S38_l1_k2
  simp -implicitDefEqProofs (disch := first | with_reducible exact Nat.ne_of_beq_eq_false rfl | omega) only [upd_ne, q0, q3, q2, opH_su, pureW_sv, ix31p, Int.toNat_natCast, add_mk, Nat.zero_add, ld45p, Nat.add_zero, x0, Option.some.injEq, x1, x2, x3, x4, x5, x6, x7, x8, exists_eq_left', y0, y1, y2, y3, y4, y5, y6, y7, y8]
  rw [st_job (j := y) hb3 (by rw [fl.1]; omega)]
  have s4 := s3.put (o := .cells (jobC.rows (M.set i y) ++ t).toArray 45 (0, 0)) hb
  have d4 := d3.set (o := .cells (jobC.rows (M.set i y) ++ t).toArray 45 (0, 0)) (d3 _ _ hb3)
  generalize Hp.set h3 b _ = h4 at s4 d4 ⊢
  try simp -implicitDefEqProofs only [opH_sv, opH_su, pureW_sv, opH_nil, pureW_nil, pick_t, pick_f, pick_tp, pick_fp, gd_tt, gd_ft, gd_tf, gd_ff, box_new, regs0, regs1, regs2, regs3, regs4, regs5, regs6, cells_agg, cells_int, cells_bool, cells_ptr, cells_slice, cells_string, cells_func, cells_nilFunc, cells_map, retK_ret, retK_normal, resL_tmp, resL_cell, resL_nil0, resL_nil1, resL_nil2, resL_nil3, resC_ptr, ex0, ex1, ex2, ex0p, ex1p, ex2p, HL.cond_true, HL.cond_false, thenK_normal, thenK_ret, thenK_exit, blockK_normal, blockK_ret, blockK_exit, scopeK_normal, scopeK_ret, scopeK_exit, wpH_pure, bin_add, bin_sub, bin_mul, bin_lss, bin_leq, bin_gtr, bin_geq, bin_quo, bin_rem, bin_quop, bin_remp, wrap_in, bin_addp, bin_subp, bin_mulp, bin_lssp, bin_leqp, bin_gtrp, bin_geqp, un_not, un_notp, un_neg, eq_int, ne_int, eq_intp, ne_intp, callV_fn, add_mk, upd_eq, upd_ne, cell_set_self, Nat.zero_add, Nat.add_zero, Option.some.injEq, exists_eq_left', List.getElem?_cons_succ, List.getElem?_cons_zero, true_and, and_true, bne_self_eq_false, beq_self_eq_true, Bool.not_true, Bool.not_false, Bool.and_true, Bool.and_self, Bool.and_false, Bool.true_and, List.length_cons, List.length_nil, ne_eq, not_false_eq_true, Nat.reduceAdd, Nat.reduceMul, if_true, if_false, oneCell_int, oneCell_bool, oneCell_ptr, oneCell_slice, oneCell_string, oneCell_func, oneCell_map, Int.toNat_natCast, List.set_cons_zero, List.set_cons_succ, Nat.lt_irrefl, Nat.zero_lt_succ, Nat.succ_lt_succ_iff, fa26_0, fa26_0p, fa26_1, fa26_1p, fa26_10, fa26_10p, fa26_11, fa26_11p, fa26_12, fa26_12p, fa26_13, fa26_13p, fa26_14, fa26_14p, fa26_15, fa26_15p, fa26_2, fa26_2p, fa26_3, fa26_3p, fa26_4, fa26_4p, fa26_5, fa26_5p, fa26_6, fa26_6p, fa26_7, fa26_7p, fa26_8, fa26_8p, fa26_9, fa26_9p, fa28_0, fa28_0p, fa28_1, fa28_1p, fa45_0, fa45_0p, fa45_1, fa45_1p, fa45_2, fa45_2p, fa45_3, fa45_3p, fa45_4, fa45_4p, fa45_5, fa45_5p, fa45_6, fa45_6p, fa49_0, fa49_0p, fa49_1, fa49_1p, fa74_0, fa74_0p, fa74_1, fa74_1p, fa74_2, fa74_2p, fa74_3, fa74_3p, fa85_0, fa85_0p, fa85_1, fa85_1p, fa93_0, fa93_0p, fa93_1, fa93_1p, fa93_2, fa93_2p, ld3, ld3p, ld4, ld4p, ld22, ld22p, ld23, ld23p, ld24, ld24p, ld26, ld26p, ld28, ld28p, ld42, ld42p, ld45, ld45p, ld49, ld49p, ld58, ld58p, ld69, ld69p, ld72, ld72p, ld85, ld85p, st3s, st4s, st22s, st23s, st24s, st26w, st28w, st42s, st45w, st49w, st85w, ix22, ix22p, ix23, ix23p, ix24, ix24p, ix31, ix31p, ix42, ix42p, ix104, ix104p, ln22, ln22p, ln23, ln23p, ln24, ln24p, ln31, ln31p, ln42, ln42p, al4, al22, al26, al28, al42, al49, al85, cf10, cf11, cf12, cf13, cf14, cf15, cf16, cf17, cf18, cf19, cf20, cf21, cf22, cf23, cf24, cf25, cf26, cf27, cf28, cf29, cf30, cf31, cf32, cf33, cf34, cf35, cf36, cf37, cf38, cf39, cf40, cf41, cf42, cf43, cf44, cf45, cf46, cf47, cf48, cf49, cf50, cf51, cf52, cf53, cf54, cf55, cf56, cf57, cf58, cf59, cf60, cf61, cf62, cf63, cf64, cf65, cf66, cf67, cf68, cf69, cf70, cf71, cf72, cf73, cf74, cf75, bd26_0_1_2_7_8_9_10_11_12_13_14_4_15, bd26_0_1_2_7_8_9_10_11_12_13_14_4_15p, bd28_, bd28_p, bd28_0, bd28_0p, bd28_0_1, bd28_0_1p, bd45_1_3_4_5_6, bd45_1_3_4_5_6p, bd49_0_1, bd49_0_1p, bd49_1, bd49_1p, bd74_0_1_2_3, bd74_0_1_2_3p, bd85_0, bd85_0p, bd85_0_1, bd85_0_1p, bd93_0_1_2, bd93_0_1_2p, bd94_0_1_2_3, bd94_0_1_2_3p, bs42_1_0, bs22_1_0, bs24_1_0, bs42_3_0_1_2, bs31_1_0, bs22_2_0_1, bs42_6_0_1_2_3_4_5, bs42_0_, eq4, eq4p, eq28, eq28p, eq42n, eq42np, eq42s, eq42sp, eq58n, eq58np, eq58s, eq58sp, eq63n, eq63np, eq63s, eq63sp, ne28, ne28p, ne45, ne45p, q0, q3, ix31 (Int.natCast_nonneg j) hjl, Int.toNat_natCast]
  rw [st_job (j := x) (s4.at 0 rfl set_self) (by rw [List.length_set, fl.1]; omega)]
  have s5 := s4.put (o := .cells (jobC.rows ((M.set i y).set j x) ++ t).toArray 45 (0, 0)) set_self
  rw [set_set] at s5
  have d5 := d4.set (o := .cells (jobC.rows ((M.set i y).set j x) ++ t).toArray 45 (0, 0)) (d4 _ _ (s4.at 0 rfl set_self))
  generalize Hp.set h4 b _ = h5 at s5 d5 ⊢
  have fn := fl.next hij hx (by rw [← ej]; exact hy)
  rw [← ej] at fn
  unfold S38_l1_k3
  simp -implicitDefEqProofs (disch := first | with_reducible exact Nat.ne_of_beq_eq_false rfl | omega) only [upd_ne, q2, q3, thenK_normal, opH_sv, bin_sub, wrap_in, bin_add]
  refine HX (L.length - (i + 1)) _ _ (by omega) ⟨i + 1, _, _, rfl, by omega, by simp -implicitDefEqProofs (disch := first | with_reducible exact Nat.ne_of_beq_eq_false rfl | omega) only [upd_ne, q0], by simp -implicitDefEqProofs (disch := first | with_reducible exact Nat.ne_of_beq_eq_false rfl | omega) only [upd_ne, upd_eq] <;> rfl, by simp -implicitDefEqProofs (disch := first | with_reducible exact Nat.ne_of_beq_eq_false rfl | omega) only [upd_eq] <;> (congr 1; omega), ⟨some b, cap, t, by rw [fn.1], set_self, ?_⟩, fn, s5, d5⟩
  rw [← hbl, List.length_append, List.length_append, jobC.rows_length, jobC.rows_length, List.length_set, List.length_set]

end Go.Proofs.YtangejiigopdaaaDoor
end

section
/- The jobs: plain; an entry of the yard's map. -/
set_option linter.unusedSimpArgs false
set_option linter.unusedVariables false
set_option maxRecDepth 100000
namespace Go.Proofs.YtangejiigopdaaaDoor
open Go Go.HL

theorem rstacks_len {C : Conf} (w16 : wC C ≤ 16) (k16 : kC C ≤ 16) : (rstacksL C).length ≤ 1000 := by
  have := dirsL_len (D := fun y => pickFrom (fun x => stackedB C ((x : Int), (y : Int))) (fun x => (((x : Nat) : Int), ((y : Nat) : Int))) 0 (wC C)) (b := 16) (fun i => Nat.le_trans pickFrom_len w16) (k := kC C) (i := 0)
  have h2 : kC C * 16 ≤ 16 * 16 := Nat.mul_le_mul_right _ k16
  unfold rstacksL
  omega

def awayJ (f : Cell) (b : Int) (z : Cell) : Job := ⟨0, 1, 0, b, f.1, f.2, z.1, z.2, -1⟩
def againJ (f : Cell) (b : Int) (z : Cell) : Job := ⟨0, 3, 0, b, z.1, z.2, f.1, f.2, -1⟩
def fetchJ (f : Cell) (b : Int) (p : Cell) : Job := ⟨0, 2, 0, b, f.1, f.2, p.1, p.2, -1⟩
/-- The places for some bins, one behind the other. -/
def placesL (S : List Stk) (TL : List Cell) (ht : Int) (f : Cell) (cells : List Cell) : Nat → List Cell → Option (List Cell)
  | 0, GL => some GL
  | n + 1, GL => match bestL f (skipR f ht S TL GL) none cells with
    | none => none
    | some z => placesL S TL ht f cells n (GL ++ [z])
def jobsOf (f : Cell) (A : List Int) (GL : List Cell) (bin : Int) (port : Cell) (back : Bool) : List Job :=
  List.zipWith (awayJ f) A GL ++ [fetchJ f bin port] ++ (if back = true then (List.zipWith (againJ f) A GL).reverse else [])
def jobsR (C : Conf) (S : List Stk) (TL : List Cell) (bin : Int) (port : Cell) : List Job × Int :=
  if portI C port < 0 then ([], 10) else
  match findIn S bin (rstacksL C) with
  | none => ([], 9)
  | some (f, A) => if f ∈ TL then ([], 8) else match placesL S TL C.ht f (rstacksL C) A.length [] with
    | none => ([], 14)
    | some GL => (jobsOf f A GL bin port C.back, 0)

section
variable {C : Conf} {S : List Stk} {TL : List Cell} {bin : Int} {port f : Cell} {A : List Int} {GL : List Cell}
theorem jobsR_port (h1 : portI C port < 0) : jobsR C S TL bin port = ([], 10) := by unfold jobsR; rw [if_pos h1]
theorem jobsR_bin (h1 : ¬ portI C port < 0) (h2 : findIn S bin (rstacksL C) = none) : jobsR C S TL bin port = ([], 9) := by unfold jobsR; rw [if_neg h1, h2]
theorem jobsR_touched (h1 : ¬ portI C port < 0) (h2 : findIn S bin (rstacksL C) = some (f, A)) (h3 : f ∈ TL) : jobsR C S TL bin port = ([], 8) := by unfold jobsR; rw [if_neg h1, h2]; simp only [if_pos h3]
theorem jobsR_room (h1 : ¬ portI C port < 0) (h2 : findIn S bin (rstacksL C) = some (f, A)) (h3 : f ∉ TL) (h4 : placesL S TL C.ht f (rstacksL C) A.length [] = none) : jobsR C S TL bin port = ([], 14) := by unfold jobsR; rw [if_neg h1, h2]; simp only [if_neg h3, h4]
theorem jobsR_ok (h1 : ¬ portI C port < 0) (h2 : findIn S bin (rstacksL C) = some (f, A)) (h3 : f ∉ TL) (h4 : placesL S TL C.ht f (rstacksL C) A.length [] = some GL) : jobsR C S TL bin port = (jobsOf f A GL bin port C.back, 0) := by unfold jobsR; rw [if_neg h1, h2]; simp only [if_neg h3, h4]
end

theorem bestL_some {f : Cell} {sk : Cell → Bool} : ∀ {L : List Cell} {b : Option Cell} {z : Cell}, bestL f sk b L = some z → b = some z ∨ (z ∈ L ∧ sk z = false)
  | [], b, z, h => .inl h
  | c :: L, b, z, h => by
    rw [bestL] at h
    rcases bestL_some h with h | ⟨h1, h2⟩
    · split at h
      · exact .inl h
      · rename_i h3
        split at h
        · cases h
          exact .inr ⟨.head _, by simpa using h3⟩
        · exact .inl h
    · exact .inr ⟨.tail _ h1, h2⟩

theorem len_count {n : Nat} : ∀ {M GL : List Cell}, (∀ z ∈ GL, z ∈ M) → (∀ z, GL.count z ≤ n) → GL.length ≤ M.length * n
  | [], GL, h1, h2 => by
    cases GL with
    | nil => simp
    | cons x GL => exact absurd (h1 x (.head _)) (by simp)
  | m :: M, GL, h1, h2 => by
    have e := List.length_eq_countP_add_countP (fun x => x == m) (l := GL)
    have e2 : List.countP (fun x => x == m) GL ≤ n := h2 m
    have ih := len_count (n := n) (M := M) (GL := GL.filter (fun x => !(x == m))) (fun z hz => by
      rw [List.mem_filter] at hz
      rcases List.mem_cons.1 (h1 z hz.1) with rfl | h
      · simp at hz
      · exact h) (fun z => Nat.le_trans (List.filter_sublist.count_le z) (h2 z))
    rw [← List.countP_eq_length_filter] at ih
    have e3 : List.countP (fun a => decide ¬((a == m) = true)) GL = List.countP (fun x => !(x == m)) GL := List.countP_congr (fun x _ => by simp)
    rw [List.length_cons, Nat.add_mul]
    omega

/-- What was given: stack cells that had room. -/
structure Given (S : List Stk) (ht : Int) (cells GL : List Cell) : Prop where
  mem : ∀ z ∈ GL, z ∈ cells
  room : ∀ z, (GL.count z : Int) ≤ ht
theorem Given.nil {S : List Stk} {ht : Int} {cells : List Cell} (h : 0 ≤ ht) : Given S ht cells [] := ⟨fun z hz => (by cases hz), fun z => by simpa using h⟩
theorem Given.add {S : List Stk} {TL : List Cell} {ht : Int} {f z : Cell} {cells GL : List Cell} (g : Given S ht cells GL) (h : bestL f (skipR f ht S TL GL) none cells = some z) : Given S ht cells (GL ++ [z]) ∧ hgt S z + (GL.count z : Int) < ht := by
  rcases bestL_some h with h | ⟨h1, h2⟩
  · cases h
  · unfold skipR at h2
    simp only [Bool.or_eq_false_iff, decide_eq_false_iff_not] at h2
    have h3 : hgt S z + (GL.count z : Int) < ht := by omega
    have h0 : 0 ≤ hgt S z := by unfold hgt; exact Int.natCast_nonneg _
    refine ⟨⟨fun x hx => ?_, fun x => ?_⟩, h3⟩
    · rcases List.mem_append.1 hx with hx | hx
      · exact g.mem x hx
      · simp at hx; subst hx; exact h1
    · rw [List.count_append, List.count_singleton]
      have := g.room x
      by_cases hx : (z == x) = true
      · rw [if_pos hx]
        obtain rfl := eq_of_beq hx
        omega
      · rw [if_neg hx]; omega
theorem Given.len {S : List Stk} {ht : Int} {cells GL : List Cell} (g : Given S ht cells GL) (h8 : ht ≤ 8) (hc : cells.length ≤ 1000) : GL.length ≤ 8000 := by
  have h0 := g.room (0, 0)
  have := len_count (n := 8) g.mem (fun z => by have := g.room z; omega)
  have : cells.length * 8 ≤ 8000 := by omega
  omega

/-- The heights behind what was given. -/
theorem skip_given {f : Cell} {ht : Int} {S : List Stk} {hv : Cell → Int} {is : Cell → Bool} {TL GL : List Cell} (h : ∀ c, (if is c = true then hv c else 0) = hgt S c + (GL.count c : Int)) : skipB f ht hv is TL = skipR f ht S TL GL := by
  funext c
  unfold skipB skipR
  rw [h c, Bool.or_assoc]
  congr 1
  exact Bool.or_comm _ _

/-- An entry, and its stamp. -/
def MapEnt (o : Obj) (hv : Cell → Int) (is : Cell → Bool) (c : Cell) (st : Nat) : Prop := ∃ M : List (Cell × Value), KEntry (fun c : Cell => cellV c) o M c st ∧ ∀ c, kget M c = if is c = true then some (.int .i64 (hv c)) else none
theorem kget_app {M : List (Cell × Value)} {c q : Cell} {v : Value} (h : kget M c = none) : kget (M ++ [(c, v)]) q = if (c == q) = true then some v else kget M q := by
  have h2 : kput M c v = M ++ [(c, v)] := by
    unfold kput
    cases hk : kidx M c with
    | none => rfl
    | some j =>
      unfold kget at h
      rw [hk] at h
      have hj : j < M.length := by unfold kidx at hk; exact (List.findIdx?_eq_some_iff_getElem.1 hk).1
      simp [List.getElem?_eq_getElem hj] at h
  rw [← h2, kget_put]
theorem ment {G h : Hp} {mb : Nat} {o : Obj} {hv : Cell → Int} {is : Cell → Bool} {x y : Int} {K : Value → Hp → Prop} (hb : h mb = some o) (m : MapIs o hv is)
    (H : ∀ o' st, MapEnt o' (fun c => if is c = true then hv c else 0) (fun c => (x, y) == c || is c) (x, y) st → K (.tuple #[.int .i64 (if is (x, y) = true then hv (x, y) else 0), .int .i64 (st : Nat)]) (h.set mb o')) :
    wpH Tryd.prog G (Instr.mapEntry 72 (.map (some mb)) (.agg #[.int .i64 x, .int .i64 y])) h K := by
  obtain ⟨M, hm, hg⟩ := m
  refine mapentry_key (k := ((x, y) : Cell)) cell_key unm zmi hb hm fun o' st hm' => ?_
  have e0 : (kget M ((x, y) : Cell)).getD (.int .i64 0) = .int .i64 (if is (x, y) = true then hv (x, y) else 0) := by
    rw [hg]; cases is (x, y) <;> rfl
  rw [e0]
  refine H o' st ⟨_, hm', fun c => ?_⟩
  show _ = if ((((x, y) : Cell) == c) || is c) = true then some (Value.int .i64 (if is c = true then hv c else 0)) else none
  rw [hg]
  cases hi : is (x, y) with
  | true =>
    rw [if_pos rfl, if_pos (by rfl), hg]
    cases hc : is c with
    | true => rw [if_pos rfl, Bool.or_true, if_pos rfl]; simp only [hc, if_true]
    | false =>
      have : ((((x, y) : Cell) == c)) = false := by
        cases h2 : (((x, y) : Cell) == c) with
        | false => rfl
        | true => rw [eq_of_beq h2, hc] at hi; cases hi
      rw [this, Bool.or_false]
      simp
  | false =>
    simp only [Bool.false_eq_true, if_false, Option.isSome_none]
    rw [kget_app (by rw [hg, hi]; rfl), hg]
    cases h2 : (((x, y) : Cell) == c) with
    | true => rw [if_pos rfl, Bool.true_or, if_pos rfl, ← eq_of_beq h2, hi]; rfl
    | false =>
      rw [if_neg (by simp), Bool.false_or]
      cases hc : is c <;> simp [hc]
theorem mest {G h : Hp} {mb st : Nat} {o : Obj} {hv : Cell → Int} {is : Cell → Bool} {x y n : Int} {T : TypeId} {K : Unit → Hp → Prop} (hb : h mb = some o) (m : MapEnt o hv is (x, y) st)
    (H : ∀ o', MapIs o' (fun c => if ((x, y) == c) = true then n else hv c) (fun c => (x, y) == c || is c) → K () (h.set mb o')) :
    wpH Tryd.prog G (Instr.entryStore T (.map (some mb)) (.int .i64 (st : Nat)) (.int .i64 n)) h K := by
  obtain ⟨M, hm, hg⟩ := m
  refine entrystore_key hb hm fun o' hm' => H o' ⟨_, hm', fun c => ?_⟩
  rw [kget_put, hg]
  show (if (((x, y) : Cell) == c) = true then some (Value.int .i64 n) else _) = if ((((x, y) : Cell) == c) || is c) = true then some (Value.int .i64 (if (((x, y) : Cell) == c) = true then n else hv c)) else none
  cases (((x, y) : Cell) == c) <;> rfl
theorem MapEnt.is {o : Obj} {hv : Cell → Int} {is : Cell → Bool} {c : Cell} {st : Nat} (m : MapEnt o hv is c st) : MapIs o hv is := by
  obtain ⟨M, h1, h2⟩ := m
  exact ⟨M, h1.map, h2⟩

theorem pureAt_sv {G h : Hp} {s : Sem Value} {v : Value} : pureAt Tryd.prog G h (sv s) v ↔ wpH Tryd.prog G s h (fun a h' => h' = h ∧ a = v) := by
  unfold pureAt sv
  rw [wpH_bind]
  simp only [wpH, Next.value.injEq]
/-- What is read beside an entry that is made stays. -/
theorem soft_entry {G h : Hp} {mb yp xb : Nat} {o o' : Obj} {hv hv' : Cell → Int} {is is' : Cell → Bool} {z : Cell} (hb : h mb = some o) (m : MapIs o hv is) (m' : MapIs o' hv' is') (hyp : yp ≠ mb) (hxb : xb ≠ mb)
    (e : (if is z = true then hv z else 0) = (if is' z = true then hv' z else 0)) {a : Addr} (ha : a.block = yp) (hs : a.spot = none) :
    Kp Tryd.prog G h (fun s => s = sv (Instr.loadAt 72 (.pointer (some a))) ∨ s = sv (Instr.loadAt 28 (.pointer (some ⟨xb, 0, none⟩))) ∨ s = sv (Instr.lookup 72 (.map (some mb)) (.agg #[.int .i64 z.1, .int .i64 z.2]) false)) (h.set mb o') := by
  refine .inr fun s hs' v hv1 => ?_
  obtain ⟨ab, ai, asp⟩ := a
  simp only at ha hs
  subst ha hs
  rcases hs' with rfl | rfl | rfl
  · rw [pureAt_sv] at hv1 ⊢
    rw [ld72] at hv1 ⊢
    rw [cell_set_other hyp]
    obtain ⟨x, h1, _, h2⟩ := hv1
    exact ⟨x, h1, rfl, h2⟩
  · rw [pureAt_sv] at hv1 ⊢
    rw [ld28] at hv1 ⊢
    simp only [add_mk] at hv1 ⊢
    rw [cell_set_other hxb, cell_set_other hxb]
    obtain ⟨x, h1, y, h2, _, h3⟩ := hv1
    exact ⟨x, h1, y, h2, trivial, h3⟩
  · rw [pureAt_sv] at hv1 ⊢
    obtain ⟨M, hm, hg⟩ := m
    obtain ⟨M', hm', hg'⟩ := m'
    rw [lookup_key (k := z) (ke := fun c : Cell => cellV c) cell_key unm zmi (look_own hb) hm] at hv1
    rw [lookup_key (k := z) (ke := fun c : Cell => cellV c) cell_key unm zmi (look_own set_self) hm']
    refine ⟨rfl, ?_⟩
    rw [← hv1.2, hg, hg']
    cases h1 : is z <;> cases h2 : is' z <;> simp [h1, h2] at e ⊢ <;> omega

theorem YardO.put {a : Hp} {yp gp mb : Nat} {ht : Int} {tv : Value} {hv hv' : Cell → Int} {is is' : Cell → Bool} (y : YardO a yp gp mb ht tv hv is) {o' : Obj} (m : MapIs o' hv' is') : YardO (a.set mb o') yp gp mb ht tv hv' is' := by
  obtain ⟨o, C, ab, cb, ap, cp, ar, cr, az, cs, s, _⟩ := y
  refine ⟨o', C, ab, cb, ap, cp, ar, cr, az, cs, ?_, m⟩
  have s2 := (s.pick 1 rfl rfl).put (o := o') set_self
  rw [set_set] at s2
  exact s2.pick 1 rfl rfl
theorem YardO.map {a : Hp} {yp gp mb : Nat} {ht : Int} {tv : Value} {hv : Cell → Int} {is : Cell → Bool} (y : YardO a yp gp mb ht tv hv is) : ∃ o, a mb = some o ∧ MapIs o hv is ∧ yp ≠ mb := by
  obtain ⟨o, C, ab, cb, ap, cp, ar, cr, az, cs, s, m⟩ := y
  refine ⟨o, s.at 1 rfl set_self, m, fun e => ?_⟩
  subst e
  rcases s.apart (b := noHp.set yp o) (by simp) yp with k | k
  · rw [set_self] at k; cases k
  · rw [set_self] at k; cases k

end Go.Proofs.YtangejiigopdaaaDoor
end
