/- Texts of the proof, one behind the other. -/
import Derived.Test.YtangejiigopdaaaDoorM1
import Derived.Test.YtangejiigopdaaaDoorH3
section
/- The reference: the numbers, the stacks, what may be. -/
set_option linter.unusedSimpArgs false
set_option linter.unusedVariables false
set_option maxRecDepth 100000
namespace Go.Proofs.YtangejiigopdaaaDoor
open Go Go.HL

def numbersB (C : Conf) : Bool := withinB C.w 1 16 && (withinB C.h 1 16 && (withinB C.ht 1 8 && (withinB C.un 1 1000 && (withinB C.ac 1 1000 && (withinB C.sp 1 1000 && (withinB C.tu 1 1000 && (withinB C.ho 1 1000 && (withinB C.re 1 1000 && (withinB C.qu 1 16 && (withinB C.bu 1 1048576))))))))))

theorem numbers_spec {G h : Hp} {v : Value} {C : Conf} (hv : CV G h v C) : HCalls Tryd.prog G 39 #[v] h (fun u h' => u = .bool (numbersB C) ∧ h' = h) := by
  obtain ⟨ab, cb, ap, cp, ar, cr, az, cs, rfl, ca⟩ := hv
  refine HCalls.assume fun d => quietly (enter39 (by simp) ?_)
  unfold S39
  simp -implicitDefEqProofs only [regs0, retK_ret, resL_tmp, upd_eq, resL_nil1, cf65, opH_sv, box_new, cells_agg, fa26_0, add_mk, Nat.add_zero, ld3, cell_set_self, List.getElem?_cons_zero, Option.some.injEq, exists_eq_left']
  intro x hx gx
  generalize e1 : Hp.set h x _ = h1
  obtain ⟨l1, d1, b1⟩ := boxed e1 hx d gx
  have cx : ∀ k, cellIn G h1 ⟨x, k, none⟩ = _ := fun k => cell_of (look_own b1)
  unfold numbersB
  try simp -implicitDefEqProofs only [opH_sv, opH_su, pureW_sv, opH_nil, pureW_nil, pick_t, pick_f, pick_tp, pick_fp, gd_tt, gd_ft, gd_tf, gd_ff, box_new, regs0, regs1, regs2, regs3, regs4, regs5, regs6, cells_agg, cells_int, cells_bool, cells_ptr, cells_slice, cells_string, cells_func, cells_nilFunc, cells_map, retK_ret, retK_normal, resL_tmp, resL_cell, resL_nil0, resL_nil1, resL_nil2, resL_nil3, resC_ptr, ex0, ex1, ex2, ex0p, ex1p, ex2p, HL.cond_true, HL.cond_false, thenK_normal, thenK_ret, thenK_exit, blockK_normal, blockK_ret, blockK_exit, scopeK_normal, scopeK_ret, scopeK_exit, wpH_pure, bin_add, bin_sub, bin_mul, bin_lss, bin_leq, bin_gtr, bin_geq, bin_quo, bin_rem, bin_quop, bin_remp, wrap_in, bin_addp, bin_subp, bin_mulp, bin_lssp, bin_leqp, bin_gtrp, bin_geqp, un_not, un_notp, un_neg, eq_int, ne_int, eq_intp, ne_intp, callV_fn, add_mk, upd_eq, upd_ne, cell_set_self, Nat.zero_add, Nat.add_zero, Option.some.injEq, exists_eq_left', List.getElem?_cons_succ, List.getElem?_cons_zero, true_and, and_true, bne_self_eq_false, beq_self_eq_true, Bool.not_true, Bool.not_false, Bool.and_true, Bool.and_self, Bool.and_false, Bool.true_and, List.length_cons, List.length_nil, ne_eq, not_false_eq_true, Nat.reduceAdd, Nat.reduceMul, if_true, if_false, oneCell_int, oneCell_bool, oneCell_ptr, oneCell_slice, oneCell_string, oneCell_func, oneCell_map, Int.toNat_natCast, List.set_cons_zero, List.set_cons_succ, Nat.lt_irrefl, Nat.zero_lt_succ, Nat.succ_lt_succ_iff, fa26_0, fa26_0p, fa26_1, fa26_1p, fa26_10, fa26_10p, fa26_11, fa26_11p, fa26_12, fa26_12p, fa26_13, fa26_13p, fa26_14, fa26_14p, fa26_15, fa26_15p, fa26_2, fa26_2p, fa26_3, fa26_3p, fa26_4, fa26_4p, fa26_5, fa26_5p, fa26_6, fa26_6p, fa26_7, fa26_7p, fa26_8, fa26_8p, fa26_9, fa26_9p, fa28_0, fa28_0p, fa28_1, fa28_1p, fa45_0, fa45_0p, fa45_1, fa45_1p, fa45_2, fa45_2p, fa45_3, fa45_3p, fa45_4, fa45_4p, fa45_5, fa45_5p, fa45_6, fa45_6p, fa49_0, fa49_0p, fa49_1, fa49_1p, fa74_0, fa74_0p, fa74_1, fa74_1p, fa74_2, fa74_2p, fa74_3, fa74_3p, fa85_0, fa85_0p, fa85_1, fa85_1p, fa93_0, fa93_0p, fa93_1, fa93_1p, fa93_2, fa93_2p, ld3, ld3p, ld4, ld4p, ld22, ld22p, ld23, ld23p, ld24, ld24p, ld26, ld26p, ld28, ld28p, ld42, ld42p, ld45, ld45p, ld49, ld49p, ld58, ld58p, ld69, ld69p, ld72, ld72p, ld85, ld85p, st3s, st4s, st22s, st23s, st24s, st26w, st28w, st42s, st45w, st49w, st85w, ix22, ix22p, ix23, ix23p, ix24, ix24p, ix31, ix31p, ix42, ix42p, ix104, ix104p, ln22, ln22p, ln23, ln23p, ln24, ln24p, ln31, ln31p, ln42, ln42p, al4, al22, al26, al28, al42, al49, al85, cf10, cf11, cf12, cf13, cf14, cf15, cf16, cf17, cf18, cf19, cf20, cf21, cf22, cf23, cf24, cf25, cf26, cf27, cf28, cf29, cf30, cf31, cf32, cf33, cf34, cf35, cf36, cf37, cf38, cf39, cf40, cf41, cf42, cf43, cf44, cf45, cf46, cf47, cf48, cf49, cf50, cf51, cf52, cf53, cf54, cf55, cf56, cf57, cf58, cf59, cf60, cf61, cf62, cf63, cf64, cf65, cf66, cf67, cf68, cf69, cf70, cf71, cf72, cf73, cf74, cf75, bd26_0_1_2_7_8_9_10_11_12_13_14_4_15, bd26_0_1_2_7_8_9_10_11_12_13_14_4_15p, bd28_, bd28_p, bd28_0, bd28_0p, bd28_0_1, bd28_0_1p, bd45_1_3_4_5_6, bd45_1_3_4_5_6p, bd49_0_1, bd49_0_1p, bd49_1, bd49_1p, bd74_0_1_2_3, bd74_0_1_2_3p, bd85_0, bd85_0p, bd85_0_1, bd85_0_1p, bd93_0_1_2, bd93_0_1_2p, bd94_0_1_2_3, bd94_0_1_2_3p, bs42_1_0, bs22_1_0, bs24_1_0, bs42_3_0_1_2, bs31_1_0, bs22_2_0_1, bs42_6_0_1_2_3_4_5, bs42_0_, eq4, eq4p, eq28, eq28p, eq42n, eq42np, eq42s, eq42sp, eq58n, eq58np, eq58s, eq58sp, eq63n, eq63np, eq63s, eq63sp, ne28, ne28p, ne45, ne45p, cx]
  refine (rwithin_spec (n := C.w) (a := 1) (b := 16)).mono ?_
  rintro _ _ ⟨rfl, rfl⟩
  cases hc0 : withinB C.w 1 16 with
  | false => try simp -implicitDefEqProofs only [pick_f, gd_ft]; exact ⟨by simp, l1⟩
  | true =>
  try simp -implicitDefEqProofs only [Bool.true_and, pick_t, gd_tt, cf65, opH_sv, fa26_1, add_mk, Nat.zero_add, ld3, cx, List.getElem?_cons_succ, List.getElem?_cons_zero, Option.some.injEq, exists_eq_left']
  refine (rwithin_spec (n := C.h) (a := 1) (b := 16)).mono ?_
  rintro _ _ ⟨rfl, rfl⟩
  cases hc1 : withinB C.h 1 16 with
  | false => try simp -implicitDefEqProofs only [pick_f, gd_ft]; exact ⟨by simp, l1⟩
  | true =>
  try simp -implicitDefEqProofs only [Bool.true_and, pick_t, gd_tt, cf65, opH_sv, fa26_2, add_mk, Nat.zero_add, ld3, cx, List.getElem?_cons_succ, List.getElem?_cons_zero, Option.some.injEq, exists_eq_left']
  refine (rwithin_spec (n := C.ht) (a := 1) (b := 8)).mono ?_
  rintro _ _ ⟨rfl, rfl⟩
  cases hc2 : withinB C.ht 1 8 with
  | false => try simp -implicitDefEqProofs only [pick_f, gd_ft]; exact ⟨by simp, l1⟩
  | true =>
  try simp -implicitDefEqProofs only [Bool.true_and, pick_t, gd_tt, cf65, opH_sv, fa26_7, add_mk, Nat.zero_add, ld3, cx, List.getElem?_cons_succ, List.getElem?_cons_zero, Option.some.injEq, exists_eq_left']
  refine (rwithin_spec (n := C.un) (a := 1) (b := 1000)).mono ?_
  rintro _ _ ⟨rfl, rfl⟩
  cases hc3 : withinB C.un 1 1000 with
  | false => try simp -implicitDefEqProofs only [pick_f, gd_ft]; exact ⟨by simp, l1⟩
  | true =>
  try simp -implicitDefEqProofs only [Bool.true_and, pick_t, gd_tt, cf65, opH_sv, fa26_8, add_mk, Nat.zero_add, ld3, cx, List.getElem?_cons_succ, List.getElem?_cons_zero, Option.some.injEq, exists_eq_left']
  refine (rwithin_spec (n := C.ac) (a := 1) (b := 1000)).mono ?_
  rintro _ _ ⟨rfl, rfl⟩
  cases hc4 : withinB C.ac 1 1000 with
  | false => try simp -implicitDefEqProofs only [pick_f, gd_ft]; exact ⟨by simp, l1⟩
  | true =>
  try simp -implicitDefEqProofs only [Bool.true_and, pick_t, gd_tt, cf65, opH_sv, fa26_9, add_mk, Nat.zero_add, ld3, cx, List.getElem?_cons_succ, List.getElem?_cons_zero, Option.some.injEq, exists_eq_left']
  refine (rwithin_spec (n := C.sp) (a := 1) (b := 1000)).mono ?_
  rintro _ _ ⟨rfl, rfl⟩
  cases hc5 : withinB C.sp 1 1000 with
  | false => try simp -implicitDefEqProofs only [pick_f, gd_ft]; exact ⟨by simp, l1⟩
  | true =>
  try simp -implicitDefEqProofs only [Bool.true_and, pick_t, gd_tt, cf65, opH_sv, fa26_10, add_mk, Nat.zero_add, ld3, cx, List.getElem?_cons_succ, List.getElem?_cons_zero, Option.some.injEq, exists_eq_left']
  refine (rwithin_spec (n := C.tu) (a := 1) (b := 1000)).mono ?_
  rintro _ _ ⟨rfl, rfl⟩
  cases hc6 : withinB C.tu 1 1000 with
  | false => try simp -implicitDefEqProofs only [pick_f, gd_ft]; exact ⟨by simp, l1⟩
  | true =>
  try simp -implicitDefEqProofs only [Bool.true_and, pick_t, gd_tt, cf65, opH_sv, fa26_11, add_mk, Nat.zero_add, ld3, cx, List.getElem?_cons_succ, List.getElem?_cons_zero, Option.some.injEq, exists_eq_left']
  refine (rwithin_spec (n := C.ho) (a := 1) (b := 1000)).mono ?_
  rintro _ _ ⟨rfl, rfl⟩
  cases hc7 : withinB C.ho 1 1000 with
  | false => try simp -implicitDefEqProofs only [pick_f, gd_ft]; exact ⟨by simp, l1⟩
  | true =>
  try simp -implicitDefEqProofs only [Bool.true_and, pick_t, gd_tt, cf65, opH_sv, fa26_13, add_mk, Nat.zero_add, ld3, cx, List.getElem?_cons_succ, List.getElem?_cons_zero, Option.some.injEq, exists_eq_left']
  refine (rwithin_spec (n := C.re) (a := 1) (b := 1000)).mono ?_
  rintro _ _ ⟨rfl, rfl⟩
  cases hc8 : withinB C.re 1 1000 with
  | false => try simp -implicitDefEqProofs only [pick_f, gd_ft]; exact ⟨by simp, l1⟩
  | true =>
  try simp -implicitDefEqProofs only [Bool.true_and, pick_t, gd_tt, cf65, opH_sv, fa26_12, add_mk, Nat.zero_add, ld3, cx, List.getElem?_cons_succ, List.getElem?_cons_zero, Option.some.injEq, exists_eq_left']
  refine (rwithin_spec (n := C.qu) (a := 1) (b := 16)).mono ?_
  rintro _ _ ⟨rfl, rfl⟩
  cases hc9 : withinB C.qu 1 16 with
  | false => try simp -implicitDefEqProofs only [pick_f, gd_ft]; exact ⟨by simp, l1⟩
  | true =>
  try simp -implicitDefEqProofs only [Bool.true_and, pick_t, gd_tt, cf65, opH_sv, fa26_14, add_mk, Nat.zero_add, ld3, cx, List.getElem?_cons_succ, List.getElem?_cons_zero, Option.some.injEq, exists_eq_left']
  refine (rwithin_spec (n := C.bu) (a := 1) (b := 1048576)).mono ?_
  rintro _ _ ⟨rfl, rfl⟩
  try simp -implicitDefEqProofs only [true_and]
  first | exact l1 | exact ⟨by simp, l1⟩

theorem icget {G h : Hp} {b o i : Nat} {x : Int} (e : ∀ j, j < icC.n → cellIn G h ⟨b, o + i * icC.n + j, none⟩ = (icC.enc x)[j]?) : cellIn G h ⟨b, o + i * 1, none⟩ = some (.int .i64 x) := e 0 (by decide)
theorem Sees.int {G h : Hp} {sa : Option Addr} {n cap : Nat} {L : List Int} (s : Sees icC G h (.slice sa n cap) L) {i : Nat} {x : Int} (hx : L[i]? = some x) :
    ∃ b o, sa = some ⟨b, o, none⟩ ∧ cellIn G h ⟨b, o + i, none⟩ = some (.int .i64 x) := by
  obtain ⟨b, o, c, e1, e2⟩ := s.get hx
  simp only [Value.slice.injEq] at e1
  have := icget e2
  rw [Nat.mul_one] at this
  exact ⟨b, o, e1.1, this⟩

theorem CA.stk {G h : Hp} {C : Conf} {ab : Option Addr} {cb : Nat} {ap : Option Addr} {cp : Nat} {ar : Option Addr} {cr : Nat} {az : Option Addr} {cs : Nat} (ca : CA G h C ab cb ap cp ar cr az cs) {i : Nat} {s : Cell × List Int} (hs : C.st[i]? = some s) :
    ∃ b o a c, az = some ⟨b, o, none⟩ ∧ cellIn G h ⟨b, o + i * 3, none⟩ = some (.int .i64 s.1.1) ∧ cellIn G h ⟨b, o + i * 3 + 1, none⟩ = some (.int .i64 s.1.2) ∧ cellIn G h ⟨b, o + i * 3 + 2, none⟩ = some (.slice a s.2.length c) ∧ Sees icC G h (.slice a s.2.length c) s.2 := by
  obtain ⟨raw, h1, h2⟩ := ca.st
  obtain ⟨sa, cp2, e⟩ := h1.len
  have hl : C.st.length = raw.length := by simp only [Value.slice.injEq] at e; exact e.2.1
  have hi : i < raw.length := by rw [← hl]; exact (List.getElem?_eq_some_iff.1 hs).1
  have hr : raw[i]? = some raw[i] := List.getElem?_eq_getElem hi
  obtain ⟨k1, k2, k3⟩ := h2 i _ s hr hs
  obtain ⟨b, o, c, e1, e2⟩ := h1.get hr
  simp only [Value.slice.injEq] at e1
  have z0 := e2 0 (by decide)
  have z1 := e2 1 (by decide)
  have z2 := e2 2 (by decide)
  simp only [rawC, Nat.add_zero, List.getElem?_cons_zero, List.getElem?_cons_succ] at z0 z1 z2
  refine ⟨b, o, _, _, e1.1, ?_, ?_, ?_, k3⟩
  · rw [z0, ← k1]
  · rw [z1, ← k1]
  · rw [z2, k2]

/-- What the stacks must be. -/
structure BinsOk (C : Conf) : Prop where
  few : C.st.length ≤ 257
  each : ∀ s ∈ C.st, stackedB C s.1 = true ∧ (s.2.length : Int) ≤ C.ht
  apart : (C.st.map Prod.fst).Nodup
  most : (C.st.flatMap Prod.snd).length ≤ 512
  nums : ∀ b ∈ C.st.flatMap Prod.snd, withinB b 1 1000000000 = true
  once : (C.st.flatMap Prod.snd).Nodup

theorem bins_in1 {G h : Hp} {C : Conf} {ab : Option Addr} {cb : Nat} {ap : Option Addr} {cp : Nat} {ar : Option Addr} {cr : Nat} {az : Option Addr} {cs : Nat} (ca : CA G h C ab cb ap cp ar cr az cs) {x : Nat}
    (cx : ∀ k, cellIn G h ⟨x, k, none⟩ = [Value.int .i64 C.w, .int .i64 C.h, .int .i64 C.ht, .slice ab C.bl.length cb, .slice ap C.po.length cp, .slice ar C.ro.length cr, .slice az C.st.length cs, .int .i64 C.un, .int .i64 C.ac, .int .i64 C.sp, .int .i64 C.tu, .int .i64 C.ho, .int .i64 C.qu, .int .i64 C.re, .int .i64 C.bu, .bool C.back][k]?)
    {i : Nat} {s : Cell × List Int} (hs : C.st[i]? = some s) (hi : i < 1000) {KK : Exit → Rg → Hp → Prop} (r : Rg) (g1 : r 1 = .pointer (some ⟨x, 0, none⟩)) (g4 : r 4 = .int .i64 i) (g5 : r 5 = .int .i64 0)
    (H1 : s.1 ∉ (C.st.take i).map Prod.fst → ∀ r' : Rg, r' 1 = r 1 → r' 3 = r 3 → r' 4 = r 4 → KK (.exit 2) r' h)
    (H2 : s.1 ∈ (C.st.take i).map Prod.fst → ∀ r' : Rg, r' 2 = .bool false → KK .ret r' h) : loopP (S46_l11_l16 G) r h KK := by
  have hil : i < C.st.length := (List.getElem?_eq_some_iff.1 hs).1
  obtain ⟨b, o, a, c, e1, z0, z1, z2, z3⟩ := ca.stk hs
  refine loop_I (fun m r2 h3 => ∃ k : Nat, m = i - k ∧ k ≤ i ∧ r2 1 = r 1 ∧ r2 3 = r 3 ∧ r2 4 = r 4 ∧ r2 5 = .int .i64 k ∧ h3 = h ∧ s.1 ∉ (C.st.take k).map Prod.fst) ?_
    (m := i) ⟨0, rfl, Nat.zero_le _, rfl, rfl, rfl, by rw [g5]; rfl, rfl, by simp⟩
  rintro m r2 h3 ⟨k, rfl, hk, k1, k3, k4, k5, rfl, hn⟩ X HX
  rw [g1] at k1
  rw [g4] at k4
  unfold S46_l11_l16
  simp -implicitDefEqProofs (disch := first | with_reducible exact Nat.ne_of_beq_eq_false rfl | omega) only [k5, k4, thenK_exit, opH_sv, bin_lss]
  refine cond_dec (fun hlt => ?_) (fun hge => ?_)
  · have hlt' : k < i := by omega
    obtain ⟨t, ht⟩ : ∃ x, C.st[k]? = some x := ⟨_, List.getElem?_eq_getElem (by omega)⟩
    obtain ⟨b', o', a', c', e1', y0, y1, y2, y3⟩ := ca.stk ht
    subst e1
    cases e1'
    have htk : C.st.take (k + 1) = C.st.take k ++ [t] := by rw [List.take_add_one, ht]; rfl
    unfold S46_l11_l16_k17
    simp -implicitDefEqProofs (disch := first | with_reducible exact Nat.ne_of_beq_eq_false rfl | omega) only [upd_ne, k1, k5, k4, thenK_ret, pureW_sv, fa26_6p, add_mk, Nat.zero_add, ld24p, cx, List.getElem?_cons_succ, List.getElem?_cons_zero, Option.some.injEq, exists_eq_left', ix24p (Int.natCast_nonneg i) (show (i : Int) < C.st.length by omega), Int.toNat_natCast, fa49_0p, Nat.add_zero, ld28p, z0, z1, ix24p (Int.natCast_nonneg k) (show (k : Int) < C.st.length by omega), y0, y1, eq28p, Bool.and_true, cell_beq]
    cases hb : (t.1 == s.1) with
    | true =>
      try simp -implicitDefEqProofs (maxSteps := 2000000) (disch := first | with_reducible exact Nat.ne_of_beq_eq_false rfl | exact oneCell_int | exact oneCell_bool | omega | rfl | (simp; done) | fail) only [HL.cond_true]
      refine H2 ?_ _ (by simp -implicitDefEqProofs (maxSteps := 2000000) (disch := first | with_reducible exact Nat.ne_of_beq_eq_false rfl | exact oneCell_int | exact oneCell_bool | omega | rfl | (simp; done) | fail) only [upd_eq])
      have : t.1 = s.1 := by simpa using hb
      rw [← this]
      exact List.mem_map_of_mem (f := Prod.fst) (List.mem_of_getElem? (i := k) (by rw [List.getElem?_take, if_pos hlt', ht]))
    | false =>
      try simp -implicitDefEqProofs (disch := first | with_reducible exact Nat.ne_of_beq_eq_false rfl | omega) only [HL.cond_false]
      unfold S46_l11_l16_k18
      simp -implicitDefEqProofs (maxSteps := 2000000) (disch := first | with_reducible exact Nat.ne_of_beq_eq_false rfl | exact oneCell_int | exact oneCell_bool | omega | rfl | (simp; done) | fail) only [upd_ne, k5, thenK_normal, opH_sv, bin_add, wrap_in]
      refine HX (i - (k + 1)) _ _ (by omega) ⟨k + 1, rfl, hlt', by simp -implicitDefEqProofs (maxSteps := 2000000) (disch := first | with_reducible exact Nat.ne_of_beq_eq_false rfl | exact oneCell_int | exact oneCell_bool | omega | rfl | (simp; done) | fail) only [upd_ne, k1, g1], by simp -implicitDefEqProofs (maxSteps := 2000000) (disch := first | with_reducible exact Nat.ne_of_beq_eq_false rfl | exact oneCell_int | exact oneCell_bool | omega | rfl | (simp; done) | fail) only [upd_ne, k3], by simp -implicitDefEqProofs (maxSteps := 2000000) (disch := first | with_reducible exact Nat.ne_of_beq_eq_false rfl | exact oneCell_int | exact oneCell_bool | omega | rfl | (simp; done) | fail) only [upd_ne, k4, g4], by simp -implicitDefEqProofs (maxSteps := 2000000) (disch := first | with_reducible exact Nat.ne_of_beq_eq_false rfl | exact oneCell_int | exact oneCell_bool | omega | rfl | (simp; done) | fail) only [upd_eq] <;> rfl, rfl, ?_⟩
      rw [htk, List.map_append, List.mem_append]
      rintro (q | q)
      · exact hn q
      · simp at q
        rw [q] at hb
        simp at hb
  · obtain rfl : k = i := by omega
    exact H1 hn _ (by simp -implicitDefEqProofs (disch := first | with_reducible exact Nat.ne_of_beq_eq_false rfl | omega) only [upd_ne, k1, g1]) (by simp -implicitDefEqProofs (disch := first | with_reducible exact Nat.ne_of_beq_eq_false rfl | omega) only [upd_ne, k3]) (by simp -implicitDefEqProofs (disch := first | with_reducible exact Nat.ne_of_beq_eq_false rfl | omega) only [upd_ne, k4, g4])

theorem eoint : ElemOk Tryd.prog 3 icC.n 8 := ⟨by kernel_rfl, by kernel_rfl, by kernel_rfl⟩

/-- Row by row: each number is told to be a bin's, none twice. -/
theorem bins_in2 {G h : Hp} {v : Value} {L : List Int} (sv : Sees icC G h v L) {i : Nat} {y : Int} (hy : L[i]? = some y) (hi : i < 100000) {KK : Exit → Rg → Hp → Prop} (r : Rg) (g3 : r 3 = v) (g6 : r 6 = .int .i64 i) (g7 : r 7 = .int .i64 0)
    (H1 : y ∉ L.take i → ∀ r' : Rg, r' 3 = r 3 → r' 6 = r 6 → KK (.exit 6) r' h)
    (H2 : y ∈ L.take i → ∀ r' : Rg, r' 2 = .bool false → KK .ret r' h) : loopP (S46_l4_l8 G) r h KK := by
  have hil : i < L.length := (List.getElem?_eq_some_iff.1 hy).1
  obtain ⟨sa, cap, rfl⟩ := sv.len
  obtain ⟨b, o, e1, z0⟩ := Sees.int sv hy
  refine loop_I (fun m r2 h3 => ∃ k : Nat, m = i - k ∧ k ≤ i ∧ r2 3 = r 3 ∧ r2 6 = r 6 ∧ r2 7 = .int .i64 k ∧ h3 = h ∧ y ∉ L.take k) ?_
    (m := i) ⟨0, rfl, Nat.zero_le _, rfl, rfl, by rw [g7]; rfl, rfl, by simp⟩
  rintro m r2 h3 ⟨k, rfl, hk, k3, k6, k7, rfl, hn⟩ X HX
  rw [g3] at k3
  rw [g6] at k6
  subst e1
  unfold S46_l4_l8
  simp -implicitDefEqProofs (disch := first | with_reducible exact Nat.ne_of_beq_eq_false rfl | omega) only [k7, k6, thenK_exit, opH_sv, bin_lss]
  refine cond_dec (fun hlt => ?_) (fun hge => ?_)
  · have hlt' : k < i := by omega
    obtain ⟨t, ht⟩ : ∃ x, L[k]? = some x := ⟨_, List.getElem?_eq_getElem (by omega)⟩
    obtain ⟨b', o', e1', y0⟩ := Sees.int sv ht
    cases e1'
    have htk : L.take (k + 1) = L.take k ++ [t] := by rw [List.take_add_one, ht]; rfl
    unfold S46_l4_l8_k9
    simp -implicitDefEqProofs (disch := first | with_reducible exact Nat.ne_of_beq_eq_false rfl | omega) only [upd_ne, k3, k7, k6, thenK_ret, pureW_sv, ix42p (Int.natCast_nonneg i) (show (i : Int) < L.length by omega), Int.toNat_natCast, Nat.mul_one, add_mk, ld3p, z0, Option.some.injEq, exists_eq_left', ix42p (Int.natCast_nonneg k) (show (k : Int) < L.length by omega), y0, eq_intp]
    cases hb : (t == y) with
    | true =>
      try simp -implicitDefEqProofs (maxSteps := 2000000) (disch := first | with_reducible exact Nat.ne_of_beq_eq_false rfl | exact oneCell_int | exact oneCell_bool | omega | rfl | (simp; done) | fail) only [HL.cond_true]
      refine H2 ?_ _ (by simp -implicitDefEqProofs (maxSteps := 2000000) (disch := first | with_reducible exact Nat.ne_of_beq_eq_false rfl | exact oneCell_int | exact oneCell_bool | omega | rfl | (simp; done) | fail) only [upd_eq])
      have : t = y := by simpa using hb
      rw [← this]
      exact List.mem_of_getElem? (i := k) (by rw [List.getElem?_take, if_pos hlt', ht])
    | false =>
      try simp -implicitDefEqProofs (disch := first | with_reducible exact Nat.ne_of_beq_eq_false rfl | omega) only [HL.cond_false]
      unfold S46_l4_l8_k10
      simp -implicitDefEqProofs (maxSteps := 2000000) (disch := first | with_reducible exact Nat.ne_of_beq_eq_false rfl | exact oneCell_int | exact oneCell_bool | omega | rfl | (simp; done) | fail) only [upd_ne, k7, thenK_normal, opH_sv, bin_add, wrap_in]
      refine HX (i - (k + 1)) _ _ (by omega) ⟨k + 1, rfl, hlt', by simp -implicitDefEqProofs (maxSteps := 2000000) (disch := first | with_reducible exact Nat.ne_of_beq_eq_false rfl | exact oneCell_int | exact oneCell_bool | omega | rfl | (simp; done) | fail) only [upd_ne, k3, g3], by simp -implicitDefEqProofs (maxSteps := 2000000) (disch := first | with_reducible exact Nat.ne_of_beq_eq_false rfl | exact oneCell_int | exact oneCell_bool | omega | rfl | (simp; done) | fail) only [upd_ne, k6, g6], by simp -implicitDefEqProofs (maxSteps := 2000000) (disch := first | with_reducible exact Nat.ne_of_beq_eq_false rfl | exact oneCell_int | exact oneCell_bool | omega | rfl | (simp; done) | fail) only [upd_eq] <;> rfl, rfl, ?_⟩
      rw [htk, List.mem_append]
      rintro (q | q)
      · exact hn q
      · simp at q
        rw [q] at hb
        simp at hb
  · obtain rfl : k = i := by omega
    exact H1 hn _ (by simp -implicitDefEqProofs (disch := first | with_reducible exact Nat.ne_of_beq_eq_false rfl | omega) only [upd_ne, k3, g3]) (by simp -implicitDefEqProofs (disch := first | with_reducible exact Nat.ne_of_beq_eq_false rfl | omega) only [upd_ne, k6, g6])

theorem take_get {α : Type} {L : List α} {i : Nat} {x : α} (hx : L[i]? = some x) : L.take (i + 1) = L.take i ++ [x] := by rw [List.take_add_one, hx]; rfl
theorem nodup_take_succ {α : Type} {L : List α} {i : Nat} {x : α} (hx : L[i]? = some x) (h1 : (L.take i).Nodup) (h2 : x ∉ L.take i) : (L.take (i + 1)).Nodup := by
  rw [take_get hx]
  exact List.nodup_append.2 ⟨h1, by simp, fun a ha b hb => by simp at hb; subst hb; exact fun e => h2 (e ▸ ha)⟩
theorem not_nodup {α : Type} {L : List α} {i : Nat} {x : α} (hx : L[i]? = some x) (h2 : x ∈ L.take i) : ¬ L.Nodup := by
  intro h
  have : (L.take (i + 1)).Nodup := h.sublist (List.take_sublist _ _)
  rw [take_get hx] at this
  exact (List.nodup_append.1 this).2.2 x h2 x (by simp) rfl

/-- Behind the stacks: all their numbers. -/
theorem bins_out {G h : Hp} {v : Value} {L : List Int} (sv : Sees icC G h v L) (hL : L.length ≤ 10000) (R : Bool → Prop) {h0 : Hp} (h0l : h0.le h) (r : Rg) (g3 : r 3 = v)
    (H1 : L.length ≤ 512 → (∀ b ∈ L, withinB b 1 1000000000 = true) → L.Nodup → R true) (H2 : L.length > 512 ∨ (∃ b ∈ L, withinB b 1 1000000000 = false) ∨ ¬ L.Nodup → R false) :
    S46_k1 G (retK Tryd.prog G [.tmp 2] fun u h' => (∃ b, u = .bool b ∧ R b) ∧ h0.le h') r h := by
  obtain ⟨sa, cap, hve⟩ := sv.len
  unfold S46_k1
  simp -implicitDefEqProofs only [g3, hve, retK_ret, resL_tmp, upd_eq, resL_nil1, opH_sv, ln42, bin_gtr]
  by_cases hlen : L.length ≤ 512
  rotate_left
  · have e : decide ((L.length : Int) > 512) = true := by rw [decide_eq_true_iff]; omega
    simp -implicitDefEqProofs only [e, HL.cond_true]
    exact ⟨⟨_, rfl, H2 (.inl (by omega))⟩, h0l⟩
  have e : decide ((L.length : Int) > 512) = false := by rw [decide_eq_false_iff_not]; omega
  simp -implicitDefEqProofs only [e, HL.cond_false]
  unfold S46_k2
  refine loop_I (fun m r2 h3 => ∃ i : Nat, m = L.length - i ∧ i ≤ L.length ∧ r2 3 = v ∧ r2 6 = .int .i64 i ∧ h3 = h ∧ (∀ b ∈ L.take i, withinB b 1 1000000000 = true) ∧ (L.take i).Nodup) ?_
    (m := L.length) ⟨0, rfl, Nat.zero_le _, by simp -implicitDefEqProofs (disch := first | with_reducible exact Nat.ne_of_beq_eq_false rfl | omega) only [upd_ne, g3, hve], by simp -implicitDefEqProofs only [upd_eq] <;> rfl, rfl, by simp, by simp⟩
  rintro m r2 h3 ⟨i, rfl, hi, k3, k6, rfl, hw, hnd⟩ X HX
  unfold S46_l4
  simp -implicitDefEqProofs only [k3, hve, k6, thenK_exit, blockK_exit, thenK_normal, if_true, opH_sv, ln42, bin_lss]
  refine cond_dec (fun hlt => ?_) (fun hge => ?_)
  rotate_left
  · obtain rfl : i = L.length := by omega
    rw [List.take_of_length_le (Nat.le_refl _)] at hw hnd
    try simp -implicitDefEqProofs only [opH_sv, opH_su, pureW_sv, opH_nil, pureW_nil, pick_t, pick_f, pick_tp, pick_fp, gd_tt, gd_ft, gd_tf, gd_ff, box_new, regs0, regs1, regs2, regs3, regs4, regs5, regs6, cells_agg, cells_int, cells_bool, cells_ptr, cells_slice, cells_string, cells_func, cells_nilFunc, cells_map, retK_ret, retK_normal, resL_tmp, resL_cell, resL_nil0, resL_nil1, resL_nil2, resL_nil3, resC_ptr, ex0, ex1, ex2, ex0p, ex1p, ex2p, HL.cond_true, HL.cond_false, thenK_normal, thenK_ret, thenK_exit, blockK_normal, blockK_ret, blockK_exit, scopeK_normal, scopeK_ret, scopeK_exit, wpH_pure, bin_add, bin_sub, bin_mul, bin_lss, bin_leq, bin_gtr, bin_geq, bin_quo, bin_rem, bin_quop, bin_remp, wrap_in, bin_addp, bin_subp, bin_mulp, bin_lssp, bin_leqp, bin_gtrp, bin_geqp, un_not, un_notp, un_neg, eq_int, ne_int, eq_intp, ne_intp, callV_fn, add_mk, upd_eq, upd_ne, cell_set_self, Nat.zero_add, Nat.add_zero, Option.some.injEq, exists_eq_left', List.getElem?_cons_succ, List.getElem?_cons_zero, true_and, and_true, bne_self_eq_false, beq_self_eq_true, Bool.not_true, Bool.not_false, Bool.and_true, Bool.and_self, Bool.and_false, Bool.true_and, List.length_cons, List.length_nil, ne_eq, not_false_eq_true, Nat.reduceAdd, Nat.reduceMul, if_true, if_false, oneCell_int, oneCell_bool, oneCell_ptr, oneCell_slice, oneCell_string, oneCell_func, oneCell_map, Int.toNat_natCast, List.set_cons_zero, List.set_cons_succ, Nat.lt_irrefl, Nat.zero_lt_succ, Nat.succ_lt_succ_iff, fa26_0, fa26_0p, fa26_1, fa26_1p, fa26_10, fa26_10p, fa26_11, fa26_11p, fa26_12, fa26_12p, fa26_13, fa26_13p, fa26_14, fa26_14p, fa26_15, fa26_15p, fa26_2, fa26_2p, fa26_3, fa26_3p, fa26_4, fa26_4p, fa26_5, fa26_5p, fa26_6, fa26_6p, fa26_7, fa26_7p, fa26_8, fa26_8p, fa26_9, fa26_9p, fa28_0, fa28_0p, fa28_1, fa28_1p, fa45_0, fa45_0p, fa45_1, fa45_1p, fa45_2, fa45_2p, fa45_3, fa45_3p, fa45_4, fa45_4p, fa45_5, fa45_5p, fa45_6, fa45_6p, fa49_0, fa49_0p, fa49_1, fa49_1p, fa74_0, fa74_0p, fa74_1, fa74_1p, fa74_2, fa74_2p, fa74_3, fa74_3p, fa85_0, fa85_0p, fa85_1, fa85_1p, fa93_0, fa93_0p, fa93_1, fa93_1p, fa93_2, fa93_2p, ld3, ld3p, ld4, ld4p, ld22, ld22p, ld23, ld23p, ld24, ld24p, ld26, ld26p, ld28, ld28p, ld42, ld42p, ld45, ld45p, ld49, ld49p, ld58, ld58p, ld69, ld69p, ld72, ld72p, ld85, ld85p, st3s, st4s, st22s, st23s, st24s, st26w, st28w, st42s, st45w, st49w, st85w, ix22, ix22p, ix23, ix23p, ix24, ix24p, ix31, ix31p, ix42, ix42p, ix104, ix104p, ln22, ln22p, ln23, ln23p, ln24, ln24p, ln31, ln31p, ln42, ln42p, al4, al22, al26, al28, al42, al49, al85, cf10, cf11, cf12, cf13, cf14, cf15, cf16, cf17, cf18, cf19, cf20, cf21, cf22, cf23, cf24, cf25, cf26, cf27, cf28, cf29, cf30, cf31, cf32, cf33, cf34, cf35, cf36, cf37, cf38, cf39, cf40, cf41, cf42, cf43, cf44, cf45, cf46, cf47, cf48, cf49, cf50, cf51, cf52, cf53, cf54, cf55, cf56, cf57, cf58, cf59, cf60, cf61, cf62, cf63, cf64, cf65, cf66, cf67, cf68, cf69, cf70, cf71, cf72, cf73, cf74, cf75, bd26_0_1_2_7_8_9_10_11_12_13_14_4_15, bd26_0_1_2_7_8_9_10_11_12_13_14_4_15p, bd28_, bd28_p, bd28_0, bd28_0p, bd28_0_1, bd28_0_1p, bd45_1_3_4_5_6, bd45_1_3_4_5_6p, bd49_0_1, bd49_0_1p, bd49_1, bd49_1p, bd74_0_1_2_3, bd74_0_1_2_3p, bd85_0, bd85_0p, bd85_0_1, bd85_0_1p, bd93_0_1_2, bd93_0_1_2p, bd94_0_1_2_3, bd94_0_1_2_3p, bs42_1_0, bs22_1_0, bs24_1_0, bs42_3_0_1_2, bs31_1_0, bs22_2_0_1, bs42_6_0_1_2_3_4_5, bs42_0_, eq4, eq4p, eq28, eq28p, eq42n, eq42np, eq42s, eq42sp, eq58n, eq58np, eq58s, eq58sp, eq63n, eq63np, eq63s, eq63sp, ne28, ne28p, ne45, ne45p]
    unfold S46_k3
    simp -implicitDefEqProofs only [retK_ret, resL_tmp, upd_eq, resL_nil1]
    exact ⟨⟨_, rfl, H1 hlen hw hnd⟩, h0l⟩
  have hlt' : i < L.length := by omega
  obtain ⟨y, hy⟩ : ∃ x, L[i]? = some x := ⟨_, List.getElem?_eq_getElem hlt'⟩
  rw [hve] at sv
  obtain ⟨b, o, rfl, z0⟩ := Sees.int sv hy
  unfold S46_l4_k5
  simp -implicitDefEqProofs (disch := first | with_reducible exact Nat.ne_of_beq_eq_false rfl | omega) only [upd_ne, k3, hve, k6, thenK_ret, blockK_ret, retK_ret, resL_tmp, upd_eq, resL_nil1, opH_sv, cf65, ix42 (Int.natCast_nonneg i) (show (i : Int) < L.length by omega), Int.toNat_natCast, Nat.mul_one, add_mk, ld3, z0, Option.some.injEq, exists_eq_left']
  refine (rwithin_spec (n := y) (a := 1) (b := 1000000000)).mono ?_
  rintro _ _ ⟨rfl, rfl⟩
  cases hb : withinB y 1 1000000000 with
  | false =>
    try simp -implicitDefEqProofs only [un_not, Bool.not_false, HL.cond_true]
    exact ⟨⟨_, rfl, H2 (.inr (.inl ⟨y, List.mem_of_getElem? hy, hb⟩))⟩, h0l⟩
  | true =>
    try simp -implicitDefEqProofs (disch := first | with_reducible exact Nat.ne_of_beq_eq_false rfl | omega) only [un_not, Bool.not_true, HL.cond_false]
    unfold S46_l4_k7
    refine bins_in2 sv hy (by omega) _ (by simp -implicitDefEqProofs (disch := first | with_reducible exact Nat.ne_of_beq_eq_false rfl | omega) only [upd_ne, k3, hve]) (by simp -implicitDefEqProofs (disch := first | with_reducible exact Nat.ne_of_beq_eq_false rfl | omega) only [upd_ne, k6]) (by simp -implicitDefEqProofs (disch := first | with_reducible exact Nat.ne_of_beq_eq_false rfl | omega) only [upd_eq]) (fun hn r' j3 j6 => ?_) (fun hm r' j2 => ?_)
    · simp only [blockK_exit, if_true, blockK_normal, thenK_normal]
      unfold S46_l4_k6
      have j6' : r' 6 = .int .i64 i := j6.trans (by simp -implicitDefEqProofs (disch := first | with_reducible exact Nat.ne_of_beq_eq_false rfl | omega) only [upd_ne, k6])
      simp -implicitDefEqProofs (disch := first | with_reducible exact Nat.ne_of_beq_eq_false rfl | omega) only [j6', thenK_normal, opH_sv, bin_add, wrap_in]
      refine HX (L.length - (i + 1)) _ _ (by omega) ⟨i + 1, rfl, hlt', ?_, by simp -implicitDefEqProofs (disch := first | with_reducible exact Nat.ne_of_beq_eq_false rfl | omega) only [upd_eq] <;> rfl, rfl, ?_, nodup_take_succ hy hnd hn⟩
      · simp -implicitDefEqProofs (disch := first | with_reducible exact Nat.ne_of_beq_eq_false rfl | omega) only [upd_ne, j3, k3]
      · rw [take_get hy]
        intro c hc
        rcases List.mem_append.1 hc with hc | hc
        · exact hw c hc
        · simp at hc; rw [hc]; exact hb
    · simp -implicitDefEqProofs only [blockK_ret, thenK_ret, retK_ret, resL_tmp, j2, resL_nil1]
      exact ⟨⟨_, rfl, H2 (.inr (.inr (not_nodup hy hm)))⟩, h0l⟩

end Go.Proofs.YtangejiigopdaaaDoor
end

section
/- The reference: the stacks, and what may be. -/
set_option linter.unusedSimpArgs false
set_option linter.unusedVariables false
set_option maxRecDepth 100000
namespace Go.Proofs.YtangejiigopdaaaDoor
open Go Go.HL

theorem flat_len {C : Conf} {L : List (Cell × List Int)} (h : ∀ s ∈ L, (s.2.length : Int) ≤ C.ht) (ht : C.ht ≤ 8) : (L.flatMap Prod.snd).length ≤ 8 * L.length := by
  induction L with
  | nil => simp
  | cons s L ih =>
    have h1 := h s (.head _)
    have h2 := ih fun t ht => h t (.tail _ ht)
    rw [List.flatMap_cons, List.length_append, List.length_cons]
    omega

set_option maxHeartbeats 1000000 in
theorem bins_spec {G h : Hp} {v : Value} {C : Conf} (hv : CV G h v C) (ht : C.ht ≤ 8) (hL : C.bl.length ≤ 100000000000000) (hP : C.po.length ≤ 100000000000000) (hR : C.ro.length ≤ 100000000000000) :
    HCalls Tryd.prog G 46 #[v] h (fun u h' => (∃ b, u = .bool b ∧ (b = true ↔ BinsOk C)) ∧ h' = h) := by
  obtain ⟨ab, cb, ap, cp, ar, cr, az, cs, rfl, ca⟩ := hv
  refine HCalls.assume fun d => quietly (enter46 (by simp) ?_)
  unfold S46
  simp -implicitDefEqProofs only [regs0, opH_sv, box_new, cells_agg]
  intro x hx gx
  generalize e1 : Hp.set h x _ = h1
  obtain ⟨l1, d1, b1⟩ := boxed e1 hx d gx
  refine loop_I (fun m r h3 => ∃ (i : Nat) (lp : Hp) (v3 : Value), m = C.st.length - i ∧ i ≤ C.st.length ∧ i ≤ 257 ∧ r 1 = .pointer (some ⟨x, 0, none⟩) ∧ r 3 = v3 ∧ r 4 = .int .i64 i ∧
     (∀ s ∈ C.st.take i, stackedB C s.1 = true ∧ (s.2.length : Int) ≤ C.ht) ∧ ((C.st.take i).map Prod.fst).Nodup ∧ Slc icC 3 lp v3 ((C.st.take i).flatMap Prod.snd) ∧ Sep [lp, h1] h3 ∧ Dis G h3) ?_
    (m := C.st.length) ⟨0, noHp, _, rfl, Nat.zero_le _, Nat.zero_le _, by simp -implicitDefEqProofs (disch := first | with_reducible exact Nat.ne_of_beq_eq_false rfl | omega) only [upd_ne, upd_eq], by simp -implicitDefEqProofs (disch := first | with_reducible exact Nat.ne_of_beq_eq_false rfl | omega) only [upd_ne, upd_eq] <;> rfl, by simp -implicitDefEqProofs only [upd_eq] <;> rfl, by simp, by simp, Slc.nil, Sep.one.none, d1⟩
  rintro m r h3 ⟨i, lp, v3, rfl, hi, hi2, g1, g3, g4, hok, hnd, o3, s3, d3⟩ X HX
  have l3 : h1.le h3 := s3.in 1 rfl
  have cx : ∀ k, cellIn G h3 ⟨x, k, none⟩ = _ := fun k => cell_of (look_own (l3 _ _ b1))
  have ca3 := ca.up (l1.trans l3) d3
  have hfl := flat_len (C := C) (fun s hs => (hok s hs).2) ht
  rw [List.length_take, Nat.min_eq_left hi] at hfl
  unfold S46_l11
  simp -implicitDefEqProofs only [g1, g4, thenK_exit, blockK_exit, thenK_normal, if_true, opH_sv, fa26_6, add_mk, Nat.zero_add, ld24, cx, List.getElem?_cons_succ, List.getElem?_cons_zero, Option.some.injEq, exists_eq_left', ln24, bin_lss]
  refine cond_dec (fun hlt => ?_) (fun hge => ?_)
  rotate_left
  · obtain rfl : i = C.st.length := by omega
    rw [List.take_of_length_le (Nat.le_refl _)] at hok hnd o3 hfl
    try simp -implicitDefEqProofs only [opH_sv, opH_su, pureW_sv, opH_nil, pureW_nil, pick_t, pick_f, pick_tp, pick_fp, gd_tt, gd_ft, gd_tf, gd_ff, box_new, regs0, regs1, regs2, regs3, regs4, regs5, regs6, cells_agg, cells_int, cells_bool, cells_ptr, cells_slice, cells_string, cells_func, cells_nilFunc, cells_map, retK_ret, retK_normal, resL_tmp, resL_cell, resL_nil0, resL_nil1, resL_nil2, resL_nil3, resC_ptr, ex0, ex1, ex2, ex0p, ex1p, ex2p, HL.cond_true, HL.cond_false, thenK_normal, thenK_ret, thenK_exit, blockK_normal, blockK_ret, blockK_exit, scopeK_normal, scopeK_ret, scopeK_exit, wpH_pure, bin_add, bin_sub, bin_mul, bin_lss, bin_leq, bin_gtr, bin_geq, bin_quo, bin_rem, bin_quop, bin_remp, wrap_in, bin_addp, bin_subp, bin_mulp, bin_lssp, bin_leqp, bin_gtrp, bin_geqp, un_not, un_notp, un_neg, eq_int, ne_int, eq_intp, ne_intp, callV_fn, add_mk, upd_eq, upd_ne, cell_set_self, Nat.zero_add, Nat.add_zero, Option.some.injEq, exists_eq_left', List.getElem?_cons_succ, List.getElem?_cons_zero, true_and, and_true, bne_self_eq_false, beq_self_eq_true, Bool.not_true, Bool.not_false, Bool.and_true, Bool.and_self, Bool.and_false, Bool.true_and, List.length_cons, List.length_nil, ne_eq, not_false_eq_true, Nat.reduceAdd, Nat.reduceMul, if_true, if_false, oneCell_int, oneCell_bool, oneCell_ptr, oneCell_slice, oneCell_string, oneCell_func, oneCell_map, Int.toNat_natCast, List.set_cons_zero, List.set_cons_succ, Nat.lt_irrefl, Nat.zero_lt_succ, Nat.succ_lt_succ_iff, fa26_0, fa26_0p, fa26_1, fa26_1p, fa26_10, fa26_10p, fa26_11, fa26_11p, fa26_12, fa26_12p, fa26_13, fa26_13p, fa26_14, fa26_14p, fa26_15, fa26_15p, fa26_2, fa26_2p, fa26_3, fa26_3p, fa26_4, fa26_4p, fa26_5, fa26_5p, fa26_6, fa26_6p, fa26_7, fa26_7p, fa26_8, fa26_8p, fa26_9, fa26_9p, fa28_0, fa28_0p, fa28_1, fa28_1p, fa45_0, fa45_0p, fa45_1, fa45_1p, fa45_2, fa45_2p, fa45_3, fa45_3p, fa45_4, fa45_4p, fa45_5, fa45_5p, fa45_6, fa45_6p, fa49_0, fa49_0p, fa49_1, fa49_1p, fa74_0, fa74_0p, fa74_1, fa74_1p, fa74_2, fa74_2p, fa74_3, fa74_3p, fa85_0, fa85_0p, fa85_1, fa85_1p, fa93_0, fa93_0p, fa93_1, fa93_1p, fa93_2, fa93_2p, ld3, ld3p, ld4, ld4p, ld22, ld22p, ld23, ld23p, ld24, ld24p, ld26, ld26p, ld28, ld28p, ld42, ld42p, ld45, ld45p, ld49, ld49p, ld58, ld58p, ld69, ld69p, ld72, ld72p, ld85, ld85p, st3s, st4s, st22s, st23s, st24s, st26w, st28w, st42s, st45w, st49w, st85w, ix22, ix22p, ix23, ix23p, ix24, ix24p, ix31, ix31p, ix42, ix42p, ix104, ix104p, ln22, ln22p, ln23, ln23p, ln24, ln24p, ln31, ln31p, ln42, ln42p, al4, al22, al26, al28, al42, al49, al85, cf10, cf11, cf12, cf13, cf14, cf15, cf16, cf17, cf18, cf19, cf20, cf21, cf22, cf23, cf24, cf25, cf26, cf27, cf28, cf29, cf30, cf31, cf32, cf33, cf34, cf35, cf36, cf37, cf38, cf39, cf40, cf41, cf42, cf43, cf44, cf45, cf46, cf47, cf48, cf49, cf50, cf51, cf52, cf53, cf54, cf55, cf56, cf57, cf58, cf59, cf60, cf61, cf62, cf63, cf64, cf65, cf66, cf67, cf68, cf69, cf70, cf71, cf72, cf73, cf74, cf75, bd26_0_1_2_7_8_9_10_11_12_13_14_4_15, bd26_0_1_2_7_8_9_10_11_12_13_14_4_15p, bd28_, bd28_p, bd28_0, bd28_0p, bd28_0_1, bd28_0_1p, bd45_1_3_4_5_6, bd45_1_3_4_5_6p, bd49_0_1, bd49_0_1p, bd49_1, bd49_1p, bd74_0_1_2_3, bd74_0_1_2_3p, bd85_0, bd85_0p, bd85_0_1, bd85_0_1p, bd93_0_1_2, bd93_0_1_2p, bd94_0_1_2_3, bd94_0_1_2_3p, bs42_1_0, bs22_1_0, bs24_1_0, bs42_3_0_1_2, bs31_1_0, bs22_2_0_1, bs42_6_0_1_2_3_4_5, bs42_0_, eq4, eq4p, eq28, eq28p, eq42n, eq42np, eq42s, eq42sp, eq58n, eq58np, eq58s, eq58sp, eq63n, eq63np, eq63s, eq63sp, ne28, ne28p, ne45, ne45p]
    refine bins_out (v := v3) (o3.sees (by decide) s3.hd) (by omega) (fun b => b = true ↔ BinsOk C) (l1.trans l3) _ (by simp -implicitDefEqProofs (disch := first | with_reducible exact Nat.ne_of_beq_eq_false rfl | omega) only [upd_ne, g3]) (fun h1 h2 h3 => ?_) (fun hbad => ?_)
    · exact ⟨fun _ => ⟨hi2, hok, hnd, h1, h2, h3⟩, fun _ => rfl⟩
    · refine ⟨fun e => absurd e (by decide), fun B => ?_⟩
      exfalso
      rcases hbad with hb | ⟨b, hb1, hb2⟩ | hb
      · have := B.most; omega
      · have := B.nums b hb1; rw [hb2] at this; cases this
      · exact hb B.once
  have hlt' : i < C.st.length := by omega
  obtain ⟨s, hs⟩ : ∃ x, C.st[i]? = some x := ⟨_, List.getElem?_eq_getElem hlt'⟩
  have hsm : s ∈ C.st := List.mem_of_getElem? hs
  obtain ⟨b, o, a, c, rfl, z0, z1, z2, z3⟩ := ca3.stk hs
  have no : ∀ {P : Prop}, ¬ P → (false = true ↔ P) := fun h => ⟨fun e => absurd e (by decide), fun p => (h p).elim⟩
  unfold S46_l11_k12
  by_cases h257 : i < 257
  rotate_left
  · have e : decide ((i : Int) > 256) = true := by rw [decide_eq_true_iff]; omega
    simp -implicitDefEqProofs (disch := first | with_reducible exact Nat.ne_of_beq_eq_false rfl | omega) only [upd_ne, g4, thenK_ret, blockK_ret, retK_ret, resL_tmp, upd_eq, resL_nil1, pureW_sv, bin_gtrp, e, pick_tp, HL.cond_true, gd_tf]
    exact ⟨⟨_, rfl, no fun B => by have := B.few; omega⟩, l1.trans l3⟩
  have e : decide ((i : Int) > 256) = false := by rw [decide_eq_false_iff_not]; omega
  simp -implicitDefEqProofs (disch := first | with_reducible exact Nat.ne_of_beq_eq_false rfl | omega) only [upd_ne, g4, g1, thenK_ret, blockK_ret, retK_ret, resL_tmp, upd_eq, resL_nil1, pureW_sv, bin_gtrp, e, pick_fp, gd_ff, cf23, fa26_6p, add_mk, Nat.zero_add, ld24p, cx, List.getElem?_cons_succ, List.getElem?_cons_zero, Option.some.injEq, exists_eq_left', ix24p (Int.natCast_nonneg i) hlt, Int.toNat_natCast, fa49_0p, Nat.add_zero, ld28p, z0, z1, ld26p]
  refine (rstacked_spec (c := s.1) ca3.cv hL hP hR).mono ?_
  rintro _ _ ⟨rfl, rfl⟩
  cases hst : stackedB C s.1 with
  | false =>
    try simp -implicitDefEqProofs only [un_notp, Bool.not_false, pick_tp, HL.cond_true, gd_tf]
    exact ⟨⟨_, rfl, no fun B => by have := (B.each s hsm).1; rw [hst] at this; cases this⟩, l1.trans l3⟩
  | true =>
  try simp -implicitDefEqProofs only [un_notp, Bool.not_true, pick_fp, gd_ff, pureW_sv, fa26_2p, add_mk, Nat.zero_add, ld3p, cx, List.getElem?_cons_succ, List.getElem?_cons_zero, Option.some.injEq, exists_eq_left', fa26_6p, ld24p, ix24p (Int.natCast_nonneg i) hlt, Int.toNat_natCast, fa49_1p, ld42p, z2, ln42p, bin_gtrp]
  by_cases hlen : (s.2.length : Int) ≤ C.ht
  rotate_left
  · have e : decide ((s.2.length : Int) > C.ht) = true := by rw [decide_eq_true_iff]; omega
    simp -implicitDefEqProofs only [e, HL.cond_true]
    exact ⟨⟨_, rfl, no fun B => hlen (B.each s hsm).2⟩, l1.trans l3⟩
  have e : decide ((s.2.length : Int) > C.ht) = false := by rw [decide_eq_false_iff_not]; omega
  simp -implicitDefEqProofs (disch := first | with_reducible exact Nat.ne_of_beq_eq_false rfl | omega) only [e, HL.cond_false]
  unfold S46_l11_k14
  refine bins_in1 ca3 cx hs (by omega) _ (by simp -implicitDefEqProofs (disch := first | with_reducible exact Nat.ne_of_beq_eq_false rfl | omega) only [upd_ne, g1]) (by simp -implicitDefEqProofs (disch := first | with_reducible exact Nat.ne_of_beq_eq_false rfl | omega) only [upd_ne, g4]) (by simp -implicitDefEqProofs (disch := first | with_reducible exact Nat.ne_of_beq_eq_false rfl | omega) only [upd_eq]) (fun hn r' j1 j3 j4 => ?_) (fun hm r' j2 => ?_)
  · simp only [blockK_exit, if_true, blockK_normal, thenK_normal]
    have j1' : r' 1 = .pointer (some ⟨x, 0, none⟩) := j1.trans (by simp -implicitDefEqProofs (disch := first | with_reducible exact Nat.ne_of_beq_eq_false rfl | omega) only [upd_ne, g1])
    have j3' : r' 3 = v3 := j3.trans (by simp -implicitDefEqProofs (disch := first | with_reducible exact Nat.ne_of_beq_eq_false rfl | omega) only [upd_ne, g3])
    have j4' : r' 4 = .int .i64 i := j4.trans (by simp -implicitDefEqProofs (disch := first | with_reducible exact Nat.ne_of_beq_eq_false rfl | omega) only [upd_ne, g4])
    unfold S46_l11_k15
    simp -implicitDefEqProofs only [j1', j4', j3', opH_sv, fa26_6, add_mk, Nat.zero_add, ld24, cx, List.getElem?_cons_succ, List.getElem?_cons_zero, Option.some.injEq, exists_eq_left', ix24 (Int.natCast_nonneg i) hlt, Int.toNat_natCast, fa49_1, ld42, z2]
    refine append_piece icC (by decide) un42 eoint (by decide) (by decide) s3 d3 o3 z3 (by omega) fun v' a' h' o' s' d' => ?_
    unfold S46_l11_k13
    simp -implicitDefEqProofs (disch := first | with_reducible exact Nat.ne_of_beq_eq_false rfl | omega) only [upd_ne, j4', thenK_normal, opH_sv, bin_add, wrap_in]
    refine HX (C.st.length - (i + 1)) _ _ (by omega) ⟨i + 1, a', v', rfl, hlt', by omega, by simp -implicitDefEqProofs (disch := first | with_reducible exact Nat.ne_of_beq_eq_false rfl | omega) only [upd_ne, j1'], by simp -implicitDefEqProofs (disch := first | with_reducible exact Nat.ne_of_beq_eq_false rfl | omega) only [upd_ne, upd_eq], by simp -implicitDefEqProofs (disch := first | with_reducible exact Nat.ne_of_beq_eq_false rfl | omega) only [upd_eq] <;> rfl, ?_, ?_, ?_, s', d'⟩
    · rw [take_get hs]
      intro t ht'
      rcases List.mem_append.1 ht' with q | q
      · exact hok t q
      · simp at q; rw [q]; exact ⟨hst, hlen⟩
    · rw [take_get hs, List.map_append]
      exact List.nodup_append.2 ⟨hnd, by simp, fun p hp q hq => by simp at hq; subst hq; exact fun e => hn (e ▸ hp)⟩
    · rw [take_get hs, List.flatMap_append]
      simpa using o'
  · simp -implicitDefEqProofs only [blockK_ret, thenK_ret, retK_ret, resL_tmp, j2, resL_nil1]
    refine ⟨⟨_, rfl, no fun B => ?_⟩, l1.trans l3⟩
    refine not_nodup (L := C.st.map Prod.fst) (i := i) (x := s.1) (by rw [List.getElem?_map, hs]; rfl) ?_ B.apart
    rw [← List.map_take]
    exact hm

end Go.Proofs.YtangejiigopdaaaDoor
end

section
/- The reference: what may be. -/
set_option linter.unusedSimpArgs false
set_option linter.unusedVariables false
set_option maxRecDepth 100000
namespace Go.Proofs.YtangejiigopdaaaDoor
open Go Go.HL

/-- What may be. -/
structure MayOk (C : Conf) : Prop where
  nums : numbersB C = true
  po8 : C.po.length ≤ 8
  ro8 : C.ro.length ≤ 8
  bl256 : C.bl.length ≤ 256
  blk : ∀ c ∈ C.bl, inB C c = true ∧ C.bl.count c ≤ 1 ∧ C.po.count c = 0
  prt : ∀ c ∈ C.po, inB C c = true ∧ C.po.count c ≤ 1 ∧ homeB C c = false ∧ besideB C c = true
  fit : ∀ p ∈ C.ro, fitsB C p = true
  once : ∀ c ∈ C.ro.flatMap cellsP, (C.ro.flatMap cellsP).count c ≤ 1
  bins : BinsOk C

theorem may_bl {G h : Hp} {C : Conf} {ab : Option Addr} {cb : Nat} {ap : Option Addr} {cp : Nat} {ar : Option Addr} {cr : Nat} {az : Option Addr} {cs : Nat} (ca : CA G h C ab cb ap cp ar cr az cs) {x : Nat}
    (cx : ∀ k, cellIn G h ⟨x, k, none⟩ = [Value.int .i64 C.w, .int .i64 C.h, .int .i64 C.ht, .slice ab C.bl.length cb, .slice ap C.po.length cp, .slice ar C.ro.length cr, .slice az C.st.length cs, .int .i64 C.un, .int .i64 C.ac, .int .i64 C.sp, .int .i64 C.tu, .int .i64 C.ho, .int .i64 C.qu, .int .i64 C.re, .int .i64 C.bu, .bool C.back][k]?) {KK : Exit → Rg → Hp → Prop} (hL : C.bl.length ≤ 256) (hP : C.po.length ≤ 8) (r : Rg) (g1 : r 1 = .pointer (some ⟨x, 0, none⟩)) (g3 : r 3 = .int .i64 0)
    (H1 : (∀ c ∈ C.bl, inB C c = true ∧ C.bl.count c ≤ 1 ∧ C.po.count c = 0) → ∀ r' : Rg, r' 1 = r 1 → KK (.exit 0) r' h)
    (H2 : (∃ c ∈ C.bl, ¬ (inB C c = true ∧ C.bl.count c ≤ 1 ∧ C.po.count c = 0)) → ∀ r' : Rg, r' 2 = .bool false → KK .ret r' h) : loopP (S14_l16 G) r h KK := by
  refine loop_I (fun m r2 h3 => ∃ i : Nat, m = C.bl.length - i ∧ i ≤ C.bl.length ∧ r2 1 = r 1 ∧ r2 3 = .int .i64 i ∧ h3 = h ∧ (∀ c ∈ C.bl.take i, inB C c = true ∧ C.bl.count c ≤ 1 ∧ C.po.count c = 0)) ?_
    (m := C.bl.length) ⟨0, rfl, Nat.zero_le _, rfl, by rw [g3]; rfl, rfl, by simp⟩
  rintro m r2 h3 ⟨i, rfl, hi, k1, k3, rfl, hw⟩ X HX
  rw [g1] at k1
  unfold S14_l16
  simp -implicitDefEqProofs only [k1, k3, thenK_exit, opH_sv, fa26_3, add_mk, Nat.zero_add, ld22, cx, List.getElem?_cons_succ, List.getElem?_cons_zero, Option.some.injEq, exists_eq_left', ln22, bin_lss]
  refine cond_dec (fun hlt => ?_) (fun hge => ?_)
  rotate_left
  · obtain rfl : i = C.bl.length := by omega
    rw [List.take_of_length_le (Nat.le_refl _)] at hw
    exact H1 hw _ (by simp -implicitDefEqProofs (disch := first | with_reducible exact Nat.ne_of_beq_eq_false rfl | omega) only [upd_ne, k1, g1])
  have hlt' : i < C.bl.length := by omega
  obtain ⟨y, hy⟩ : ∃ x, C.bl[i]? = some x := ⟨_, List.getElem?_eq_getElem hlt'⟩
  have hym : y ∈ C.bl := List.mem_of_getElem? hy
  obtain ⟨b, o, rfl, z0, z1⟩ := Sees.cell ca.bl hy
  unfold S14_l16_k17
  simp -implicitDefEqProofs (disch := first | with_reducible exact Nat.ne_of_beq_eq_false rfl | omega) only [upd_ne, k1, k3, thenK_ret, pureW_sv, cf40, fa26_3p, add_mk, Nat.zero_add, ld22p, cx, List.getElem?_cons_succ, List.getElem?_cons_zero, Option.some.injEq, exists_eq_left', ix22p (Int.natCast_nonneg i) hlt, Int.toNat_natCast, ld28p, Nat.add_zero, z0, z1, ld26p]
  refine (in_spec (c := y) ca.cv).mono ?_
  rintro _ _ ⟨rfl, rfl⟩
  cases h1 : inB C y with
  | false =>
    try simp -implicitDefEqProofs only [un_notp, Bool.not_false, pick_tp, HL.cond_true, gd_tf]
    exact H2 ⟨y, hym, fun q => by rw [h1] at q; exact absurd q.1 (by decide)⟩ _ (by simp -implicitDefEqProofs only [upd_eq])
  | true =>
  try simp -implicitDefEqProofs only [un_notp, Bool.not_true, pick_fp, gd_ff, pureW_sv, cf41, fa26_3p, add_mk, Nat.zero_add, ld22p, cx, List.getElem?_cons_succ, List.getElem?_cons_zero, Option.some.injEq, exists_eq_left', ix22p (Int.natCast_nonneg i) hlt, Int.toNat_natCast, ld28p, Nat.add_zero, z0, z1]
  refine (among_spec (c := y) ca.bl (by omega)).mono ?_
  rintro _ _ ⟨rfl, rfl⟩
  try simp -implicitDefEqProofs only [bin_gtrp]
  by_cases h2 : C.bl.count y ≤ 1
  rotate_left
  · have e : decide ((C.bl.count y : Int) > 1) = true := by rw [decide_eq_true_iff]; omega
    simp -implicitDefEqProofs only [e, pick_tp, HL.cond_true, gd_tf]
    exact H2 ⟨y, hym, fun q => h2 q.2.1⟩ _ (by simp -implicitDefEqProofs only [upd_eq])
  have e : decide ((C.bl.count y : Int) > 1) = false := by rw [decide_eq_false_iff_not]; omega
  try simp -implicitDefEqProofs only [e, pick_fp, gd_ff, pureW_sv, cf41, fa26_3p, add_mk, Nat.zero_add, ld22p, cx, List.getElem?_cons_succ, List.getElem?_cons_zero, Option.some.injEq, exists_eq_left', ix22p (Int.natCast_nonneg i) hlt, Int.toNat_natCast, ld28p, Nat.add_zero, z0, z1, fa26_4p]
  refine (among_spec (c := y) ca.po (by omega)).mono ?_
  rintro _ _ ⟨rfl, rfl⟩
  try simp -implicitDefEqProofs only [bin_gtrp]
  by_cases h3 : C.po.count y = 0
  rotate_left
  · have e : decide ((C.po.count y : Int) > 0) = true := by rw [decide_eq_true_iff]; omega
    simp -implicitDefEqProofs only [e, HL.cond_true]
    exact H2 ⟨y, hym, fun q => h3 q.2.2⟩ _ (by simp -implicitDefEqProofs only [upd_eq])
  have e : decide ((C.po.count y : Int) > 0) = false := by rw [decide_eq_false_iff_not]; omega
  simp -implicitDefEqProofs only [e, HL.cond_false]
  unfold S14_l16_k18
  simp -implicitDefEqProofs (disch := first | with_reducible exact Nat.ne_of_beq_eq_false rfl | omega) only [upd_ne, k3, thenK_normal, opH_sv, bin_add, wrap_in]
  refine HX (C.bl.length - (i + 1)) _ _ (by omega) ⟨i + 1, rfl, hlt', by simp -implicitDefEqProofs (disch := first | with_reducible exact Nat.ne_of_beq_eq_false rfl | omega) only [upd_ne, k1, g1], by simp -implicitDefEqProofs (disch := first | with_reducible exact Nat.ne_of_beq_eq_false rfl | omega) only [upd_eq] <;> rfl, rfl, ?_⟩
  rw [take_get hy]
  intro c hc
  rcases List.mem_append.1 hc with q | q
  · exact hw c q
  · simp at q; rw [q]; exact ⟨h1, h2, h3⟩

theorem may_po {G h : Hp} {C : Conf} {ab : Option Addr} {cb : Nat} {ap : Option Addr} {cp : Nat} {ar : Option Addr} {cr : Nat} {az : Option Addr} {cs : Nat} (ca : CA G h C ab cb ap cp ar cr az cs) {x : Nat}
    (cx : ∀ k, cellIn G h ⟨x, k, none⟩ = [Value.int .i64 C.w, .int .i64 C.h, .int .i64 C.ht, .slice ab C.bl.length cb, .slice ap C.po.length cp, .slice ar C.ro.length cr, .slice az C.st.length cs, .int .i64 C.un, .int .i64 C.ac, .int .i64 C.sp, .int .i64 C.tu, .int .i64 C.ho, .int .i64 C.qu, .int .i64 C.re, .int .i64 C.bu, .bool C.back][k]?) {KK : Exit → Rg → Hp → Prop} (hL : C.bl.length ≤ 256) (hP : C.po.length ≤ 8) (hR : C.ro.length ≤ 8) (r : Rg) (g1 : r 1 = .pointer (some ⟨x, 0, none⟩)) (g4 : r 4 = .int .i64 0)
    (H1 : (∀ c ∈ C.po, inB C c = true ∧ C.po.count c ≤ 1 ∧ homeB C c = false ∧ besideB C c = true) → ∀ r' : Rg, r' 1 = r 1 → KK (.exit 2) r' h)
    (H2 : (∃ c ∈ C.po, ¬ (inB C c = true ∧ C.po.count c ≤ 1 ∧ homeB C c = false ∧ besideB C c = true)) → ∀ r' : Rg, r' 2 = .bool false → KK .ret r' h) : loopP (S14_l13 G) r h KK := by
  refine loop_I (fun m r2 h3 => ∃ i : Nat, m = C.po.length - i ∧ i ≤ C.po.length ∧ r2 1 = r 1 ∧ r2 4 = .int .i64 i ∧ h3 = h ∧ (∀ c ∈ C.po.take i, inB C c = true ∧ C.po.count c ≤ 1 ∧ homeB C c = false ∧ besideB C c = true)) ?_
    (m := C.po.length) ⟨0, rfl, Nat.zero_le _, rfl, by rw [g4]; rfl, rfl, by simp⟩
  rintro m r2 h3 ⟨i, rfl, hi, k1, k4, rfl, hw⟩ X HX
  rw [g1] at k1
  unfold S14_l13
  simp -implicitDefEqProofs only [k1, k4, thenK_exit, opH_sv, fa26_4, add_mk, Nat.zero_add, ld22, cx, List.getElem?_cons_succ, List.getElem?_cons_zero, Option.some.injEq, exists_eq_left', ln22, bin_lss]
  refine cond_dec (fun hlt => ?_) (fun hge => ?_)
  rotate_left
  · obtain rfl : i = C.po.length := by omega
    rw [List.take_of_length_le (Nat.le_refl _)] at hw
    exact H1 hw _ (by simp -implicitDefEqProofs (disch := first | with_reducible exact Nat.ne_of_beq_eq_false rfl | omega) only [upd_ne, k1, g1])
  have hlt' : i < C.po.length := by omega
  obtain ⟨y, hy⟩ : ∃ x, C.po[i]? = some x := ⟨_, List.getElem?_eq_getElem hlt'⟩
  have hym : y ∈ C.po := List.mem_of_getElem? hy
  obtain ⟨b, o, rfl, z0, z1⟩ := Sees.cell ca.po hy
  unfold S14_l13_k14
  simp -implicitDefEqProofs (disch := first | with_reducible exact Nat.ne_of_beq_eq_false rfl | omega) only [upd_ne, k1, k4, thenK_ret, pureW_sv, cf40, fa26_4p, add_mk, Nat.zero_add, ld22p, cx, List.getElem?_cons_succ, List.getElem?_cons_zero, Option.some.injEq, exists_eq_left', ix22p (Int.natCast_nonneg i) hlt, Int.toNat_natCast, ld28p, Nat.add_zero, z0, z1, ld26p]
  refine (in_spec (c := y) ca.cv).mono ?_
  rintro _ _ ⟨rfl, rfl⟩
  cases h1 : inB C y with
  | false =>
    try simp -implicitDefEqProofs only [un_notp, Bool.not_false, pick_tp, HL.cond_true, gd_tf]
    exact H2 ⟨y, hym, fun q => by rw [h1] at q; exact absurd q.1 (by decide)⟩ _ (by simp -implicitDefEqProofs only [upd_eq])
  | true =>
  try simp -implicitDefEqProofs only [un_notp, Bool.not_true, pick_fp, gd_ff, pureW_sv, cf41, fa26_4p, add_mk, Nat.zero_add, ld22p, cx, List.getElem?_cons_succ, List.getElem?_cons_zero, Option.some.injEq, exists_eq_left', ix22p (Int.natCast_nonneg i) hlt, Int.toNat_natCast, ld28p, Nat.add_zero, z0, z1]
  refine (among_spec (c := y) ca.po (by omega)).mono ?_
  rintro _ _ ⟨rfl, rfl⟩
  try simp -implicitDefEqProofs only [bin_gtrp]
  by_cases h2 : C.po.count y ≤ 1
  rotate_left
  · have e : decide ((C.po.count y : Int) > 1) = true := by rw [decide_eq_true_iff]; omega
    simp -implicitDefEqProofs only [e, pick_tp, HL.cond_true, gd_tf]
    exact H2 ⟨y, hym, fun q => h2 q.2.1⟩ _ (by simp -implicitDefEqProofs only [upd_eq])
  have e : decide ((C.po.count y : Int) > 1) = false := by rw [decide_eq_false_iff_not]; omega
  try simp -implicitDefEqProofs only [e, pick_fp, gd_ff, cf42, pureW_sv, fa26_4p, add_mk, Nat.zero_add, ld22p, cx, List.getElem?_cons_succ, List.getElem?_cons_zero, Option.some.injEq, exists_eq_left', ix22p (Int.natCast_nonneg i) hlt, Int.toNat_natCast, ld28p, Nat.add_zero, z0, z1, ld26p]
  refine (rhome_spec (c := y) ca.cv (by omega)).mono ?_
  rintro _ _ ⟨rfl, rfl⟩
  cases h3 : homeB C y with
  | true =>
    try simp -implicitDefEqProofs only [pick_tp, HL.cond_true, gd_tf]
    exact H2 ⟨y, hym, fun q => by rw [h3] at q; exact absurd q.2.2.1 (by decide)⟩ _ (by simp -implicitDefEqProofs only [upd_eq])
  | false =>
  try simp -implicitDefEqProofs only [pick_fp, gd_ff, pureW_sv, cf43, fa26_4p, add_mk, Nat.zero_add, ld22p, cx, List.getElem?_cons_succ, List.getElem?_cons_zero, Option.some.injEq, exists_eq_left', ix22p (Int.natCast_nonneg i) hlt, Int.toNat_natCast, ld28p, Nat.add_zero, z0, z1, ld26p]
  refine (rbeside_spec (c := y) ca.cv (by omega)).mono ?_
  rintro _ _ ⟨rfl, rfl⟩
  cases h4 : besideB C y with
  | false =>
    try simp -implicitDefEqProofs only [un_notp, Bool.not_false, HL.cond_true]
    exact H2 ⟨y, hym, fun q => by rw [h4] at q; exact absurd q.2.2.2 (by decide)⟩ _ (by simp -implicitDefEqProofs only [upd_eq])
  | true =>
  try simp -implicitDefEqProofs only [un_notp, Bool.not_true, HL.cond_false]
  unfold S14_l13_k15
  simp -implicitDefEqProofs (disch := first | with_reducible exact Nat.ne_of_beq_eq_false rfl | omega) only [upd_ne, k4, thenK_normal, opH_sv, bin_add, wrap_in]
  refine HX (C.po.length - (i + 1)) _ _ (by omega) ⟨i + 1, rfl, hlt', by simp -implicitDefEqProofs (disch := first | with_reducible exact Nat.ne_of_beq_eq_false rfl | omega) only [upd_ne, k1, g1], by simp -implicitDefEqProofs (disch := first | with_reducible exact Nat.ne_of_beq_eq_false rfl | omega) only [upd_eq] <;> rfl, rfl, ?_⟩
  rw [take_get hy]
  intro c hc
  rcases List.mem_append.1 hc with q | q
  · exact hw c q
  · simp at q; rw [q]; exact ⟨h1, h2, h3, h4⟩

theorem eocell : ElemOk Tryd.prog 28 cellC.n 16 := ⟨by kernel_rfl, by kernel_rfl, by kernel_rfl⟩

theorem flat_cells (L : List Pose) : (L.flatMap cellsP).length = 2 * L.length := by
  induction L with
  | nil => rfl
  | cons p L ih => rw [List.flatMap_cons, List.length_append, ih, List.length_cons]; simp [cellsP]; omega

theorem may_ro {G h0 : Hp} {C : Conf} {ab : Option Addr} {cb : Nat} {ap : Option Addr} {cp : Nat} {ar : Option Addr} {cr : Nat} {az : Option Addr} {cs : Nat} (ca : CA G h0 C ab cb ap cp ar cr az cs) {x : Nat} (d0 : Dis G h0)
    (bx : h0 x = some (.cells #[.int .i64 C.w, .int .i64 C.h, .int .i64 C.ht, .slice ab C.bl.length cb, .slice ap C.po.length cp, .slice ar C.ro.length cr, .slice az C.st.length cs, .int .i64 C.un, .int .i64 C.ac, .int .i64 C.sp, .int .i64 C.tu, .int .i64 C.ho, .int .i64 C.qu, .int .i64 C.re, .int .i64 C.bu, .bool C.back] 26 (0, 0)))
    {KK : Exit → Rg → Hp → Prop} (hL : C.bl.length ≤ 256) (hR : C.ro.length ≤ 8) (r : Rg) (g1 : r 1 = .pointer (some ⟨x, 0, none⟩)) (g5 : r 5 = .slice none 0 0) (g6 : r 6 = .int .i64 0)
    (H1 : (∀ p ∈ C.ro, fitsB C p = true) → ∀ (r' : Rg) h' lp, r' 1 = r 1 → h0.le h' → Dis G h' → lp.le h' → Slc cellC 28 lp (r' 5) (C.ro.flatMap cellsP) → KK (.exit 4) r' h')
    (H2 : (∃ p ∈ C.ro, fitsB C p = false) → ∀ (r' : Rg) h', h0.le h' → r' 2 = .bool false → KK .ret r' h') : loopP (S14_l9 G) r h0 KK := by
  refine loop_I (fun m r2 h3 => ∃ (i : Nat) (lp : Hp), m = C.ro.length - i ∧ i ≤ C.ro.length ∧ r2 1 = r 1 ∧ r2 6 = .int .i64 i ∧ (∀ p ∈ C.ro.take i, fitsB C p = true) ∧ Slc cellC 28 lp (r2 5) ((C.ro.take i).flatMap cellsP) ∧ Sep [lp, h0] h3 ∧ Dis G h3) ?_
    (m := C.ro.length) ⟨0, noHp, rfl, Nat.zero_le _, rfl, by rw [g6]; rfl, by simp, by rw [g5]; exact Slc.nil, Sep.one.none, d0⟩
  rintro m r2 h3 ⟨i, lp, rfl, hi, k1, k6, hw, o3, s3, d3⟩ X HX
  rw [g1] at k1
  have l3 : h0.le h3 := s3.in 1 rfl
  have cx : ∀ k, cellIn G h3 ⟨x, k, none⟩ = _ := fun k => cell_of (look_own (l3 _ _ bx))
  have ca3 := ca.up l3 d3
  unfold S14_l9
  simp -implicitDefEqProofs only [k1, k6, thenK_exit, opH_sv, fa26_5, add_mk, Nat.zero_add, ld23, cx, List.getElem?_cons_succ, List.getElem?_cons_zero, Option.some.injEq, exists_eq_left', ln23, bin_lss]
  refine cond_dec (fun hlt => ?_) (fun hge => ?_)
  rotate_left
  · obtain rfl : i = C.ro.length := by omega
    rw [List.take_of_length_le (Nat.le_refl _)] at hw o3
    exact H1 hw _ _ lp (by simp -implicitDefEqProofs (disch := first | with_reducible exact Nat.ne_of_beq_eq_false rfl | omega) only [upd_ne, k1, g1]) l3 d3 s3.hd (by simp -implicitDefEqProofs (disch := first | with_reducible exact Nat.ne_of_beq_eq_false rfl | omega) only [upd_ne]; exact o3)
  have hlt' : i < C.ro.length := by omega
  obtain ⟨y, hy⟩ : ∃ x, C.ro[i]? = some x := ⟨_, List.getElem?_eq_getElem hlt'⟩
  have hym : y ∈ C.ro := List.mem_of_getElem? hy
  obtain ⟨b, o, rfl, z0, z1, z2⟩ := Sees.pose ca3.ro hy
  unfold S14_l9_k10
  simp -implicitDefEqProofs (disch := first | with_reducible exact Nat.ne_of_beq_eq_false rfl | omega) only [upd_ne, k1, k6, thenK_ret, pureW_sv, cf44, fa26_5p, add_mk, Nat.zero_add, ld23p, cx, List.getElem?_cons_succ, List.getElem?_cons_zero, Option.some.injEq, exists_eq_left', ix23p (Int.natCast_nonneg i) hlt, Int.toNat_natCast, ld85p, Nat.add_zero, z0, z1, z2, ld26p]
  refine (rfits_spec (p := y) ca3.cv (by omega)).mono ?_
  rintro _ h3 ⟨rfl, rfl⟩
  cases h1 : fitsB C y with
  | false =>
    try simp -implicitDefEqProofs only [un_notp, Bool.not_false, HL.cond_true]
    exact H2 ⟨y, hym, h1⟩ _ _ l3 (by simp -implicitDefEqProofs only [upd_eq])
  | true =>
  try simp -implicitDefEqProofs (disch := first | with_reducible exact Nat.ne_of_beq_eq_false rfl | omega) only [un_notp, Bool.not_true, HL.cond_false]
  unfold S14_l9_k12
  simp -implicitDefEqProofs (disch := first | with_reducible exact Nat.ne_of_beq_eq_false rfl | omega) only [upd_ne, k1, k6, opH_sv, cf45, fa26_5, add_mk, Nat.zero_add, ld23, cx, List.getElem?_cons_succ, List.getElem?_cons_zero, Option.some.injEq, exists_eq_left', ix23 (Int.natCast_nonneg i) hlt, Int.toNat_natCast, ld85, Nat.add_zero, z0, z1, z2]
  refine (rcells_spec (p := y)).mono ?_
  rintro _ _ ⟨b', rfl, hb, gb, rfl⟩
  generalize e4 : Hp.set h3 b' _ = h4
  obtain ⟨l4, d4, b4⟩ := boxed e4 hb d3 gb
  have hlen := flat_cells (C.ro.take i)
  rw [List.length_take] at hlen
  have s4 : Sep [lp, h0] h4 := s3.le l4
  try simp -implicitDefEqProofs (disch := first | with_reducible exact Nat.ne_of_beq_eq_false rfl | omega) only [opH_sv, opH_su, pureW_sv, opH_nil, pureW_nil, pick_t, pick_f, pick_tp, pick_fp, gd_tt, gd_ft, gd_tf, gd_ff, box_new, regs0, regs1, regs2, regs3, regs4, regs5, regs6, cells_agg, cells_int, cells_bool, cells_ptr, cells_slice, cells_string, cells_func, cells_nilFunc, cells_map, retK_ret, retK_normal, resL_tmp, resL_cell, resL_nil0, resL_nil1, resL_nil2, resL_nil3, resC_ptr, ex0, ex1, ex2, ex0p, ex1p, ex2p, HL.cond_true, HL.cond_false, thenK_normal, thenK_ret, thenK_exit, blockK_normal, blockK_ret, blockK_exit, scopeK_normal, scopeK_ret, scopeK_exit, wpH_pure, bin_add, bin_sub, bin_mul, bin_lss, bin_leq, bin_gtr, bin_geq, bin_quo, bin_rem, bin_quop, bin_remp, wrap_in, bin_addp, bin_subp, bin_mulp, bin_lssp, bin_leqp, bin_gtrp, bin_geqp, un_not, un_notp, un_neg, eq_int, ne_int, eq_intp, ne_intp, callV_fn, add_mk, upd_eq, upd_ne, cell_set_self, Nat.zero_add, Nat.add_zero, Option.some.injEq, exists_eq_left', List.getElem?_cons_succ, List.getElem?_cons_zero, true_and, and_true, bne_self_eq_false, beq_self_eq_true, Bool.not_true, Bool.not_false, Bool.and_true, Bool.and_self, Bool.and_false, Bool.true_and, List.length_cons, List.length_nil, ne_eq, not_false_eq_true, Nat.reduceAdd, Nat.reduceMul, if_true, if_false, oneCell_int, oneCell_bool, oneCell_ptr, oneCell_slice, oneCell_string, oneCell_func, oneCell_map, Int.toNat_natCast, List.set_cons_zero, List.set_cons_succ, Nat.lt_irrefl, Nat.zero_lt_succ, Nat.succ_lt_succ_iff, fa26_0, fa26_0p, fa26_1, fa26_1p, fa26_10, fa26_10p, fa26_11, fa26_11p, fa26_12, fa26_12p, fa26_13, fa26_13p, fa26_14, fa26_14p, fa26_15, fa26_15p, fa26_2, fa26_2p, fa26_3, fa26_3p, fa26_4, fa26_4p, fa26_5, fa26_5p, fa26_6, fa26_6p, fa26_7, fa26_7p, fa26_8, fa26_8p, fa26_9, fa26_9p, fa28_0, fa28_0p, fa28_1, fa28_1p, fa45_0, fa45_0p, fa45_1, fa45_1p, fa45_2, fa45_2p, fa45_3, fa45_3p, fa45_4, fa45_4p, fa45_5, fa45_5p, fa45_6, fa45_6p, fa49_0, fa49_0p, fa49_1, fa49_1p, fa74_0, fa74_0p, fa74_1, fa74_1p, fa74_2, fa74_2p, fa74_3, fa74_3p, fa85_0, fa85_0p, fa85_1, fa85_1p, fa93_0, fa93_0p, fa93_1, fa93_1p, fa93_2, fa93_2p, ld3, ld3p, ld4, ld4p, ld22, ld22p, ld23, ld23p, ld24, ld24p, ld26, ld26p, ld28, ld28p, ld42, ld42p, ld45, ld45p, ld49, ld49p, ld58, ld58p, ld69, ld69p, ld72, ld72p, ld85, ld85p, st3s, st4s, st22s, st23s, st24s, st26w, st28w, st42s, st45w, st49w, st85w, ix22, ix22p, ix23, ix23p, ix24, ix24p, ix31, ix31p, ix42, ix42p, ix104, ix104p, ln22, ln22p, ln23, ln23p, ln24, ln24p, ln31, ln31p, ln42, ln42p, al4, al22, al26, al28, al42, al49, al85, cf10, cf11, cf12, cf13, cf14, cf15, cf16, cf17, cf18, cf19, cf20, cf21, cf22, cf23, cf24, cf25, cf26, cf27, cf28, cf29, cf30, cf31, cf32, cf33, cf34, cf35, cf36, cf37, cf38, cf39, cf40, cf41, cf42, cf43, cf44, cf45, cf46, cf47, cf48, cf49, cf50, cf51, cf52, cf53, cf54, cf55, cf56, cf57, cf58, cf59, cf60, cf61, cf62, cf63, cf64, cf65, cf66, cf67, cf68, cf69, cf70, cf71, cf72, cf73, cf74, cf75, bd26_0_1_2_7_8_9_10_11_12_13_14_4_15, bd26_0_1_2_7_8_9_10_11_12_13_14_4_15p, bd28_, bd28_p, bd28_0, bd28_0p, bd28_0_1, bd28_0_1p, bd45_1_3_4_5_6, bd45_1_3_4_5_6p, bd49_0_1, bd49_0_1p, bd49_1, bd49_1p, bd74_0_1_2_3, bd74_0_1_2_3p, bd85_0, bd85_0p, bd85_0_1, bd85_0_1p, bd93_0_1_2, bd93_0_1_2p, bd94_0_1_2_3, bd94_0_1_2_3p, bs42_1_0, bs22_1_0, bs24_1_0, bs42_3_0_1_2, bs31_1_0, bs22_2_0_1, bs42_6_0_1_2_3_4_5, bs42_0_, eq4, eq4p, eq28, eq28p, eq42n, eq42np, eq42s, eq42sp, eq58n, eq58np, eq58s, eq58sp, eq63n, eq63np, eq63s, eq63sp, ne28, ne28p, ne45, ne45p]
  refine append_piece cellC (by decide) un22 eocell (by decide) (by decide) (M := cellsP y) s4 d4 o3 (Sees.row b4 rfl (Nat.le_refl _)) (by rw [hlen, show (cellsP y).length = 2 from rfl]; omega) fun v' a' h' o' s' d' => ?_
  unfold S14_l9_k11
  simp -implicitDefEqProofs (maxSteps := 2000000) (disch := first | with_reducible exact Nat.ne_of_beq_eq_false rfl | exact oneCell_int | exact oneCell_bool | omega | rfl | (simp; done) | fail) only [upd_ne, k6, thenK_normal, opH_sv, bin_add, wrap_in]
  refine HX (C.ro.length - (i + 1)) _ _ (by omega) ⟨i + 1, a', rfl, hlt', by simp -implicitDefEqProofs (maxSteps := 2000000) (disch := first | with_reducible exact Nat.ne_of_beq_eq_false rfl | exact oneCell_int | exact oneCell_bool | omega | rfl | (simp; done) | fail) only [upd_ne, k1, g1], by simp -implicitDefEqProofs (maxSteps := 2000000) (disch := first | with_reducible exact Nat.ne_of_beq_eq_false rfl | exact oneCell_int | exact oneCell_bool | omega | rfl | (simp; done) | fail) only [upd_eq] <;> rfl, ?_, ?_, s', d'⟩
  · rw [take_get hy]
    intro c hc
    rcases List.mem_append.1 hc with q | q
    · exact hw c q
    · simp at q; rw [q]; exact h1
  · simp -implicitDefEqProofs (disch := first | with_reducible exact Nat.ne_of_beq_eq_false rfl | omega) only [upd_ne, upd_eq]
    rw [take_get hy, List.flatMap_append]
    simpa using o'

theorem may_once {G h : Hp} {L : List Cell} {v : Value} (sv : Sees cellC G h v L) (hL : L.length ≤ 1000) {KK : Exit → Rg → Hp → Prop} (r : Rg) (g5 : r 5 = v) (g7 : r 7 = .int .i64 0)
    (H1 : (∀ c ∈ L, L.count c ≤ 1) → ∀ r' : Rg, r' 1 = r 1 → KK (.exit 6) r' h)
    (H2 : (∃ c ∈ L, ¬ L.count c ≤ 1) → ∀ r' : Rg, r' 2 = .bool false → KK .ret r' h) : loopP (S14_l6 G) r h KK := by
  obtain ⟨sa, cap, rfl⟩ := sv.len
  refine loop_I (fun m r2 h3 => ∃ i : Nat, m = L.length - i ∧ i ≤ L.length ∧ r2 1 = r 1 ∧ r2 5 = r 5 ∧ r2 7 = .int .i64 i ∧ h3 = h ∧ (∀ c ∈ L.take i, L.count c ≤ 1)) ?_
    (m := L.length) ⟨0, rfl, Nat.zero_le _, rfl, rfl, by rw [g7]; rfl, rfl, by simp⟩
  rintro m r2 h3 ⟨i, rfl, hi, k1, k5, k7, rfl, hw⟩ X HX
  rw [g5] at k5
  unfold S14_l6
  simp -implicitDefEqProofs only [k5, k7, thenK_exit, opH_sv, ln22, bin_lss]
  refine cond_dec (fun hlt => ?_) (fun hge => ?_)
  rotate_left
  · obtain rfl : i = L.length := by omega
    rw [List.take_of_length_le (Nat.le_refl _)] at hw
    exact H1 hw _ (by simp -implicitDefEqProofs (disch := first | with_reducible exact Nat.ne_of_beq_eq_false rfl | omega) only [upd_ne, k1])
  have hlt' : i < L.length := by omega
  obtain ⟨y, hy⟩ : ∃ x, L[i]? = some x := ⟨_, List.getElem?_eq_getElem hlt'⟩
  obtain ⟨b, o, rfl, z0, z1⟩ := Sees.cell sv hy
  unfold S14_l6_k7
  simp -implicitDefEqProofs (disch := first | with_reducible exact Nat.ne_of_beq_eq_false rfl | omega) only [upd_ne, k5, k7, thenK_ret, opH_sv, cf41, ix22 (Int.natCast_nonneg i) hlt, Int.toNat_natCast, add_mk, ld28, Nat.add_zero, z0, Option.some.injEq, z1, exists_eq_left']
  refine (among_spec (c := y) sv (by omega)).mono ?_
  rintro _ _ ⟨rfl, rfl⟩
  try simp -implicitDefEqProofs only [bin_gtr]
  by_cases h2 : L.count y ≤ 1
  rotate_left
  · have e : decide ((L.count y : Int) > 1) = true := by rw [decide_eq_true_iff]; omega
    simp -implicitDefEqProofs only [e, HL.cond_true]
    exact H2 ⟨y, List.mem_of_getElem? hy, h2⟩ _ (by simp -implicitDefEqProofs only [upd_eq])
  have e : decide ((L.count y : Int) > 1) = false := by rw [decide_eq_false_iff_not]; omega
  simp -implicitDefEqProofs only [e, HL.cond_false]
  unfold S14_l6_k8
  simp -implicitDefEqProofs (disch := first | with_reducible exact Nat.ne_of_beq_eq_false rfl | omega) only [upd_ne, k7, thenK_normal, opH_sv, bin_add, wrap_in]
  refine HX (L.length - (i + 1)) _ _ (by omega) ⟨i + 1, rfl, hlt', by simp -implicitDefEqProofs (disch := first | with_reducible exact Nat.ne_of_beq_eq_false rfl | omega) only [upd_ne, k1], by simp -implicitDefEqProofs (disch := first | with_reducible exact Nat.ne_of_beq_eq_false rfl | omega) only [upd_ne, k5, g5], by simp -implicitDefEqProofs (disch := first | with_reducible exact Nat.ne_of_beq_eq_false rfl | omega) only [upd_eq] <;> rfl, rfl, ?_⟩
  rw [take_get hy]
  intro c hc
  rcases List.mem_append.1 hc with q | q
  · exact hw c q
  · simp at q; rw [q]; exact h2

set_option maxHeartbeats 1000000 in
theorem rmay_spec {G h : Hp} {v : Value} {C : Conf} (hv : CV G h v C) :
    HCalls Tryd.prog G 14 #[v] h (fun u h' => (∃ b, u = .bool b ∧ (b = true ↔ MayOk C)) ∧ h' = h) := by
  obtain ⟨ab, cb, ap, cp, ar, cr, az, cs, rfl, ca⟩ := hv
  refine HCalls.assume fun d => quietly (enter14 (by simp) ?_)
  unfold S14
  simp -implicitDefEqProofs only [regs0, retK_ret, resL_tmp, upd_eq, resL_nil1, opH_sv, cf39, box_new, cells_agg, ld26, add_mk, Nat.add_zero, cell_set_self, List.getElem?_cons_zero, Option.some.injEq, Nat.zero_add, List.getElem?_cons_succ, exists_eq_left']
  intro x hx gx
  generalize e1 : Hp.set h x _ = h1
  obtain ⟨l1, d1, b1⟩ := boxed e1 hx d gx
  have cx : ∀ k, cellIn G h1 ⟨x, k, none⟩ = _ := fun k => cell_of (look_own b1)
  have ca1 := ca.up l1 d1
  have no : ∀ {P : Prop}, ¬ P → (false = true ↔ P) := fun h => ⟨fun e => absurd e (by decide), fun p => (h p).elim⟩
  try simp -implicitDefEqProofs only [opH_sv, opH_su, pureW_sv, opH_nil, pureW_nil, pick_t, pick_f, pick_tp, pick_fp, gd_tt, gd_ft, gd_tf, gd_ff, box_new, regs0, regs1, regs2, regs3, regs4, regs5, regs6, cells_agg, cells_int, cells_bool, cells_ptr, cells_slice, cells_string, cells_func, cells_nilFunc, cells_map, retK_ret, retK_normal, resL_tmp, resL_cell, resL_nil0, resL_nil1, resL_nil2, resL_nil3, resC_ptr, ex0, ex1, ex2, ex0p, ex1p, ex2p, HL.cond_true, HL.cond_false, thenK_normal, thenK_ret, thenK_exit, blockK_normal, blockK_ret, blockK_exit, scopeK_normal, scopeK_ret, scopeK_exit, wpH_pure, bin_add, bin_sub, bin_mul, bin_lss, bin_leq, bin_gtr, bin_geq, bin_quo, bin_rem, bin_quop, bin_remp, wrap_in, bin_addp, bin_subp, bin_mulp, bin_lssp, bin_leqp, bin_gtrp, bin_geqp, un_not, un_notp, un_neg, eq_int, ne_int, eq_intp, ne_intp, callV_fn, add_mk, upd_eq, upd_ne, cell_set_self, Nat.zero_add, Nat.add_zero, Option.some.injEq, exists_eq_left', List.getElem?_cons_succ, List.getElem?_cons_zero, true_and, and_true, bne_self_eq_false, beq_self_eq_true, Bool.not_true, Bool.not_false, Bool.and_true, Bool.and_self, Bool.and_false, Bool.true_and, List.length_cons, List.length_nil, ne_eq, not_false_eq_true, Nat.reduceAdd, Nat.reduceMul, if_true, if_false, oneCell_int, oneCell_bool, oneCell_ptr, oneCell_slice, oneCell_string, oneCell_func, oneCell_map, Int.toNat_natCast, List.set_cons_zero, List.set_cons_succ, Nat.lt_irrefl, Nat.zero_lt_succ, Nat.succ_lt_succ_iff, fa26_0, fa26_0p, fa26_1, fa26_1p, fa26_10, fa26_10p, fa26_11, fa26_11p, fa26_12, fa26_12p, fa26_13, fa26_13p, fa26_14, fa26_14p, fa26_15, fa26_15p, fa26_2, fa26_2p, fa26_3, fa26_3p, fa26_4, fa26_4p, fa26_5, fa26_5p, fa26_6, fa26_6p, fa26_7, fa26_7p, fa26_8, fa26_8p, fa26_9, fa26_9p, fa28_0, fa28_0p, fa28_1, fa28_1p, fa45_0, fa45_0p, fa45_1, fa45_1p, fa45_2, fa45_2p, fa45_3, fa45_3p, fa45_4, fa45_4p, fa45_5, fa45_5p, fa45_6, fa45_6p, fa49_0, fa49_0p, fa49_1, fa49_1p, fa74_0, fa74_0p, fa74_1, fa74_1p, fa74_2, fa74_2p, fa74_3, fa74_3p, fa85_0, fa85_0p, fa85_1, fa85_1p, fa93_0, fa93_0p, fa93_1, fa93_1p, fa93_2, fa93_2p, ld3, ld3p, ld4, ld4p, ld22, ld22p, ld23, ld23p, ld24, ld24p, ld26, ld26p, ld28, ld28p, ld42, ld42p, ld45, ld45p, ld49, ld49p, ld58, ld58p, ld69, ld69p, ld72, ld72p, ld85, ld85p, st3s, st4s, st22s, st23s, st24s, st26w, st28w, st42s, st45w, st49w, st85w, ix22, ix22p, ix23, ix23p, ix24, ix24p, ix31, ix31p, ix42, ix42p, ix104, ix104p, ln22, ln22p, ln23, ln23p, ln24, ln24p, ln31, ln31p, ln42, ln42p, al4, al22, al26, al28, al42, al49, al85, cf10, cf11, cf12, cf13, cf14, cf15, cf16, cf17, cf18, cf19, cf20, cf21, cf22, cf23, cf24, cf25, cf26, cf27, cf28, cf29, cf30, cf31, cf32, cf33, cf34, cf35, cf36, cf37, cf38, cf39, cf40, cf41, cf42, cf43, cf44, cf45, cf46, cf47, cf48, cf49, cf50, cf51, cf52, cf53, cf54, cf55, cf56, cf57, cf58, cf59, cf60, cf61, cf62, cf63, cf64, cf65, cf66, cf67, cf68, cf69, cf70, cf71, cf72, cf73, cf74, cf75, bd26_0_1_2_7_8_9_10_11_12_13_14_4_15, bd26_0_1_2_7_8_9_10_11_12_13_14_4_15p, bd28_, bd28_p, bd28_0, bd28_0p, bd28_0_1, bd28_0_1p, bd45_1_3_4_5_6, bd45_1_3_4_5_6p, bd49_0_1, bd49_0_1p, bd49_1, bd49_1p, bd74_0_1_2_3, bd74_0_1_2_3p, bd85_0, bd85_0p, bd85_0_1, bd85_0_1p, bd93_0_1_2, bd93_0_1_2p, bd94_0_1_2_3, bd94_0_1_2_3p, bs42_1_0, bs22_1_0, bs24_1_0, bs42_3_0_1_2, bs31_1_0, bs22_2_0_1, bs42_6_0_1_2_3_4_5, bs42_0_, eq4, eq4p, eq28, eq28p, eq42n, eq42np, eq42s, eq42sp, eq58n, eq58np, eq58s, eq58sp, eq63n, eq63np, eq63s, eq63sp, ne28, ne28p, ne45, ne45p, cx]
  refine (numbers_spec ca1.cv).mono ?_
  rintro _ _ ⟨rfl, rfl⟩
  cases hn : numbersB C with
  | false =>
    try simp -implicitDefEqProofs only [un_not, Bool.not_false, pick_t, HL.cond_true, gd_tf]
    exact ⟨⟨_, rfl, no fun M => by have := M.nums; rw [hn] at this; cases this⟩, l1⟩
  | true =>
  have hht : C.ht ≤ 8 := by
    unfold numbersB withinB at hn
    simp only [Bool.and_eq_true, decide_eq_true_eq] at hn
    exact hn.2.2.1.2
  try simp -implicitDefEqProofs only [un_not, Bool.not_true, pick_f, gd_ff, opH_sv, fa26_4, add_mk, Nat.zero_add, ld22, cx, List.getElem?_cons_succ, List.getElem?_cons_zero, Option.some.injEq, exists_eq_left', ln22, bin_gtr]
  by_cases hP : C.po.length ≤ 8
  rotate_left
  · have e : decide ((C.po.length : Int) > 8) = true := by rw [decide_eq_true_iff]; omega
    simp -implicitDefEqProofs only [e, pick_t, HL.cond_true, gd_tf]
    exact ⟨⟨_, rfl, no fun M => hP M.po8⟩, l1⟩
  have e : decide ((C.po.length : Int) > 8) = false := by rw [decide_eq_false_iff_not]; omega
  try simp -implicitDefEqProofs only [e, pick_f, gd_ff, opH_sv, fa26_5, add_mk, Nat.zero_add, ld23, cx, List.getElem?_cons_succ, List.getElem?_cons_zero, Option.some.injEq, exists_eq_left', ln23, bin_gtr]
  by_cases hR : C.ro.length ≤ 8
  rotate_left
  · have e : decide ((C.ro.length : Int) > 8) = true := by rw [decide_eq_true_iff]; omega
    simp -implicitDefEqProofs only [e, pick_t, HL.cond_true, gd_tf]
    exact ⟨⟨_, rfl, no fun M => hR M.ro8⟩, l1⟩
  have e : decide ((C.ro.length : Int) > 8) = false := by rw [decide_eq_false_iff_not]; omega
  try simp -implicitDefEqProofs only [e, pick_f, gd_ff, opH_sv, fa26_3, add_mk, Nat.zero_add, ld22, cx, List.getElem?_cons_succ, List.getElem?_cons_zero, Option.some.injEq, exists_eq_left', ln22, bin_gtr]
  by_cases hL : C.bl.length ≤ 256
  rotate_left
  · have e : decide ((C.bl.length : Int) > 256) = true := by rw [decide_eq_true_iff]; omega
    simp -implicitDefEqProofs only [e, HL.cond_true]
    exact ⟨⟨_, rfl, no fun M => hL M.bl256⟩, l1⟩
  have e : decide ((C.bl.length : Int) > 256) = false := by rw [decide_eq_false_iff_not]; omega
  simp -implicitDefEqProofs only [e, HL.cond_false]
  unfold S14_k1
  refine may_bl ca1 cx hL hP _ (by simp -implicitDefEqProofs (disch := first | with_reducible exact Nat.ne_of_beq_eq_false rfl | omega) only [upd_ne, upd_eq]) (by simp -implicitDefEqProofs only [upd_eq]) (fun hbl r' j1 => ?_) (fun ⟨c, hc, hbad⟩ r' j2 => ?_)
  rotate_left
  · simp -implicitDefEqProofs only [blockK_ret, thenK_ret, retK_ret, resL_tmp, j2, resL_nil1]
    exact ⟨⟨_, rfl, no fun M => hbad (M.blk c hc)⟩, l1⟩
  simp only [blockK_exit, if_true, blockK_normal, thenK_normal]
  have j1' : r' 1 = .pointer (some ⟨x, 0, none⟩) := j1.trans (by simp -implicitDefEqProofs (disch := first | with_reducible exact Nat.ne_of_beq_eq_false rfl | omega) only [upd_ne, upd_eq])
  unfold S14_k2
  refine may_po ca1 cx hL hP hR _ (by simp -implicitDefEqProofs (disch := first | with_reducible exact Nat.ne_of_beq_eq_false rfl | omega) only [upd_ne, j1']) (by simp -implicitDefEqProofs only [upd_eq]) (fun hpo r'' j1 => ?_) (fun ⟨c, hc, hbad⟩ r' j2 => ?_)
  rotate_left
  · simp -implicitDefEqProofs only [blockK_ret, thenK_ret, retK_ret, resL_tmp, j2, resL_nil1]
    exact ⟨⟨_, rfl, no fun M => hbad (M.prt c hc)⟩, l1⟩
  simp only [blockK_exit, if_true, blockK_normal, thenK_normal]
  have j1'' : r'' 1 = .pointer (some ⟨x, 0, none⟩) := j1.trans (by simp -implicitDefEqProofs (disch := first | with_reducible exact Nat.ne_of_beq_eq_false rfl | omega) only [upd_ne, j1'])
  unfold S14_k3
  refine may_ro ca1 d1 b1 hL hR _ (by simp -implicitDefEqProofs (disch := first | with_reducible exact Nat.ne_of_beq_eq_false rfl | omega) only [upd_ne, j1'']) (by simp -implicitDefEqProofs (disch := first | with_reducible exact Nat.ne_of_beq_eq_false rfl | omega) only [upd_ne, upd_eq]) (by simp -implicitDefEqProofs only [upd_eq]) (fun hro r3 h3 lp j1 l3 d3 llp o3 => ?_) (fun ⟨p, hp, hbad⟩ r3 h3 l3 j2 => ?_)
  rotate_left
  · simp -implicitDefEqProofs only [blockK_ret, thenK_ret, retK_ret, resL_tmp, j2, resL_nil1]
    exact ⟨⟨_, rfl, no fun M => by have := M.fit p hp; rw [hbad] at this; cases this⟩, l1.trans l3⟩
  simp only [blockK_exit, if_true, blockK_normal, thenK_normal]
  have j31 : r3 1 = .pointer (some ⟨x, 0, none⟩) := j1.trans (by simp -implicitDefEqProofs (disch := first | with_reducible exact Nat.ne_of_beq_eq_false rfl | omega) only [upd_ne, j1''])
  unfold S14_k4
  refine may_once (o3.sees (by decide) llp) (by rw [flat_cells]; omega) _ (by simp -implicitDefEqProofs (disch := first | with_reducible exact Nat.ne_of_beq_eq_false rfl | omega) only [upd_ne]) (by simp -implicitDefEqProofs only [upd_eq]) (fun hon r4 j1 => ?_) (fun ⟨c, hc, hbad⟩ r4 j2 => ?_)
  rotate_left
  · simp -implicitDefEqProofs only [blockK_ret, thenK_ret, retK_ret, resL_tmp, j2, resL_nil1]
    exact ⟨⟨_, rfl, no fun M => hbad (M.once c hc)⟩, l1.trans l3⟩
  simp only [blockK_exit, if_true, blockK_normal, thenK_normal]
  have j41 : r4 1 = .pointer (some ⟨x, 0, none⟩) := j1.trans (by simp -implicitDefEqProofs (disch := first | with_reducible exact Nat.ne_of_beq_eq_false rfl | omega) only [upd_ne, j31])
  have cx3 : ∀ k, cellIn G h3 ⟨x, k, none⟩ = _ := fun k => cell_of (look_own (l3 _ _ b1))
  unfold S14_k5
  simp -implicitDefEqProofs only [j41, retK_ret, resL_tmp, upd_eq, resL_nil1, cf46, opH_sv, ld26, add_mk, Nat.add_zero, cx3, List.getElem?_cons_zero, Option.some.injEq, Nat.zero_add, List.getElem?_cons_succ, exists_eq_left']
  refine (bins_spec (ca1.up l3 d3).cv hht (by omega) (by omega) (by omega)).mono ?_
  rintro _ h3 ⟨⟨b, rfl, hb⟩, rfl⟩
  try simp -implicitDefEqProofs only [opH_sv, opH_su, pureW_sv, opH_nil, pureW_nil, pick_t, pick_f, pick_tp, pick_fp, gd_tt, gd_ft, gd_tf, gd_ff, box_new, regs0, regs1, regs2, regs3, regs4, regs5, regs6, cells_agg, cells_int, cells_bool, cells_ptr, cells_slice, cells_string, cells_func, cells_nilFunc, cells_map, retK_ret, retK_normal, resL_tmp, resL_cell, resL_nil0, resL_nil1, resL_nil2, resL_nil3, resC_ptr, ex0, ex1, ex2, ex0p, ex1p, ex2p, HL.cond_true, HL.cond_false, thenK_normal, thenK_ret, thenK_exit, blockK_normal, blockK_ret, blockK_exit, scopeK_normal, scopeK_ret, scopeK_exit, wpH_pure, bin_add, bin_sub, bin_mul, bin_lss, bin_leq, bin_gtr, bin_geq, bin_quo, bin_rem, bin_quop, bin_remp, wrap_in, bin_addp, bin_subp, bin_mulp, bin_lssp, bin_leqp, bin_gtrp, bin_geqp, un_not, un_notp, un_neg, eq_int, ne_int, eq_intp, ne_intp, callV_fn, add_mk, upd_eq, upd_ne, cell_set_self, Nat.zero_add, Nat.add_zero, Option.some.injEq, exists_eq_left', List.getElem?_cons_succ, List.getElem?_cons_zero, true_and, and_true, bne_self_eq_false, beq_self_eq_true, Bool.not_true, Bool.not_false, Bool.and_true, Bool.and_self, Bool.and_false, Bool.true_and, List.length_cons, List.length_nil, ne_eq, not_false_eq_true, Nat.reduceAdd, Nat.reduceMul, if_true, if_false, oneCell_int, oneCell_bool, oneCell_ptr, oneCell_slice, oneCell_string, oneCell_func, oneCell_map, Int.toNat_natCast, List.set_cons_zero, List.set_cons_succ, Nat.lt_irrefl, Nat.zero_lt_succ, Nat.succ_lt_succ_iff, fa26_0, fa26_0p, fa26_1, fa26_1p, fa26_10, fa26_10p, fa26_11, fa26_11p, fa26_12, fa26_12p, fa26_13, fa26_13p, fa26_14, fa26_14p, fa26_15, fa26_15p, fa26_2, fa26_2p, fa26_3, fa26_3p, fa26_4, fa26_4p, fa26_5, fa26_5p, fa26_6, fa26_6p, fa26_7, fa26_7p, fa26_8, fa26_8p, fa26_9, fa26_9p, fa28_0, fa28_0p, fa28_1, fa28_1p, fa45_0, fa45_0p, fa45_1, fa45_1p, fa45_2, fa45_2p, fa45_3, fa45_3p, fa45_4, fa45_4p, fa45_5, fa45_5p, fa45_6, fa45_6p, fa49_0, fa49_0p, fa49_1, fa49_1p, fa74_0, fa74_0p, fa74_1, fa74_1p, fa74_2, fa74_2p, fa74_3, fa74_3p, fa85_0, fa85_0p, fa85_1, fa85_1p, fa93_0, fa93_0p, fa93_1, fa93_1p, fa93_2, fa93_2p, ld3, ld3p, ld4, ld4p, ld22, ld22p, ld23, ld23p, ld24, ld24p, ld26, ld26p, ld28, ld28p, ld42, ld42p, ld45, ld45p, ld49, ld49p, ld58, ld58p, ld69, ld69p, ld72, ld72p, ld85, ld85p, st3s, st4s, st22s, st23s, st24s, st26w, st28w, st42s, st45w, st49w, st85w, ix22, ix22p, ix23, ix23p, ix24, ix24p, ix31, ix31p, ix42, ix42p, ix104, ix104p, ln22, ln22p, ln23, ln23p, ln24, ln24p, ln31, ln31p, ln42, ln42p, al4, al22, al26, al28, al42, al49, al85, cf10, cf11, cf12, cf13, cf14, cf15, cf16, cf17, cf18, cf19, cf20, cf21, cf22, cf23, cf24, cf25, cf26, cf27, cf28, cf29, cf30, cf31, cf32, cf33, cf34, cf35, cf36, cf37, cf38, cf39, cf40, cf41, cf42, cf43, cf44, cf45, cf46, cf47, cf48, cf49, cf50, cf51, cf52, cf53, cf54, cf55, cf56, cf57, cf58, cf59, cf60, cf61, cf62, cf63, cf64, cf65, cf66, cf67, cf68, cf69, cf70, cf71, cf72, cf73, cf74, cf75, bd26_0_1_2_7_8_9_10_11_12_13_14_4_15, bd26_0_1_2_7_8_9_10_11_12_13_14_4_15p, bd28_, bd28_p, bd28_0, bd28_0p, bd28_0_1, bd28_0_1p, bd45_1_3_4_5_6, bd45_1_3_4_5_6p, bd49_0_1, bd49_0_1p, bd49_1, bd49_1p, bd74_0_1_2_3, bd74_0_1_2_3p, bd85_0, bd85_0p, bd85_0_1, bd85_0_1p, bd93_0_1_2, bd93_0_1_2p, bd94_0_1_2_3, bd94_0_1_2_3p, bs42_1_0, bs22_1_0, bs24_1_0, bs42_3_0_1_2, bs31_1_0, bs22_2_0_1, bs42_6_0_1_2_3_4_5, bs42_0_, eq4, eq4p, eq28, eq28p, eq42n, eq42np, eq42s, eq42sp, eq58n, eq58np, eq58s, eq58sp, eq63n, eq63np, eq63s, eq63sp, ne28, ne28p, ne45, ne45p]
  exact ⟨⟨_, rfl, hb.trans ⟨fun B => ⟨hn, hP, hR, hL, hbl, hpo, hro, hon, B⟩, fun M => M.bins⟩⟩, l1.trans l3⟩

end Go.Proofs.YtangejiigopdaaaDoor
end

section
/- A text of the proofs. -/
set_option linter.unusedVariables false
set_option maxRecDepth 100000
namespace Go.Proofs.YtangejiigopdaaaDoor
open Go Go.HL
def md28 : Nat → Hint
  | _ => ⟨false, [], [], [], [], false⟩
def S28_k1 (G : Hp) (K : Exit → Rg → Hp → Prop) (r : Rg) (h : Hp) : Prop :=
  K .ret (upd (upd (upd r 9 (r 4)) 2 (r 4)) 3 (.int .i64 0)) h
def S28 (G : Hp) (K : Exit → Rg → Hp → Prop) (r : Rg) (h : Hp) : Prop :=
  opH Tryd.prog G (sv (Instr.box 26 (r 0))) h fun v0 h0 =>
  opH Tryd.prog G (sv (Instr.loadAt 26 v0)) h0 fun v1 h1 =>
  opH Tryd.prog G (callFunc 53 #[v1]) h1 fun v2 h2 =>
  opH Tryd.prog G (xEq .eql 58 (.tmp 0) (.const .nilFunc) v2 (.pointer none)) h2 fun v3 h3 =>
  cond v3
  (K .ret (upd (upd (upd (upd (upd (upd (upd (upd (upd (upd r 1 v0) 2 (.pointer none)) 3 (.int .i64 0)) 5 v1) 6 v2) 4 v2) 7 v2) 8 v3) 2 (.pointer none)) 3 (.int .i64 5)) h3)
  (S28_k1 G K (upd (upd (upd (upd (upd (upd (upd (upd r 1 v0) 2 (.pointer none)) 3 (.int .i64 0)) 5 v1) 6 v2) 4 v2) 7 v2) 8 v3) h3)
theorem S28_eq (G : Hp) (K : Exit → Rg → Hp → Prop) (r : Rg) (h : Hp) : wpC Tryd.prog G 10 md28 true (Tryd.f28.body.getD .skip) r h K = S28 G K r h := by kernel_rfl
theorem enter28 {G : Hp} {h : Hp} {args : Array Value} {R : Value → Hp → Prop} (hn : args.size ≤ 10) (H : S28 G (retK Tryd.prog G [.tmp 2, .tmp 3] R) (regs args) h) : HCalls Tryd.prog G 28 args h R :=
  HCalls.enter (md := md28) mixed Tryd.func28 rfl hn (by rw [← S28_eq] at H; exact H)

def md73 : Nat → Hint
  | _ => ⟨false, [], [], [], [], false⟩
def S73_k1 (G : Hp) (K : Exit → Rg → Hp → Prop) (r : Rg) (h : Hp) : Prop :=
  opH Tryd.prog G (sv (Instr.fieldAt 85 (r 3) 0)) h fun v7 h7 =>
  opH Tryd.prog G (sv (Instr.loadAt 28 v7)) h7 fun v8 h8 =>
  opH Tryd.prog G (sv (Instr.fieldAt 85 (r 3) 0)) h8 fun v9 h9 =>
  opH Tryd.prog G (sv (Instr.fieldAt 28 v9 0)) h9 fun v10 h10 =>
  opH Tryd.prog G (sv (Instr.loadAt 3 v10)) h10 fun v11 h11 =>
  opH Tryd.prog G (sv (Instr.fieldAt 28 (r 5) 0)) h11 fun v12 h12 =>
  opH Tryd.prog G (sv (Instr.loadAt 3 v12)) h12 fun v13 h13 =>
  opH Tryd.prog G (sv (binOp .add 3 v11 v13)) h13 fun v14 h14 =>
  opH Tryd.prog G (sv (Instr.fieldAt 85 (r 3) 0)) h14 fun v15 h15 =>
  opH Tryd.prog G (sv (Instr.fieldAt 28 v15 1)) h15 fun v16 h16 =>
  opH Tryd.prog G (sv (Instr.loadAt 3 v16)) h16 fun v17 h17 =>
  opH Tryd.prog G (sv (Instr.fieldAt 28 (r 5) 1)) h17 fun v18 h18 =>
  opH Tryd.prog G (sv (Instr.loadAt 3 v18)) h18 fun v19 h19 =>
  opH Tryd.prog G (sv (binOp .add 3 v17 v19)) h19 fun v20 h20 =>
  opH Tryd.prog G (sv (Instr.build 28 #[(0, v14), (1, v20)])) h20 fun v21 h21 =>
  opH Tryd.prog G (sv (Instr.buildSlice 22 2 #[(0, v8), (1, v21)])) h21 fun v22 h22 =>
  K .ret (upd (upd (upd (upd (upd (upd (upd (upd (upd (upd (upd (upd (upd (upd (upd (upd (upd r 12 v7) 13 v8) 14 v9) 15 v10) 16 v11) 17 v12) 18 v13) 19 v14) 20 v15) 21 v16) 22 v17) 23 v18) 24 v19) 25 v20) 26 v21) 27 v22) 4 v22) h22
def S73 (G : Hp) (K : Exit → Rg → Hp → Prop) (r : Rg) (h : Hp) : Prop :=
  opH Tryd.prog G (sv (Instr.box 85 (r 1))) h fun v0 h0 =>
  opH Tryd.prog G (sv (Instr.indexAt 108 (.pointer (some ⟨0, 0, none⟩)) (.int .i64 1))) h0 fun v1 h1 =>
  opH Tryd.prog G (sv (Instr.loadAt 28 v1)) h1 fun v2 h2 =>
  opH Tryd.prog G (sv (Instr.alloc 28 true (.tuple #[]))) h2 fun v3 h3 =>
  opH Tryd.prog G (su (Instr.storeAt 28 v3 v2)) h3 fun v4 h4 =>
  opH Tryd.prog G (sv (Instr.fieldAt 85 v0 1)) h4 fun v5 h5 =>
  opH Tryd.prog G (sv (Instr.loadAt 4 v5)) h5 fun v6 h6 =>
  cond v6
  (opH Tryd.prog G (sv (Instr.indexAt 108 (.pointer (some ⟨0, 0, none⟩)) (.int .i64 2))) h6 fun v23 h23 =>
  opH Tryd.prog G (sv (Instr.loadAt 28 v23)) h23 fun v24 h24 =>
  opH Tryd.prog G (su (Instr.storeAt 28 v3 v24)) h24 fun v25 h25 =>
  S73_k1 G K (upd (upd (upd (upd (upd (upd (upd (upd (upd r 3 v0) 4 (.slice none 0 0)) 6 v1) 7 v2) 5 v3) 8 v5) 9 v6) 10 v23) 11 v24) h25)
  (S73_k1 G K (upd (upd (upd (upd (upd (upd (upd r 3 v0) 4 (.slice none 0 0)) 6 v1) 7 v2) 5 v3) 8 v5) 9 v6) h6)
theorem S73_eq (G : Hp) (K : Exit → Rg → Hp → Prop) (r : Rg) (h : Hp) : wpC Tryd.prog G 28 md73 true (Tryd.f73.body.getD .skip) r h K = S73 G K r h := by kernel_rfl
theorem enter73 {G : Hp} {h : Hp} {args : Array Value} {R : Value → Hp → Prop} (hn : args.size ≤ 28) (H : S73 G (retK Tryd.prog G [.tmp 4] R) (regs args) h) : HCalls Tryd.prog G 73 args h R :=
  HCalls.enter (md := md73) mixed Tryd.func73 rfl hn (by rw [← S73_eq] at H; exact H)

def md72 : Nat → Hint
  | _ => ⟨false, [], [], [], [], false⟩
def S72 (G : Hp) (K : Exit → Rg → Hp → Prop) (r : Rg) (h : Hp) : Prop :=
  opH Tryd.prog G (sv (Instr.box 85 (r 1))) h fun v0 h0 =>
  opH Tryd.prog G (sv (Instr.loadAt 85 v0)) h0 fun v1 h1 =>
  opH Tryd.prog G (callFunc 73 #[(r 0), v1]) h1 fun v2 h2 =>
  opH Tryd.prog G (sv (Instr.indexAt 22 v2 (.int .i64 0))) h2 fun v3 h3 =>
  opH Tryd.prog G (sv (Instr.loadAt 28 v3)) h3 fun v4 h4 =>
  opH Tryd.prog G (callFunc 75 #[(r 0), v4]) h4 fun v5 h5 =>
  gd (wantB v5 true) (fun K1 => K1 (r 0) h5) h5 fun v6 h6 =>
  gd (wantB v5 true) (fun K1 => K1 v2 h6) h6 fun v7 h7 =>
  gd (wantB v5 true) (opH Tryd.prog G (sv (Instr.indexAt 22 v7 (.int .i64 1))) h7) h7 fun v8 h8 =>
  gd (wantB v5 true) (opH Tryd.prog G (sv (Instr.loadAt 28 v8)) h8) h8 fun v9 h9 =>
  gd (wantB v5 true) (opH Tryd.prog G (callFunc 75 #[v6, v9]) h9) h9 fun v10 h10 =>
  opH Tryd.prog G (xPick v5 v10 (.bool false)) h10 fun v11 h11 =>
  K .ret (upd (upd (upd (upd (upd (upd (upd (upd (upd (upd (upd (upd (upd (upd (upd (upd (upd (upd (upd r 3 v0) 4 (.bool false)) 6 (r 0)) 7 v1) 8 v2) 5 v2) 9 (r 0)) 10 v2) 11 v3) 12 v4) 13 v5) 14 v5) 15 v6) 16 v7) 17 v8) 18 v9) 19 v10) 20 v11) 4 v11) h11
theorem S72_eq (G : Hp) (K : Exit → Rg → Hp → Prop) (r : Rg) (h : Hp) : wpC Tryd.prog G 21 md72 true (Tryd.f72.body.getD .skip) r h K = S72 G K r h := by kernel_rfl
theorem enter72 {G : Hp} {h : Hp} {args : Array Value} {R : Value → Hp → Prop} (hn : args.size ≤ 21) (H : S72 G (retK Tryd.prog G [.tmp 4] R) (regs args) h) : HCalls Tryd.prog G 72 args h R :=
  HCalls.enter (md := md72) mixed Tryd.func72 rfl hn (by rw [← S72_eq] at H; exact H)

def md75 : Nat → Hint
  | _ => ⟨false, [], [], [], [], false⟩
def S75 (G : Hp) (K : Exit → Rg → Hp → Prop) (r : Rg) (h : Hp) : Prop :=
  opH Tryd.prog G (sv (Instr.box 28 (r 1))) h fun v0 h0 =>
  opH Tryd.prog G (sv (Instr.loadAt 28 v0)) h0 fun v1 h1 =>
  opH Tryd.prog G (callFunc 58 #[(r 0), v1]) h1 fun v2 h2 =>
  opH Tryd.prog G (sv (binOp .geq 3 v2 (.int .i64 0))) h2 fun v3 h3 =>
  gd (wantB v3 true) (fun K1 => K1 (r 0) h3) h3 fun v4 h4 =>
  gd (wantB v3 true) (opH Tryd.prog G (xNil v4) h4) h4 fun v5 h5 =>
  gd (wantB v3 true) (opH Tryd.prog G (sv (Instr.fieldAt 93 v5 2)) h5) h5 fun v6 h6 =>
  gd (wantB v3 true) (opH Tryd.prog G (sv (Instr.loadAt 42 v6)) h6) h6 fun v7 h7 =>
  gd (wantB v3 true) (fun K1 => K1 v2 h7) h7 fun v8 h8 =>
  gd (wantB v3 true) (opH Tryd.prog G (sv (Instr.indexAt 42 v7 v8)) h8) h8 fun v9 h9 =>
  gd (wantB v3 true) (opH Tryd.prog G (sv (Instr.loadAt 3 v9)) h9) h9 fun v10 h10 =>
  gd (wantB v3 true) (opH Tryd.prog G (xEq .neq 3 (.tmp 0) (.const .nilFunc) v10 (.int .i64 (-1))) h10) h10 fun v11 h11 =>
  opH Tryd.prog G (xPick v3 v11 (.bool false)) h11 fun v12 h12 =>
  K .ret (upd (upd (upd (upd (upd (upd (upd (upd (upd (upd (upd (upd (upd (upd (upd (upd (upd (upd (upd r 3 v0) 4 (.bool false)) 6 (r 0)) 7 v1) 8 v2) 5 v2) 9 v2) 10 v3) 11 v3) 12 v4) 13 v5) 14 v6) 15 v7) 16 v8) 17 v9) 18 v10) 19 v11) 20 v12) 4 v12) h12
theorem S75_eq (G : Hp) (K : Exit → Rg → Hp → Prop) (r : Rg) (h : Hp) : wpC Tryd.prog G 21 md75 true (Tryd.f75.body.getD .skip) r h K = S75 G K r h := by kernel_rfl
theorem enter75 {G : Hp} {h : Hp} {args : Array Value} {R : Value → Hp → Prop} (hn : args.size ≤ 21) (H : S75 G (retK Tryd.prog G [.tmp 4] R) (regs args) h) : HCalls Tryd.prog G 75 args h R :=
  HCalls.enter (md := md75) mixed Tryd.func75 rfl hn (by rw [← S75_eq] at H; exact H)

def md34 : Nat → Hint
  | _ => ⟨false, [], [], [], [], false⟩
def S34_k1 (G : Hp) (K : Exit → Rg → Hp → Prop) (r : Rg) (h : Hp) : Prop :=
  opH Tryd.prog G (xNil (r 0)) h fun v13 h13 =>
  opH Tryd.prog G (sv (Instr.fieldAt 93 v13 2)) h13 fun v14 h14 =>
  opH Tryd.prog G (sv (Instr.loadAt 42 v14)) h14 fun v15 h15 =>
  opH Tryd.prog G (sv (Instr.indexAt 42 v15 (r 5))) h15 fun v16 h16 =>
  opH Tryd.prog G (sv (Instr.loadAt 3 v16)) h16 fun v17 h17 =>
  opH Tryd.prog G (sv (binOp .sub 3 v17 (.int .i64 1))) h17 fun v18 h18 =>
  K .ret (upd (upd (upd (upd (upd (upd (upd (upd (upd r 21 (r 0)) 22 v13) 23 v14) 24 v15) 25 (r 5)) 26 v16) 27 v17) 28 v18) 4 v18) h18
def S34 (G : Hp) (K : Exit → Rg → Hp → Prop) (r : Rg) (h : Hp) : Prop :=
  opH Tryd.prog G (sv (Instr.box 28 (r 1))) h fun v0 h0 =>
  opH Tryd.prog G (sv (Instr.loadAt 28 v0)) h0 fun v1 h1 =>
  opH Tryd.prog G (callFunc 58 #[(r 0), v1]) h1 fun v2 h2 =>
  opH Tryd.prog G (sv (binOp .lss 3 v2 (.int .i64 0))) h2 fun v3 h3 =>
  gd (wantB v3 false) (fun K1 => K1 (r 0) h3) h3 fun v4 h4 =>
  gd (wantB v3 false) (opH Tryd.prog G (xNil v4) h4) h4 fun v5 h5 =>
  gd (wantB v3 false) (opH Tryd.prog G (sv (Instr.fieldAt 93 v5 2)) h5) h5 fun v6 h6 =>
  gd (wantB v3 false) (opH Tryd.prog G (sv (Instr.loadAt 42 v6)) h6) h6 fun v7 h7 =>
  gd (wantB v3 false) (fun K1 => K1 v2 h7) h7 fun v8 h8 =>
  gd (wantB v3 false) (opH Tryd.prog G (sv (Instr.indexAt 42 v7 v8)) h8) h8 fun v9 h9 =>
  gd (wantB v3 false) (opH Tryd.prog G (sv (Instr.loadAt 3 v9)) h9) h9 fun v10 h10 =>
  gd (wantB v3 false) (opH Tryd.prog G (sv (binOp .lss 3 v10 (.int .i64 1))) h10) h10 fun v11 h11 =>
  opH Tryd.prog G (xPick v3 (.bool true) v11) h11 fun v12 h12 =>
  cond v12
  (K .ret (upd (upd (upd (upd (upd (upd (upd (upd (upd (upd (upd (upd (upd (upd (upd (upd (upd (upd (upd r 3 v0) 4 (.int .i64 0)) 6 (r 0)) 7 v1) 8 v2) 5 v2) 9 v2) 10 v3) 11 v3) 12 v4) 13 v5) 14 v6) 15 v7) 16 v8) 17 v9) 18 v10) 19 v11) 20 v12) 4 (.int .i64 (-1))) h12)
  (S34_k1 G K (upd (upd (upd (upd (upd (upd (upd (upd (upd (upd (upd (upd (upd (upd (upd (upd (upd (upd r 3 v0) 4 (.int .i64 0)) 6 (r 0)) 7 v1) 8 v2) 5 v2) 9 v2) 10 v3) 11 v3) 12 v4) 13 v5) 14 v6) 15 v7) 16 v8) 17 v9) 18 v10) 19 v11) 20 v12) h12)
theorem S34_eq (G : Hp) (K : Exit → Rg → Hp → Prop) (r : Rg) (h : Hp) : wpC Tryd.prog G 29 md34 true (Tryd.f34.body.getD .skip) r h K = S34 G K r h := by kernel_rfl
theorem enter34 {G : Hp} {h : Hp} {args : Array Value} {R : Value → Hp → Prop} (hn : args.size ≤ 29) (H : S34 G (retK Tryd.prog G [.tmp 4] R) (regs args) h) : HCalls Tryd.prog G 34 args h R :=
  HCalls.enter (md := md34) mixed Tryd.func34 rfl hn (by rw [← S34_eq] at H; exact H)

def md74 : Nat → Hint
  | _ => ⟨false, [], [], [], [], false⟩
def S74 (G : Hp) (K : Exit → Rg → Hp → Prop) (r : Rg) (h : Hp) : Prop :=
  opH Tryd.prog G (sv (Instr.box 28 (r 1))) h fun v0 h0 =>
  opH Tryd.prog G (sv (Instr.loadAt 28 v0)) h0 fun v1 h1 =>
  opH Tryd.prog G (callFunc 58 #[(r 0), v1]) h1 fun v2 h2 =>
  opH Tryd.prog G (sv (binOp .geq 3 v2 (.int .i64 0))) h2 fun v3 h3 =>
  gd (wantB v3 true) (fun K1 => K1 (r 0) h3) h3 fun v4 h4 =>
  gd (wantB v3 true) (opH Tryd.prog G (xNil v4) h4) h4 fun v5 h5 =>
  gd (wantB v3 true) (opH Tryd.prog G (sv (Instr.fieldAt 93 v5 2)) h5) h5 fun v6 h6 =>
  gd (wantB v3 true) (opH Tryd.prog G (sv (Instr.loadAt 42 v6)) h6) h6 fun v7 h7 =>
  gd (wantB v3 true) (fun K1 => K1 v2 h7) h7 fun v8 h8 =>
  gd (wantB v3 true) (opH Tryd.prog G (sv (Instr.indexAt 42 v7 v8)) h8) h8 fun v9 h9 =>
  gd (wantB v3 true) (opH Tryd.prog G (sv (Instr.loadAt 3 v9)) h9) h9 fun v10 h10 =>
  gd (wantB v3 true) (opH Tryd.prog G (xEq .eql 3 (.tmp 0) (.const .nilFunc) v10 (.int .i64 0)) h10) h10 fun v11 h11 =>
  opH Tryd.prog G (xPick v3 v11 (.bool false)) h11 fun v12 h12 =>
  K .ret (upd (upd (upd (upd (upd (upd (upd (upd (upd (upd (upd (upd (upd (upd (upd (upd (upd (upd (upd r 3 v0) 4 (.bool false)) 6 (r 0)) 7 v1) 8 v2) 5 v2) 9 v2) 10 v3) 11 v3) 12 v4) 13 v5) 14 v6) 15 v7) 16 v8) 17 v9) 18 v10) 19 v11) 20 v12) 4 v12) h12
theorem S74_eq (G : Hp) (K : Exit → Rg → Hp → Prop) (r : Rg) (h : Hp) : wpC Tryd.prog G 21 md74 true (Tryd.f74.body.getD .skip) r h K = S74 G K r h := by kernel_rfl
theorem enter74 {G : Hp} {h : Hp} {args : Array Value} {R : Value → Hp → Prop} (hn : args.size ≤ 21) (H : S74 G (retK Tryd.prog G [.tmp 4] R) (regs args) h) : HCalls Tryd.prog G 74 args h R :=
  HCalls.enter (md := md74) mixed Tryd.func74 rfl hn (by rw [← S74_eq] at H; exact H)

def md58 : Nat → Hint
  | 1 => ⟨false, [0, 1, 3, 7, 15, 7, 39, 103, 231, 487, 1023, 2047, 4095, 8191, 16383, 32767, 16383, 81919, 212991, 475135, 999423, 2097151, 4194303, 8388607], [.pureN, .pureM, .pureN, .pureN, .pureM, .pureN, .pureN, .pureN, .pureM, .pureN, .eff, .pureN, .pureN, .pureN, .pureN, .pureM, .pureN, .pureN, .pureN, .pureM, .pureN, .eff, .pureN, .pureN], [.pureN, .pureM, .pureN, .pureN, .pureM, .pureN, .pureN, .pureN, .pureM, .pureN, .eff, .pureN, .pureN, .pureN, .pureN, .late, .pureN, .pureN, .pureN, .late, .pureN, .eff, .pureN, .pureN], [false, false, false, false, false, false, false, false, false, false, false, false, false, false, false, false, false, false, false, false, false, false, false, false], false⟩
  | 3 => ⟨false, [0, 1, 0, 4, 12, 28, 63, 0, 128, 511, 1023], [.pureN, .pureM, .pureN, .pureN, .pureN, .pureM, .pureN, .pureN, .pureM, .pureN, .pureN], [.pureN, .pureM, .pureN, .pureN, .pureN, .pureM, .pureN, .pureN, .pureM, .pureN, .pureN], [false, false, false, false, false, false, false, false, false, false, false], false⟩
  | _ => ⟨false, [], [], [], [], false⟩
def S58_k1 (G : Hp) (K : Exit → Rg → Hp → Prop) (r : Rg) (h : Hp) : Prop :=
  pureW Tryd.prog noHp noHp (sv (Instr.fieldAt 28 (r 3) 1)) h fun v22 h22 =>
  pureW Tryd.prog G h (sv (Instr.loadAt 3 v22)) h22 fun v23 h23 =>
  pureW Tryd.prog noHp noHp (xNil (r 0)) h23 fun v24 h24 =>
  pureW Tryd.prog noHp noHp (sv (Instr.fieldAt 93 v24 0)) h24 fun v25 h25 =>
  pureW Tryd.prog G h (sv (Instr.loadAt 3 v25)) h25 fun v26 h26 =>
  pureW Tryd.prog noHp noHp (sv (binOp .mul 3 v23 v26)) h26 fun v27 h27 =>
  pureW Tryd.prog noHp noHp (sv (Instr.fieldAt 28 (r 3) 0)) h27 fun v28 h28 =>
  pureW Tryd.prog G h (sv (Instr.loadAt 3 v28)) h28 fun v29 h29 =>
  pureW Tryd.prog noHp noHp (sv (binOp .add 3 v27 v29)) h29 fun v30 h30 =>
  K .ret (upd (upd (upd (upd (upd (upd (upd (upd (upd (upd (upd r 29 v22) 30 v23) 31 (r 0)) 32 v24) 33 v25) 34 v26) 35 v27) 36 v28) 37 v29) 38 v30) 4 v30) h30
def S58 (G : Hp) (K : Exit → Rg → Hp → Prop) (r : Rg) (h : Hp) : Prop :=
  opH Tryd.prog G (sv (Instr.box 28 (r 1))) h fun v0 h0 =>
  pureW Tryd.prog G h0 (xEq .eql 58 (.tmp 0) (.const .nilFunc) (r 0) (.pointer none)) h0 fun v1 h1 =>
  gd (wantB v1 false) (pureW Tryd.prog noHp noHp (sv (Instr.fieldAt 28 v0 0)) h1) h1 fun v2 h2 =>
  gd (wantB v1 false) (pureW Tryd.prog G h0 (sv (Instr.loadAt 3 v2)) h2) h2 fun v3 h3 =>
  gd (wantB v1 false) (fun K1 => K1 (r 0) h3) h3 fun v4 h4 =>
  gd (wantB v1 false) (pureW Tryd.prog noHp noHp (xNil v4) h4) h4 fun v5 h5 =>
  gd (wantB v1 false) (pureW Tryd.prog noHp noHp (sv (Instr.fieldAt 93 v5 0)) h5) h5 fun v6 h6 =>
  gd (wantB v1 false) (pureW Tryd.prog G h0 (sv (Instr.loadAt 3 v6)) h6) h6 fun v7 h7 =>
  gd (wantB v1 false) (pureW Tryd.prog noHp noHp (sv (binOp .sub 3 v7 (.int .i64 1))) h7) h7 fun v8 h8 =>
  gd (wantB v1 false) (opH Tryd.prog G (callFunc 56 #[v3, (.int .i64 0), v8]) h8) h8 fun v9 h9 =>
  gd (wantB v1 false) (pureW Tryd.prog noHp noHp (sv (Op.unary .not v9)) h9) h9 fun v10 h10 =>
  pureW Tryd.prog noHp noHp (xPick v1 (.bool true) v10) h10 fun v11 h11 =>
  gd (wantB v11 false) (pureW Tryd.prog noHp noHp (sv (Instr.fieldAt 28 v0 1)) h11) h11 fun v12 h12 =>
  gd (wantB v11 false) (pureW Tryd.prog G h12 (sv (Instr.loadAt 3 v12)) h12) h12 fun v13 h13 =>
  gd (wantB v11 false) (fun K1 => K1 (r 0) h13) h13 fun v14 h14 =>
  gd (wantB v11 false) (pureW Tryd.prog noHp noHp (xNil v14) h14) h14 fun v15 h15 =>
  gd (wantB v11 false) (pureW Tryd.prog noHp noHp (sv (Instr.fieldAt 93 v15 1)) h15) h15 fun v16 h16 =>
  gd (wantB v11 false) (pureW Tryd.prog G h16 (sv (Instr.loadAt 3 v16)) h16) h16 fun v17 h17 =>
  gd (wantB v11 false) (pureW Tryd.prog noHp noHp (sv (binOp .sub 3 v17 (.int .i64 1))) h17) h17 fun v18 h18 =>
  gd (wantB v11 false) (opH Tryd.prog G (callFunc 56 #[v13, (.int .i64 0), v18]) h18) h18 fun v19 h19 =>
  gd (wantB v11 false) (pureW Tryd.prog noHp noHp (sv (Op.unary .not v19)) h19) h19 fun v20 h20 =>
  pureW Tryd.prog noHp noHp (xPick v11 (.bool true) v20) h20 fun v21 h21 =>
  cond v21
  (K .ret (upd (upd (upd (upd (upd (upd (upd (upd (upd (upd (upd (upd (upd (upd (upd (upd (upd (upd (upd (upd (upd (upd (upd (upd (upd (upd (upd r 3 v0) 4 (.int .i64 0)) 5 (r 0)) 6 v1) 7 v1) 8 v2) 9 v3) 10 v4) 11 v5) 12 v6) 13 v7) 14 v8) 15 v9) 16 v10) 17 v11) 18 v11) 19 v12) 20 v13) 21 v14) 22 v15) 23 v16) 24 v17) 25 v18) 26 v19) 27 v20) 28 v21) 4 (.int .i64 (-1))) h21)
  (S58_k1 G K (upd (upd (upd (upd (upd (upd (upd (upd (upd (upd (upd (upd (upd (upd (upd (upd (upd (upd (upd (upd (upd (upd (upd (upd (upd (upd r 3 v0) 4 (.int .i64 0)) 5 (r 0)) 6 v1) 7 v1) 8 v2) 9 v3) 10 v4) 11 v5) 12 v6) 13 v7) 14 v8) 15 v9) 16 v10) 17 v11) 18 v11) 19 v12) 20 v13) 21 v14) 22 v15) 23 v16) 24 v17) 25 v18) 26 v19) 27 v20) 28 v21) h21)
theorem S58_eq (G : Hp) (K : Exit → Rg → Hp → Prop) (r : Rg) (h : Hp) : wpC Tryd.prog G 39 md58 true (Tryd.f58.body.getD .skip) r h K = S58 G K r h := by kernel_rfl
theorem enter58 {G : Hp} {h : Hp} {args : Array Value} {R : Value → Hp → Prop} (hn : args.size ≤ 39) (H : S58 G (retK Tryd.prog G [.tmp 4] R) (regs args) h) : HCalls Tryd.prog G 58 args h R :=
  HCalls.enter (md := md58) mixed Tryd.func58 rfl hn (by rw [← S58_eq] at H; exact H)

def md53 : Nat → Hint
  | _ => ⟨false, [], [], [], [], false⟩
def S53_k3 (G : Hp) (K : Exit → Rg → Hp → Prop) (r : Rg) (h : Hp) : Prop :=
  K .ret (upd (upd r 68 (r 5)) 2 (r 5)) h
def S53_k2 (G : Hp) (K : Exit → Rg → Hp → Prop) (r : Rg) (h : Hp) : Prop :=
  opH Tryd.prog G (sv (Instr.loadAt 26 (r 1))) h fun v29 h29 =>
  opH Tryd.prog G (callFunc 67 #[v29]) h29 fun v30 h30 =>
  opH Tryd.prog G (sv (Instr.extract v30 0)) h30 fun v31 h31 =>
  opH Tryd.prog G (sv (Instr.extract v30 1)) h31 fun v32 h32 =>
  opH Tryd.prog G (sv (Op.unary .not v32)) h32 fun v33 h33 =>
  gd (wantB v33 false) (fun K1 => K1 v31 h33) h33 fun v34 h34 =>
  gd (wantB v33 false) (opH Tryd.prog G (sv (Instr.fieldAt 26 (r 1) 5)) h34) h34 fun v35 h35 =>
  gd (wantB v33 false) (opH Tryd.prog G (sv (Instr.loadAt 23 v35)) h35) h35 fun v36 h36 =>
  gd (wantB v33 false) (opH Tryd.prog G (callFunc 68 #[v34, v36]) h36) h36 fun v37 h37 =>
  gd (wantB v33 false) (opH Tryd.prog G (sv (Op.unary .not v37)) h37) h37 fun v38 h38 =>
  opH Tryd.prog G (xPick v33 (.bool true) v38) h38 fun v39 h39 =>
  gd (wantB v39 false) (fun K1 => K1 v31 h39) h39 fun v40 h40 =>
  gd (wantB v39 false) (opH Tryd.prog G (sv (Instr.fieldAt 26 (r 1) 6)) h40) h40 fun v41 h41 =>
  gd (wantB v39 false) (opH Tryd.prog G (sv (Instr.loadAt 24 v41)) h41) h41 fun v42 h42 =>
  gd (wantB v39 false) (opH Tryd.prog G (sv (Instr.fieldAt 26 (r 1) 2)) h42) h42 fun v43 h43 =>
  gd (wantB v39 false) (opH Tryd.prog G (sv (Instr.loadAt 3 v43)) h43) h43 fun v44 h44 =>
  gd (wantB v39 false) (opH Tryd.prog G (callFunc 69 #[v40, v42, v44]) h44) h44 fun v45 h45 =>
  gd (wantB v39 false) (opH Tryd.prog G (sv (Op.unary .not v45)) h45) h45 fun v46 h46 =>
  opH Tryd.prog G (xPick v39 (.bool true) v46) h46 fun v47 h47 =>
  cond v47
  (K .ret (upd (upd (upd (upd (upd (upd (upd (upd (upd (upd (upd (upd (upd (upd (upd (upd (upd (upd (upd (upd (upd (upd (upd (upd (upd (upd r 46 v29) 47 v30) 45 v30) 48 v31) 49 v32) 5 v31) 6 v32) 50 v32) 51 v33) 52 v33) 53 v34) 54 v35) 55 v36) 56 v37) 57 v38) 58 v39) 59 v39) 60 v40) 61 v41) 62 v42) 63 v43) 64 v44) 65 v45) 66 v46) 67 v47) 2 (.pointer none)) h47)
  (S53_k3 G K (upd (upd (upd (upd (upd (upd (upd (upd (upd (upd (upd (upd (upd (upd (upd (upd (upd (upd (upd (upd (upd (upd (upd (upd (upd r 46 v29) 47 v30) 45 v30) 48 v31) 49 v32) 5 v31) 6 v32) 50 v32) 51 v33) 52 v33) 53 v34) 54 v35) 55 v36) 56 v37) 57 v38) 58 v39) 59 v39) 60 v40) 61 v41) 62 v42) 63 v43) 64 v44) 65 v45) 66 v46) 67 v47) h47)
def S53_k1 (G : Hp) (K : Exit → Rg → Hp → Prop) (r : Rg) (h : Hp) : Prop :=
  opH Tryd.prog G (sv (Instr.fieldAt 26 (r 1) 2)) h fun v15 h15 =>
  opH Tryd.prog G (sv (Instr.loadAt 3 v15)) h15 fun v16 h16 =>
  opH Tryd.prog G (callFunc 56 #[v16, (.int .i64 1), (.int .i64 8)]) h16 fun v17 h17 =>
  opH Tryd.prog G (sv (Op.unary .not v17)) h17 fun v18 h18 =>
  gd (wantB v18 false) (opH Tryd.prog G (sv (Instr.fieldAt 26 (r 1) 12)) h18) h18 fun v19 h19 =>
  gd (wantB v18 false) (opH Tryd.prog G (sv (Instr.loadAt 3 v19)) h19) h19 fun v20 h20 =>
  gd (wantB v18 false) (opH Tryd.prog G (callFunc 56 #[v20, (.int .i64 1), (.int .i64 16)]) h20) h20 fun v21 h21 =>
  gd (wantB v18 false) (opH Tryd.prog G (sv (Op.unary .not v21)) h21) h21 fun v22 h22 =>
  opH Tryd.prog G (xPick v18 (.bool true) v22) h22 fun v23 h23 =>
  gd (wantB v23 false) (opH Tryd.prog G (sv (Instr.fieldAt 26 (r 1) 14)) h23) h23 fun v24 h24 =>
  gd (wantB v23 false) (opH Tryd.prog G (sv (Instr.loadAt 3 v24)) h24) h24 fun v25 h25 =>
  gd (wantB v23 false) (opH Tryd.prog G (callFunc 56 #[v25, (.int .i64 1), (.int .i64 1048576)]) h25) h25 fun v26 h26 =>
  gd (wantB v23 false) (opH Tryd.prog G (sv (Op.unary .not v26)) h26) h26 fun v27 h27 =>
  opH Tryd.prog G (xPick v23 (.bool true) v27) h27 fun v28 h28 =>
  cond v28
  (K .ret (upd (upd (upd (upd (upd (upd (upd (upd (upd (upd (upd (upd (upd (upd (upd (upd (upd r 29 v15) 30 v16) 31 v17) 32 v18) 33 v18) 34 v19) 35 v20) 36 v21) 37 v22) 38 v23) 39 v23) 40 v24) 41 v25) 42 v26) 43 v27) 44 v28) 2 (.pointer none)) h28)
  (S53_k2 G K (upd (upd (upd (upd (upd (upd (upd (upd (upd (upd (upd (upd (upd (upd (upd (upd r 29 v15) 30 v16) 31 v17) 32 v18) 33 v18) 34 v19) 35 v20) 36 v21) 37 v22) 38 v23) 39 v23) 40 v24) 41 v25) 42 v26) 43 v27) 44 v28) h28)
def S53_l4_k6 (G : Hp) (K : Exit → Rg → Hp → Prop) (r : Rg) (h : Hp) : Prop :=
  opH Tryd.prog G (sv (binOp .add 3 (r 21) (.int .i64 1))) h fun v49 h49 =>
  K .normal (upd (upd r 28 v49) 21 v49) h49
def S53_l4_k5 (G : Hp) (K : Exit → Rg → Hp → Prop) (r : Rg) (h : Hp) : Prop :=
  opH Tryd.prog G (sv (Instr.indexAt 42 (r 19) (r 21))) h fun v50 h50 =>
  opH Tryd.prog G (sv (Instr.loadAt 3 v50)) h50 fun v51 h51 =>
  opH Tryd.prog G (callFunc 56 #[v51, (.int .i64 1), (.int .i64 1000)]) h51 fun v52 h52 =>
  opH Tryd.prog G (sv (Op.unary .not v52)) h52 fun v53 h53 =>
  cond v53
  (K .ret (upd (upd (upd (upd (upd (upd (upd r 23 v50) 24 v51) 4 v51) 25 v51) 26 v52) 27 v53) 2 (.pointer none)) h53)
  (S53_l4_k6 G K (upd (upd (upd (upd (upd (upd r 23 v50) 24 v51) 4 v51) 25 v51) 26 v52) 27 v53) h53)
def S53_l4 (G : Hp) (r : Rg) (h : Hp) (K : Exit → Rg → Hp → Prop) : Prop :=
  opH Tryd.prog G (sv (binOp .lss 3 (r 21) (r 20))) h fun v48 h48 =>
  cond v48
  (S53_l4_k5 G K (upd r 22 v48) h48)
  (K (.exit 0) (upd r 22 v48) h48)
def S53 (G : Hp) (K : Exit → Rg → Hp → Prop) (r : Rg) (h : Hp) : Prop :=
  opH Tryd.prog G (sv (Instr.box 26 (r 0))) h fun v0 h0 =>
  opH Tryd.prog G (sv (Instr.fieldAt 26 v0 7)) h0 fun v1 h1 =>
  opH Tryd.prog G (sv (Instr.loadAt 3 v1)) h1 fun v2 h2 =>
  opH Tryd.prog G (sv (Instr.fieldAt 26 v0 8)) h2 fun v3 h3 =>
  opH Tryd.prog G (sv (Instr.loadAt 3 v3)) h3 fun v4 h4 =>
  opH Tryd.prog G (sv (Instr.fieldAt 26 v0 9)) h4 fun v5 h5 =>
  opH Tryd.prog G (sv (Instr.loadAt 3 v5)) h5 fun v6 h6 =>
  opH Tryd.prog G (sv (Instr.fieldAt 26 v0 10)) h6 fun v7 h7 =>
  opH Tryd.prog G (sv (Instr.loadAt 3 v7)) h7 fun v8 h8 =>
  opH Tryd.prog G (sv (Instr.fieldAt 26 v0 11)) h8 fun v9 h9 =>
  opH Tryd.prog G (sv (Instr.loadAt 3 v9)) h9 fun v10 h10 =>
  opH Tryd.prog G (sv (Instr.fieldAt 26 v0 13)) h10 fun v11 h11 =>
  opH Tryd.prog G (sv (Instr.loadAt 3 v11)) h11 fun v12 h12 =>
  opH Tryd.prog G (sv (Instr.buildSlice 42 6 #[(0, v2), (1, v4), (2, v6), (3, v8), (4, v10), (5, v12)])) h12 fun v13 h13 =>
  opH Tryd.prog G (sv (Builtin.len_ #[42] 3 #[v13])) h13 fun v14 h14 =>
  loopP (S53_l4 G) (upd (upd (upd (upd (upd (upd (upd (upd (upd (upd (upd (upd (upd (upd (upd (upd (upd r 1 v0) 2 (.pointer none)) 7 v1) 8 v2) 9 v3) 10 v4) 11 v5) 12 v6) 13 v7) 14 v8) 15 v9) 16 v10) 17 v11) 18 v12) 19 v13) 20 v14) 21 (.int .i64 0)) h14 (blockK 0 (thenK (S53_k1 G K) K))
theorem S53_eq (G : Hp) (K : Exit → Rg → Hp → Prop) (r : Rg) (h : Hp) : wpC Tryd.prog G 69 md53 true (Tryd.f53.body.getD .skip) r h K = S53 G K r h := by kernel_rfl
theorem enter53 {G : Hp} {h : Hp} {args : Array Value} {R : Value → Hp → Prop} (hn : args.size ≤ 69) (H : S53 G (retK Tryd.prog G [.tmp 2] R) (regs args) h) : HCalls Tryd.prog G 53 args h R :=
  HCalls.enter (md := md53) mixed Tryd.func53 rfl hn (by rw [← S53_eq] at H; exact H)

def md56 : Nat → Hint
  | _ => ⟨false, [], [], [], [], false⟩
def S56 (G : Hp) (K : Exit → Rg → Hp → Prop) (r : Rg) (h : Hp) : Prop :=
  opH Tryd.prog G (sv (binOp .geq 3 (r 0) (r 1))) h fun v0 h0 =>
  gd (wantB v0 true) (fun K1 => K1 (r 0) h0) h0 fun v1 h1 =>
  gd (wantB v0 true) (fun K1 => K1 (r 2) h1) h1 fun v2 h2 =>
  gd (wantB v0 true) (opH Tryd.prog G (sv (binOp .leq 3 v1 v2)) h2) h2 fun v3 h3 =>
  opH Tryd.prog G (xPick v0 v3 (.bool false)) h3 fun v4 h4 =>
  K .ret (upd (upd (upd (upd (upd (upd (upd (upd (upd (upd r 6 (.bool false)) 7 (r 0)) 8 (r 1)) 9 v0) 10 v0) 11 v1) 12 v2) 13 v3) 14 v4) 6 v4) h4
theorem S56_eq (G : Hp) (K : Exit → Rg → Hp → Prop) (r : Rg) (h : Hp) : wpC Tryd.prog G 15 md56 true (Tryd.f56.body.getD .skip) r h K = S56 G K r h := by kernel_rfl
theorem enter56 {G : Hp} {h : Hp} {args : Array Value} {R : Value → Hp → Prop} (hn : args.size ≤ 15) (H : S56 G (retK Tryd.prog G [.tmp 6] R) (regs args) h) : HCalls Tryd.prog G 56 args h R :=
  HCalls.enter (md := md56) mixed Tryd.func56 rfl hn (by rw [← S56_eq] at H; exact H)

def md67 : Nat → Hint
  | 3 => ⟨false, [0, 1, 0, 4, 0, 16, 0, 64, 240, 496, 1023, 2047, 4095], [.pureN, .pureM, .pureN, .pureM, .pureN, .pureM, .pureN, .pureM, .pureN, .eff, .pureN, .alloc, .pureN], [.pureN, .pureM, .pureN, .pureM, .pureN, .pureM, .pureN, .pureM, .pureN, .eff, .pureN, .alloc, .pureN], [false, false, false, false, false, false, false, false, false, true, false, false, false], true⟩
  | 5 => ⟨false, [0, 1, 3, 0, 8, 31, 63, 0], [.pureN, .pureM, .eff, .pureN, .pureM, .eff, .pureM, .pureN], [.pureN, .pureM, .eff, .pureN, .pureM, .eff, .late, .pureN], [false, false, true, false, false, false, false, false], true⟩
  | 14 => ⟨false, [0, 1, 3, 7, 0, 0, 0, 64, 192, 480, 992, 2047, 4095], [.pureN, .pureN, .pureN, .pureM, .pureN, .pureN, .pureN, .pureM, .pureM, .pureN, .pureN, .pureN, .store], [.pureN, .pureN, .pureN, .pureM, .pureN, .pureN, .pureN, .pureM, .pureM, .pureN, .pureN, .pureN, .store], [false, false, false, false, false, false, false, false, false, false, false, false, false], false⟩
  | _ => ⟨false, [], [], [], [], false⟩
def S67_k2 (G : Hp) (K : Exit → Rg → Hp → Prop) (r : Rg) (h : Hp) : Prop :=
  K .ret (upd (upd (upd r 104 (r 4)) 2 (r 4)) 3 (.bool true)) h
def S67_l3_k5 (G : Hp) (K : Exit → Rg → Hp → Prop) (r : Rg) (h : Hp) : Prop :=
  opH Tryd.prog G (sv (binOp .add 3 (r 61) (.int .i64 1))) h fun v53 h53 =>
  K .normal (upd (upd r 103 v53) 61 v53) h53
def S67_l3_k6 (G : Hp) (K : Exit → Rg → Hp → Prop) (r : Rg) (h : Hp) : Prop :=
  opH Tryd.prog G (sv (Instr.indexAt 104 (r 5) (r 8))) h fun v66 h66 =>
  opH Tryd.prog G (su (Instr.storeAt 4 v66 (.bool true))) h66 fun v67 h67 =>
  opH Tryd.prog G (xNil (r 4)) h67 fun v68 h68 =>
  opH Tryd.prog G (sv (Instr.fieldAt 93 v68 2)) h68 fun v69 h69 =>
  opH Tryd.prog G (sv (Instr.loadAt 42 v69)) h69 fun v70 h70 =>
  opH Tryd.prog G (sv (Instr.indexAt 42 v70 (r 8))) h70 fun v71 h71 =>
  opH Tryd.prog G (su (Instr.storeAt 3 v71 (.int .i64 (-1)))) h71 fun v72 h72 =>
  opH Tryd.prog G (sv (Instr.fieldAt 26 (r 1) 3)) h72 fun v73 h73 =>
  opH Tryd.prog G (sv (Instr.loadAt 22 v73)) h73 fun v74 h74 =>
  opH Tryd.prog G (sv (Builtin.len_ #[22] 3 #[v74])) h74 fun v75 h75 =>
  opH Tryd.prog G (sv (binOp .geq 3 (r 6) v75)) h75 fun v76 h76 =>
  cond v76
  (pureW Tryd.prog noHp noHp (xNil (r 4)) h76 fun v77 h77 =>
  pureW Tryd.prog noHp noHp (sv (Instr.fieldAt 93 v77 2)) h77 fun v78 h78 =>
  pureW Tryd.prog G h76 (sv (Instr.loadAt 42 v78)) h78 fun v79 h79 =>
  pureW Tryd.prog noHp noHp (sv (Instr.fieldAt 26 (r 1) 3)) h79 fun v80 h80 =>
  pureW Tryd.prog G h76 (sv (Instr.loadAt 22 v80)) h80 fun v81 h81 =>
  pureW Tryd.prog G h76 (sv (Builtin.len_ #[22] 3 #[v81])) h81 fun v82 h82 =>
  pureW Tryd.prog noHp noHp (sv (binOp .sub 3 (r 6) v82)) h82 fun v83 h83 =>
  pureW Tryd.prog noHp noHp (sv (binOp .add 3 v83 (.int .i64 1))) h83 fun v84 h84 =>
  pureW Tryd.prog noHp noHp (sv (Instr.indexAt 42 v79 (r 8))) h84 fun v85 h85 =>
  opH Tryd.prog G (su (Instr.storeAt 3 v85 v84)) h85 fun v86 h86 =>
  S67_l3_k5 G K (upd (upd (upd (upd (upd (upd (upd (upd (upd (upd (upd (upd (upd (upd (upd (upd (upd (upd (upd (upd (upd (upd (upd (upd (upd (upd r 77 (r 5)) 78 (r 8)) 79 v66) 80 (r 4)) 81 v68) 82 v69) 83 v70) 84 (r 8)) 85 v71) 86 (r 6)) 87 v73) 88 v74) 89 v75) 90 v76) 91 (r 4)) 92 v77) 93 v78) 94 v79) 95 (r 8)) 96 (r 6)) 97 v80) 98 v81) 99 v82) 100 v83) 101 v84) 102 v85) h86)
  (S67_l3_k5 G K (upd (upd (upd (upd (upd (upd (upd (upd (upd (upd (upd (upd (upd (upd r 77 (r 5)) 78 (r 8)) 79 v66) 80 (r 4)) 81 v68) 82 v69) 83 v70) 84 (r 8)) 85 v71) 86 (r 6)) 87 v73) 88 v74) 89 v75) 90 v76) h76)
def S67_l3_k4 (G : Hp) (K : Exit → Rg → Hp → Prop) (r : Rg) (h : Hp) : Prop :=
  opH Tryd.prog G (sv (Instr.indexAt 22 (r 59) (r 61))) h fun v54 h54 =>
  opH Tryd.prog G (sv (Instr.loadAt 28 v54)) h54 fun v55 h55 =>
  opH Tryd.prog G (sv (Instr.alloc 28 true (.tuple #[]))) h55 fun v56 h56 =>
  opH Tryd.prog G (su (Instr.storeAt 28 v56 v55)) h56 fun v57 h57 =>
  opH Tryd.prog G (sv (Instr.loadAt 28 v56)) h57 fun v58 h58 =>
  opH Tryd.prog G (callFunc 58 #[(r 4), v58]) h58 fun v59 h59 =>
  opH Tryd.prog G (sv (binOp .lss 3 v59 (.int .i64 0))) h59 fun v60 h60 =>
  gd (wantB v60 false) (fun K1 => K1 (r 5) h60) h60 fun v61 h61 =>
  gd (wantB v60 false) (fun K1 => K1 v59 h61) h61 fun v62 h62 =>
  gd (wantB v60 false) (opH Tryd.prog G (sv (Instr.indexAt 104 v61 v62)) h62) h62 fun v63 h63 =>
  gd (wantB v60 false) (opH Tryd.prog G (sv (Instr.loadAt 4 v63)) h63) h63 fun v64 h64 =>
  opH Tryd.prog G (xPick v60 (.bool true) v64) h64 fun v65 h65 =>
  cond v65
  (K .ret (upd (upd (upd (upd (upd (upd (upd (upd (upd (upd (upd (upd (upd (upd (upd (upd (upd (upd (upd r 63 (r 61)) 64 v54) 65 v55) 7 v56) 6 (r 61)) 66 (r 4)) 67 v58) 68 v59) 8 v59) 69 v59) 70 v60) 71 v60) 72 v61) 73 v62) 74 v63) 75 v64) 76 v65) 2 (.pointer none)) 3 (.bool false)) h65)
  (S67_l3_k6 G K (upd (upd (upd (upd (upd (upd (upd (upd (upd (upd (upd (upd (upd (upd (upd (upd (upd r 63 (r 61)) 64 v54) 65 v55) 7 v56) 6 (r 61)) 66 (r 4)) 67 v58) 68 v59) 8 v59) 69 v59) 70 v60) 71 v60) 72 v61) 73 v62) 74 v63) 75 v64) 76 v65) h65)
def S67_l3 (G : Hp) (r : Rg) (h : Hp) (K : Exit → Rg → Hp → Prop) : Prop :=
  opH Tryd.prog G (sv (binOp .lss 3 (r 61) (r 60))) h fun v52 h52 =>
  cond v52
  (S67_l3_k4 G K (upd r 62 v52) h52)
  (K (.exit 0) (upd r 62 v52) h52)
def S67_k1 (G : Hp) (K : Exit → Rg → Hp → Prop) (r : Rg) (h : Hp) : Prop :=
  ∃ q25 : Hp, q25.le h ∧
  pureW Tryd.prog noHp noHp (sv (Instr.fieldAt 26 (r 1) 0)) h fun v26 h26 =>
  pureW Tryd.prog G q25 (sv (Instr.loadAt 3 v26)) h26 fun v27 h27 =>
  pureW Tryd.prog noHp noHp (sv (Instr.fieldAt 26 (r 1) 1)) h27 fun v28 h28 =>
  pureW Tryd.prog G q25 (sv (Instr.loadAt 3 v28)) h28 fun v29 h29 =>
  pureW Tryd.prog noHp noHp (sv (Instr.fieldAt 26 (r 1) 0)) h29 fun v30 h30 =>
  pureW Tryd.prog G q25 (sv (Instr.loadAt 3 v30)) h30 fun v31 h31 =>
  pureW Tryd.prog noHp noHp (sv (Instr.fieldAt 26 (r 1) 1)) h31 fun v32 h32 =>
  pureW Tryd.prog G q25 (sv (Instr.loadAt 3 v32)) h32 fun v33 h33 =>
  pureW Tryd.prog noHp noHp (sv (binOp .mul 3 v31 v33)) h33 fun v34 h34 =>
  opH Tryd.prog G (sv (Instr.makeSlice 42 v34 v34)) h34 fun v35 h35 => q25.le h35 ∧
  pureW Tryd.prog noHp noHp (sv (Instr.build 93 #[(0, v27), (1, v29), (2, v35)])) h35 fun v36 h36 =>
  opH Tryd.prog G (sv (Instr.box 93 v36)) h36 fun v37 h37 =>
  opH Tryd.prog G (sv (Instr.fieldAt 26 (r 1) 0)) h37 fun v38 h38 =>
  opH Tryd.prog G (sv (Instr.loadAt 3 v38)) h38 fun v39 h39 =>
  opH Tryd.prog G (sv (Instr.fieldAt 26 (r 1) 1)) h39 fun v40 h40 =>
  opH Tryd.prog G (sv (Instr.loadAt 3 v40)) h40 fun v41 h41 =>
  opH Tryd.prog G (sv (binOp .mul 3 v39 v41)) h41 fun v42 h42 =>
  opH Tryd.prog G (sv (Instr.makeSlice 104 v42 v42)) h42 fun v43 h43 =>
  ∃ q44 : Hp, q44.le h43 ∧
  pureW Tryd.prog noHp noHp (sv (Instr.fieldAt 26 (r 1) 3)) h43 fun v45 h45 =>
  pureW Tryd.prog G q44 (sv (Instr.loadAt 22 v45)) h45 fun v46 h46 =>
  opH Tryd.prog G (callFunc 71 #[v46]) h46 fun v47 h47 => q44.le h47 ∧
  pureW Tryd.prog noHp noHp (sv (Instr.fieldAt 26 (r 1) 4)) h47 fun v48 h48 =>
  pureW Tryd.prog G q44 (sv (Instr.loadAt 22 v48)) h48 fun v49 h49 =>
  opH Tryd.prog G (sv (Builtin.append_ #[22, 22] 22 #[v47, v49])) h49 fun v50 h50 =>
  pureW Tryd.prog G h50 (sv (Builtin.len_ #[22] 3 #[v50])) h50 fun v51 h51 =>
  loopP (S67_l3 G) (upd (upd (upd (upd (upd (upd (upd (upd (upd (upd (upd (upd (upd (upd (upd (upd (upd (upd (upd (upd (upd (upd (upd (upd (upd (upd (upd (upd r 36 v26) 37 v27) 38 v28) 39 v29) 40 v30) 41 v31) 42 v32) 43 v33) 44 v34) 45 v35) 46 v36) 47 v37) 4 v37) 48 v38) 49 v39) 50 v40) 51 v41) 52 v42) 53 v43) 5 v43) 54 v45) 55 v46) 56 v47) 57 v48) 58 v49) 59 v50) 60 v51) 61 (.int .i64 0)) h51 (blockK 0 (thenK (S67_k2 G K) K))
def S67 (G : Hp) (K : Exit → Rg → Hp → Prop) (r : Rg) (h : Hp) : Prop :=
  opH Tryd.prog G (sv (Instr.box 26 (r 0))) h fun v0 h0 =>
  opH Tryd.prog G (sv (Instr.fieldAt 26 v0 0)) h0 fun v1 h1 =>
  opH Tryd.prog G (sv (Instr.loadAt 3 v1)) h1 fun v2 h2 =>
  opH Tryd.prog G (callFunc 56 #[v2, (.int .i64 1), (.int .i64 16)]) h2 fun v3 h3 =>
  opH Tryd.prog G (sv (Op.unary .not v3)) h3 fun v4 h4 =>
  gd (wantB v4 false) (opH Tryd.prog G (sv (Instr.fieldAt 26 v0 1)) h4) h4 fun v5 h5 =>
  gd (wantB v4 false) (opH Tryd.prog G (sv (Instr.loadAt 3 v5)) h5) h5 fun v6 h6 =>
  gd (wantB v4 false) (opH Tryd.prog G (callFunc 56 #[v6, (.int .i64 1), (.int .i64 16)]) h6) h6 fun v7 h7 =>
  gd (wantB v4 false) (opH Tryd.prog G (sv (Op.unary .not v7)) h7) h7 fun v8 h8 =>
  opH Tryd.prog G (xPick v4 (.bool true) v8) h8 fun v9 h9 =>
  gd (wantB v9 false) (opH Tryd.prog G (sv (Instr.fieldAt 26 v0 4)) h9) h9 fun v10 h10 =>
  gd (wantB v9 false) (opH Tryd.prog G (sv (Instr.loadAt 22 v10)) h10) h10 fun v11 h11 =>
  gd (wantB v9 false) (opH Tryd.prog G (sv (Builtin.len_ #[22] 3 #[v11])) h11) h11 fun v12 h12 =>
  gd (wantB v9 false) (opH Tryd.prog G (sv (binOp .gtr 3 v12 (.int .i64 8))) h12) h12 fun v13 h13 =>
  opH Tryd.prog G (xPick v9 (.bool true) v13) h13 fun v14 h14 =>
  gd (wantB v14 false) (opH Tryd.prog G (sv (Instr.fieldAt 26 v0 3)) h14) h14 fun v15 h15 =>
  gd (wantB v14 false) (opH Tryd.prog G (sv (Instr.loadAt 22 v15)) h15) h15 fun v16 h16 =>
  gd (wantB v14 false) (opH Tryd.prog G (sv (Builtin.len_ #[22] 3 #[v16])) h16) h16 fun v17 h17 =>
  gd (wantB v14 false) (opH Tryd.prog G (sv (Instr.fieldAt 26 v0 0)) h17) h17 fun v18 h18 =>
  gd (wantB v14 false) (opH Tryd.prog G (sv (Instr.loadAt 3 v18)) h18) h18 fun v19 h19 =>
  gd (wantB v14 false) (opH Tryd.prog G (sv (Instr.fieldAt 26 v0 1)) h19) h19 fun v20 h20 =>
  gd (wantB v14 false) (opH Tryd.prog G (sv (Instr.loadAt 3 v20)) h20) h20 fun v21 h21 =>
  gd (wantB v14 false) (opH Tryd.prog G (sv (binOp .mul 3 v19 v21)) h21) h21 fun v22 h22 =>
  gd (wantB v14 false) (opH Tryd.prog G (sv (binOp .gtr 3 v17 v22)) h22) h22 fun v23 h23 =>
  opH Tryd.prog G (xPick v14 (.bool true) v23) h23 fun v24 h24 =>
  cond v24
  (K .ret (upd (upd (upd (upd (upd (upd (upd (upd (upd (upd (upd (upd (upd (upd (upd (upd (upd (upd (upd (upd (upd (upd (upd (upd (upd (upd (upd (upd (upd (upd (upd (upd r 1 v0) 2 (.pointer none)) 3 (.bool false)) 9 v1) 10 v2) 11 v3) 12 v4) 13 v4) 14 v5) 15 v6) 16 v7) 17 v8) 18 v9) 19 v9) 20 v10) 21 v11) 22 v12) 23 v13) 24 v14) 25 v14) 26 v15) 27 v16) 28 v17) 29 v18) 30 v19) 31 v20) 32 v21) 33 v22) 34 v23) 35 v24) 2 (.pointer none)) 3 (.bool false)) h24)
  (S67_k1 G K (upd (upd (upd (upd (upd (upd (upd (upd (upd (upd (upd (upd (upd (upd (upd (upd (upd (upd (upd (upd (upd (upd (upd (upd (upd (upd (upd (upd (upd (upd r 1 v0) 2 (.pointer none)) 3 (.bool false)) 9 v1) 10 v2) 11 v3) 12 v4) 13 v4) 14 v5) 15 v6) 16 v7) 17 v8) 18 v9) 19 v9) 20 v10) 21 v11) 22 v12) 23 v13) 24 v14) 25 v14) 26 v15) 27 v16) 28 v17) 29 v18) 30 v19) 31 v20) 32 v21) 33 v22) 34 v23) 35 v24) h24)
theorem S67_eq (G : Hp) (K : Exit → Rg → Hp → Prop) (r : Rg) (h : Hp) : wpC Tryd.prog G 105 md67 true (Tryd.f67.body.getD .skip) r h K = S67 G K r h := by kernel_rfl
theorem enter67 {G : Hp} {h : Hp} {args : Array Value} {R : Value → Hp → Prop} (hn : args.size ≤ 105) (H : S67 G (retK Tryd.prog G [.tmp 2, .tmp 3] R) (regs args) h) : HCalls Tryd.prog G 67 args h R :=
  HCalls.enter (md := md67) mixed Tryd.func67 rfl hn (by rw [← S67_eq] at H; exact H)

def md68 : Nat → Hint
  | 6 => ⟨false, [0, 0, 2, 6, 14, 31, 0, 0, 128, 384, 896, 1984, 4095, 8191, 0, 32767], [.pureN, .pureN, .pureN, .pureN, .pureM, .pureN, .pureN, .pureN, .pureN, .pureN, .pureM, .pureN, .pureN, .pureN, .alloc, .store], [.pureN, .pureN, .pureN, .pureN, .pureM, .pureN, .pureN, .pureN, .pureN, .pureN, .pureM, .pureN, .pureN, .pureN, .alloc, .store], [false, false, false, false, false, false, false, false, false, false, false, false, false, false, false, false], false⟩
  | _ => ⟨false, [], [], [], [], false⟩
def S68_k3 (G : Hp) (K : Exit → Rg → Hp → Prop) (r : Rg) (h : Hp) : Prop :=
  K .ret (upd r 4 (.bool true)) h
def S68_l4_k6 (G : Hp) (K : Exit → Rg → Hp → Prop) (r : Rg) (h : Hp) : Prop :=
  opH Tryd.prog G (sv (binOp .add 3 (r 81) (.int .i64 1))) h fun v13 h13 =>
  K .normal (upd (upd r 124 v13) 81 v13) h13
def S68_l4_l8_k10 (G : Hp) (K : Exit → Rg → Hp → Prop) (r : Rg) (h : Hp) : Prop :=
  opH Tryd.prog G (sv (binOp .add 3 (r 93) (.int .i64 1))) h fun v25 h25 =>
  K .normal (upd (upd r 123 v25) 93 v25) h25
def S68_l4_l8_k11 (G : Hp) (K : Exit → Rg → Hp → Prop) (r : Rg) (h : Hp) : Prop :=
  opH Tryd.prog G (sv (Instr.indexAt 104 (r 7) (r 12))) h fun v43 h43 =>
  opH Tryd.prog G (su (Instr.storeAt 4 v43 (.bool true))) h43 fun v44 h44 =>
  opH Tryd.prog G (xNil (r 0)) h44 fun v45 h45 =>
  opH Tryd.prog G (sv (Instr.fieldAt 93 v45 2)) h45 fun v46 h46 =>
  opH Tryd.prog G (sv (Instr.loadAt 42 v46)) h46 fun v47 h47 =>
  opH Tryd.prog G (sv (Instr.indexAt 42 v47 (r 12))) h47 fun v48 h48 =>
  opH Tryd.prog G (su (Instr.storeAt 3 v48 (.int .i64 (-2)))) h48 fun v49 h49 =>
  S68_l4_l8_k10 G K (upd (upd (upd (upd (upd (upd (upd (upd (upd r 114 (r 7)) 115 (r 12)) 116 v43) 117 (r 0)) 118 v45) 119 v46) 120 v47) 121 (r 12)) 122 v48) h49
def S68_l4_l8_k9 (G : Hp) (K : Exit → Rg → Hp → Prop) (r : Rg) (h : Hp) : Prop :=
  opH Tryd.prog G (sv (Instr.indexAt 22 (r 91) (r 93))) h fun v26 h26 =>
  opH Tryd.prog G (sv (Instr.loadAt 28 v26)) h26 fun v27 h27 =>
  opH Tryd.prog G (sv (Instr.alloc 28 true (.tuple #[]))) h27 fun v28 h28 =>
  opH Tryd.prog G (su (Instr.storeAt 28 v28 v27)) h28 fun v29 h29 =>
  opH Tryd.prog G (sv (Instr.loadAt 28 v28)) h29 fun v30 h30 =>
  opH Tryd.prog G (callFunc 58 #[(r 0), v30]) h30 fun v31 h31 =>
  opH Tryd.prog G (sv (Instr.indexAt 104 (r 7) v31)) h31 fun v32 h32 =>
  opH Tryd.prog G (sv (Instr.loadAt 4 v32)) h32 fun v33 h33 =>
  gd (wantB v33 false) (fun K1 => K1 (r 0) h33) h33 fun v34 h34 =>
  gd (wantB v33 false) (opH Tryd.prog G (xNil v34) h34) h34 fun v35 h35 =>
  gd (wantB v33 false) (opH Tryd.prog G (sv (Instr.fieldAt 93 v35 2)) h35) h35 fun v36 h36 =>
  gd (wantB v33 false) (opH Tryd.prog G (sv (Instr.loadAt 42 v36)) h36) h36 fun v37 h37 =>
  gd (wantB v33 false) (fun K1 => K1 v31 h37) h37 fun v38 h38 =>
  gd (wantB v33 false) (opH Tryd.prog G (sv (Instr.indexAt 42 v37 v38)) h38) h38 fun v39 h39 =>
  gd (wantB v33 false) (opH Tryd.prog G (sv (Instr.loadAt 3 v39)) h39) h39 fun v40 h40 =>
  gd (wantB v33 false) (opH Tryd.prog G (sv (binOp .gtr 3 v40 (.int .i64 0))) h40) h40 fun v41 h41 =>
  opH Tryd.prog G (xPick v33 (.bool true) v41) h41 fun v42 h42 =>
  cond v42
  (K .ret (upd (upd (upd (upd (upd (upd (upd (upd (upd (upd (upd (upd (upd (upd (upd (upd (upd (upd (upd (upd (upd (upd r 95 v26) 96 v27) 11 v28) 97 (r 0)) 98 v30) 99 v31) 12 v31) 100 (r 7)) 101 v31) 102 v32) 103 v33) 104 v33) 105 v34) 106 v35) 107 v36) 108 v37) 109 v38) 110 v39) 111 v40) 112 v41) 113 v42) 4 (.bool false)) h42)
  (S68_l4_l8_k11 G K (upd (upd (upd (upd (upd (upd (upd (upd (upd (upd (upd (upd (upd (upd (upd (upd (upd (upd (upd (upd (upd r 95 v26) 96 v27) 11 v28) 97 (r 0)) 98 v30) 99 v31) 12 v31) 100 (r 7)) 101 v31) 102 v32) 103 v33) 104 v33) 105 v34) 106 v35) 107 v36) 108 v37) 109 v38) 110 v39) 111 v40) 112 v41) 113 v42) h42)
def S68_l4_l8 (G : Hp) (r : Rg) (h : Hp) (K : Exit → Rg → Hp → Prop) : Prop :=
  opH Tryd.prog G (sv (binOp .lss 3 (r 93) (r 92))) h fun v24 h24 =>
  cond v24
  (S68_l4_l8_k9 G K (upd r 94 v24) h24)
  (K (.exit 4) (upd r 94 v24) h24)
def S68_l4_k7 (G : Hp) (K : Exit → Rg → Hp → Prop) (r : Rg) (h : Hp) : Prop :=
  opH Tryd.prog G (sv (Instr.loadAt 85 (r 9))) h fun v21 h21 =>
  opH Tryd.prog G (callFunc 73 #[(r 0), v21]) h21 fun v22 h22 =>
  opH Tryd.prog G (sv (Builtin.len_ #[22] 3 #[v22])) h22 fun v23 h23 =>
  loopP (S68_l4_l8 G) (upd (upd (upd (upd (upd r 89 (r 0)) 90 v21) 91 v22) 92 v23) 93 (.int .i64 0)) h23 (blockK 4 (blockK 3 (thenK (S68_l4_k6 G K) K)))
def S68_l4_k5 (G : Hp) (K : Exit → Rg → Hp → Prop) (r : Rg) (h : Hp) : Prop :=
  opH Tryd.prog G (sv (Instr.indexAt 23 (r 79) (r 81))) h fun v14 h14 =>
  opH Tryd.prog G (sv (Instr.loadAt 85 v14)) h14 fun v15 h15 =>
  opH Tryd.prog G (sv (Instr.alloc 85 true (.tuple #[]))) h15 fun v16 h16 =>
  opH Tryd.prog G (su (Instr.storeAt 85 v16 v15)) h16 fun v17 h17 =>
  opH Tryd.prog G (sv (Instr.loadAt 85 v16)) h17 fun v18 h18 =>
  opH Tryd.prog G (callFunc 72 #[(r 0), v18]) h18 fun v19 h19 =>
  opH Tryd.prog G (sv (Op.unary .not v19)) h19 fun v20 h20 =>
  cond v20
  (K .ret (upd (upd (upd (upd (upd (upd (upd (upd r 83 v14) 84 v15) 9 v16) 85 (r 0)) 86 v18) 87 v19) 88 v20) 4 (.bool false)) h20)
  (S68_l4_k7 G K (upd (upd (upd (upd (upd (upd (upd r 83 v14) 84 v15) 9 v16) 85 (r 0)) 86 v18) 87 v19) 88 v20) h20)
def S68_l4 (G : Hp) (r : Rg) (h : Hp) (K : Exit → Rg → Hp → Prop) : Prop :=
  opH Tryd.prog G (sv (binOp .lss 3 (r 81) (r 80))) h fun v12 h12 =>
  cond v12
  (S68_l4_k5 G K (upd r 82 v12) h12)
  (K (.exit 2) (upd r 82 v12) h12)
def S68_k2 (G : Hp) (K : Exit → Rg → Hp → Prop) (r : Rg) (h : Hp) : Prop :=
  opH Tryd.prog G (xNil (r 0)) h fun v6 h6 =>
  opH Tryd.prog G (sv (Instr.fieldAt 93 v6 2)) h6 fun v7 h7 =>
  opH Tryd.prog G (sv (Instr.loadAt 42 v7)) h7 fun v8 h8 =>
  opH Tryd.prog G (sv (Builtin.len_ #[42] 3 #[v8])) h8 fun v9 h9 =>
  opH Tryd.prog G (sv (Instr.makeSlice 104 v9 v9)) h9 fun v10 h10 =>
  opH Tryd.prog G (sv (Builtin.len_ #[23] 3 #[(r 1)])) h10 fun v11 h11 =>
  loopP (S68_l4 G) (upd (upd (upd (upd (upd (upd (upd (upd (upd (upd r 73 (r 0)) 74 v6) 75 v7) 76 v8) 77 v9) 78 v10) 7 v10) 79 (r 1)) 80 v11) 81 (.int .i64 0)) h11 (blockK 2 (thenK (S68_k3 G K) K))
def S68_l12_k14 (G : Hp) (K : Exit → Rg → Hp → Prop) (r : Rg) (h : Hp) : Prop :=
  opH Tryd.prog G (sv (binOp .add 3 (r 21) (.int .i64 1))) h fun v51 h51 =>
  K .normal (upd (upd r 72 v51) 21 v51) h51
def S68_l12_k16 (G : Hp) (K : Exit → Rg → Hp → Prop) (r : Rg) (h : Hp) : Prop :=
  opH Tryd.prog G (xNil (r 0)) h fun v86 h86 =>
  opH Tryd.prog G (sv (Instr.fieldAt 93 v86 2)) h86 fun v87 h87 =>
  opH Tryd.prog G (sv (Instr.loadAt 42 v87)) h87 fun v88 h88 =>
  opH Tryd.prog G (sv (Instr.indexAt 42 v88 (r 5))) h88 fun v89 h89 =>
  opH Tryd.prog G (su (Instr.storeAt 3 v89 (.int .i64 (-2)))) h89 fun v90 h90 =>
  S68_l12_k14 G K (upd (upd (upd (upd (upd (upd r 66 (r 0)) 67 v86) 68 v87) 69 v88) 70 (r 5)) 71 v89) h90
def S68_l12_k15 (G : Hp) (K : Exit → Rg → Hp → Prop) (r : Rg) (h : Hp) : Prop :=
  opH Tryd.prog G (xNil (r 0)) h fun v80 h80 =>
  opH Tryd.prog G (sv (Instr.fieldAt 93 v80 2)) h80 fun v81 h81 =>
  opH Tryd.prog G (sv (Instr.loadAt 42 v81)) h81 fun v82 h82 =>
  opH Tryd.prog G (sv (Instr.indexAt 42 v82 (r 5))) h82 fun v83 h83 =>
  opH Tryd.prog G (sv (Instr.loadAt 3 v83)) h83 fun v84 h84 =>
  opH Tryd.prog G (sv (binOp .gtr 3 v84 (.int .i64 0))) h84 fun v85 h85 =>
  cond v85
  (K .ret (upd (upd (upd (upd (upd (upd (upd (upd (upd r 58 (r 0)) 59 v80) 60 v81) 61 v82) 62 (r 5)) 63 v83) 64 v84) 65 v85) 4 (.bool false)) h85)
  (S68_l12_k16 G K (upd (upd (upd (upd (upd (upd (upd (upd r 58 (r 0)) 59 v80) 60 v81) 61 v82) 62 (r 5)) 63 v83) 64 v84) 65 v85) h85)
def S68_l12_k13 (G : Hp) (K : Exit → Rg → Hp → Prop) (r : Rg) (h : Hp) : Prop :=
  pureW Tryd.prog noHp noHp (xNil (r 0)) h fun v52 h52 =>
  pureW Tryd.prog noHp noHp (sv (Instr.fieldAt 93 v52 0)) h52 fun v53 h53 =>
  pureW Tryd.prog G h (sv (Instr.loadAt 3 v53)) h53 fun v54 h54 =>
  pureW Tryd.prog noHp noHp (sv (binOp .rem 3 (r 21) v54)) h54 fun v55 h55 =>
  pureW Tryd.prog noHp noHp (xNil (r 0)) h55 fun v56 h56 =>
  pureW Tryd.prog noHp noHp (sv (Instr.fieldAt 93 v56 0)) h56 fun v57 h57 =>
  pureW Tryd.prog G h (sv (Instr.loadAt 3 v57)) h57 fun v58 h58 =>
  pureW Tryd.prog noHp noHp (sv (binOp .quo 3 (r 21) v58)) h58 fun v59 h59 =>
  pureW Tryd.prog noHp noHp (sv (Instr.build 28 #[(0, v55), (1, v59)])) h59 fun v60 h60 =>
  pureW Tryd.prog noHp noHp (sv (Instr.build 85 #[(0, v60)])) h60 fun v61 h61 =>
  opH Tryd.prog G (sv (Instr.alloc 85 true (.tuple #[]))) h61 fun v62 h62 =>
  opH Tryd.prog G (su (Instr.storeAt 85 v62 v61)) h62 fun v63 h63 =>
  opH Tryd.prog G (xNil (r 0)) h63 fun v64 h64 =>
  opH Tryd.prog G (sv (Instr.fieldAt 93 v64 2)) h64 fun v65 h65 =>
  opH Tryd.prog G (sv (Instr.loadAt 42 v65)) h65 fun v66 h66 =>
  opH Tryd.prog G (sv (Instr.indexAt 42 v66 (r 21))) h66 fun v67 h67 =>
  opH Tryd.prog G (sv (Instr.loadAt 3 v67)) h67 fun v68 h68 =>
  opH Tryd.prog G (xEq .eql 3 (.tmp 0) (.const .nilFunc) v68 (.int .i64 (-1))) h68 fun v69 h69 =>
  gd (wantB v69 false) (fun K1 => K1 (r 0) h69) h69 fun v70 h70 =>
  gd (wantB v69 false) (opH Tryd.prog G (sv (Instr.loadAt 85 v62)) h70) h70 fun v71 h71 =>
  gd (wantB v69 false) (opH Tryd.prog G (callFunc 72 #[v70, v71]) h71) h71 fun v72 h72 =>
  opH Tryd.prog G (xPick v69 (.bool true) v72) h72 fun v73 h73 =>
  gd (wantB v73 false) (fun K1 => K1 (r 0) h73) h73 fun v74 h74 =>
  gd (wantB v73 false) (opH Tryd.prog G (sv (Instr.fieldAt 85 v62 0)) h74) h74 fun v75 h75 =>
  gd (wantB v73 false) (opH Tryd.prog G (sv (Instr.loadAt 28 v75)) h75) h75 fun v76 h76 =>
  gd (wantB v73 false) (opH Tryd.prog G (sv (Instr.build 85 #[(0, v76), (1, (.bool true))])) h76) h76 fun v77 h77 =>
  gd (wantB v73 false) (opH Tryd.prog G (callFunc 72 #[v74, v77]) h77) h77 fun v78 h78 =>
  opH Tryd.prog G (xPick v73 (.bool true) v78) h78 fun v79 h79 =>
  cond v79
  (S68_l12_k14 G K (upd (upd (upd (upd (upd (upd (upd (upd (upd (upd (upd (upd (upd (upd (upd (upd (upd (upd (upd (upd (upd (upd (upd (upd (upd (upd (upd (upd (upd (upd (upd (upd (upd (upd (upd (upd (upd r 23 (r 21)) 5 (r 21)) 24 (r 21)) 25 (r 0)) 26 v52) 27 v53) 28 v54) 29 v55) 30 (r 21)) 31 (r 0)) 32 v56) 33 v57) 34 v58) 35 v59) 36 v60) 37 v61) 6 v62) 38 (r 0)) 39 v64) 40 v65) 41 v66) 42 (r 21)) 43 v67) 44 v68) 45 v69) 46 v69) 47 v70) 48 v71) 49 v72) 50 v73) 51 v73) 52 v74) 53 v75) 54 v76) 55 v77) 56 v78) 57 v79) h79)
  (S68_l12_k15 G K (upd (upd (upd (upd (upd (upd (upd (upd (upd (upd (upd (upd (upd (upd (upd (upd (upd (upd (upd (upd (upd (upd (upd (upd (upd (upd (upd (upd (upd (upd (upd (upd (upd (upd (upd (upd (upd r 23 (r 21)) 5 (r 21)) 24 (r 21)) 25 (r 0)) 26 v52) 27 v53) 28 v54) 29 v55) 30 (r 21)) 31 (r 0)) 32 v56) 33 v57) 34 v58) 35 v59) 36 v60) 37 v61) 6 v62) 38 (r 0)) 39 v64) 40 v65) 41 v66) 42 (r 21)) 43 v67) 44 v68) 45 v69) 46 v69) 47 v70) 48 v71) 49 v72) 50 v73) 51 v73) 52 v74) 53 v75) 54 v76) 55 v77) 56 v78) 57 v79) h79)
def S68_l12 (G : Hp) (r : Rg) (h : Hp) (K : Exit → Rg → Hp → Prop) : Prop :=
  opH Tryd.prog G (sv (binOp .lss 3 (r 21) (r 20))) h fun v50 h50 =>
  cond v50
  (S68_l12_k13 G K (upd r 22 v50) h50)
  (K (.exit 0) (upd r 22 v50) h50)
def S68_k1 (G : Hp) (K : Exit → Rg → Hp → Prop) (r : Rg) (h : Hp) : Prop :=
  opH Tryd.prog G (xNil (r 0)) h fun v2 h2 =>
  opH Tryd.prog G (sv (Instr.fieldAt 93 v2 2)) h2 fun v3 h3 =>
  opH Tryd.prog G (sv (Instr.loadAt 42 v3)) h3 fun v4 h4 =>
  opH Tryd.prog G (sv (Builtin.len_ #[42] 3 #[v4])) h4 fun v5 h5 =>
  loopP (S68_l12 G) (upd (upd (upd (upd (upd (upd r 16 (r 0)) 17 v2) 18 v3) 19 v4) 20 v5) 21 (.int .i64 0)) h5 (blockK 0 (thenK (S68_k2 G K) K))
def S68 (G : Hp) (K : Exit → Rg → Hp → Prop) (r : Rg) (h : Hp) : Prop :=
  opH Tryd.prog G (sv (Builtin.len_ #[23] 3 #[(r 1)])) h fun v0 h0 =>
  opH Tryd.prog G (sv (binOp .gtr 3 v0 (.int .i64 8))) h0 fun v1 h1 =>
  cond v1
  (K .ret (upd (upd (upd (upd (upd r 4 (.bool false)) 13 (r 1)) 14 v0) 15 v1) 4 (.bool false)) h1)
  (S68_k1 G K (upd (upd (upd (upd r 4 (.bool false)) 13 (r 1)) 14 v0) 15 v1) h1)
theorem S68_eq (G : Hp) (K : Exit → Rg → Hp → Prop) (r : Rg) (h : Hp) : wpC Tryd.prog G 125 md68 true (Tryd.f68.body.getD .skip) r h K = S68 G K r h := by kernel_rfl
theorem enter68 {G : Hp} {h : Hp} {args : Array Value} {R : Value → Hp → Prop} (hn : args.size ≤ 125) (H : S68 G (retK Tryd.prog G [.tmp 4] R) (regs args) h) : HCalls Tryd.prog G 68 args h R :=
  HCalls.enter (md := md68) mixed Tryd.func68 rfl hn (by rw [← S68_eq] at H; exact H)

def md69 : Nat → Hint
  | _ => ⟨false, [], [], [], [], false⟩
def S69_k1 (G : Hp) (K : Exit → Rg → Hp → Prop) (r : Rg) (h : Hp) : Prop :=
  K .ret (upd r 6 (.bool true)) h
def S69_l2_k4 (G : Hp) (K : Exit → Rg → Hp → Prop) (r : Rg) (h : Hp) : Prop :=
  opH Tryd.prog G (sv (binOp .add 3 (r 22) (.int .i64 1))) h fun v8 h8 =>
  K .normal (upd (upd r 77 v8) 22 v8) h8
def S69_l2_l6_k8 (G : Hp) (K : Exit → Rg → Hp → Prop) (r : Rg) (h : Hp) : Prop :=
  opH Tryd.prog G (sv (binOp .add 3 (r 56) (.int .i64 1))) h fun v40 h40 =>
  K .normal (upd (upd r 76 v40) 56 v40) h40
def S69_l2_l6_k9 (G : Hp) (K : Exit → Rg → Hp → Prop) (r : Rg) (h : Hp) : Prop :=
  opH Tryd.prog G (su (Instr.mapUpdate 107 (r 8) (r 12) (.int .i64 1))) h fun v54 h54 =>
  S69_l2_l6_k8 G K (upd (upd r 74 (r 8)) 75 (r 12)) h54
def S69_l2_l6_k7 (G : Hp) (K : Exit → Rg → Hp → Prop) (r : Rg) (h : Hp) : Prop :=
  opH Tryd.prog G (sv (Instr.indexAt 42 (r 54) (r 56))) h fun v41 h41 =>
  opH Tryd.prog G (sv (Instr.loadAt 3 v41)) h41 fun v42 h42 =>
  opH Tryd.prog G (callFunc 56 #[v42, (.int .i64 1), (.int .i64 1000000000)]) h42 fun v43 h43 =>
  opH Tryd.prog G (sv (Op.unary .not v43)) h43 fun v44 h44 =>
  gd (wantB v44 false) (fun K1 => K1 (r 8) h44) h44 fun v45 h45 =>
  gd (wantB v44 false) (fun K1 => K1 v42 h45) h45 fun v46 h46 =>
  gd (wantB v44 false) (opH Tryd.prog G (sv (Instr.lookup 107 v45 v46 false)) h46) h46 fun v47 h47 =>
  gd (wantB v44 false) (opH Tryd.prog G (sv (binOp .gtr 3 v47 (.int .i64 0))) h47) h47 fun v48 h48 =>
  opH Tryd.prog G (xPick v44 (.bool true) v48) h48 fun v49 h49 =>
  gd (wantB v49 false) (fun K1 => K1 (r 8) h49) h49 fun v50 h50 =>
  gd (wantB v49 false) (opH Tryd.prog G (sv (Builtin.len_ #[107] 3 #[v50])) h50) h50 fun v51 h51 =>
  gd (wantB v49 false) (opH Tryd.prog G (xEq .eql 3 (.tmp 0) (.const .nilFunc) v51 (.int .i64 512)) h51) h51 fun v52 h52 =>
  opH Tryd.prog G (xPick v49 (.bool true) v52) h52 fun v53 h53 =>
  cond v53
  (K .ret (upd (upd (upd (upd (upd (upd (upd (upd (upd (upd (upd (upd (upd (upd (upd (upd (upd (upd r 58 v41) 59 v42) 12 v42) 60 v42) 61 v43) 62 v44) 63 v44) 64 v45) 65 v46) 66 v47) 67 v48) 68 v49) 69 v49) 70 v50) 71 v51) 72 v52) 73 v53) 6 (.bool false)) h53)
  (S69_l2_l6_k9 G K (upd (upd (upd (upd (upd (upd (upd (upd (upd (upd (upd (upd (upd (upd (upd (upd (upd r 58 v41) 59 v42) 12 v42) 60 v42) 61 v43) 62 v44) 63 v44) 64 v45) 65 v46) 66 v47) 67 v48) 68 v49) 69 v49) 70 v50) 71 v51) 72 v52) 73 v53) h53)
def S69_l2_l6 (G : Hp) (r : Rg) (h : Hp) (K : Exit → Rg → Hp → Prop) : Prop :=
  opH Tryd.prog G (sv (binOp .lss 3 (r 56) (r 55))) h fun v39 h39 =>
  cond v39
  (S69_l2_l6_k7 G K (upd r 57 v39) h39)
  (K (.exit 2) (upd r 57 v39) h39)
def S69_l2_k5 (G : Hp) (K : Exit → Rg → Hp → Prop) (r : Rg) (h : Hp) : Prop :=
  opH Tryd.prog G (sv (Instr.fieldAt 49 (r 10) 0)) h fun v31 h31 =>
  opH Tryd.prog G (sv (Instr.loadAt 28 v31)) h31 fun v32 h32 =>
  opH Tryd.prog G (callFunc 58 #[(r 0), v32]) h32 fun v33 h33 =>
  opH Tryd.prog G (sv (Instr.indexAt 104 (r 7) v33)) h33 fun v34 h34 =>
  opH Tryd.prog G (su (Instr.storeAt 4 v34 (.bool true))) h34 fun v35 h35 =>
  opH Tryd.prog G (sv (Instr.fieldAt 49 (r 10) 1)) h35 fun v36 h36 =>
  opH Tryd.prog G (sv (Instr.loadAt 42 v36)) h36 fun v37 h37 =>
  opH Tryd.prog G (sv (Builtin.len_ #[42] 3 #[v37])) h37 fun v38 h38 =>
  loopP (S69_l2_l6 G) (upd (upd (upd (upd (upd (upd (upd (upd (upd (upd r 47 (r 7)) 48 (r 0)) 49 v31) 50 v32) 51 v33) 52 v34) 53 v36) 54 v37) 55 v38) 56 (.int .i64 0)) h38 (blockK 2 (blockK 1 (thenK (S69_l2_k4 G K) K)))
def S69_l2_k3 (G : Hp) (K : Exit → Rg → Hp → Prop) (r : Rg) (h : Hp) : Prop :=
  opH Tryd.prog G (sv (Instr.indexAt 24 (r 20) (r 22))) h fun v9 h9 =>
  opH Tryd.prog G (sv (Instr.loadAt 49 v9)) h9 fun v10 h10 =>
  opH Tryd.prog G (sv (Instr.alloc 49 true (.tuple #[]))) h10 fun v11 h11 =>
  opH Tryd.prog G (su (Instr.storeAt 49 v11 v10)) h11 fun v12 h12 =>
  opH Tryd.prog G (sv (Instr.fieldAt 49 v11 0)) h12 fun v13 h13 =>
  opH Tryd.prog G (sv (Instr.loadAt 28 v13)) h13 fun v14 h14 =>
  opH Tryd.prog G (callFunc 74 #[(r 0), v14]) h14 fun v15 h15 =>
  opH Tryd.prog G (sv (Op.unary .not v15)) h15 fun v16 h16 =>
  gd (wantB v16 false) (fun K1 => K1 (r 7) h16) h16 fun v17 h17 =>
  gd (wantB v16 false) (fun K1 => K1 (r 0) h17) h17 fun v18 h18 =>
  gd (wantB v16 false) (opH Tryd.prog G (sv (Instr.fieldAt 49 v11 0)) h18) h18 fun v19 h19 =>
  gd (wantB v16 false) (opH Tryd.prog G (sv (Instr.loadAt 28 v19)) h19) h19 fun v20 h20 =>
  gd (wantB v16 false) (opH Tryd.prog G (callFunc 58 #[v18, v20]) h20) h20 fun v21 h21 =>
  gd (wantB v16 false) (opH Tryd.prog G (sv (Instr.indexAt 104 v17 v21)) h21) h21 fun v22 h22 =>
  gd (wantB v16 false) (opH Tryd.prog G (sv (Instr.loadAt 4 v22)) h22) h22 fun v23 h23 =>
  opH Tryd.prog G (xPick v16 (.bool true) v23) h23 fun v24 h24 =>
  gd (wantB v24 false) (opH Tryd.prog G (sv (Instr.fieldAt 49 v11 1)) h24) h24 fun v25 h25 =>
  gd (wantB v24 false) (opH Tryd.prog G (sv (Instr.loadAt 42 v25)) h25) h25 fun v26 h26 =>
  gd (wantB v24 false) (opH Tryd.prog G (sv (Builtin.len_ #[42] 3 #[v26])) h26) h26 fun v27 h27 =>
  gd (wantB v24 false) (fun K1 => K1 (r 2) h27) h27 fun v28 h28 =>
  gd (wantB v24 false) (opH Tryd.prog G (sv (binOp .gtr 3 v27 v28)) h28) h28 fun v29 h29 =>
  opH Tryd.prog G (xPick v24 (.bool true) v29) h29 fun v30 h30 =>
  cond v30
  (K .ret (upd (upd (upd (upd (upd (upd (upd (upd (upd (upd (upd (upd (upd (upd (upd (upd (upd (upd (upd (upd (upd (upd (upd (upd (upd r 24 v9) 25 v10) 10 v11) 26 (r 0)) 27 v13) 28 v14) 29 v15) 30 v16) 31 v16) 32 v17) 33 v18) 34 v19) 35 v20) 36 v21) 37 v22) 38 v23) 39 v24) 40 v24) 41 v25) 42 v26) 43 v27) 44 v28) 45 v29) 46 v30) 6 (.bool false)) h30)
  (S69_l2_k5 G K (upd (upd (upd (upd (upd (upd (upd (upd (upd (upd (upd (upd (upd (upd (upd (upd (upd (upd (upd (upd (upd (upd (upd (upd r 24 v9) 25 v10) 10 v11) 26 (r 0)) 27 v13) 28 v14) 29 v15) 30 v16) 31 v16) 32 v17) 33 v18) 34 v19) 35 v20) 36 v21) 37 v22) 38 v23) 39 v24) 40 v24) 41 v25) 42 v26) 43 v27) 44 v28) 45 v29) 46 v30) h30)
def S69_l2 (G : Hp) (r : Rg) (h : Hp) (K : Exit → Rg → Hp → Prop) : Prop :=
  opH Tryd.prog G (sv (binOp .lss 3 (r 22) (r 21))) h fun v7 h7 =>
  cond v7
  (S69_l2_k3 G K (upd r 23 v7) h7)
  (K (.exit 0) (upd r 23 v7) h7)
def S69 (G : Hp) (K : Exit → Rg → Hp → Prop) (r : Rg) (h : Hp) : Prop :=
  opH Tryd.prog G (xNil (r 0)) h fun v0 h0 =>
  opH Tryd.prog G (sv (Instr.fieldAt 93 v0 2)) h0 fun v1 h1 =>
  opH Tryd.prog G (sv (Instr.loadAt 42 v1)) h1 fun v2 h2 =>
  opH Tryd.prog G (sv (Builtin.len_ #[42] 3 #[v2])) h2 fun v3 h3 =>
  opH Tryd.prog G (sv (Instr.makeSlice 104 v3 v3)) h3 fun v4 h4 =>
  opH Tryd.prog G (sv (Instr.makeMap 107 none)) h4 fun v5 h5 =>
  opH Tryd.prog G (sv (Builtin.len_ #[24] 3 #[(r 1)])) h5 fun v6 h6 =>
  loopP (S69_l2 G) (upd (upd (upd (upd (upd (upd (upd (upd (upd (upd (upd (upd (upd r 6 (.bool false)) 13 (r 0)) 14 v0) 15 v1) 16 v2) 17 v3) 18 v4) 7 v4) 19 v5) 8 v5) 20 (r 1)) 21 v6) 22 (.int .i64 0)) h6 (blockK 0 (thenK (S69_k1 G K) K))
theorem S69_eq (G : Hp) (K : Exit → Rg → Hp → Prop) (r : Rg) (h : Hp) : wpC Tryd.prog G 78 md69 true (Tryd.f69.body.getD .skip) r h K = S69 G K r h := by kernel_rfl
theorem enter69 {G : Hp} {h : Hp} {args : Array Value} {R : Value → Hp → Prop} (hn : args.size ≤ 78) (H : S69 G (retK Tryd.prog G [.tmp 6] R) (regs args) h) : HCalls Tryd.prog G 69 args h R :=
  HCalls.enter (md := md69) mixed Tryd.func69 rfl hn (by rw [← S69_eq] at H; exact H)

def md71 : Nat → Hint
  | _ => ⟨false, [], [], [], [], false⟩
def S71_k1 (G : Hp) (K : Exit → Rg → Hp → Prop) (r : Rg) (h : Hp) : Prop :=
  opH Tryd.prog G (sv (Builtin.len_ #[22] 3 #[(r 0)])) h fun v2 h2 =>
  opH Tryd.prog G (sv (Instr.makeSlice 22 v2 v2)) h2 fun v3 h3 =>
  opH Tryd.prog G (sv (Builtin.copy_ #[22, 22] 3 #[v3, (r 0)])) h3 fun v4 h4 =>
  K .ret (upd (upd (upd (upd (upd (upd (upd (upd (upd r 7 (r 0)) 8 v2) 9 v3) 3 v3) 10 v3) 11 (r 0)) 12 v4) 13 v3) 2 v3) h4
def S71 (G : Hp) (K : Exit → Rg → Hp → Prop) (r : Rg) (h : Hp) : Prop :=
  opH Tryd.prog G (sv (Builtin.len_ #[22] 3 #[(r 0)])) h fun v0 h0 =>
  opH Tryd.prog G (xEq .eql 3 (.tmp 0) (.const .nilFunc) v0 (.int .i64 0)) h0 fun v1 h1 =>
  cond v1
  (K .ret (upd (upd (upd (upd (upd r 2 (.slice none 0 0)) 4 (r 0)) 5 v0) 6 v1) 2 (.slice none 0 0)) h1)
  (S71_k1 G K (upd (upd (upd (upd r 2 (.slice none 0 0)) 4 (r 0)) 5 v0) 6 v1) h1)
theorem S71_eq (G : Hp) (K : Exit → Rg → Hp → Prop) (r : Rg) (h : Hp) : wpC Tryd.prog G 14 md71 true (Tryd.f71.body.getD .skip) r h K = S71 G K r h := by kernel_rfl
theorem enter71 {G : Hp} {h : Hp} {args : Array Value} {R : Value → Hp → Prop} (hn : args.size ≤ 14) (H : S71 G (retK Tryd.prog G [.tmp 2] R) (regs args) h) : HCalls Tryd.prog G 71 args h R :=
  HCalls.enter (md := md71) mixed Tryd.func71 rfl hn (by rw [← S71_eq] at H; exact H)

def md20 : Nat → Hint
  | _ => ⟨false, [], [], [], [], false⟩
def S20_k1 (G : Hp) (K : Exit → Rg → Hp → Prop) (r : Rg) (h : Hp) : Prop :=
  K .ret (upd (upd r 14 (r 5)) 4 (r 5)) h
def S20 (G : Hp) (K : Exit → Rg → Hp → Prop) (r : Rg) (h : Hp) : Prop :=
  opH Tryd.prog G (sv (binOp .rem 3 (r 0) (r 1))) h fun v0 h0 =>
  opH Tryd.prog G (sv (binOp .lss 3 v0 (.int .i64 0))) h0 fun v1 h1 =>
  cond v1
  (opH Tryd.prog G (sv (binOp .add 3 v0 (r 1))) h1 fun v2 h2 =>
  S20_k1 G K (upd (upd (upd (upd (upd (upd (upd (upd (upd (upd (upd r 4 (.int .i64 0)) 6 (r 0)) 7 (r 1)) 8 v0) 5 v0) 9 v0) 10 v1) 11 v0) 12 (r 1)) 13 v2) 5 v2) h2)
  (S20_k1 G K (upd (upd (upd (upd (upd (upd (upd r 4 (.int .i64 0)) 6 (r 0)) 7 (r 1)) 8 v0) 5 v0) 9 v0) 10 v1) h1)
theorem S20_eq (G : Hp) (K : Exit → Rg → Hp → Prop) (r : Rg) (h : Hp) : wpC Tryd.prog G 15 md20 true (Tryd.f20.body.getD .skip) r h K = S20 G K r h := by kernel_rfl
theorem enter20 {G : Hp} {h : Hp} {args : Array Value} {R : Value → Hp → Prop} (hn : args.size ≤ 15) (H : S20 G (retK Tryd.prog G [.tmp 4] R) (regs args) h) : HCalls Tryd.prog G 20 args h R :=
  HCalls.enter (md := md20) mixed Tryd.func20 rfl hn (by rw [← S20_eq] at H; exact H)

def md25 : Nat → Hint
  | _ => ⟨false, [], [], [], [], false⟩
def S25 (G : Hp) (K : Exit → Rg → Hp → Prop) (r : Rg) (h : Hp) : Prop :=
  opH Tryd.prog G (sv (Instr.alloc 26 true (.tuple #[]))) h fun v0 h0 =>
  opH Tryd.prog G (sv (Instr.build 28 #[(0, (.int .i64 2))])) h0 fun v1 h1 =>
  opH Tryd.prog G (sv (Instr.buildSlice 22 1 #[(0, v1)])) h1 fun v2 h2 =>
  opH Tryd.prog G (sv (Instr.build 26 #[(0, (.int .i64 3)), (1, (.int .i64 2)), (2, (.int .i64 3)), (7, (.int .i64 1)), (8, (.int .i64 1)), (9, (.int .i64 1)), (10, (.int .i64 1)), (11, (.int .i64 1)), (12, (.int .i64 1)), (13, (.int .i64 1)), (14, (.int .i64 1)), (4, v2), (15, (.bool true))])) h2 fun v3 h3 =>
  opH Tryd.prog G (su (Instr.storeAt 26 v0 v3)) h3 fun v4 h4 =>
  K .ret (upd (upd (upd (upd r 0 v0) 1 v1) 2 v2) 3 v3) h4
theorem S25_eq (G : Hp) (K : Exit → Rg → Hp → Prop) (r : Rg) (h : Hp) : wpC Tryd.prog G 4 md25 true (Tryd.f25.body.getD .skip) r h K = S25 G K r h := by kernel_rfl
theorem enter25 {G : Hp} {h : Hp} {args : Array Value} {R : Value → Hp → Prop} (hn : args.size ≤ 4) (H : S25 G (retK Tryd.prog G [.cell 0 26] R) (regs args) h) : HCalls Tryd.prog G 25 args h R :=
  HCalls.enter (md := md25) mixed Tryd.func25 rfl hn (by rw [← S25_eq] at H; exact H)

end Go.Proofs.YtangejiigopdaaaDoor
end

section
/- The program's grid as it lies, and its answers on cells. -/
set_option linter.unusedSimpArgs false
set_option linter.unusedVariables false
set_option maxRecDepth 100000
namespace Go.Proofs.YtangejiigopdaaaDoor
open Go Go.HL

theorem un81 : Tryd.prog.underlying 108 = some (.array 4 28) := by kernel_rfl
theorem ix81 {G h : Hp} {a : Addr} {k : IntKind} {i : Int} {K : Value → Hp → Prop} (h1 : 0 ≤ i) (h2 : i < (4 : Nat)) : wpH Tryd.prog G (Instr.indexAt 108 (.pointer (some a)) (.int k i)) h K = K (.pointer (some (a.add (i.toNat * 2)))) h := index_arr un81 sz28 h1 h2
/-- The package's steps, by direction. -/
def stepL : List Value := [.int .i64 0, .int .i64 (-1), .int .i64 1, .int .i64 0, .int .i64 0, .int .i64 1, .int .i64 (-1), .int .i64 0]
def Steps (G : Hp) : Prop := ∃ e f, G 0 = some (.cells stepL.toArray e f)
theorem Steps.cell {G h : Hp} (s : Steps G) (d : Dis G h) (k : Nat) : cellIn G h ⟨0, k, none⟩ = stepL[k]? := by
  obtain ⟨e, f, s⟩ := s
  rw [cell_gnd d s rfl]
  simp [objCell]
theorem Steps.free {G h : Hp} (s : Steps G) (d : Dis G h) : h 0 = none := by
  obtain ⟨e, f, s⟩ := s
  cases q : h 0 with
  | none => rfl
  | some o => rw [d _ _ q] at s; cases s
theorem Steps.under {G h a : Hp} (s : Steps G) (d : Dis G h) (l : a.le h) : Steps (under G h a) := by
  have h0 := s.free d
  obtain ⟨e, f, s⟩ := s
  refine ⟨e, f, ?_⟩
  unfold HL.under HL.look
  rw [l.none h0, h0]
  simpa using s

/-- A hive of w by h, told by a function of its cells, row by row. -/
def gridL {α : Type} (w h : Nat) (f : Nat → Nat → α) : List α := (List.range (w * h)).map fun n => f (n % w) (n / w)
theorem gridL_length {α : Type} {w h : Nat} {f : Nat → Nat → α} : (gridL w h f).length = w * h := by simp [gridL]
theorem gridL_get {α : Type} {w h : Nat} {f : Nat → Nat → α} {x y : Nat} (hx : x < w) (hy : y < h) : (gridL w h f)[y * w + x]? = some (f x y) := by
  have hlt : y * w + x < w * h := by
    have : (y + 1) * w ≤ h * w := Nat.mul_le_mul_right _ hy
    rw [Nat.succ_mul] at this
    rw [Nat.mul_comm w h]; omega
  unfold gridL
  rw [List.getElem?_map, List.getElem?_range hlt, Option.map_some]
  rw [Nat.mul_comm y w, Nat.mul_add_mod, Nat.mod_eq_of_lt hx, Nat.mul_add_div (by omega), Nat.div_eq_of_lt hx, Nat.add_zero]
theorem gridL_at {α : Type} {w h : Nat} {f : Nat → Nat → α} {n : Nat} (hn : n < w * h) : (gridL w h f)[n]? = some (f (n % w) (n / w)) := by
  unfold gridL
  rw [List.getElem?_map, List.getElem?_range hn, Option.map_some]
theorem gridL_set {α : Type} {w h : Nat} {f : Nat → Nat → α} {x y : Nat} {v : α} (hx : x < w) : (gridL w h f).set (y * w + x) v = gridL w h (fun a b => if a = x ∧ b = y then v else f a b) := by
  apply List.ext_getElem?
  intro n
  rw [List.getElem?_set]
  by_cases hn : n < w * h
  · rw [gridL_at hn, gridL_at hn, gridL_length]
    have hw : 0 < w := by omega
    by_cases e : y * w + x = n
    · subst e
      rw [if_pos rfl, if_pos hn, Nat.mul_comm y w, Nat.mul_add_mod, Nat.mod_eq_of_lt hx, Nat.mul_add_div hw, Nat.div_eq_of_lt hx, Nat.add_zero]
      simp
    · rw [if_neg e, if_neg]
      rintro ⟨e1, e2⟩
      apply e
      rw [← e1, ← e2, Nat.mul_comm]
      exact Nat.div_add_mod n w
  · rw [List.getElem?_eq_none (by rw [gridL_length]; omega), List.getElem?_eq_none (by rw [gridL_length]; omega)]
    split
    · rw [if_neg (by rw [gridL_length]; omega)]
    · rfl

/-- The grid, seen. -/
structure GS (G h : Hp) (g : Value) (w k : Nat) (f : Nat → Nat → Int) : Prop where
  ex : ∃ gp kb, g = .pointer (some ⟨gp, 0, none⟩) ∧ (∀ j, j < 3 → cellIn G h ⟨gp, j, none⟩ = [Value.int .i64 w, .int .i64 k, .slice (some ⟨kb, 0, none⟩) (w * k) (w * k)][j]?) ∧ (∀ n x, (gridL w k f)[n]? = some x → cellIn G h ⟨kb, n, none⟩ = some (.int .i64 x))
  w1 : 1 ≤ w
  w2 : w ≤ 16
  k1 : 1 ≤ k
  k2 : k ≤ 16

theorem GS.up {G h h' : Hp} {g : Value} {w k : Nat} {f : Nat → Nat → Int} (s : GS G h g w k f) (l : h.le h') (d : Dis G h') : GS G h' g w k f := by
  obtain ⟨⟨gp, kb, e, h1, h2⟩, a, b, c, e2⟩ := s
  refine ⟨⟨gp, kb, e, fun j hj => ?_, fun n x hx => cell_up l d (h2 n x hx)⟩, a, b, c, e2⟩
  have := h1 j hj
  rw [List.getElem?_eq_getElem (by simpa using hj)] at this ⊢
  exact cell_up l d this
theorem GS.under {G h a : Hp} {g : Value} {w k : Nat} {f : Nat → Nat → Int} (s : GS G h g w k f) (l : a.le h) : GS (HL.under G h a) a g w k f := by
  obtain ⟨⟨gp, kb, e, h1, h2⟩, x1, x2, x3, x4⟩ := s
  exact ⟨⟨gp, kb, e, fun j hj => by rw [under_cell l]; exact h1 j hj, fun n x hx => by rw [under_cell l]; exact h2 n x hx⟩, x1, x2, x3, x4⟩

/-- In the hive of w by k? -/
def inW (w k : Nat) (c : Cell) : Bool := withinB c.1 0 (w - 1) && withinB c.2 0 (k - 1)
def numI (w k : Nat) (c : Cell) : Int := if inW w k c = true then c.2 * w + c.1 else -1
def fAt (f : Nat → Nat → Int) (c : Cell) : Int := f c.1.toNat c.2.toNat
def openW (w k : Nat) (f : Nat → Nat → Int) (c : Cell) : Bool := inW w k c && !(fAt f c == -1)

theorem inW_iff {w k : Nat} {c : Cell} : inW w k c = true ↔ 0 ≤ c.1 ∧ c.1 < w ∧ 0 ≤ c.2 ∧ c.2 < k := by
  unfold inW withinB
  simp only [Bool.and_eq_true, decide_eq_true_eq]
  omega

theorem within_spec {G h : Hp} {n a b : Int} : HCalls Tryd.prog G 56 #[.int .i64 n, .int .i64 a, .int .i64 b] h (fun u h' => u = .bool (withinB n a b) ∧ h' = h) := by
  refine quietly (enter56 (by simp) ?_)
  unfold S56
  simp -implicitDefEqProofs only [regs0, regs1, regs2, retK_ret, resL_tmp, upd_eq, resL_nil1, opH_sv, bin_geq]
  unfold withinB
  cases hc : decide (n ≥ a) with
  | false => simp -implicitDefEqProofs only [pick_f, gd_ft]; exact ⟨rfl, Hp.le.refl h⟩
  | true => simp -implicitDefEqProofs only [Bool.true_and, pick_t, gd_tt, opH_sv, bin_leq, true_and]; exact Hp.le.refl h

theorem num_spec {G h : Hp} {g : Value} {w k : Nat} {f : Nat → Nat → Int} {c : Cell} (s : GS G h g w k f) : HCalls Tryd.prog G 58 #[g, cellV c] h (fun u h' => u = .int .i64 (numI w k c) ∧ h' = h) := by
  have s0 := s
  obtain ⟨⟨gp, kb, rfl, g1, g2⟩, w1, w2, k1, k2⟩ := s
  refine HCalls.assume fun d => quietly (enter58 (by simp) ?_)
  unfold S58
  simp -implicitDefEqProofs only [regs1, regs0, retK_ret, resL_tmp, upd_eq, resL_nil1, eq58sp, pick_fp, gd_ff, pureW_sv, cf56, pureW_nil, fa93_0p, add_mk, Nat.add_zero, ld3p, opH_sv, box_new, cells_agg, fa28_0p, cell_set_self, List.getElem?_cons_zero, Option.some.injEq, exists_eq_left']
  intro x hx gx
  generalize e1 : Hp.set h x _ = h1
  obtain ⟨l1, d1, b1⟩ := boxed e1 hx d gx
  have cx : ∀ j, cellIn G h1 ⟨x, j, none⟩ = _ := fun j => cell_of (look_own b1)
  have y0 : cellIn G h1 ⟨gp, 0, none⟩ = some (.int .i64 w) := cell_up l1 d1 (g1 0 (by decide))
  have y1 : cellIn G h1 ⟨gp, 1, none⟩ = some (.int .i64 k) := cell_up l1 d1 (g1 1 (by decide))
  try simp -implicitDefEqProofs only [y0, Option.some.injEq, exists_eq_left', bin_subp, wrap_in]
  try rw [wrap_in (by omega) (by omega)]
  refine (within_spec (n := c.1) (a := 0) (b := (w : Int) - 1)).mono ?_
  rintro _ _ ⟨rfl, rfl⟩
  unfold numI inW
  cases h1 : withinB c.1 0 ((w : Int) - 1) with
  | false => try simp -implicitDefEqProofs only [un_notp, Bool.not_false, pick_tp, HL.cond_true, gd_tf]; exact ⟨by simp, l1⟩
  | true =>
  try simp -implicitDefEqProofs only [Bool.true_and, un_notp, Bool.not_true, pick_fp, gd_ff, pureW_sv, cf56, pureW_nil, fa93_1p, add_mk, Nat.zero_add, ld3p, y1, Option.some.injEq, exists_eq_left', bin_subp, wrap_in, fa28_1p, cx, List.getElem?_cons_succ, List.getElem?_cons_zero]
  try rw [wrap_in (by omega) (by omega)]
  refine (within_spec (n := c.2) (a := 0) (b := (k : Int) - 1)).mono ?_
  rintro _ _ ⟨rfl, rfl⟩
  cases h2 : withinB c.2 0 ((k : Int) - 1) with
  | false => try simp -implicitDefEqProofs only [un_notp, Bool.not_false, HL.cond_true]; exact ⟨by simp, l1⟩
  | true =>
  unfold withinB at h1 h2
  simp only [Bool.and_eq_true, decide_eq_true_eq] at h1 h2
  have hm : 0 ≤ c.2 * (w : Int) ∧ c.2 * (w : Int) ≤ 15 * 16 := ⟨Int.mul_nonneg (by omega) (by omega), Int.mul_le_mul (by omega) (by omega) (by omega) (by omega)⟩
  try simp -implicitDefEqProofs only [if_true, un_notp, Bool.not_true, HL.cond_false]
  unfold S58_k1
  try simp -implicitDefEqProofs (disch := first | with_reducible exact Nat.ne_of_beq_eq_false rfl | omega) only [upd_ne, upd_eq, regs0, retK_ret, resL_tmp, resL_nil1, pureW_sv, fa28_0p, add_mk, Nat.add_zero, ld3p, cx, List.getElem?_cons_zero, Option.some.injEq, exists_eq_left', pureW_nil, fa93_0p, y0, fa28_1p, Nat.zero_add, List.getElem?_cons_succ, bin_mulp, wrap_in, bin_addp, true_and]
  try rw [wrap_in (x := c.2 * (w : Int)) (by omega) (by omega)]
  try rw [wrap_in (by omega) (by omega)]
  first | exact l1 | exact ⟨by simp, l1⟩

/-- A cell's kind, read. -/
theorem GS.kind {G h : Hp} {g : Value} {w k : Nat} {f : Nat → Nat → Int} (s : GS G h g w k f) {c : Cell} (hc : inW w k c = true) :
    ∃ gp kb, g = .pointer (some ⟨gp, 0, none⟩) ∧ cellIn G h ⟨gp, 2, none⟩ = some (.slice (some ⟨kb, 0, none⟩) (w * k) (w * k)) ∧ cellIn G h ⟨kb, (numI w k c).toNat, none⟩ = some (.int .i64 (fAt f c)) ∧ 0 ≤ numI w k c ∧ numI w k c < ((w * k : Nat) : Int) := by
  obtain ⟨⟨gp, kb, rfl, g1, g2⟩, w1, w2, k1, k2⟩ := s
  obtain ⟨a1, a2, a3, a4⟩ := inW_iff.1 hc
  have hn : numI w k c = ((c.2.toNat * w + c.1.toNat : Nat) : Int) := by
    unfold numI
    rw [if_pos hc]
    rw [Int.natCast_add, Int.natCast_mul, Int.toNat_of_nonneg a1, Int.toNat_of_nonneg a3]
  refine ⟨gp, kb, rfl, g1 2 (by decide), ?_, by omega, ?_⟩
  · rw [hn, Int.toNat_natCast]
    exact g2 _ _ (gridL_get (by omega) (by omega))
  · rw [hn]
    have : (c.2.toNat + 1) * w ≤ k * w := Nat.mul_le_mul_right _ (by omega)
    rw [Nat.succ_mul] at this
    rw [Nat.mul_comm w k]
    omega

theorem numI_out {w k : Nat} {c : Cell} (h : inW w k c = false) : numI w k c = -1 := by unfold numI; rw [h]; rfl

theorem ix57k {G h : Hp} {kb n : Nat} {i : Int} {K : Value → Hp → Prop} (h1 : 0 ≤ i) (h2 : i < (n : Int)) : wpH Tryd.prog G (Instr.indexAt 42 (.slice (some ⟨kb, 0, none⟩) n n) (.int .i64 i)) h K = K (.pointer (some ⟨kb, i.toNat, none⟩)) h := by
  rw [ix42 h1 h2]; simp only [add_mk, Nat.zero_add, Nat.mul_one]

theorem open_spec {G h : Hp} {g : Value} {w k : Nat} {f : Nat → Nat → Int} {c : Cell} (s : GS G h g w k f) : HCalls Tryd.prog G 75 #[g, cellV c] h (fun u h' => u = .bool (openW w k f c) ∧ h' = h) := by
  refine HCalls.assume fun d => quietly (enter75 (by simp) ?_)
  unfold S75
  simp -implicitDefEqProofs only [regs1, regs0, retK_ret, resL_tmp, upd_eq, resL_nil1, opH_sv, cf58, box_new, cells_agg, ld28, add_mk, Nat.add_zero, cell_set_self, List.getElem?_cons_zero, Option.some.injEq, Nat.zero_add, List.getElem?_cons_succ, exists_eq_left']
  intro x hx gx
  generalize e1 : Hp.set h x _ = h1
  obtain ⟨l1, d1, b1⟩ := boxed e1 hx d gx
  have cx : ∀ j, cellIn G h1 ⟨x, j, none⟩ = _ := fun j => cell_of (look_own b1)
  try simp -implicitDefEqProofs only [opH_sv, opH_su, pureW_sv, opH_nil, pureW_nil, pick_t, pick_f, pick_tp, pick_fp, gd_tt, gd_ft, gd_tf, gd_ff, box_new, regs0, regs1, regs2, regs3, regs4, regs5, regs6, cells_agg, cells_int, cells_bool, cells_ptr, cells_slice, cells_string, cells_func, cells_nilFunc, cells_map, retK_ret, retK_normal, resL_tmp, resL_cell, resL_nil0, resL_nil1, resL_nil2, resL_nil3, resC_ptr, ex0, ex1, ex2, ex0p, ex1p, ex2p, HL.cond_true, HL.cond_false, thenK_normal, thenK_ret, thenK_exit, blockK_normal, blockK_ret, blockK_exit, scopeK_normal, scopeK_ret, scopeK_exit, wpH_pure, bin_add, bin_sub, bin_mul, bin_lss, bin_leq, bin_gtr, bin_geq, bin_quo, bin_rem, bin_quop, bin_remp, wrap_in, bin_addp, bin_subp, bin_mulp, bin_lssp, bin_leqp, bin_gtrp, bin_geqp, un_not, un_notp, un_neg, eq_int, ne_int, eq_intp, ne_intp, callV_fn, add_mk, upd_eq, upd_ne, cell_set_self, Nat.zero_add, Nat.add_zero, Option.some.injEq, exists_eq_left', List.getElem?_cons_succ, List.getElem?_cons_zero, true_and, and_true, bne_self_eq_false, beq_self_eq_true, Bool.not_true, Bool.not_false, Bool.and_true, Bool.and_self, Bool.and_false, Bool.true_and, List.length_cons, List.length_nil, ne_eq, not_false_eq_true, Nat.reduceAdd, Nat.reduceMul, if_true, if_false, oneCell_int, oneCell_bool, oneCell_ptr, oneCell_slice, oneCell_string, oneCell_func, oneCell_map, Int.toNat_natCast, List.set_cons_zero, List.set_cons_succ, Nat.lt_irrefl, Nat.zero_lt_succ, Nat.succ_lt_succ_iff, fa26_0, fa26_0p, fa26_1, fa26_1p, fa26_10, fa26_10p, fa26_11, fa26_11p, fa26_12, fa26_12p, fa26_13, fa26_13p, fa26_14, fa26_14p, fa26_15, fa26_15p, fa26_2, fa26_2p, fa26_3, fa26_3p, fa26_4, fa26_4p, fa26_5, fa26_5p, fa26_6, fa26_6p, fa26_7, fa26_7p, fa26_8, fa26_8p, fa26_9, fa26_9p, fa28_0, fa28_0p, fa28_1, fa28_1p, fa45_0, fa45_0p, fa45_1, fa45_1p, fa45_2, fa45_2p, fa45_3, fa45_3p, fa45_4, fa45_4p, fa45_5, fa45_5p, fa45_6, fa45_6p, fa49_0, fa49_0p, fa49_1, fa49_1p, fa74_0, fa74_0p, fa74_1, fa74_1p, fa74_2, fa74_2p, fa74_3, fa74_3p, fa85_0, fa85_0p, fa85_1, fa85_1p, fa93_0, fa93_0p, fa93_1, fa93_1p, fa93_2, fa93_2p, ld3, ld3p, ld4, ld4p, ld22, ld22p, ld23, ld23p, ld24, ld24p, ld26, ld26p, ld28, ld28p, ld42, ld42p, ld45, ld45p, ld49, ld49p, ld58, ld58p, ld69, ld69p, ld72, ld72p, ld85, ld85p, st3s, st4s, st22s, st23s, st24s, st26w, st28w, st42s, st45w, st49w, st85w, ix22, ix22p, ix23, ix23p, ix24, ix24p, ix31, ix31p, ix42, ix42p, ix104, ix104p, ln22, ln22p, ln23, ln23p, ln24, ln24p, ln31, ln31p, ln42, ln42p, al4, al22, al26, al28, al42, al49, al85, cf10, cf11, cf12, cf13, cf14, cf15, cf16, cf17, cf18, cf19, cf20, cf21, cf22, cf23, cf24, cf25, cf26, cf27, cf28, cf29, cf30, cf31, cf32, cf33, cf34, cf35, cf36, cf37, cf38, cf39, cf40, cf41, cf42, cf43, cf44, cf45, cf46, cf47, cf48, cf49, cf50, cf51, cf52, cf53, cf54, cf55, cf56, cf57, cf58, cf59, cf60, cf61, cf62, cf63, cf64, cf65, cf66, cf67, cf68, cf69, cf70, cf71, cf72, cf73, cf74, cf75, bd26_0_1_2_7_8_9_10_11_12_13_14_4_15, bd26_0_1_2_7_8_9_10_11_12_13_14_4_15p, bd28_, bd28_p, bd28_0, bd28_0p, bd28_0_1, bd28_0_1p, bd45_1_3_4_5_6, bd45_1_3_4_5_6p, bd49_0_1, bd49_0_1p, bd49_1, bd49_1p, bd74_0_1_2_3, bd74_0_1_2_3p, bd85_0, bd85_0p, bd85_0_1, bd85_0_1p, bd93_0_1_2, bd93_0_1_2p, bd94_0_1_2_3, bd94_0_1_2_3p, bs42_1_0, bs22_1_0, bs24_1_0, bs42_3_0_1_2, bs31_1_0, bs22_2_0_1, bs42_6_0_1_2_3_4_5, bs42_0_, eq4, eq4p, eq28, eq28p, eq42n, eq42np, eq42s, eq42sp, eq58n, eq58np, eq58s, eq58sp, eq63n, eq63np, eq63s, eq63sp, ne28, ne28p, ne45, ne45p, cx]
  refine (num_spec (c := c) (s.up l1 d1)).mono ?_
  rintro _ _ ⟨rfl, rfl⟩
  unfold openW
  cases hc : inW w k c with
  | false =>
    try simp -implicitDefEqProofs only [numI_out hc, bin_geq, show decide ((-1 : Int) ≥ 0) = false from rfl, pick_f, gd_ft]
    first | exact l1 | exact ⟨by simp, l1⟩
  | true =>
    obtain ⟨gp, kb, rfl, z2, zk, n0, n1⟩ := (s.up l1 d1).kind hc
    try simp -implicitDefEqProofs only [Bool.true_and, bin_geq, show decide (numI w k c ≥ 0) = true from decide_eq_true n0, pick_t, gd_tt, opH_sv, opH_nil, fa93_2, add_mk, Nat.zero_add, ld42, z2, Option.some.injEq, exists_eq_left', ix57k n0 n1, ld3, zk, ne_int]
    first | exact l1 | exact ⟨by simp [bne], l1⟩

theorem stacked_spec {G h : Hp} {g : Value} {w k : Nat} {f : Nat → Nat → Int} {c : Cell} (s : GS G h g w k f) : HCalls Tryd.prog G 74 #[g, cellV c] h (fun u h' => u = .bool (inW w k c && (fAt f c == 0)) ∧ h' = h) := by
  refine HCalls.assume fun d => quietly (enter74 (by simp) ?_)
  unfold S74
  simp -implicitDefEqProofs only [regs1, regs0, retK_ret, resL_tmp, upd_eq, resL_nil1, opH_sv, cf58, box_new, cells_agg, ld28, add_mk, Nat.add_zero, cell_set_self, List.getElem?_cons_zero, Option.some.injEq, Nat.zero_add, List.getElem?_cons_succ, exists_eq_left']
  intro x hx gx
  generalize e1 : Hp.set h x _ = h1
  obtain ⟨l1, d1, b1⟩ := boxed e1 hx d gx
  have cx : ∀ j, cellIn G h1 ⟨x, j, none⟩ = _ := fun j => cell_of (look_own b1)
  try simp -implicitDefEqProofs only [opH_sv, opH_su, pureW_sv, opH_nil, pureW_nil, pick_t, pick_f, pick_tp, pick_fp, gd_tt, gd_ft, gd_tf, gd_ff, box_new, regs0, regs1, regs2, regs3, regs4, regs5, regs6, cells_agg, cells_int, cells_bool, cells_ptr, cells_slice, cells_string, cells_func, cells_nilFunc, cells_map, retK_ret, retK_normal, resL_tmp, resL_cell, resL_nil0, resL_nil1, resL_nil2, resL_nil3, resC_ptr, ex0, ex1, ex2, ex0p, ex1p, ex2p, HL.cond_true, HL.cond_false, thenK_normal, thenK_ret, thenK_exit, blockK_normal, blockK_ret, blockK_exit, scopeK_normal, scopeK_ret, scopeK_exit, wpH_pure, bin_add, bin_sub, bin_mul, bin_lss, bin_leq, bin_gtr, bin_geq, bin_quo, bin_rem, bin_quop, bin_remp, wrap_in, bin_addp, bin_subp, bin_mulp, bin_lssp, bin_leqp, bin_gtrp, bin_geqp, un_not, un_notp, un_neg, eq_int, ne_int, eq_intp, ne_intp, callV_fn, add_mk, upd_eq, upd_ne, cell_set_self, Nat.zero_add, Nat.add_zero, Option.some.injEq, exists_eq_left', List.getElem?_cons_succ, List.getElem?_cons_zero, true_and, and_true, bne_self_eq_false, beq_self_eq_true, Bool.not_true, Bool.not_false, Bool.and_true, Bool.and_self, Bool.and_false, Bool.true_and, List.length_cons, List.length_nil, ne_eq, not_false_eq_true, Nat.reduceAdd, Nat.reduceMul, if_true, if_false, oneCell_int, oneCell_bool, oneCell_ptr, oneCell_slice, oneCell_string, oneCell_func, oneCell_map, Int.toNat_natCast, List.set_cons_zero, List.set_cons_succ, Nat.lt_irrefl, Nat.zero_lt_succ, Nat.succ_lt_succ_iff, fa26_0, fa26_0p, fa26_1, fa26_1p, fa26_10, fa26_10p, fa26_11, fa26_11p, fa26_12, fa26_12p, fa26_13, fa26_13p, fa26_14, fa26_14p, fa26_15, fa26_15p, fa26_2, fa26_2p, fa26_3, fa26_3p, fa26_4, fa26_4p, fa26_5, fa26_5p, fa26_6, fa26_6p, fa26_7, fa26_7p, fa26_8, fa26_8p, fa26_9, fa26_9p, fa28_0, fa28_0p, fa28_1, fa28_1p, fa45_0, fa45_0p, fa45_1, fa45_1p, fa45_2, fa45_2p, fa45_3, fa45_3p, fa45_4, fa45_4p, fa45_5, fa45_5p, fa45_6, fa45_6p, fa49_0, fa49_0p, fa49_1, fa49_1p, fa74_0, fa74_0p, fa74_1, fa74_1p, fa74_2, fa74_2p, fa74_3, fa74_3p, fa85_0, fa85_0p, fa85_1, fa85_1p, fa93_0, fa93_0p, fa93_1, fa93_1p, fa93_2, fa93_2p, ld3, ld3p, ld4, ld4p, ld22, ld22p, ld23, ld23p, ld24, ld24p, ld26, ld26p, ld28, ld28p, ld42, ld42p, ld45, ld45p, ld49, ld49p, ld58, ld58p, ld69, ld69p, ld72, ld72p, ld85, ld85p, st3s, st4s, st22s, st23s, st24s, st26w, st28w, st42s, st45w, st49w, st85w, ix22, ix22p, ix23, ix23p, ix24, ix24p, ix31, ix31p, ix42, ix42p, ix104, ix104p, ln22, ln22p, ln23, ln23p, ln24, ln24p, ln31, ln31p, ln42, ln42p, al4, al22, al26, al28, al42, al49, al85, cf10, cf11, cf12, cf13, cf14, cf15, cf16, cf17, cf18, cf19, cf20, cf21, cf22, cf23, cf24, cf25, cf26, cf27, cf28, cf29, cf30, cf31, cf32, cf33, cf34, cf35, cf36, cf37, cf38, cf39, cf40, cf41, cf42, cf43, cf44, cf45, cf46, cf47, cf48, cf49, cf50, cf51, cf52, cf53, cf54, cf55, cf56, cf57, cf58, cf59, cf60, cf61, cf62, cf63, cf64, cf65, cf66, cf67, cf68, cf69, cf70, cf71, cf72, cf73, cf74, cf75, bd26_0_1_2_7_8_9_10_11_12_13_14_4_15, bd26_0_1_2_7_8_9_10_11_12_13_14_4_15p, bd28_, bd28_p, bd28_0, bd28_0p, bd28_0_1, bd28_0_1p, bd45_1_3_4_5_6, bd45_1_3_4_5_6p, bd49_0_1, bd49_0_1p, bd49_1, bd49_1p, bd74_0_1_2_3, bd74_0_1_2_3p, bd85_0, bd85_0p, bd85_0_1, bd85_0_1p, bd93_0_1_2, bd93_0_1_2p, bd94_0_1_2_3, bd94_0_1_2_3p, bs42_1_0, bs22_1_0, bs24_1_0, bs42_3_0_1_2, bs31_1_0, bs22_2_0_1, bs42_6_0_1_2_3_4_5, bs42_0_, eq4, eq4p, eq28, eq28p, eq42n, eq42np, eq42s, eq42sp, eq58n, eq58np, eq58s, eq58sp, eq63n, eq63np, eq63s, eq63sp, ne28, ne28p, ne45, ne45p, cx]
  refine (num_spec (c := c) (s.up l1 d1)).mono ?_
  rintro _ _ ⟨rfl, rfl⟩
  cases hc : inW w k c with
  | false =>
    try simp -implicitDefEqProofs only [numI_out hc, bin_geq, show decide ((-1 : Int) ≥ 0) = false from rfl, pick_f, gd_ft]
    first | exact l1 | exact ⟨by simp, l1⟩
  | true =>
    obtain ⟨gp, kb, rfl, z2, zk, n0, n1⟩ := (s.up l1 d1).kind hc
    try simp -implicitDefEqProofs only [Bool.true_and, bin_geq, show decide (numI w k c ≥ 0) = true from decide_eq_true n0, pick_t, gd_tt, opH_sv, opH_nil, fa93_2, add_mk, Nat.zero_add, ld42, z2, Option.some.injEq, exists_eq_left', ix57k n0 n1, ld3, zk, eq_int, true_and]
    first | exact l1 | exact ⟨by simp, l1⟩

theorem port_spec {G h : Hp} {g : Value} {w k : Nat} {f : Nat → Nat → Int} {c : Cell} (s : GS G h g w k f) (hf : ∀ x y, -10 ≤ f x y ∧ f x y ≤ 1000) : HCalls Tryd.prog G 34 #[g, cellV c] h (fun u h' => u = .int .i64 (if inW w k c = true ∧ 1 ≤ fAt f c then fAt f c - 1 else -1) ∧ h' = h) := by
  refine HCalls.assume fun d => quietly (enter34 (by simp) ?_)
  unfold S34
  simp -implicitDefEqProofs only [regs1, regs0, retK_ret, resL_tmp, upd_eq, resL_nil1, opH_sv, cf58, box_new, cells_agg, ld28, add_mk, Nat.add_zero, cell_set_self, List.getElem?_cons_zero, Option.some.injEq, Nat.zero_add, List.getElem?_cons_succ, exists_eq_left']
  intro x hx gx
  generalize e1 : Hp.set h x _ = h1
  obtain ⟨l1, d1, b1⟩ := boxed e1 hx d gx
  have cx : ∀ j, cellIn G h1 ⟨x, j, none⟩ = _ := fun j => cell_of (look_own b1)
  try simp -implicitDefEqProofs only [opH_sv, opH_su, pureW_sv, opH_nil, pureW_nil, pick_t, pick_f, pick_tp, pick_fp, gd_tt, gd_ft, gd_tf, gd_ff, box_new, regs0, regs1, regs2, regs3, regs4, regs5, regs6, cells_agg, cells_int, cells_bool, cells_ptr, cells_slice, cells_string, cells_func, cells_nilFunc, cells_map, retK_ret, retK_normal, resL_tmp, resL_cell, resL_nil0, resL_nil1, resL_nil2, resL_nil3, resC_ptr, ex0, ex1, ex2, ex0p, ex1p, ex2p, HL.cond_true, HL.cond_false, thenK_normal, thenK_ret, thenK_exit, blockK_normal, blockK_ret, blockK_exit, scopeK_normal, scopeK_ret, scopeK_exit, wpH_pure, bin_add, bin_sub, bin_mul, bin_lss, bin_leq, bin_gtr, bin_geq, bin_quo, bin_rem, bin_quop, bin_remp, wrap_in, bin_addp, bin_subp, bin_mulp, bin_lssp, bin_leqp, bin_gtrp, bin_geqp, un_not, un_notp, un_neg, eq_int, ne_int, eq_intp, ne_intp, callV_fn, add_mk, upd_eq, upd_ne, cell_set_self, Nat.zero_add, Nat.add_zero, Option.some.injEq, exists_eq_left', List.getElem?_cons_succ, List.getElem?_cons_zero, true_and, and_true, bne_self_eq_false, beq_self_eq_true, Bool.not_true, Bool.not_false, Bool.and_true, Bool.and_self, Bool.and_false, Bool.true_and, List.length_cons, List.length_nil, ne_eq, not_false_eq_true, Nat.reduceAdd, Nat.reduceMul, if_true, if_false, oneCell_int, oneCell_bool, oneCell_ptr, oneCell_slice, oneCell_string, oneCell_func, oneCell_map, Int.toNat_natCast, List.set_cons_zero, List.set_cons_succ, Nat.lt_irrefl, Nat.zero_lt_succ, Nat.succ_lt_succ_iff, fa26_0, fa26_0p, fa26_1, fa26_1p, fa26_10, fa26_10p, fa26_11, fa26_11p, fa26_12, fa26_12p, fa26_13, fa26_13p, fa26_14, fa26_14p, fa26_15, fa26_15p, fa26_2, fa26_2p, fa26_3, fa26_3p, fa26_4, fa26_4p, fa26_5, fa26_5p, fa26_6, fa26_6p, fa26_7, fa26_7p, fa26_8, fa26_8p, fa26_9, fa26_9p, fa28_0, fa28_0p, fa28_1, fa28_1p, fa45_0, fa45_0p, fa45_1, fa45_1p, fa45_2, fa45_2p, fa45_3, fa45_3p, fa45_4, fa45_4p, fa45_5, fa45_5p, fa45_6, fa45_6p, fa49_0, fa49_0p, fa49_1, fa49_1p, fa74_0, fa74_0p, fa74_1, fa74_1p, fa74_2, fa74_2p, fa74_3, fa74_3p, fa85_0, fa85_0p, fa85_1, fa85_1p, fa93_0, fa93_0p, fa93_1, fa93_1p, fa93_2, fa93_2p, ld3, ld3p, ld4, ld4p, ld22, ld22p, ld23, ld23p, ld24, ld24p, ld26, ld26p, ld28, ld28p, ld42, ld42p, ld45, ld45p, ld49, ld49p, ld58, ld58p, ld69, ld69p, ld72, ld72p, ld85, ld85p, st3s, st4s, st22s, st23s, st24s, st26w, st28w, st42s, st45w, st49w, st85w, ix22, ix22p, ix23, ix23p, ix24, ix24p, ix31, ix31p, ix42, ix42p, ix104, ix104p, ln22, ln22p, ln23, ln23p, ln24, ln24p, ln31, ln31p, ln42, ln42p, al4, al22, al26, al28, al42, al49, al85, cf10, cf11, cf12, cf13, cf14, cf15, cf16, cf17, cf18, cf19, cf20, cf21, cf22, cf23, cf24, cf25, cf26, cf27, cf28, cf29, cf30, cf31, cf32, cf33, cf34, cf35, cf36, cf37, cf38, cf39, cf40, cf41, cf42, cf43, cf44, cf45, cf46, cf47, cf48, cf49, cf50, cf51, cf52, cf53, cf54, cf55, cf56, cf57, cf58, cf59, cf60, cf61, cf62, cf63, cf64, cf65, cf66, cf67, cf68, cf69, cf70, cf71, cf72, cf73, cf74, cf75, bd26_0_1_2_7_8_9_10_11_12_13_14_4_15, bd26_0_1_2_7_8_9_10_11_12_13_14_4_15p, bd28_, bd28_p, bd28_0, bd28_0p, bd28_0_1, bd28_0_1p, bd45_1_3_4_5_6, bd45_1_3_4_5_6p, bd49_0_1, bd49_0_1p, bd49_1, bd49_1p, bd74_0_1_2_3, bd74_0_1_2_3p, bd85_0, bd85_0p, bd85_0_1, bd85_0_1p, bd93_0_1_2, bd93_0_1_2p, bd94_0_1_2_3, bd94_0_1_2_3p, bs42_1_0, bs22_1_0, bs24_1_0, bs42_3_0_1_2, bs31_1_0, bs22_2_0_1, bs42_6_0_1_2_3_4_5, bs42_0_, eq4, eq4p, eq28, eq28p, eq42n, eq42np, eq42s, eq42sp, eq58n, eq58np, eq58s, eq58sp, eq63n, eq63np, eq63s, eq63sp, ne28, ne28p, ne45, ne45p, cx]
  refine (num_spec (c := c) (s.up l1 d1)).mono ?_
  rintro _ _ ⟨rfl, rfl⟩
  cases hc : inW w k c with
  | false =>
    try simp -implicitDefEqProofs only [numI_out hc, bin_lss, show decide ((-1 : Int) < 0) = true from rfl, pick_t, HL.cond_true, gd_tf]
    first | exact l1 | exact ⟨by simp, l1⟩
  | true =>
    obtain ⟨gp, kb, rfl, z2, zk, n0, n1⟩ := (s.up l1 d1).kind hc
    try simp -implicitDefEqProofs only [true_and, bin_lss, show decide (numI w k c < 0) = false from decide_eq_false (by omega), pick_f, gd_ff, opH_sv, opH_nil, fa93_2, add_mk, Nat.zero_add, ld42, z2, Option.some.injEq, exists_eq_left', ix57k n0 n1, ld3, zk]
    have hb : -10 ≤ fAt f c ∧ fAt f c ≤ 1000 := hf _ _
    by_cases h2 : fAt f c < 1
    · try simp -implicitDefEqProofs only [decide_eq_true h2, HL.cond_true]
      exact ⟨by rw [if_neg (by omega)], l1⟩
    · try simp -implicitDefEqProofs only [decide_eq_false h2, HL.cond_false]
      unfold S34_k1
      try simp -implicitDefEqProofs (disch := first | with_reducible exact Nat.ne_of_beq_eq_false rfl | omega) only [upd_ne, regs0, upd_eq, retK_ret, resL_tmp, resL_nil1, opH_sv, opH_nil, fa93_2, add_mk, Nat.zero_add, ld42, z2, Option.some.injEq, exists_eq_left', ix57k n0 n1, ld3, zk, bin_sub, wrap_in]
      exact ⟨by rw [if_pos (by omega)], l1⟩

def Bd (x : Int) : Prop := -9223372036854775808 ≤ x ∧ x ≤ 9223372036854775807
def PB (p : Pose) : Prop := Bd p.x ∧ Bd p.y

theorem cells_spec {G h : Hp} {g : Value} {p : Pose} (st : Steps G) (hp : PB p) : HCalls Tryd.prog G 73 #[g, poseV p] h (fun u h' => ∃ b, u = .slice (some ⟨b, 0, none⟩) 2 2 ∧ h b = none ∧ G b = none ∧ h' = h.set b (.cells #[.int .i64 p.x, .int .i64 p.y, .int .i64 (east p).1, .int .i64 (east p).2] 28 (0, 0))) := by
  obtain ⟨⟨p1, p2⟩, p3, p4⟩ := hp
  refine HCalls.assume fun d => HCalls.less (enter73 (by simp) (R := fun u h' => ∃ b, u = .slice (some ⟨b, 0, none⟩) 2 2 ∧ h b = none ∧ G b = none ∧ (h.set b (.cells #[.int .i64 p.x, .int .i64 p.y, .int .i64 (east p).1, .int .i64 (east p).2] 28 (0, 0))).le h') ?_) ?_
  rotate_left
  · rintro v h' ⟨b, e, h1, h2, h3⟩
    exact ⟨_, h3, b, e, h1, h2, rfl⟩
  unfold S73
  simp -implicitDefEqProofs only [regs1, opH_su, opH_sv, al28, box_new, cells_agg, fa85_1, add_mk, Nat.zero_add, ld4]
  intro x hx gx
  generalize e1 : Hp.set h x _ = h1
  obtain ⟨l1, d1, b1⟩ := boxed e1 hx d gx
  have c0 := fun j => st.cell d1 j
  try simp -implicitDefEqProofs only [ix81 (by decide : (0 : Int) ≤ 1) (by decide : (1 : Int) < (4 : Nat)), Int.toNat_one, Nat.one_mul, add_mk, Nat.zero_add, ld28, Nat.add_zero, c0, stepL, List.getElem?_cons_succ, List.getElem?_cons_zero, Option.some.injEq, Nat.reduceAdd, exists_eq_left', st28w]
  intro y hy gy
  generalize e2 : Hp.set h1 y _ = h2
  obtain ⟨l2, d2, b2⟩ := boxed e2 hy d1 gy
  have cx : ∀ j, cellIn G h2 ⟨x, j, none⟩ = _ := fun j => cell_of (look_own (l2 _ _ b1))
  have cy : ∀ j, cellIn G h2 ⟨y, j, none⟩ = _ := fun j => cell_of (look_own b2)
  have L := l1.trans l2
  try simp -implicitDefEqProofs only [cx, List.getElem?_cons_succ, List.getElem?_cons_zero, Option.some.injEq, exists_eq_left']
  unfold east wr
  cases hd : p.d with
  | false =>
    try simp -implicitDefEqProofs only [HL.cond_false]
    unfold S73_k1
    try simp -implicitDefEqProofs (disch := first | with_reducible exact Nat.ne_of_beq_eq_false rfl | omega) only [upd_ne, upd_eq, retK_ret, resL_tmp, resL_nil1, opH_sv, fa28_1, add_mk, Nat.zero_add, ld3, fa85_0, Nat.add_zero, fa28_0, ld28, cx, List.getElem?_cons_zero, Option.some.injEq, List.getElem?_cons_succ, cy, exists_eq_left', bin_add, wrap_in, bd28_0_1, bs22_2_0_1]
    rw [show (p.y + 0 : Int) = p.y by omega]
    intro b hb gb
    exact ⟨b, rfl, L.none hb, gb, L.both⟩
  | true =>
    have c2 := fun j => st.cell d2 j
    try simp -implicitDefEqProofs only [if_true, ix81 (by decide : (0 : Int) ≤ 2) (by decide : (2 : Int) < (4 : Nat)), show Int.toNat 2 = 2 from rfl, Nat.reduceMul, add_mk, Nat.zero_add, ld28, Nat.add_zero, c2, stepL, List.getElem?_cons_succ, List.getElem?_cons_zero, Option.some.injEq, Nat.reduceAdd, exists_eq_left', HL.cond_true]
    rw [store_eq sz28 b2 (by simp [cells_agg]) (by simp) (by simp [cells_agg, oneCell])]
    have nxy : x ≠ y := ne_of_new b1 hy
    generalize e3 : Hp.set h2 y _ = h3
    have cx3 : ∀ j, cellIn G h3 ⟨x, j, none⟩ = [Value.int .i64 p.x, .int .i64 p.y, .bool p.d][j]? := fun j => by rw [← e3, cell_set_other nxy]; exact cx j
    have cy3 : ∀ j, cellIn G h3 ⟨y, j, none⟩ = [Value.int .i64 0, .int .i64 1][j]? := fun j => by rw [← e3, cell_of (look_own set_self)]; first | rfl | simp [putL, cells_agg]
    have L3 : h.le h3 := by
      rw [← e3]
      exact L.set (l1.none hy)
    unfold S73_k1
    try simp -implicitDefEqProofs (disch := first | with_reducible exact Nat.ne_of_beq_eq_false rfl | omega) only [upd_ne, upd_eq, retK_ret, resL_tmp, resL_nil1, opH_sv, fa28_1, add_mk, Nat.zero_add, ld3, fa85_0, Nat.add_zero, fa28_0, ld28, cx3, List.getElem?_cons_zero, Option.some.injEq, List.getElem?_cons_succ, cy3, exists_eq_left', bin_add, wrap_in, bd28_0_1, bs22_2_0_1]
    rw [show (p.x + 0 : Int) = p.x by omega]
    intro b hb gb
    exact ⟨b, rfl, L3.none hb, gb, L3.both⟩

end Go.Proofs.YtangejiigopdaaaDoor
end

section
/- The program's grid is laid: blocked cells and ports. -/
set_option linter.unusedSimpArgs false
set_option linter.unusedVariables false
set_option maxRecDepth 100000
namespace Go.Proofs.YtangejiigopdaaaDoor
open Go Go.HL

def fitsW (w k : Nat) (f : Nat → Nat → Int) (p : Pose) : Bool := openW w k f (p.x, p.y) && openW w k f (east p)

theorem fits_spec {G h : Hp} {g : Value} {w k : Nat} {f : Nat → Nat → Int} {p : Pose} (s : GS G h g w k f) (st : Steps G) (hp : PB p) : HCalls Tryd.prog G 72 #[g, poseV p] h (fun u h' => u = .bool (fitsW w k f p) ∧ h' = h) := by
  refine HCalls.assume fun d => quietly (enter72 (by simp) ?_)
  unfold S72
  simp -implicitDefEqProofs only [regs1, regs0, retK_ret, resL_tmp, upd_eq, resL_nil1, cf75, opH_sv, cf73, box_new, cells_agg, ld85, add_mk, Nat.add_zero, cell_set_self, List.getElem?_cons_zero, Option.some.injEq, Nat.zero_add, List.getElem?_cons_succ, exists_eq_left']
  intro x hx gx
  generalize e1 : Hp.set h x _ = h1
  obtain ⟨l1, d1, b1⟩ := boxed e1 hx d gx
  have cx : ∀ j, cellIn G h1 ⟨x, j, none⟩ = _ := fun j => cell_of (look_own b1)
  try simp -implicitDefEqProofs only [opH_sv, opH_su, pureW_sv, opH_nil, pureW_nil, pick_t, pick_f, pick_tp, pick_fp, gd_tt, gd_ft, gd_tf, gd_ff, box_new, regs0, regs1, regs2, regs3, regs4, regs5, regs6, cells_agg, cells_int, cells_bool, cells_ptr, cells_slice, cells_string, cells_func, cells_nilFunc, cells_map, retK_ret, retK_normal, resL_tmp, resL_cell, resL_nil0, resL_nil1, resL_nil2, resL_nil3, resC_ptr, ex0, ex1, ex2, ex0p, ex1p, ex2p, HL.cond_true, HL.cond_false, thenK_normal, thenK_ret, thenK_exit, blockK_normal, blockK_ret, blockK_exit, scopeK_normal, scopeK_ret, scopeK_exit, wpH_pure, bin_add, bin_sub, bin_mul, bin_lss, bin_leq, bin_gtr, bin_geq, bin_quo, bin_rem, bin_quop, bin_remp, wrap_in, bin_addp, bin_subp, bin_mulp, bin_lssp, bin_leqp, bin_gtrp, bin_geqp, un_not, un_notp, un_neg, eq_int, ne_int, eq_intp, ne_intp, callV_fn, add_mk, upd_eq, upd_ne, cell_set_self, Nat.zero_add, Nat.add_zero, Option.some.injEq, exists_eq_left', List.getElem?_cons_succ, List.getElem?_cons_zero, true_and, and_true, bne_self_eq_false, beq_self_eq_true, Bool.not_true, Bool.not_false, Bool.and_true, Bool.and_self, Bool.and_false, Bool.true_and, List.length_cons, List.length_nil, ne_eq, not_false_eq_true, Nat.reduceAdd, Nat.reduceMul, if_true, if_false, oneCell_int, oneCell_bool, oneCell_ptr, oneCell_slice, oneCell_string, oneCell_func, oneCell_map, Int.toNat_natCast, List.set_cons_zero, List.set_cons_succ, Nat.lt_irrefl, Nat.zero_lt_succ, Nat.succ_lt_succ_iff, fa26_0, fa26_0p, fa26_1, fa26_1p, fa26_10, fa26_10p, fa26_11, fa26_11p, fa26_12, fa26_12p, fa26_13, fa26_13p, fa26_14, fa26_14p, fa26_15, fa26_15p, fa26_2, fa26_2p, fa26_3, fa26_3p, fa26_4, fa26_4p, fa26_5, fa26_5p, fa26_6, fa26_6p, fa26_7, fa26_7p, fa26_8, fa26_8p, fa26_9, fa26_9p, fa28_0, fa28_0p, fa28_1, fa28_1p, fa45_0, fa45_0p, fa45_1, fa45_1p, fa45_2, fa45_2p, fa45_3, fa45_3p, fa45_4, fa45_4p, fa45_5, fa45_5p, fa45_6, fa45_6p, fa49_0, fa49_0p, fa49_1, fa49_1p, fa74_0, fa74_0p, fa74_1, fa74_1p, fa74_2, fa74_2p, fa74_3, fa74_3p, fa85_0, fa85_0p, fa85_1, fa85_1p, fa93_0, fa93_0p, fa93_1, fa93_1p, fa93_2, fa93_2p, ld3, ld3p, ld4, ld4p, ld22, ld22p, ld23, ld23p, ld24, ld24p, ld26, ld26p, ld28, ld28p, ld42, ld42p, ld45, ld45p, ld49, ld49p, ld58, ld58p, ld69, ld69p, ld72, ld72p, ld85, ld85p, st3s, st4s, st22s, st23s, st24s, st26w, st28w, st42s, st45w, st49w, st85w, ix22, ix22p, ix23, ix23p, ix24, ix24p, ix31, ix31p, ix42, ix42p, ix104, ix104p, ln22, ln22p, ln23, ln23p, ln24, ln24p, ln31, ln31p, ln42, ln42p, al4, al22, al26, al28, al42, al49, al85, cf10, cf11, cf12, cf13, cf14, cf15, cf16, cf17, cf18, cf19, cf20, cf21, cf22, cf23, cf24, cf25, cf26, cf27, cf28, cf29, cf30, cf31, cf32, cf33, cf34, cf35, cf36, cf37, cf38, cf39, cf40, cf41, cf42, cf43, cf44, cf45, cf46, cf47, cf48, cf49, cf50, cf51, cf52, cf53, cf54, cf55, cf56, cf57, cf58, cf59, cf60, cf61, cf62, cf63, cf64, cf65, cf66, cf67, cf68, cf69, cf70, cf71, cf72, cf73, cf74, cf75, bd26_0_1_2_7_8_9_10_11_12_13_14_4_15, bd26_0_1_2_7_8_9_10_11_12_13_14_4_15p, bd28_, bd28_p, bd28_0, bd28_0p, bd28_0_1, bd28_0_1p, bd45_1_3_4_5_6, bd45_1_3_4_5_6p, bd49_0_1, bd49_0_1p, bd49_1, bd49_1p, bd74_0_1_2_3, bd74_0_1_2_3p, bd85_0, bd85_0p, bd85_0_1, bd85_0_1p, bd93_0_1_2, bd93_0_1_2p, bd94_0_1_2_3, bd94_0_1_2_3p, bs42_1_0, bs22_1_0, bs24_1_0, bs42_3_0_1_2, bs31_1_0, bs22_2_0_1, bs42_6_0_1_2_3_4_5, bs42_0_, eq4, eq4p, eq28, eq28p, eq42n, eq42np, eq42s, eq42sp, eq58n, eq58np, eq58s, eq58sp, eq63n, eq63np, eq63s, eq63sp, ne28, ne28p, ne45, ne45p, cx]
  refine (cells_spec (g := g) (p := p) st hp).mono ?_
  rintro _ _ ⟨b, rfl, hb, gb, rfl⟩
  generalize e3 : Hp.set h1 b _ = h3
  obtain ⟨l3, d3, b3⟩ := boxed e3 hb d1 gb
  have L := l1.trans l3
  have cb3 : ∀ k, cellIn G h3 ⟨b, k, none⟩ = _ := fun k => cell_of (look_own b3)
  try simp -implicitDefEqProofs only [ix22 (by decide : (0 : Int) ≤ 0) (by decide : (0 : Int) < (2 : Nat)), Int.toNat_zero, Nat.zero_mul, add_mk, Nat.add_zero, ld28, cb3, List.getElem?_cons_zero, Option.some.injEq, Nat.zero_add, List.getElem?_cons_succ, exists_eq_left']
  refine (open_spec (c := (p.x, p.y)) (s.up L d3)).mono ?_
  rintro _ _ ⟨rfl, rfl⟩
  unfold fitsW
  cases hc : openW w k f (p.x, p.y) with
  | false => simp -implicitDefEqProofs only [pick_f, gd_ft]; exact ⟨rfl, L⟩
  | true =>
  try simp -implicitDefEqProofs only [Bool.true_and, pick_t, gd_tt, cf75, opH_sv, ix22 (by decide : (0 : Int) ≤ 1) (by decide : (1 : Int) < (2 : Nat)), Int.toNat_one, Nat.one_mul, add_mk, Nat.zero_add, ld28, Nat.add_zero, Nat.reduceAdd, cb3, List.getElem?_cons_succ, List.getElem?_cons_zero, Option.some.injEq, exists_eq_left']
  refine (open_spec (c := east p) (s.up L d3)).mono ?_
  rintro _ _ ⟨rfl, rfl⟩
  try simp -implicitDefEqProofs only [true_and]
  first | exact L | exact ⟨by simp, L⟩

/-- A row with one element turned. -/
theorem rows_set {α : Type} (c : Cod α) (hn : c.n = 1) {L : List α} {i : Nat} {x : α} {v : Value} (hv : c.enc x = [v]) (hi : i < L.length) : (c.rows L).set i v = c.rows (L.set i x) := by
  have h := c.rows_put (t := []) (x := x) hi
  rw [List.append_nil, List.append_nil, hn, Nat.mul_one, hv] at h
  rw [← h, putL_eq _ _ _ (by rw [c.rows_length, hn]; simp; omega)]
  rw [List.set_eq_take_append_cons_drop, if_pos (by rw [c.rows_length, hn]; omega)]
  simp

theorem rows_one_get {α : Type} (c : Cod α) (hn : c.n = 1) {L : List α} {i : Nat} {x : α} {v : Value} (hv : c.enc x = [v]) (hx : L[i]? = some x) : (c.rows L)[i]? = some v := by
  have h := c.rows_get (t := []) (j := 0) hx (by omega)
  rw [List.append_nil, hn, Nat.mul_one, Nat.add_zero, hv] at h
  exact h

/-- The grid in a piece of one's own: its head at gp, its kinds at kb. -/
structure GO (a : Hp) (gp kb : Nat) (w k : Nat) (f : Nat → Nat → Int) : Prop where
  hd : a gp = some (.cells #[.int .i64 w, .int .i64 k, .slice (some ⟨kb, 0, none⟩) (w * k) (w * k)] 93 (0, 0))
  row : a kb = some (.cells (icC.rows (gridL w k f)).toArray 3 (0, 0))
  w1 : 1 ≤ w
  w2 : w ≤ 16
  k1 : 1 ≤ k
  k2 : k ≤ 16

theorem GO.ne {a : Hp} {gp kb w k : Nat} {f : Nat → Nat → Int} (g : GO a gp kb w k f) : gp ≠ kb := fun e => by
  have h1 := g.hd
  have h2 := g.row
  rw [e, h2] at h1
  simp at h1
theorem GO.le {a h : Hp} {gp kb w k : Nat} {f : Nat → Nat → Int} (g : GO a gp kb w k f) (l : a.le h) : GO h gp kb w k f := ⟨l _ _ g.hd, l _ _ g.row, g.w1, g.w2, g.k1, g.k2⟩
theorem GO.gs {G a : Hp} {gp kb w k : Nat} {f : Nat → Nat → Int} (g : GO a gp kb w k f) : GS G a (.pointer (some ⟨gp, 0, none⟩)) w k f :=
  ⟨⟨gp, kb, rfl, fun j hj => cell_of (look_own g.hd), fun n x hx => by rw [cell_of (look_own g.row)]; exact rows_one_get icC rfl rfl hx⟩, g.w1, g.w2, g.k1, g.k2⟩
/-- One cell's kind turned. -/
theorem GO.put {a : Hp} {gp kb w k : Nat} {f : Nat → Nat → Int} (g : GO a gp kb w k f) {x y : Nat} {v : Int} (hx : x < w) (hy : y < k) :
    GO (a.set kb (.cells ((icC.rows (gridL w k f)).set (y * w + x) (.int .i64 v)).toArray 3 (0, 0))) gp kb w k (fun p q => if p = x ∧ q = y then v else f p q) := by
  refine ⟨by rw [set_other g.ne]; exact g.hd, ?_, g.w1, g.w2, g.k1, g.k2⟩
  rw [set_self, rows_set icC rfl (x := v) rfl, gridL_set hx]
  rw [gridL_length]
  have : (y + 1) * w ≤ k * w := Nat.mul_le_mul_right _ hy
  rw [Nat.succ_mul] at this
  rw [Nat.mul_comm w k]; omega

/-- A row of marks. -/
def MK (a : Hp) (mb w k : Nat) (f : Nat → Nat → Bool) : Prop := a mb = some (.cells (bcC.rows (gridL w k f)).toArray 4 (0, 0))
theorem MK.put {a : Hp} {mb w k : Nat} {f : Nat → Nat → Bool} (g : MK a mb w k f) {x y : Nat} {v : Bool} (hx : x < w) (hy : y < k) :
    MK (a.set mb (.cells ((bcC.rows (gridL w k f)).set (y * w + x) (.bool v)).toArray 4 (0, 0))) mb w k (fun p q => if p = x ∧ q = y then v else f p q) := by
  unfold MK
  rw [set_self, rows_set bcC rfl (x := v) rfl, gridL_set hx]
  rw [gridL_length]
  have : (y + 1) * w ≤ k * w := Nat.mul_le_mul_right _ hy
  rw [Nat.succ_mul] at this
  rw [Nat.mul_comm w k]; omega

theorem numI_nat {w k : Nat} {c : Cell} (hc : inW w k c = true) : numI w k c = ((c.2.toNat * w + c.1.toNat : Nat) : Int) ∧ c.1.toNat < w ∧ c.2.toNat < k ∧ c.2.toNat * w + c.1.toNat < w * k := by
  obtain ⟨a1, a2, a3, a4⟩ := inW_iff.1 hc
  refine ⟨?_, by omega, by omega, ?_⟩
  · unfold numI
    rw [if_pos hc]
    rw [Int.natCast_add, Int.natCast_mul, Int.toNat_of_nonneg a1, Int.toNat_of_nonneg a3]
  · have : (c.2.toNat + 1) * w ≤ k * w := Nat.mul_le_mul_right _ (by omega)
    rw [Nat.succ_mul] at this
    rw [Nat.mul_comm w k]; omega

/-- What lies at a cell when those of T were put down, the first nb of them blocked. -/
def kd (T : List Cell) (nb : Nat) (x y : Nat) : Int := if ((x : Int), (y : Int)) ∈ T then (if T.idxOf ((x : Int), (y : Int)) < nb then -1 else (T.idxOf ((x : Int), (y : Int)) : Int) - nb + 1) else 0
def seenT (T : List Cell) (x y : Nat) : Bool := decide (((x : Int), (y : Int)) ∈ T)

theorem kd_snoc {T : List Cell} {nb : Nat} {c : Cell} (hc : c ∉ T) (h1 : 0 ≤ c.1) (h2 : 0 ≤ c.2) : kd (T ++ [c]) nb = fun p q => if p = c.1.toNat ∧ q = c.2.toNat then (if T.length < nb then -1 else (T.length : Int) - nb + 1) else kd T nb p q := by
  funext p q
  unfold kd
  by_cases hpq : p = c.1.toNat ∧ q = c.2.toNat
  · have e : ((p : Int), (q : Int)) = c := by rw [hpq.1, hpq.2, Int.toNat_of_nonneg h1, Int.toNat_of_nonneg h2]
    rw [if_pos hpq, e, if_pos (by simp), List.idxOf_append, if_neg hc, List.idxOf_cons_self, Nat.zero_add]
  · have e : ((p : Int), (q : Int)) ≠ c := fun e => hpq (by rw [← e]; simp)
    rw [if_neg hpq]
    by_cases hm : ((p : Int), (q : Int)) ∈ T
    · rw [if_pos (by simp [hm]), if_pos hm, List.idxOf_append, if_pos hm]
    · rw [if_neg (by simp [hm, e]), if_neg hm]
theorem seen_snoc {T : List Cell} {c : Cell} (h1 : 0 ≤ c.1) (h2 : 0 ≤ c.2) : seenT (T ++ [c]) = fun p q => if p = c.1.toNat ∧ q = c.2.toNat then true else seenT T p q := by
  funext p q
  unfold seenT
  by_cases hpq : p = c.1.toNat ∧ q = c.2.toNat
  · have e : ((p : Int), (q : Int)) = c := by rw [hpq.1, hpq.2, Int.toNat_of_nonneg h1, Int.toNat_of_nonneg h2]
    rw [if_pos hpq, e]; simp
  · have e : ((p : Int), (q : Int)) ≠ c := fun e => hpq (by rw [← e]; simp)
    rw [if_neg hpq]
    simp [e]

end Go.Proofs.YtangejiigopdaaaDoor
end
