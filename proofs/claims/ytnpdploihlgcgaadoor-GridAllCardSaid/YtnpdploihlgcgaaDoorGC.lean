/- The reference: the numbers, the stacks, what may be. -/
import Derived.Test.YtnpdploihlgcgaaDoorGB
import Derived.Test.YtnpdploihlgcgaaDoorH3
set_option linter.unusedSimpArgs false
set_option linter.unusedVariables false
set_option maxRecDepth 100000
namespace Go.Proofs.YtnpdploihlgcgaaDoor
open Go Go.HL

def numbersB (C : Conf) : Bool := withinB C.w 1 16 && (withinB C.h 1 16 && (withinB C.ht 1 8 && (withinB C.un 1 1000 && (withinB C.ac 1 1000 && (withinB C.sp 1 1000 && (withinB C.tu 1 1000 && (withinB C.ho 1 1000 && (withinB C.re 1 1000 && (withinB C.qu 1 16 && (withinB C.bu 1 1048576))))))))))

theorem numbers_spec {G h : Hp} {v : Value} {C : Conf} (hv : CV G h v C) : HCalls Tryd.prog G 51 #[v] h (fun u h' => u = .bool (numbersB C) ∧ h' = h) := by
  obtain ⟨ab, cb, ap, cp, ar, cr, az, cs, rfl, ca⟩ := hv
  refine HCalls.assume fun d => quietly (enter51 (by simp) ?_)
  unfold S51
  simp -implicitDefEqProofs (maxSteps := 2000000) (disch := first | with_reducible exact Nat.ne_of_beq_eq_false rfl | exact oneCell_int | exact oneCell_bool | omega | rfl | (simp; done) | fail) only [regs0, retK_ret, resL_tmp, upd_eq, resL_nil1, cf58, opH_sv, box_new, cells_agg, fa26_0, add_mk, Nat.add_zero, ld3, cell_set_self, List.getElem?_cons_zero, Option.some.injEq, exists_eq_left']
  intro x hx gx
  generalize e1 : Hp.set h x _ = h1
  obtain ⟨l1, d1, b1⟩ := boxed e1 hx d gx
  have cx : ∀ k, cellIn G h1 ⟨x, k, none⟩ = _ := fun k => cell_of (look_own b1)
  unfold numbersB
  try simp -implicitDefEqProofs (maxSteps := 2000000) (disch := first | with_reducible exact Nat.ne_of_beq_eq_false rfl | exact oneCell_int | exact oneCell_bool | omega | rfl | (simp; done) | fail) only [opH_sv, opH_su, pureW_sv, opH_nil, pureW_nil, pick_t, pick_f, pick_tp, pick_fp, gd_tt, gd_ft, gd_tf, gd_ff, box_new, regs0, regs1, regs2, regs3, regs4, regs5, regs6, cells_agg, cells_int, cells_bool, cells_ptr, cells_slice, cells_string, cells_func, cells_nilFunc, cells_map, retK_ret, retK_normal, resL_tmp, resL_cell, resL_nil0, resL_nil1, resL_nil2, resL_nil3, resC_ptr, ex0, ex1, ex2, ex0p, ex1p, ex2p, HL.cond_true, HL.cond_false, thenK_normal, thenK_ret, thenK_exit, blockK_normal, blockK_ret, blockK_exit, scopeK_normal, scopeK_ret, scopeK_exit, wpH_pure, bin_add, bin_sub, bin_mul, bin_lss, bin_leq, bin_gtr, bin_geq, bin_quo, bin_rem, bin_quop, bin_remp, wrap_in, bin_addp, bin_subp, bin_mulp, bin_lssp, bin_leqp, bin_gtrp, bin_geqp, un_not, un_notp, un_neg, eq_int, ne_int, eq_intp, ne_intp, callV_fn, add_mk, upd_eq, upd_ne, cell_set_self, Nat.zero_add, Nat.add_zero, Option.some.injEq, exists_eq_left', List.getElem?_cons_succ, List.getElem?_cons_zero, true_and, and_true, bne_self_eq_false, beq_self_eq_true, Bool.not_true, Bool.not_false, Bool.and_true, Bool.and_self, Bool.and_false, Bool.true_and, List.length_cons, List.length_nil, ne_eq, not_false_eq_true, Nat.reduceAdd, Nat.reduceMul, if_true, if_false, oneCell_int, oneCell_bool, oneCell_ptr, oneCell_slice, oneCell_string, oneCell_func, oneCell_map, Int.toNat_natCast, List.set_cons_zero, List.set_cons_succ, Nat.lt_irrefl, Nat.zero_lt_succ, Nat.succ_lt_succ_iff, fa26_0, fa26_0p, fa26_1, fa26_1p, fa26_10, fa26_10p, fa26_11, fa26_11p, fa26_12, fa26_12p, fa26_13, fa26_13p, fa26_14, fa26_14p, fa26_2, fa26_2p, fa26_3, fa26_3p, fa26_4, fa26_4p, fa26_5, fa26_5p, fa26_6, fa26_6p, fa26_7, fa26_7p, fa26_8, fa26_8p, fa26_9, fa26_9p, fa28_0, fa28_0p, fa28_1, fa28_1p, fa30_0, fa30_0p, fa30_1, fa30_1p, fa46_0, fa46_0p, fa46_1, fa46_1p, fa46_2, fa46_2p, fa46_3, fa46_3p, fa46_4, fa46_4p, fa46_5, fa46_5p, fa46_6, fa46_6p, fa86_0, fa86_0p, fa86_1, fa86_1p, fa86_2, fa86_2p, fa95_0, fa95_0p, fa95_1, fa95_1p, ld3, ld3p, ld4, ld4p, ld22, ld22p, ld23, ld23p, ld24, ld24p, ld26, ld26p, ld28, ld28p, ld30, ld30p, ld31, ld31p, ld46, ld46p, ld47, ld47p, ld52, ld52p, ld55, ld55p, ld57, ld57p, ld95, ld95p, st3s, st4s, st22s, st23s, st24s, st26w, st28w, st30w, st46w, st47s, st55s, st95w, ix22, ix22p, ix23, ix23p, ix24, ix24p, ix47, ix47p, ix56, ix56p, ix57, ix57p, ix101, ix101p, ln22, ln22p, ln23, ln23p, ln24, ln24p, ln47, ln47p, ln56, ln56p, ln57, ln57p, al22, al26, al28, al30, al46, al47, al95, cf14, cf15, cf16, cf17, cf18, cf19, cf20, cf21, cf22, cf23, cf24, cf25, cf26, cf27, cf28, cf29, cf30, cf31, cf32, cf33, cf34, cf35, cf36, cf37, cf38, cf39, cf40, cf41, cf42, cf43, cf44, cf45, cf46, cf47, cf48, cf49, cf50, cf51, cf52, cf53, cf54, cf55, cf56, cf57, cf58, cf59, cf60, cf61, cf62, cf63, cf64, cf65, cf66, cf67, cf68, cf69, cf70, cf71, cf72, cf73, cf74, cf75, cf76, cf77, cf78, cf79, cf80, bd26_0_1_2_7_8_9_10_11_12_13_14, bd26_0_1_2_7_8_9_10_11_12_13_14p, bd28_0, bd28_0p, bd28_0_1, bd28_0_1p, bd30_, bd30_p, bd30_0_1, bd30_0_1p, bd30_0, bd30_0p, bd46_0_1_2_3_4, bd46_0_1_2_3_4p, bd46_0_3_4, bd46_0_3_4p, bd86_0_1_2, bd86_0_1_2p, bd87_0_1_2_3, bd87_0_1_2_3p, bd95_0_1, bd95_0_1p, bs22_2_0_1, bs47_1_0, bs22_1_0, bs57_6_0_1_2_3_4_5, bs24_1_0, bs22_4_0_1_2_3, bs56_11_0_1_2_3_4_5_6_7_8_9_10, bs57_11_0_1_2_3_4_5_6_7_8_9_10, eq4, eq4p, eq28, eq28p, eq30, eq30p, eq31n, eq31np, eq31s, eq31sp, eq46, eq46p, eq50n, eq50np, eq50s, eq50sp, eq67n, eq67np, eq67s, eq67sp, ne4, ne4p, ne28, ne28p, ne30, ne30p, ne31n, ne31np, ne31s, ne31sp, ne46, ne46p, cx]
  refine (rwithin_spec (n := C.w) (a := 1) (b := 16)).mono ?_
  rintro _ _ ⟨rfl, rfl⟩
  cases hc0 : withinB C.w 1 16 with
  | false => try simp -implicitDefEqProofs (maxSteps := 2000000) (disch := first | with_reducible exact Nat.ne_of_beq_eq_false rfl | exact oneCell_int | exact oneCell_bool | omega | rfl | (simp; done) | fail) only [pick_f, gd_ft]; exact ⟨by simp, l1⟩
  | true =>
  try simp -implicitDefEqProofs (maxSteps := 2000000) (disch := first | with_reducible exact Nat.ne_of_beq_eq_false rfl | exact oneCell_int | exact oneCell_bool | omega | rfl | (simp; done) | fail) only [Bool.true_and, pick_t, gd_tt, cf58, opH_sv, fa26_1, add_mk, Nat.zero_add, ld3, cx, List.getElem?_cons_succ, List.getElem?_cons_zero, Option.some.injEq, exists_eq_left']
  refine (rwithin_spec (n := C.h) (a := 1) (b := 16)).mono ?_
  rintro _ _ ⟨rfl, rfl⟩
  cases hc1 : withinB C.h 1 16 with
  | false => try simp -implicitDefEqProofs (maxSteps := 2000000) (disch := first | with_reducible exact Nat.ne_of_beq_eq_false rfl | exact oneCell_int | exact oneCell_bool | omega | rfl | (simp; done) | fail) only [pick_f, gd_ft]; exact ⟨by simp, l1⟩
  | true =>
  try simp -implicitDefEqProofs (maxSteps := 2000000) (disch := first | with_reducible exact Nat.ne_of_beq_eq_false rfl | exact oneCell_int | exact oneCell_bool | omega | rfl | (simp; done) | fail) only [Bool.true_and, pick_t, gd_tt, cf58, opH_sv, fa26_2, add_mk, Nat.zero_add, ld3, cx, List.getElem?_cons_succ, List.getElem?_cons_zero, Option.some.injEq, exists_eq_left']
  refine (rwithin_spec (n := C.ht) (a := 1) (b := 8)).mono ?_
  rintro _ _ ⟨rfl, rfl⟩
  cases hc2 : withinB C.ht 1 8 with
  | false => try simp -implicitDefEqProofs (maxSteps := 2000000) (disch := first | with_reducible exact Nat.ne_of_beq_eq_false rfl | exact oneCell_int | exact oneCell_bool | omega | rfl | (simp; done) | fail) only [pick_f, gd_ft]; exact ⟨by simp, l1⟩
  | true =>
  try simp -implicitDefEqProofs (maxSteps := 2000000) (disch := first | with_reducible exact Nat.ne_of_beq_eq_false rfl | exact oneCell_int | exact oneCell_bool | omega | rfl | (simp; done) | fail) only [Bool.true_and, pick_t, gd_tt, cf58, opH_sv, fa26_7, add_mk, Nat.zero_add, ld3, cx, List.getElem?_cons_succ, List.getElem?_cons_zero, Option.some.injEq, exists_eq_left']
  refine (rwithin_spec (n := C.un) (a := 1) (b := 1000)).mono ?_
  rintro _ _ ⟨rfl, rfl⟩
  cases hc3 : withinB C.un 1 1000 with
  | false => try simp -implicitDefEqProofs (maxSteps := 2000000) (disch := first | with_reducible exact Nat.ne_of_beq_eq_false rfl | exact oneCell_int | exact oneCell_bool | omega | rfl | (simp; done) | fail) only [pick_f, gd_ft]; exact ⟨by simp, l1⟩
  | true =>
  try simp -implicitDefEqProofs (maxSteps := 2000000) (disch := first | with_reducible exact Nat.ne_of_beq_eq_false rfl | exact oneCell_int | exact oneCell_bool | omega | rfl | (simp; done) | fail) only [Bool.true_and, pick_t, gd_tt, cf58, opH_sv, fa26_8, add_mk, Nat.zero_add, ld3, cx, List.getElem?_cons_succ, List.getElem?_cons_zero, Option.some.injEq, exists_eq_left']
  refine (rwithin_spec (n := C.ac) (a := 1) (b := 1000)).mono ?_
  rintro _ _ ⟨rfl, rfl⟩
  cases hc4 : withinB C.ac 1 1000 with
  | false => try simp -implicitDefEqProofs (maxSteps := 2000000) (disch := first | with_reducible exact Nat.ne_of_beq_eq_false rfl | exact oneCell_int | exact oneCell_bool | omega | rfl | (simp; done) | fail) only [pick_f, gd_ft]; exact ⟨by simp, l1⟩
  | true =>
  try simp -implicitDefEqProofs (maxSteps := 2000000) (disch := first | with_reducible exact Nat.ne_of_beq_eq_false rfl | exact oneCell_int | exact oneCell_bool | omega | rfl | (simp; done) | fail) only [Bool.true_and, pick_t, gd_tt, cf58, opH_sv, fa26_9, add_mk, Nat.zero_add, ld3, cx, List.getElem?_cons_succ, List.getElem?_cons_zero, Option.some.injEq, exists_eq_left']
  refine (rwithin_spec (n := C.sp) (a := 1) (b := 1000)).mono ?_
  rintro _ _ ⟨rfl, rfl⟩
  cases hc5 : withinB C.sp 1 1000 with
  | false => try simp -implicitDefEqProofs (maxSteps := 2000000) (disch := first | with_reducible exact Nat.ne_of_beq_eq_false rfl | exact oneCell_int | exact oneCell_bool | omega | rfl | (simp; done) | fail) only [pick_f, gd_ft]; exact ⟨by simp, l1⟩
  | true =>
  try simp -implicitDefEqProofs (maxSteps := 2000000) (disch := first | with_reducible exact Nat.ne_of_beq_eq_false rfl | exact oneCell_int | exact oneCell_bool | omega | rfl | (simp; done) | fail) only [Bool.true_and, pick_t, gd_tt, cf58, opH_sv, fa26_10, add_mk, Nat.zero_add, ld3, cx, List.getElem?_cons_succ, List.getElem?_cons_zero, Option.some.injEq, exists_eq_left']
  refine (rwithin_spec (n := C.tu) (a := 1) (b := 1000)).mono ?_
  rintro _ _ ⟨rfl, rfl⟩
  cases hc6 : withinB C.tu 1 1000 with
  | false => try simp -implicitDefEqProofs (maxSteps := 2000000) (disch := first | with_reducible exact Nat.ne_of_beq_eq_false rfl | exact oneCell_int | exact oneCell_bool | omega | rfl | (simp; done) | fail) only [pick_f, gd_ft]; exact ⟨by simp, l1⟩
  | true =>
  try simp -implicitDefEqProofs (maxSteps := 2000000) (disch := first | with_reducible exact Nat.ne_of_beq_eq_false rfl | exact oneCell_int | exact oneCell_bool | omega | rfl | (simp; done) | fail) only [Bool.true_and, pick_t, gd_tt, cf58, opH_sv, fa26_11, add_mk, Nat.zero_add, ld3, cx, List.getElem?_cons_succ, List.getElem?_cons_zero, Option.some.injEq, exists_eq_left']
  refine (rwithin_spec (n := C.ho) (a := 1) (b := 1000)).mono ?_
  rintro _ _ ⟨rfl, rfl⟩
  cases hc7 : withinB C.ho 1 1000 with
  | false => try simp -implicitDefEqProofs (maxSteps := 2000000) (disch := first | with_reducible exact Nat.ne_of_beq_eq_false rfl | exact oneCell_int | exact oneCell_bool | omega | rfl | (simp; done) | fail) only [pick_f, gd_ft]; exact ⟨by simp, l1⟩
  | true =>
  try simp -implicitDefEqProofs (maxSteps := 2000000) (disch := first | with_reducible exact Nat.ne_of_beq_eq_false rfl | exact oneCell_int | exact oneCell_bool | omega | rfl | (simp; done) | fail) only [Bool.true_and, pick_t, gd_tt, cf58, opH_sv, fa26_13, add_mk, Nat.zero_add, ld3, cx, List.getElem?_cons_succ, List.getElem?_cons_zero, Option.some.injEq, exists_eq_left']
  refine (rwithin_spec (n := C.re) (a := 1) (b := 1000)).mono ?_
  rintro _ _ ⟨rfl, rfl⟩
  cases hc8 : withinB C.re 1 1000 with
  | false => try simp -implicitDefEqProofs (maxSteps := 2000000) (disch := first | with_reducible exact Nat.ne_of_beq_eq_false rfl | exact oneCell_int | exact oneCell_bool | omega | rfl | (simp; done) | fail) only [pick_f, gd_ft]; exact ⟨by simp, l1⟩
  | true =>
  try simp -implicitDefEqProofs (maxSteps := 2000000) (disch := first | with_reducible exact Nat.ne_of_beq_eq_false rfl | exact oneCell_int | exact oneCell_bool | omega | rfl | (simp; done) | fail) only [Bool.true_and, pick_t, gd_tt, cf58, opH_sv, fa26_12, add_mk, Nat.zero_add, ld3, cx, List.getElem?_cons_succ, List.getElem?_cons_zero, Option.some.injEq, exists_eq_left']
  refine (rwithin_spec (n := C.qu) (a := 1) (b := 16)).mono ?_
  rintro _ _ ⟨rfl, rfl⟩
  cases hc9 : withinB C.qu 1 16 with
  | false => try simp -implicitDefEqProofs (maxSteps := 2000000) (disch := first | with_reducible exact Nat.ne_of_beq_eq_false rfl | exact oneCell_int | exact oneCell_bool | omega | rfl | (simp; done) | fail) only [pick_f, gd_ft]; exact ⟨by simp, l1⟩
  | true =>
  try simp -implicitDefEqProofs (maxSteps := 2000000) (disch := first | with_reducible exact Nat.ne_of_beq_eq_false rfl | exact oneCell_int | exact oneCell_bool | omega | rfl | (simp; done) | fail) only [Bool.true_and, pick_t, gd_tt, cf58, opH_sv, fa26_14, add_mk, Nat.zero_add, ld3, cx, List.getElem?_cons_succ, List.getElem?_cons_zero, Option.some.injEq, exists_eq_left']
  refine (rwithin_spec (n := C.bu) (a := 1) (b := 1048576)).mono ?_
  rintro _ _ ⟨rfl, rfl⟩
  try simp -implicitDefEqProofs (maxSteps := 2000000) (disch := first | with_reducible exact Nat.ne_of_beq_eq_false rfl | exact oneCell_int | exact oneCell_bool | omega | rfl | (simp; done) | fail) only [true_and]
  first | exact l1 | exact ⟨by simp, l1⟩

theorem icget {G h : Hp} {b o i : Nat} {x : Int} (e : ∀ j, j < icC.n → cellIn G h ⟨b, o + i * icC.n + j, none⟩ = (icC.enc x)[j]?) : cellIn G h ⟨b, o + i * 1, none⟩ = some (.int .i64 x) := e 0 (by decide)
theorem Sees.int {G h : Hp} {sa : Option Addr} {n cap : Nat} {L : List Int} (s : Sees icC G h (.slice sa n cap) L) {i : Nat} {x : Int} (hx : L[i]? = some x) :
    ∃ b o, sa = some ⟨b, o, none⟩ ∧ cellIn G h ⟨b, o + i, none⟩ = some (.int .i64 x) := by
  obtain ⟨b, o, c, e1, e2⟩ := s.get hx
  simp only [Value.slice.injEq] at e1
  have := icget e2
  rw [Nat.mul_one] at this
  exact ⟨b, o, e1.1, this⟩

theorem CA.stk {G h : Hp} {C : Conf} {ab : Option Addr} {cb : Nat} {ap : Option Addr} {cp : Nat} {ar : Option Addr} {cr : Nat} {az : Option Addr} {cs : Nat} (ca : CA G h C ab cb ap cp ar cr az cs) {i : Nat} {s : Cell × List Int} (hs : C.st[i]? = some s) :
    ∃ b o a c, az = some ⟨b, o, none⟩ ∧ cellIn G h ⟨b, o + i * 3, none⟩ = some (.int .i64 s.1.1) ∧ cellIn G h ⟨b, o + i * 3 + 1, none⟩ = some (.int .i64 s.1.2) ∧ cellIn G h ⟨b, o + i * 3 + 2, none⟩ = some (.slice a s.2.length c) ∧ Sees icC G h (.slice a s.2.length c) s.2 := by
  obtain ⟨raw, h1, h2⟩ := ca.st
  obtain ⟨sa, cp2, e⟩ := h1.len
  have hl : C.st.length = raw.length := by simp only [Value.slice.injEq] at e; exact e.2.1
  have hi : i < raw.length := by rw [← hl]; exact (List.getElem?_eq_some_iff.1 hs).1
  have hr : raw[i]? = some raw[i] := List.getElem?_eq_getElem hi
  obtain ⟨k1, k2, k3⟩ := h2 i _ s hr hs
  obtain ⟨b, o, c, e1, e2⟩ := h1.get hr
  simp only [Value.slice.injEq] at e1
  have z0 := e2 0 (by decide)
  have z1 := e2 1 (by decide)
  have z2 := e2 2 (by decide)
  simp only [rawC, Nat.add_zero, List.getElem?_cons_zero, List.getElem?_cons_succ] at z0 z1 z2
  refine ⟨b, o, _, _, e1.1, ?_, ?_, ?_, k3⟩
  · rw [z0, ← k1]
  · rw [z1, ← k1]
  · rw [z2, k2]

/-- What the stacks must be. -/
structure BinsOk (C : Conf) : Prop where
  few : C.st.length ≤ 257
  each : ∀ s ∈ C.st, stackedB C s.1 = true ∧ (s.2.length : Int) ≤ C.ht
  apart : (C.st.map Prod.fst).Nodup
  most : (C.st.flatMap Prod.snd).length ≤ 512
  nums : ∀ b ∈ C.st.flatMap Prod.snd, withinB b 1 1000000000 = true
  once : (C.st.flatMap Prod.snd).Nodup

theorem bins_in1 {G h : Hp} {C : Conf} {ab : Option Addr} {cb : Nat} {ap : Option Addr} {cp : Nat} {ar : Option Addr} {cr : Nat} {az : Option Addr} {cs : Nat} (ca : CA G h C ab cb ap cp ar cr az cs) {x : Nat}
    (cx : ∀ k, cellIn G h ⟨x, k, none⟩ = [Value.int .i64 C.w, .int .i64 C.h, .int .i64 C.ht, .slice ab C.bl.length cb, .slice ap C.po.length cp, .slice ar C.ro.length cr, .slice az C.st.length cs, .int .i64 C.un, .int .i64 C.ac, .int .i64 C.sp, .int .i64 C.tu, .int .i64 C.ho, .int .i64 C.qu, .int .i64 C.re, .int .i64 C.bu, .bool C.back][k]?)
    {i : Nat} {s : Cell × List Int} (hs : C.st[i]? = some s) (hi : i < 1000) {KK : Exit → Rg → Hp → Prop} (r : Rg) (g1 : r 1 = .pointer (some ⟨x, 0, none⟩)) (g4 : r 4 = .int .i64 i) (g5 : r 5 = .int .i64 0)
    (H1 : s.1 ∉ (C.st.take i).map Prod.fst → ∀ r' : Rg, r' 1 = r 1 → r' 3 = r 3 → r' 4 = r 4 → KK (.exit 2) r' h)
    (H2 : s.1 ∈ (C.st.take i).map Prod.fst → ∀ r' : Rg, r' 2 = .bool false → KK .ret r' h) : loopP (S56_l11_l16 G) r h KK := by
  have hil : i < C.st.length := (List.getElem?_eq_some_iff.1 hs).1
  obtain ⟨b, o, a, c, e1, z0, z1, z2, z3⟩ := ca.stk hs
  refine loop_I (fun m r2 h3 => ∃ k : Nat, m = i - k ∧ k ≤ i ∧ r2 1 = r 1 ∧ r2 3 = r 3 ∧ r2 4 = r 4 ∧ r2 5 = .int .i64 k ∧ h3 = h ∧ s.1 ∉ (C.st.take k).map Prod.fst) ?_
    (m := i) ⟨0, rfl, Nat.zero_le _, rfl, rfl, rfl, by rw [g5]; rfl, rfl, by simp⟩
  rintro m r2 h3 ⟨k, rfl, hk, k1, k3, k4, k5, rfl, hn⟩ X HX
  rw [g1] at k1
  rw [g4] at k4
  unfold S56_l11_l16
  simp -implicitDefEqProofs (maxSteps := 2000000) (disch := first | with_reducible exact Nat.ne_of_beq_eq_false rfl | exact oneCell_int | exact oneCell_bool | omega | rfl | (simp; done) | fail) only [k5, k4, thenK_exit, opH_sv, bin_lss]
  refine cond_dec (fun hlt => ?_) (fun hge => ?_)
  · have hlt' : k < i := by omega
    obtain ⟨t, ht⟩ : ∃ x, C.st[k]? = some x := ⟨_, List.getElem?_eq_getElem (by omega)⟩
    obtain ⟨b', o', a', c', e1', y0, y1, y2, y3⟩ := ca.stk ht
    subst e1
    cases e1'
    have htk : C.st.take (k + 1) = C.st.take k ++ [t] := by rw [List.take_add_one, ht]; rfl
    unfold S56_l11_l16_k17
    simp -implicitDefEqProofs (maxSteps := 2000000) (disch := first | with_reducible exact Nat.ne_of_beq_eq_false rfl | exact oneCell_int | exact oneCell_bool | omega | rfl | (simp; done) | fail) only [upd_ne, k1, k5, k4, thenK_ret, pureW_sv, fa26_6p, add_mk, Nat.zero_add, ld24p, cx, List.getElem?_cons_succ, List.getElem?_cons_zero, Option.some.injEq, exists_eq_left', ix24p (Int.natCast_nonneg i) (show (i : Int) < C.st.length by omega), Int.toNat_natCast, fa95_0p, Nat.add_zero, ld28p, z0, z1, ix24p (Int.natCast_nonneg k) (show (k : Int) < C.st.length by omega), y0, y1, eq28p, Bool.and_true, cell_beq]
    cases hb : (t.1 == s.1) with
    | true =>
      try simp -implicitDefEqProofs (maxSteps := 2000000) (disch := first | with_reducible exact Nat.ne_of_beq_eq_false rfl | exact oneCell_int | exact oneCell_bool | omega | rfl | (simp; done) | fail) only [HL.cond_true]
      refine H2 ?_ _ (by simp -implicitDefEqProofs (maxSteps := 2000000) (disch := first | with_reducible exact Nat.ne_of_beq_eq_false rfl | exact oneCell_int | exact oneCell_bool | omega | rfl | (simp; done) | fail) only [upd_eq])
      have : t.1 = s.1 := by simpa using hb
      rw [← this]
      exact List.mem_map_of_mem (f := Prod.fst) (List.mem_of_getElem? (i := k) (by rw [List.getElem?_take, if_pos hlt', ht]))
    | false =>
      try simp -implicitDefEqProofs (maxSteps := 2000000) (disch := first | with_reducible exact Nat.ne_of_beq_eq_false rfl | exact oneCell_int | exact oneCell_bool | omega | rfl | (simp; done) | fail) only [HL.cond_false]
      unfold S56_l11_l16_k18
      simp -implicitDefEqProofs (maxSteps := 2000000) (disch := first | with_reducible exact Nat.ne_of_beq_eq_false rfl | exact oneCell_int | exact oneCell_bool | omega | rfl | (simp; done) | fail) only [upd_ne, k5, thenK_normal, opH_sv, bin_add, wrap_in]
      refine HX (i - (k + 1)) _ _ (by omega) ⟨k + 1, rfl, hlt', by simp -implicitDefEqProofs (maxSteps := 2000000) (disch := first | with_reducible exact Nat.ne_of_beq_eq_false rfl | exact oneCell_int | exact oneCell_bool | omega | rfl | (simp; done) | fail) only [upd_ne, k1, g1], by simp -implicitDefEqProofs (maxSteps := 2000000) (disch := first | with_reducible exact Nat.ne_of_beq_eq_false rfl | exact oneCell_int | exact oneCell_bool | omega | rfl | (simp; done) | fail) only [upd_ne, k3], by simp -implicitDefEqProofs (maxSteps := 2000000) (disch := first | with_reducible exact Nat.ne_of_beq_eq_false rfl | exact oneCell_int | exact oneCell_bool | omega | rfl | (simp; done) | fail) only [upd_ne, k4, g4], by simp -implicitDefEqProofs (maxSteps := 2000000) (disch := first | with_reducible exact Nat.ne_of_beq_eq_false rfl | exact oneCell_int | exact oneCell_bool | omega | rfl | (simp; done) | fail) only [upd_eq] <;> rfl, rfl, ?_⟩
      rw [htk, List.map_append, List.mem_append]
      rintro (q | q)
      · exact hn q
      · simp at q
        rw [q] at hb
        simp at hb
  · obtain rfl : k = i := by omega
    exact H1 hn _ (by simp -implicitDefEqProofs (maxSteps := 2000000) (disch := first | with_reducible exact Nat.ne_of_beq_eq_false rfl | exact oneCell_int | exact oneCell_bool | omega | rfl | (simp; done) | fail) only [upd_ne, k1, g1]) (by simp -implicitDefEqProofs (maxSteps := 2000000) (disch := first | with_reducible exact Nat.ne_of_beq_eq_false rfl | exact oneCell_int | exact oneCell_bool | omega | rfl | (simp; done) | fail) only [upd_ne, k3]) (by simp -implicitDefEqProofs (maxSteps := 2000000) (disch := first | with_reducible exact Nat.ne_of_beq_eq_false rfl | exact oneCell_int | exact oneCell_bool | omega | rfl | (simp; done) | fail) only [upd_ne, k4, g4])

theorem eoint : ElemOk Tryd.prog 3 icC.n 8 := ⟨by kernel_rfl, by kernel_rfl, by kernel_rfl⟩

/-- Row by row: each number is told to be a bin's, none twice. -/
theorem bins_in2 {G h : Hp} {v : Value} {L : List Int} (sv : Sees icC G h v L) {i : Nat} {y : Int} (hy : L[i]? = some y) (hi : i < 100000) {KK : Exit → Rg → Hp → Prop} (r : Rg) (g3 : r 3 = v) (g6 : r 6 = .int .i64 i) (g7 : r 7 = .int .i64 0)
    (H1 : y ∉ L.take i → ∀ r' : Rg, r' 3 = r 3 → r' 6 = r 6 → KK (.exit 6) r' h)
    (H2 : y ∈ L.take i → ∀ r' : Rg, r' 2 = .bool false → KK .ret r' h) : loopP (S56_l4_l8 G) r h KK := by
  have hil : i < L.length := (List.getElem?_eq_some_iff.1 hy).1
  obtain ⟨sa, cap, rfl⟩ := sv.len
  obtain ⟨b, o, e1, z0⟩ := Sees.int sv hy
  refine loop_I (fun m r2 h3 => ∃ k : Nat, m = i - k ∧ k ≤ i ∧ r2 3 = r 3 ∧ r2 6 = r 6 ∧ r2 7 = .int .i64 k ∧ h3 = h ∧ y ∉ L.take k) ?_
    (m := i) ⟨0, rfl, Nat.zero_le _, rfl, rfl, by rw [g7]; rfl, rfl, by simp⟩
  rintro m r2 h3 ⟨k, rfl, hk, k3, k6, k7, rfl, hn⟩ X HX
  rw [g3] at k3
  rw [g6] at k6
  subst e1
  unfold S56_l4_l8
  simp -implicitDefEqProofs (maxSteps := 2000000) (disch := first | with_reducible exact Nat.ne_of_beq_eq_false rfl | exact oneCell_int | exact oneCell_bool | omega | rfl | (simp; done) | fail) only [k7, k6, thenK_exit, opH_sv, bin_lss]
  refine cond_dec (fun hlt => ?_) (fun hge => ?_)
  · have hlt' : k < i := by omega
    obtain ⟨t, ht⟩ : ∃ x, L[k]? = some x := ⟨_, List.getElem?_eq_getElem (by omega)⟩
    obtain ⟨b', o', e1', y0⟩ := Sees.int sv ht
    cases e1'
    have htk : L.take (k + 1) = L.take k ++ [t] := by rw [List.take_add_one, ht]; rfl
    unfold S56_l4_l8_k9
    simp -implicitDefEqProofs (maxSteps := 2000000) (disch := first | with_reducible exact Nat.ne_of_beq_eq_false rfl | exact oneCell_int | exact oneCell_bool | omega | rfl | (simp; done) | fail) only [upd_ne, k3, k7, k6, thenK_ret, pureW_sv, ix57p (Int.natCast_nonneg i) (show (i : Int) < L.length by omega), Int.toNat_natCast, Nat.mul_one, add_mk, ld3p, z0, Option.some.injEq, exists_eq_left', ix57p (Int.natCast_nonneg k) (show (k : Int) < L.length by omega), y0, eq_intp]
    cases hb : (t == y) with
    | true =>
      try simp -implicitDefEqProofs (maxSteps := 2000000) (disch := first | with_reducible exact Nat.ne_of_beq_eq_false rfl | exact oneCell_int | exact oneCell_bool | omega | rfl | (simp; done) | fail) only [HL.cond_true]
      refine H2 ?_ _ (by simp -implicitDefEqProofs (maxSteps := 2000000) (disch := first | with_reducible exact Nat.ne_of_beq_eq_false rfl | exact oneCell_int | exact oneCell_bool | omega | rfl | (simp; done) | fail) only [upd_eq])
      have : t = y := by simpa using hb
      rw [← this]
      exact List.mem_of_getElem? (i := k) (by rw [List.getElem?_take, if_pos hlt', ht])
    | false =>
      try simp -implicitDefEqProofs (maxSteps := 2000000) (disch := first | with_reducible exact Nat.ne_of_beq_eq_false rfl | exact oneCell_int | exact oneCell_bool | omega | rfl | (simp; done) | fail) only [HL.cond_false]
      unfold S56_l4_l8_k10
      simp -implicitDefEqProofs (maxSteps := 2000000) (disch := first | with_reducible exact Nat.ne_of_beq_eq_false rfl | exact oneCell_int | exact oneCell_bool | omega | rfl | (simp; done) | fail) only [upd_ne, k7, thenK_normal, opH_sv, bin_add, wrap_in]
      refine HX (i - (k + 1)) _ _ (by omega) ⟨k + 1, rfl, hlt', by simp -implicitDefEqProofs (maxSteps := 2000000) (disch := first | with_reducible exact Nat.ne_of_beq_eq_false rfl | exact oneCell_int | exact oneCell_bool | omega | rfl | (simp; done) | fail) only [upd_ne, k3, g3], by simp -implicitDefEqProofs (maxSteps := 2000000) (disch := first | with_reducible exact Nat.ne_of_beq_eq_false rfl | exact oneCell_int | exact oneCell_bool | omega | rfl | (simp; done) | fail) only [upd_ne, k6, g6], by simp -implicitDefEqProofs (maxSteps := 2000000) (disch := first | with_reducible exact Nat.ne_of_beq_eq_false rfl | exact oneCell_int | exact oneCell_bool | omega | rfl | (simp; done) | fail) only [upd_eq] <;> rfl, rfl, ?_⟩
      rw [htk, List.mem_append]
      rintro (q | q)
      · exact hn q
      · simp at q
        rw [q] at hb
        simp at hb
  · obtain rfl : k = i := by omega
    exact H1 hn _ (by simp -implicitDefEqProofs (maxSteps := 2000000) (disch := first | with_reducible exact Nat.ne_of_beq_eq_false rfl | exact oneCell_int | exact oneCell_bool | omega | rfl | (simp; done) | fail) only [upd_ne, k3, g3]) (by simp -implicitDefEqProofs (maxSteps := 2000000) (disch := first | with_reducible exact Nat.ne_of_beq_eq_false rfl | exact oneCell_int | exact oneCell_bool | omega | rfl | (simp; done) | fail) only [upd_ne, k6, g6])

theorem take_get {α : Type} {L : List α} {i : Nat} {x : α} (hx : L[i]? = some x) : L.take (i + 1) = L.take i ++ [x] := by rw [List.take_add_one, hx]; rfl
theorem nodup_take_succ {α : Type} {L : List α} {i : Nat} {x : α} (hx : L[i]? = some x) (h1 : (L.take i).Nodup) (h2 : x ∉ L.take i) : (L.take (i + 1)).Nodup := by
  rw [take_get hx]
  exact List.nodup_append.2 ⟨h1, by simp, fun a ha b hb => by simp at hb; subst hb; exact fun e => h2 (e ▸ ha)⟩
theorem not_nodup {α : Type} {L : List α} {i : Nat} {x : α} (hx : L[i]? = some x) (h2 : x ∈ L.take i) : ¬ L.Nodup := by
  intro h
  have : (L.take (i + 1)).Nodup := h.sublist (List.take_sublist _ _)
  rw [take_get hx] at this
  exact (List.nodup_append.1 this).2.2 x h2 x (by simp) rfl

/-- Behind the stacks: all their numbers. -/
theorem bins_out {G h : Hp} {v : Value} {L : List Int} (sv : Sees icC G h v L) (hL : L.length ≤ 10000) (R : Bool → Prop) {h0 : Hp} (h0l : h0.le h) (r : Rg) (g3 : r 3 = v)
    (H1 : L.length ≤ 512 → (∀ b ∈ L, withinB b 1 1000000000 = true) → L.Nodup → R true) (H2 : L.length > 512 ∨ (∃ b ∈ L, withinB b 1 1000000000 = false) ∨ ¬ L.Nodup → R false) :
    S56_k1 G (retK Tryd.prog G [.tmp 2] fun u h' => (∃ b, u = .bool b ∧ R b) ∧ h0.le h') r h := by
  obtain ⟨sa, cap, hve⟩ := sv.len
  unfold S56_k1
  simp -implicitDefEqProofs (maxSteps := 2000000) (disch := first | with_reducible exact Nat.ne_of_beq_eq_false rfl | exact oneCell_int | exact oneCell_bool | omega | rfl | (simp; done) | fail) only [g3, hve, retK_ret, resL_tmp, upd_eq, resL_nil1, opH_sv, ln57, bin_gtr]
  by_cases hlen : L.length ≤ 512
  rotate_left
  · have e : decide ((L.length : Int) > 512) = true := by rw [decide_eq_true_iff]; omega
    simp -implicitDefEqProofs (maxSteps := 2000000) (disch := first | with_reducible exact Nat.ne_of_beq_eq_false rfl | exact oneCell_int | exact oneCell_bool | omega | rfl | (simp; done) | fail) only [e, HL.cond_true]
    exact ⟨⟨_, rfl, H2 (.inl (by omega))⟩, h0l⟩
  have e : decide ((L.length : Int) > 512) = false := by rw [decide_eq_false_iff_not]; omega
  simp -implicitDefEqProofs (maxSteps := 2000000) (disch := first | with_reducible exact Nat.ne_of_beq_eq_false rfl | exact oneCell_int | exact oneCell_bool | omega | rfl | (simp; done) | fail) only [e, HL.cond_false]
  unfold S56_k2
  refine loop_I (fun m r2 h3 => ∃ i : Nat, m = L.length - i ∧ i ≤ L.length ∧ r2 3 = v ∧ r2 6 = .int .i64 i ∧ h3 = h ∧ (∀ b ∈ L.take i, withinB b 1 1000000000 = true) ∧ (L.take i).Nodup) ?_
    (m := L.length) ⟨0, rfl, Nat.zero_le _, by simp -implicitDefEqProofs (maxSteps := 2000000) (disch := first | with_reducible exact Nat.ne_of_beq_eq_false rfl | exact oneCell_int | exact oneCell_bool | omega | rfl | (simp; done) | fail) only [upd_ne, g3, hve], by simp -implicitDefEqProofs (maxSteps := 2000000) (disch := first | with_reducible exact Nat.ne_of_beq_eq_false rfl | exact oneCell_int | exact oneCell_bool | omega | rfl | (simp; done) | fail) only [upd_eq] <;> rfl, rfl, by simp, by simp⟩
  rintro m r2 h3 ⟨i, rfl, hi, k3, k6, rfl, hw, hnd⟩ X HX
  unfold S56_l4
  simp -implicitDefEqProofs (maxSteps := 2000000) (disch := first | with_reducible exact Nat.ne_of_beq_eq_false rfl | exact oneCell_int | exact oneCell_bool | omega | rfl | (simp; done) | fail) only [k3, hve, k6, thenK_exit, blockK_exit, thenK_normal, if_true, opH_sv, ln57, bin_lss]
  refine cond_dec (fun hlt => ?_) (fun hge => ?_)
  rotate_left
  · obtain rfl : i = L.length := by omega
    rw [List.take_of_length_le (Nat.le_refl _)] at hw hnd
    try simp -implicitDefEqProofs (maxSteps := 2000000) (disch := first | with_reducible exact Nat.ne_of_beq_eq_false rfl | exact oneCell_int | exact oneCell_bool | omega | rfl | (simp; done) | fail) only [opH_sv, opH_su, pureW_sv, opH_nil, pureW_nil, pick_t, pick_f, pick_tp, pick_fp, gd_tt, gd_ft, gd_tf, gd_ff, box_new, regs0, regs1, regs2, regs3, regs4, regs5, regs6, cells_agg, cells_int, cells_bool, cells_ptr, cells_slice, cells_string, cells_func, cells_nilFunc, cells_map, retK_ret, retK_normal, resL_tmp, resL_cell, resL_nil0, resL_nil1, resL_nil2, resL_nil3, resC_ptr, ex0, ex1, ex2, ex0p, ex1p, ex2p, HL.cond_true, HL.cond_false, thenK_normal, thenK_ret, thenK_exit, blockK_normal, blockK_ret, blockK_exit, scopeK_normal, scopeK_ret, scopeK_exit, wpH_pure, bin_add, bin_sub, bin_mul, bin_lss, bin_leq, bin_gtr, bin_geq, bin_quo, bin_rem, bin_quop, bin_remp, wrap_in, bin_addp, bin_subp, bin_mulp, bin_lssp, bin_leqp, bin_gtrp, bin_geqp, un_not, un_notp, un_neg, eq_int, ne_int, eq_intp, ne_intp, callV_fn, add_mk, upd_eq, upd_ne, cell_set_self, Nat.zero_add, Nat.add_zero, Option.some.injEq, exists_eq_left', List.getElem?_cons_succ, List.getElem?_cons_zero, true_and, and_true, bne_self_eq_false, beq_self_eq_true, Bool.not_true, Bool.not_false, Bool.and_true, Bool.and_self, Bool.and_false, Bool.true_and, List.length_cons, List.length_nil, ne_eq, not_false_eq_true, Nat.reduceAdd, Nat.reduceMul, if_true, if_false, oneCell_int, oneCell_bool, oneCell_ptr, oneCell_slice, oneCell_string, oneCell_func, oneCell_map, Int.toNat_natCast, List.set_cons_zero, List.set_cons_succ, Nat.lt_irrefl, Nat.zero_lt_succ, Nat.succ_lt_succ_iff, fa26_0, fa26_0p, fa26_1, fa26_1p, fa26_10, fa26_10p, fa26_11, fa26_11p, fa26_12, fa26_12p, fa26_13, fa26_13p, fa26_14, fa26_14p, fa26_2, fa26_2p, fa26_3, fa26_3p, fa26_4, fa26_4p, fa26_5, fa26_5p, fa26_6, fa26_6p, fa26_7, fa26_7p, fa26_8, fa26_8p, fa26_9, fa26_9p, fa28_0, fa28_0p, fa28_1, fa28_1p, fa30_0, fa30_0p, fa30_1, fa30_1p, fa46_0, fa46_0p, fa46_1, fa46_1p, fa46_2, fa46_2p, fa46_3, fa46_3p, fa46_4, fa46_4p, fa46_5, fa46_5p, fa46_6, fa46_6p, fa86_0, fa86_0p, fa86_1, fa86_1p, fa86_2, fa86_2p, fa95_0, fa95_0p, fa95_1, fa95_1p, ld3, ld3p, ld4, ld4p, ld22, ld22p, ld23, ld23p, ld24, ld24p, ld26, ld26p, ld28, ld28p, ld30, ld30p, ld31, ld31p, ld46, ld46p, ld47, ld47p, ld52, ld52p, ld55, ld55p, ld57, ld57p, ld95, ld95p, st3s, st4s, st22s, st23s, st24s, st26w, st28w, st30w, st46w, st47s, st55s, st95w, ix22, ix22p, ix23, ix23p, ix24, ix24p, ix47, ix47p, ix56, ix56p, ix57, ix57p, ix101, ix101p, ln22, ln22p, ln23, ln23p, ln24, ln24p, ln47, ln47p, ln56, ln56p, ln57, ln57p, al22, al26, al28, al30, al46, al47, al95, cf14, cf15, cf16, cf17, cf18, cf19, cf20, cf21, cf22, cf23, cf24, cf25, cf26, cf27, cf28, cf29, cf30, cf31, cf32, cf33, cf34, cf35, cf36, cf37, cf38, cf39, cf40, cf41, cf42, cf43, cf44, cf45, cf46, cf47, cf48, cf49, cf50, cf51, cf52, cf53, cf54, cf55, cf56, cf57, cf58, cf59, cf60, cf61, cf62, cf63, cf64, cf65, cf66, cf67, cf68, cf69, cf70, cf71, cf72, cf73, cf74, cf75, cf76, cf77, cf78, cf79, cf80, bd26_0_1_2_7_8_9_10_11_12_13_14, bd26_0_1_2_7_8_9_10_11_12_13_14p, bd28_0, bd28_0p, bd28_0_1, bd28_0_1p, bd30_, bd30_p, bd30_0_1, bd30_0_1p, bd30_0, bd30_0p, bd46_0_1_2_3_4, bd46_0_1_2_3_4p, bd46_0_3_4, bd46_0_3_4p, bd86_0_1_2, bd86_0_1_2p, bd87_0_1_2_3, bd87_0_1_2_3p, bd95_0_1, bd95_0_1p, bs22_2_0_1, bs47_1_0, bs22_1_0, bs57_6_0_1_2_3_4_5, bs24_1_0, bs22_4_0_1_2_3, bs56_11_0_1_2_3_4_5_6_7_8_9_10, bs57_11_0_1_2_3_4_5_6_7_8_9_10, eq4, eq4p, eq28, eq28p, eq30, eq30p, eq31n, eq31np, eq31s, eq31sp, eq46, eq46p, eq50n, eq50np, eq50s, eq50sp, eq67n, eq67np, eq67s, eq67sp, ne4, ne4p, ne28, ne28p, ne30, ne30p, ne31n, ne31np, ne31s, ne31sp, ne46, ne46p]
    unfold S56_k3
    simp -implicitDefEqProofs (maxSteps := 2000000) (disch := first | with_reducible exact Nat.ne_of_beq_eq_false rfl | exact oneCell_int | exact oneCell_bool | omega | rfl | (simp; done) | fail) only [retK_ret, resL_tmp, upd_eq, resL_nil1]
    exact ⟨⟨_, rfl, H1 hlen hw hnd⟩, h0l⟩
  have hlt' : i < L.length := by omega
  obtain ⟨y, hy⟩ : ∃ x, L[i]? = some x := ⟨_, List.getElem?_eq_getElem hlt'⟩
  rw [hve] at sv
  obtain ⟨b, o, rfl, z0⟩ := Sees.int sv hy
  unfold S56_l4_k5
  simp -implicitDefEqProofs (maxSteps := 2000000) (disch := first | with_reducible exact Nat.ne_of_beq_eq_false rfl | exact oneCell_int | exact oneCell_bool | omega | rfl | (simp; done) | fail) only [upd_ne, k3, hve, k6, thenK_ret, blockK_ret, retK_ret, resL_tmp, upd_eq, resL_nil1, opH_sv, cf58, ix57 (Int.natCast_nonneg i) (show (i : Int) < L.length by omega), Int.toNat_natCast, Nat.mul_one, add_mk, ld3, z0, Option.some.injEq, exists_eq_left']
  refine (rwithin_spec (n := y) (a := 1) (b := 1000000000)).mono ?_
  rintro _ _ ⟨rfl, rfl⟩
  cases hb : withinB y 1 1000000000 with
  | false =>
    try simp -implicitDefEqProofs (maxSteps := 2000000) (disch := first | with_reducible exact Nat.ne_of_beq_eq_false rfl | exact oneCell_int | exact oneCell_bool | omega | rfl | (simp; done) | fail) only [un_not, Bool.not_false, HL.cond_true]
    exact ⟨⟨_, rfl, H2 (.inr (.inl ⟨y, List.mem_of_getElem? hy, hb⟩))⟩, h0l⟩
  | true =>
    try simp -implicitDefEqProofs (maxSteps := 2000000) (disch := first | with_reducible exact Nat.ne_of_beq_eq_false rfl | exact oneCell_int | exact oneCell_bool | omega | rfl | (simp; done) | fail) only [un_not, Bool.not_true, HL.cond_false]
    unfold S56_l4_k7
    refine bins_in2 sv hy (by omega) _ (by simp -implicitDefEqProofs (maxSteps := 2000000) (disch := first | with_reducible exact Nat.ne_of_beq_eq_false rfl | exact oneCell_int | exact oneCell_bool | omega | rfl | (simp; done) | fail) only [upd_ne, k3, hve]) (by simp -implicitDefEqProofs (maxSteps := 2000000) (disch := first | with_reducible exact Nat.ne_of_beq_eq_false rfl | exact oneCell_int | exact oneCell_bool | omega | rfl | (simp; done) | fail) only [upd_ne, k6]) (by simp -implicitDefEqProofs (maxSteps := 2000000) (disch := first | with_reducible exact Nat.ne_of_beq_eq_false rfl | exact oneCell_int | exact oneCell_bool | omega | rfl | (simp; done) | fail) only [upd_eq]) (fun hn r' j3 j6 => ?_) (fun hm r' j2 => ?_)
    · simp only [blockK_exit, if_true, blockK_normal, thenK_normal]
      unfold S56_l4_k6
      have j6' : r' 6 = .int .i64 i := j6.trans (by simp -implicitDefEqProofs (maxSteps := 2000000) (disch := first | with_reducible exact Nat.ne_of_beq_eq_false rfl | exact oneCell_int | exact oneCell_bool | omega | rfl | (simp; done) | fail) only [upd_ne, k6])
      simp -implicitDefEqProofs (maxSteps := 2000000) (disch := first | with_reducible exact Nat.ne_of_beq_eq_false rfl | exact oneCell_int | exact oneCell_bool | omega | rfl | (simp; done) | fail) only [j6', thenK_normal, opH_sv, bin_add, wrap_in]
      refine HX (L.length - (i + 1)) _ _ (by omega) ⟨i + 1, rfl, hlt', ?_, by simp -implicitDefEqProofs (maxSteps := 2000000) (disch := first | with_reducible exact Nat.ne_of_beq_eq_false rfl | exact oneCell_int | exact oneCell_bool | omega | rfl | (simp; done) | fail) only [upd_eq] <;> rfl, rfl, ?_, nodup_take_succ hy hnd hn⟩
      · simp -implicitDefEqProofs (maxSteps := 2000000) (disch := first | with_reducible exact Nat.ne_of_beq_eq_false rfl | exact oneCell_int | exact oneCell_bool | omega | rfl | (simp; done) | fail) only [upd_ne, j3, k3]
      · rw [take_get hy]
        intro c hc
        rcases List.mem_append.1 hc with hc | hc
        · exact hw c hc
        · simp at hc; rw [hc]; exact hb
    · simp -implicitDefEqProofs (maxSteps := 2000000) (disch := first | with_reducible exact Nat.ne_of_beq_eq_false rfl | exact oneCell_int | exact oneCell_bool | omega | rfl | (simp; done) | fail) only [blockK_ret, thenK_ret, retK_ret, resL_tmp, j2, resL_nil1]
      exact ⟨⟨_, rfl, H2 (.inr (.inr (not_nodup hy hm)))⟩, h0l⟩

end Go.Proofs.YtnpdploihlgcgaaDoor
