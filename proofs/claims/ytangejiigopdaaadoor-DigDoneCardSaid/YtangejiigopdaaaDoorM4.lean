/- Texts of the proof, one behind the other. -/
import Derived.Test.YtangejiigopdaaaDoorM3
import Derived.Test.YtangejiigopdaaaDoorH3
import Derived.Test.YtangejiigopdaaaDoorH2
import Derived.Test.YtangejiigopdaaaDoorRows
import Derived.Test.YtangejiigopdaaaDoorTie
import Derived.JoinedOf
import Derived.Handed
import Derived.LaidMore
import Derived.LaidHandle
import Derived.LaidLaws
import Derived.MakeChecks
import Derived.Test.YtangejiigopdaaaDoorM1
import Derived.Test.YtangejiigopdaaaDoorH4
section
/- A config copied, in new memory. -/
set_option linter.unusedSimpArgs false
set_option linter.unusedVariables false
set_option maxRecDepth 100000
namespace Go.Proofs.YtangejiigopdaaaDoor
open Go Go.HL

theorem eoraw : ElemOk Tryd.prog 49 rawC.n 40 := ⟨by kernel_rfl, by kernel_rfl, by kernel_rfl⟩
theorem eopose : ElemOk Tryd.prog 85 poseC.n 24 := ⟨by kernel_rfl, by kernel_rfl, by kernel_rfl⟩

/-- So many elements of so many bytes find room. -/
def Room (n bytes : Nat) : Prop := (2 * n + 192) * bytes ≤ 281474976710656

theorem copyints_spec {G h : Hp} {v : Value} {L : List Int} (sv : Sees icC G h v L) (hl : Room L.length 8) : HCalls Tryd.prog G 32 #[v] h (fun u h' => ∃ ip, Slc icC 3 ip u L ∧ Sep [ip, h] h' ∧ Dis G h') := by
  refine HCalls.assume fun d => enter32 (by simp) ?_
  unfold S32
  simp -implicitDefEqProofs only [regs0, retK_ret, resL_tmp, upd_eq, resL_nil1, opH_sv]
  refine append_big icC (by decide) un42 eoint (by decide) (Sep.one (h := h)).none d Slc.nil sv (by simpa [Room] using hl) fun v' a' h' o' s' d' => ?_
  try simp -implicitDefEqProofs only [opH_sv, opH_su, pureW_sv, opH_nil, pureW_nil, pick_t, pick_f, pick_tp, pick_fp, gd_tt, gd_ft, gd_tf, gd_ff, box_new, regs0, regs1, regs2, regs3, regs4, regs5, regs6, cells_agg, cells_int, cells_bool, cells_ptr, cells_slice, cells_string, cells_func, cells_nilFunc, cells_map, retK_ret, retK_normal, resL_tmp, resL_cell, resL_nil0, resL_nil1, resL_nil2, resL_nil3, resC_ptr, ex0, ex1, ex2, ex0p, ex1p, ex2p, HL.cond_true, HL.cond_false, thenK_normal, thenK_ret, thenK_exit, blockK_normal, blockK_ret, blockK_exit, scopeK_normal, scopeK_ret, scopeK_exit, wpH_pure, bin_add, bin_sub, bin_mul, bin_lss, bin_leq, bin_gtr, bin_geq, bin_quo, bin_rem, bin_quop, bin_remp, wrap_in, bin_addp, bin_subp, bin_mulp, bin_lssp, bin_leqp, bin_gtrp, bin_geqp, un_not, un_notp, un_neg, eq_int, ne_int, eq_intp, ne_intp, callV_fn, add_mk, upd_eq, upd_ne, cell_set_self, Nat.zero_add, Nat.add_zero, Option.some.injEq, exists_eq_left', List.getElem?_cons_succ, List.getElem?_cons_zero, true_and, and_true, bne_self_eq_false, beq_self_eq_true, Bool.not_true, Bool.not_false, Bool.and_true, Bool.and_self, Bool.and_false, Bool.true_and, List.length_cons, List.length_nil, ne_eq, not_false_eq_true, Nat.reduceAdd, Nat.reduceMul, if_true, if_false, oneCell_int, oneCell_bool, oneCell_ptr, oneCell_slice, oneCell_string, oneCell_func, oneCell_map, Int.toNat_natCast, List.set_cons_zero, List.set_cons_succ, Nat.lt_irrefl, Nat.zero_lt_succ, Nat.succ_lt_succ_iff, fa26_0, fa26_0p, fa26_1, fa26_1p, fa26_10, fa26_10p, fa26_11, fa26_11p, fa26_12, fa26_12p, fa26_13, fa26_13p, fa26_14, fa26_14p, fa26_15, fa26_15p, fa26_2, fa26_2p, fa26_3, fa26_3p, fa26_4, fa26_4p, fa26_5, fa26_5p, fa26_6, fa26_6p, fa26_7, fa26_7p, fa26_8, fa26_8p, fa26_9, fa26_9p, fa28_0, fa28_0p, fa28_1, fa28_1p, fa45_0, fa45_0p, fa45_1, fa45_1p, fa45_2, fa45_2p, fa45_3, fa45_3p, fa45_4, fa45_4p, fa45_5, fa45_5p, fa45_6, fa45_6p, fa49_0, fa49_0p, fa49_1, fa49_1p, fa74_0, fa74_0p, fa74_1, fa74_1p, fa74_2, fa74_2p, fa74_3, fa74_3p, fa85_0, fa85_0p, fa85_1, fa85_1p, fa93_0, fa93_0p, fa93_1, fa93_1p, fa93_2, fa93_2p, ld3, ld3p, ld4, ld4p, ld22, ld22p, ld23, ld23p, ld24, ld24p, ld26, ld26p, ld28, ld28p, ld42, ld42p, ld45, ld45p, ld49, ld49p, ld58, ld58p, ld69, ld69p, ld72, ld72p, ld85, ld85p, st3s, st4s, st22s, st23s, st24s, st26w, st28w, st42s, st45w, st49w, st85w, ix22, ix22p, ix23, ix23p, ix24, ix24p, ix31, ix31p, ix42, ix42p, ix104, ix104p, ln22, ln22p, ln23, ln23p, ln24, ln24p, ln31, ln31p, ln42, ln42p, al4, al22, al26, al28, al42, al49, al85, cf10, cf11, cf12, cf13, cf14, cf15, cf16, cf17, cf18, cf19, cf20, cf21, cf22, cf23, cf24, cf25, cf26, cf27, cf28, cf29, cf30, cf31, cf32, cf33, cf34, cf35, cf36, cf37, cf38, cf39, cf40, cf41, cf42, cf43, cf44, cf45, cf46, cf47, cf48, cf49, cf50, cf51, cf52, cf53, cf54, cf55, cf56, cf57, cf58, cf59, cf60, cf61, cf62, cf63, cf64, cf65, cf66, cf67, cf68, cf69, cf70, cf71, cf72, cf73, cf74, cf75, bd26_0_1_2_7_8_9_10_11_12_13_14_4_15, bd26_0_1_2_7_8_9_10_11_12_13_14_4_15p, bd28_, bd28_p, bd28_0, bd28_0p, bd28_0_1, bd28_0_1p, bd45_1_3_4_5_6, bd45_1_3_4_5_6p, bd49_0_1, bd49_0_1p, bd49_1, bd49_1p, bd74_0_1_2_3, bd74_0_1_2_3p, bd85_0, bd85_0p, bd85_0_1, bd85_0_1p, bd93_0_1_2, bd93_0_1_2p, bd94_0_1_2_3, bd94_0_1_2_3p, bs42_1_0, bs22_1_0, bs24_1_0, bs42_3_0_1_2, bs31_1_0, bs22_2_0_1, bs42_6_0_1_2_3_4_5, bs42_0_, eq4, eq4p, eq28, eq28p, eq42n, eq42np, eq42s, eq42sp, eq58n, eq58np, eq58s, eq58sp, eq63n, eq63np, eq63s, eq63sp, ne28, ne28p, ne45, ne45p]
  exact ⟨a', o', s', d'⟩

def Rel (pb : Hp) (raws : List Raw) (st : List (Cell × List Int)) : Prop := ∀ (i : Nat) (r : Raw) (s : Cell × List Int), raws[i]? = some r → st[i]? = some s → (r.x, r.y) = s.1 ∧ r.n = s.2.length ∧ Slc icC 3 pb (.slice r.a s.2.length r.c) s.2
/-- Stacks of one's own. -/
def StkO (pz : Hp) (v : Value) (st : List (Cell × List Int)) : Prop := ∃ raws pr pb, Slc rawC 49 pr v raws ∧ Sep [pr, pb] pz ∧ raws.length = st.length ∧ Rel pb raws st

theorem Rel.le {pb pb' : Hp} {raws : List Raw} {st : List (Cell × List Int)} (r : Rel pb raws st) (l : pb.le pb') : Rel pb' raws st := fun i x s h1 h2 => let ⟨a, b, c⟩ := r i x s h1 h2; ⟨a, b, c.le l⟩

set_option maxHeartbeats 2000000 in
theorem copystacks_spec {G h : Hp} {C : Conf} {ab : Option Addr} {cb : Nat} {ap : Option Addr} {cp : Nat} {ar : Option Addr} {cr : Nat} {az : Option Addr} {cs : Nat} (ca : CA G h C ab cb ap cp ar cr az cs)
    (hst : Room C.st.length 40) (hb : ∀ s ∈ C.st, Room s.2.length 8) : HCalls Tryd.prog G 11 #[.slice az C.st.length cs] h (fun u h' => ∃ pz, StkO pz u C.st ∧ Sep [pz, h] h' ∧ Dis G h') := by
  refine HCalls.assume fun d => enter11 (by simp) ?_
  unfold S11
  have hlb : C.st.length ≤ 7036874417664 := by unfold Room at hst; omega
  refine loop_I (fun m r h3 => ∃ (i : Nat) (raws : List Raw) (pr pb : Hp) (v : Value), m = C.st.length - i ∧ i ≤ C.st.length ∧ r 0 = .slice az C.st.length cs ∧ r 3 = v ∧ r 4 = .int .i64 i ∧ Slc rawC 49 pr v raws ∧ raws.length = i ∧ Rel pb raws C.st ∧ Sep [pr, pb, h] h3 ∧ Dis G h3) ?_
    (m := C.st.length) ⟨0, [], noHp, noHp, _, rfl, Nat.zero_le _, by simp -implicitDefEqProofs (disch := first | with_reducible exact Nat.ne_of_beq_eq_false rfl | omega) only [upd_ne, regs0], by simp -implicitDefEqProofs (disch := first | with_reducible exact Nat.ne_of_beq_eq_false rfl | omega) only [upd_ne, upd_eq], by simp -implicitDefEqProofs only [upd_eq] <;> rfl, Slc.nil, rfl, fun i r s h1 => by simp at h1, (Sep.one.none).none, d⟩
  rintro m r h3 ⟨i, raws, pr, pb, v, rfl, hi, g0, g3, g4, o, hlen, rel, s3, d3⟩ X HX
  unfold S11_l2
  simp -implicitDefEqProofs only [g0, g4, thenK_exit, blockK_exit, thenK_normal, if_true, opH_sv, ln24, bin_lss]
  refine cond_dec (fun hlt => ?_) (fun hge => ?_)
  rotate_left
  · obtain rfl : i = C.st.length := by omega
    try simp -implicitDefEqProofs only [opH_sv, opH_su, pureW_sv, opH_nil, pureW_nil, pick_t, pick_f, pick_tp, pick_fp, gd_tt, gd_ft, gd_tf, gd_ff, box_new, regs0, regs1, regs2, regs3, regs4, regs5, regs6, cells_agg, cells_int, cells_bool, cells_ptr, cells_slice, cells_string, cells_func, cells_nilFunc, cells_map, retK_ret, retK_normal, resL_tmp, resL_cell, resL_nil0, resL_nil1, resL_nil2, resL_nil3, resC_ptr, ex0, ex1, ex2, ex0p, ex1p, ex2p, HL.cond_true, HL.cond_false, thenK_normal, thenK_ret, thenK_exit, blockK_normal, blockK_ret, blockK_exit, scopeK_normal, scopeK_ret, scopeK_exit, wpH_pure, bin_add, bin_sub, bin_mul, bin_lss, bin_leq, bin_gtr, bin_geq, bin_quo, bin_rem, bin_quop, bin_remp, wrap_in, bin_addp, bin_subp, bin_mulp, bin_lssp, bin_leqp, bin_gtrp, bin_geqp, un_not, un_notp, un_neg, eq_int, ne_int, eq_intp, ne_intp, callV_fn, add_mk, upd_eq, upd_ne, cell_set_self, Nat.zero_add, Nat.add_zero, Option.some.injEq, exists_eq_left', List.getElem?_cons_succ, List.getElem?_cons_zero, true_and, and_true, bne_self_eq_false, beq_self_eq_true, Bool.not_true, Bool.not_false, Bool.and_true, Bool.and_self, Bool.and_false, Bool.true_and, List.length_cons, List.length_nil, ne_eq, not_false_eq_true, Nat.reduceAdd, Nat.reduceMul, if_true, if_false, oneCell_int, oneCell_bool, oneCell_ptr, oneCell_slice, oneCell_string, oneCell_func, oneCell_map, Int.toNat_natCast, List.set_cons_zero, List.set_cons_succ, Nat.lt_irrefl, Nat.zero_lt_succ, Nat.succ_lt_succ_iff, fa26_0, fa26_0p, fa26_1, fa26_1p, fa26_10, fa26_10p, fa26_11, fa26_11p, fa26_12, fa26_12p, fa26_13, fa26_13p, fa26_14, fa26_14p, fa26_15, fa26_15p, fa26_2, fa26_2p, fa26_3, fa26_3p, fa26_4, fa26_4p, fa26_5, fa26_5p, fa26_6, fa26_6p, fa26_7, fa26_7p, fa26_8, fa26_8p, fa26_9, fa26_9p, fa28_0, fa28_0p, fa28_1, fa28_1p, fa45_0, fa45_0p, fa45_1, fa45_1p, fa45_2, fa45_2p, fa45_3, fa45_3p, fa45_4, fa45_4p, fa45_5, fa45_5p, fa45_6, fa45_6p, fa49_0, fa49_0p, fa49_1, fa49_1p, fa74_0, fa74_0p, fa74_1, fa74_1p, fa74_2, fa74_2p, fa74_3, fa74_3p, fa85_0, fa85_0p, fa85_1, fa85_1p, fa93_0, fa93_0p, fa93_1, fa93_1p, fa93_2, fa93_2p, ld3, ld3p, ld4, ld4p, ld22, ld22p, ld23, ld23p, ld24, ld24p, ld26, ld26p, ld28, ld28p, ld42, ld42p, ld45, ld45p, ld49, ld49p, ld58, ld58p, ld69, ld69p, ld72, ld72p, ld85, ld85p, st3s, st4s, st22s, st23s, st24s, st26w, st28w, st42s, st45w, st49w, st85w, ix22, ix22p, ix23, ix23p, ix24, ix24p, ix31, ix31p, ix42, ix42p, ix104, ix104p, ln22, ln22p, ln23, ln23p, ln24, ln24p, ln31, ln31p, ln42, ln42p, al4, al22, al26, al28, al42, al49, al85, cf10, cf11, cf12, cf13, cf14, cf15, cf16, cf17, cf18, cf19, cf20, cf21, cf22, cf23, cf24, cf25, cf26, cf27, cf28, cf29, cf30, cf31, cf32, cf33, cf34, cf35, cf36, cf37, cf38, cf39, cf40, cf41, cf42, cf43, cf44, cf45, cf46, cf47, cf48, cf49, cf50, cf51, cf52, cf53, cf54, cf55, cf56, cf57, cf58, cf59, cf60, cf61, cf62, cf63, cf64, cf65, cf66, cf67, cf68, cf69, cf70, cf71, cf72, cf73, cf74, cf75, bd26_0_1_2_7_8_9_10_11_12_13_14_4_15, bd26_0_1_2_7_8_9_10_11_12_13_14_4_15p, bd28_, bd28_p, bd28_0, bd28_0p, bd28_0_1, bd28_0_1p, bd45_1_3_4_5_6, bd45_1_3_4_5_6p, bd49_0_1, bd49_0_1p, bd49_1, bd49_1p, bd74_0_1_2_3, bd74_0_1_2_3p, bd85_0, bd85_0p, bd85_0_1, bd85_0_1p, bd93_0_1_2, bd93_0_1_2p, bd94_0_1_2_3, bd94_0_1_2_3p, bs42_1_0, bs22_1_0, bs24_1_0, bs42_3_0_1_2, bs31_1_0, bs22_2_0_1, bs42_6_0_1_2_3_4_5, bs42_0_, eq4, eq4p, eq28, eq28p, eq42n, eq42np, eq42s, eq42sp, eq58n, eq58np, eq58s, eq58sp, eq63n, eq63np, eq63s, eq63sp, ne28, ne28p, ne45, ne45p]
    unfold S11_k1
    try simp -implicitDefEqProofs (disch := first | with_reducible exact Nat.ne_of_beq_eq_false rfl | omega) only [upd_ne, g3, retK_ret, resL_tmp, upd_eq, resL_nil1]
    obtain ⟨pz, s4, t4⟩ := s3.pack2
    exact ⟨pz, ⟨raws, pr, pb, o, t4, hlen, rel⟩, s4, d3⟩
  have hlt' : i < C.st.length := by omega
  obtain ⟨s, hs⟩ : ∃ s, C.st[i]? = some s := ⟨_, List.getElem?_eq_getElem hlt'⟩
  have ca3 := ca.up (s3.in 2 rfl) d3
  obtain ⟨b, ofs, a, c, rfl, z0, z1, z2, sv⟩ := ca3.stk hs
  unfold S11_l2_k3
  refine ⟨h3, Hp.le.refl _, ?_⟩
  try simp -implicitDefEqProofs (disch := first | with_reducible exact Nat.ne_of_beq_eq_false rfl | omega) only [upd_ne, g0, g4, opH_sv, pureW_sv, cf32, ix24p (Int.natCast_nonneg i) hlt, Int.toNat_natCast, add_mk, fa49_1p, ld42p, z2, Option.some.injEq, exists_eq_left', fa49_0p, Nat.add_zero, ld28p, z0, z1]
  refine (copyints_spec sv (hb s (List.mem_of_getElem? hs))).mono ?_
  rintro u h4 ⟨ip, o4, s4, d4⟩
  refine ⟨s4.in 1 rfl, ?_⟩
  obtain ⟨sa, cap, rfl, hcap⟩ := o4.len (by decide)
  try simp -implicitDefEqProofs only [bd49_0_1p, bs24_1_0]
  intro x hx gx
  have s5 : Sep [ip, pr, pb, h] h4 := by
    have := s4.split s3
    simpa using this
  let rw0 : Raw := ⟨s.1.1, s.1.2, sa, s.2.length, cap⟩
  have s6 : Sep [pr, ip, pb, h] (h4.set x (.cells #[.int .i64 s.1.1, .int .i64 s.1.2, .slice sa s.2.length cap] 49 (0, 0))) := (s5.past hx).pick 1 rfl rfl
  have d6 : Dis G (h4.set x (.cells #[.int .i64 s.1.1, .int .i64 s.1.2, .slice sa s.2.length cap] 49 (0, 0))) := d4.set gx
  have b6 : (h4.set x (.cells #[.int .i64 s.1.1, .int .i64 s.1.2, .slice sa s.2.length cap] 49 (0, 0))) x = some (.cells #[.int .i64 s.1.1, .int .i64 s.1.2, .slice sa s.2.length cap] 49 (0, 0)) := set_self
  generalize Hp.set h4 x _ = h6 at s6 d6 b6 ⊢
  rw [g3]
  refine append_big rawC (by decide) un24 eoraw (by decide) (M := [rw0]) s6 d6 o (Sees.row (c := rawC) (L := [rw0]) b6 rfl (Nat.le_refl _)) (by
    unfold Room at hst
    refine Nat.le_trans (Nat.mul_le_mul_right _ ?_) hst
    rw [hlen, List.length_singleton]
    omega) fun v7 pr7 h7 o7 s7 d7 => ?_
  have s7' : Sep [ip, pb, pr7, h] h7 := (s7.pick 2 rfl rfl).pick 2 rfl rfl
  obtain ⟨pb7, s8, t8⟩ := s7'.pack2
  unfold S11_l2_k4
  try simp -implicitDefEqProofs (disch := first | with_reducible exact Nat.ne_of_beq_eq_false rfl | omega) only [upd_ne, g4, thenK_normal, opH_sv, bin_add, wrap_in]
  refine HX (C.st.length - (i + 1)) _ _ (by omega) ⟨i + 1, raws ++ [rw0], pr7, pb7, v7, rfl, hlt', by simp -implicitDefEqProofs (disch := first | with_reducible exact Nat.ne_of_beq_eq_false rfl | omega) only [upd_ne, g0], by simp -implicitDefEqProofs (disch := first | with_reducible exact Nat.ne_of_beq_eq_false rfl | omega) only [upd_ne, upd_eq], by simp -implicitDefEqProofs (disch := first | with_reducible exact Nat.ne_of_beq_eq_false rfl | omega) only [upd_eq] <;> rfl, o7, by simp [hlen], ?_, s8.pick 1 rfl rfl, d7⟩
  intro j r' s' hr' hs'
  by_cases hj : j < i
  · rw [List.getElem?_append_left (by omega)] at hr'
    exact (rel.le (t8.in 1 rfl)) j r' s' hr' hs'
  · have hj2 : j < (raws ++ [rw0]).length := (List.getElem?_eq_some_iff.1 hr').1
    obtain rfl : j = i := by simp at hj2; omega
    rw [List.getElem?_append_right (by omega), hlen, Nat.sub_self] at hr'
    cases hr'
    rw [hs] at hs'
    cases hs'
    exact ⟨rfl, rfl, o4.le (t8.in 0 rfl)⟩

abbrev confO (C : Conf) (vb vp vr vz : Value) : Obj := .cells #[.int .i64 C.w, .int .i64 C.h, .int .i64 C.ht, vb, vp, vr, vz, .int .i64 C.un, .int .i64 C.ac, .int .i64 C.sp, .int .i64 C.tu, .int .i64 C.ho, .int .i64 C.qu, .int .i64 C.re, .int .i64 C.bu, .bool C.back] 26 (0, 0)
abbrev confA (C : Conf) (vb vp vr vz : Value) : Value := .agg #[.int .i64 C.w, .int .i64 C.h, .int .i64 C.ht, vb, vp, vr, vz, .int .i64 C.un, .int .i64 C.ac, .int .i64 C.sp, .int .i64 C.tu, .int .i64 C.ho, .int .i64 C.qu, .int .i64 C.re, .int .i64 C.bu, .bool C.back]

theorem store26 {G h : Hp} {y : Nat} {C : Conf} {D : Conf} {v1 v2 v3 v4 : Value} {a1 a2 a3 a4 : Option Addr} {n1 n2 n3 n4 c1 c2 c3 c4 : Nat} {K : Unit → Hp → Prop} (hb : h y = some (confO D v1 v2 v3 v4)) :
    wpH Tryd.prog G (Instr.storeAt 26 (.pointer (some ⟨y, 0, none⟩)) (confA C (.slice a1 n1 c1) (.slice a2 n2 c2) (.slice a3 n3 c3) (.slice a4 n4 c4))) h K = K () (h.set y (confO C (.slice a1 n1 c1) (.slice a2 n2 c2) (.slice a3 n3 c3) (.slice a4 n4 c4))) := by
  conv => lhs; rw [← set_same hb]
  exact st26w

structure Fit0 (C : Conf) : Prop where
  bl : Room C.bl.length 16
  po : Room C.po.length 16
  ro : Room C.ro.length 24
  st : Room C.st.length 40
  bins : ∀ s ∈ C.st, Room s.2.length 8

def Cz : Conf := ⟨0, 0, 0, [], [], [], [], 0, 0, 0, 0, 0, 0, 0, 0, false⟩
abbrev nilV : Value := .slice none 0 0

/-- A config of one's own. -/
structure CO (h : Hp) (C : Conf) (u : Value) (h' pb pp pr pz : Hp) (vb vp vr vz : Value) : Prop where
  v : u = confA C vb vp vr vz
  bl : Slc cellC 28 pb vb C.bl
  po : Slc cellC 28 pp vp C.po
  ro : Slc poseC 85 pr vr C.ro
  st : StkO pz vz C.st
  sep : Sep [pb, pp, pr, pz, h] h'

def CopyR (G h : Hp) (C : Conf) (u : Value) (h' : Hp) : Prop := (∃ pb pp pr pz vb vp vr vz, CO h C u h' pb pp pr pz vb vp vr vz) ∧ Dis G h'

set_option maxHeartbeats 2000000 in
theorem copyconf_spec {G h : Hp} {v : Value} {C : Conf} (hv : CV G h v C) (fit : Fit0 C) : HCalls Tryd.prog G 13 #[v] h (CopyR G h C) := by
  obtain ⟨ab, cb, ap, cp, ar, cr, az, cs, rfl, ca⟩ := hv
  refine HCalls.assume fun d => enter13 (by simp) ?_
  unfold S13
  simp -implicitDefEqProofs only [regs0, retK_ret, resL_cell, upd_ne, upd_eq, resL_nil1, opH_su, opH_sv, cf11, al26, resC_ptr, ld26, add_mk, Nat.add_zero, Nat.zero_add, box_new, cells_agg, fa26_6, ld24, fa26_5, ld23, fa26_4, ld22, fa26_3]
  intro x hx gx y hy gy
  have exy := ne_of_set hy
  have s2 : Sep [noHp, noHp.set x (confO C (.slice ab C.bl.length cb) (.slice ap C.po.length cp) (.slice ar C.ro.length cr) (.slice az C.st.length cs)), noHp.set y (confO Cz nilV nilV nilV nilV), h] _ := (((Sep.one (h := h)).new (o := confO C (.slice ab C.bl.length cb) (.slice ap C.po.length cp) (.slice ar C.ro.length cr) (.slice az C.st.length cs)) hx).new (o := confO Cz nilV nilV nilV nilV) hy).swap.none
  have d2 := (d.set (o := confO C (.slice ab C.bl.length cb) (.slice ap C.po.length cp) (.slice ar C.ro.length cr) (.slice az C.st.length cs)) gx).set (o := confO Cz nilV nilV nilV nilV) gy
  unfold Cz at s2 d2
  generalize Hp.set (Hp.set h x _) y _ = h2 at s2 d2 ⊢
  have cx : ∀ j, cellIn G h2 ⟨x, j, none⟩ = _ := fun j => cell_of (look_own (s2.at 1 rfl set_self))
  have ca2 := ca.up (s2.in 3 rfl) d2
  try simp -implicitDefEqProofs only [cx, List.getElem?_cons_succ, List.getElem?_cons_zero, Option.some.injEq, exists_eq_left']
  refine append_big cellC (by decide) un22 eocell (by decide) s2 d2 Slc.nil ca2.bl (by simpa [Room] using fit.bl) fun vb pb h3 ob s3 d3 => ?_
  obtain ⟨sb, cpb, rfl, _⟩ := ob.len (by decide)
  rw [List.nil_append] at ob
  have hx3 := s3.at 1 rfl set_self
  try simp -implicitDefEqProofs only [opH_sv, opH_su, pureW_sv, opH_nil, pureW_nil, pick_t, pick_f, pick_tp, pick_fp, gd_tt, gd_ft, gd_tf, gd_ff, box_new, regs0, regs1, regs2, regs3, regs4, regs5, regs6, cells_agg, cells_int, cells_bool, cells_ptr, cells_slice, cells_string, cells_func, cells_nilFunc, cells_map, retK_ret, retK_normal, resL_tmp, resL_cell, resL_nil0, resL_nil1, resL_nil2, resL_nil3, resC_ptr, ex0, ex1, ex2, ex0p, ex1p, ex2p, HL.cond_true, HL.cond_false, thenK_normal, thenK_ret, thenK_exit, blockK_normal, blockK_ret, blockK_exit, scopeK_normal, scopeK_ret, scopeK_exit, wpH_pure, bin_add, bin_sub, bin_mul, bin_lss, bin_leq, bin_gtr, bin_geq, bin_quo, bin_rem, bin_quop, bin_remp, wrap_in, bin_addp, bin_subp, bin_mulp, bin_lssp, bin_leqp, bin_gtrp, bin_geqp, un_not, un_notp, un_neg, eq_int, ne_int, eq_intp, ne_intp, callV_fn, add_mk, upd_eq, upd_ne, cell_set_self, Nat.zero_add, Nat.add_zero, Option.some.injEq, exists_eq_left', List.getElem?_cons_succ, List.getElem?_cons_zero, true_and, and_true, bne_self_eq_false, beq_self_eq_true, Bool.not_true, Bool.not_false, Bool.and_true, Bool.and_self, Bool.and_false, Bool.true_and, List.length_cons, List.length_nil, ne_eq, not_false_eq_true, Nat.reduceAdd, Nat.reduceMul, if_true, if_false, oneCell_int, oneCell_bool, oneCell_ptr, oneCell_slice, oneCell_string, oneCell_func, oneCell_map, Int.toNat_natCast, List.set_cons_zero, List.set_cons_succ, Nat.lt_irrefl, Nat.zero_lt_succ, Nat.succ_lt_succ_iff, fa26_0, fa26_0p, fa26_1, fa26_1p, fa26_10, fa26_10p, fa26_11, fa26_11p, fa26_12, fa26_12p, fa26_13, fa26_13p, fa26_14, fa26_14p, fa26_15, fa26_15p, fa26_2, fa26_2p, fa26_3, fa26_3p, fa26_4, fa26_4p, fa26_5, fa26_5p, fa26_6, fa26_6p, fa26_7, fa26_7p, fa26_8, fa26_8p, fa26_9, fa26_9p, fa28_0, fa28_0p, fa28_1, fa28_1p, fa45_0, fa45_0p, fa45_1, fa45_1p, fa45_2, fa45_2p, fa45_3, fa45_3p, fa45_4, fa45_4p, fa45_5, fa45_5p, fa45_6, fa45_6p, fa49_0, fa49_0p, fa49_1, fa49_1p, fa74_0, fa74_0p, fa74_1, fa74_1p, fa74_2, fa74_2p, fa74_3, fa74_3p, fa85_0, fa85_0p, fa85_1, fa85_1p, fa93_0, fa93_0p, fa93_1, fa93_1p, fa93_2, fa93_2p, ld3, ld3p, ld4, ld4p, ld22, ld22p, ld23, ld23p, ld24, ld24p, ld26, ld26p, ld28, ld28p, ld42, ld42p, ld45, ld45p, ld49, ld49p, ld58, ld58p, ld69, ld69p, ld72, ld72p, ld85, ld85p, st3s, st4s, st22s, st23s, st24s, st26w, st28w, st42s, st45w, st49w, st85w, ix22, ix22p, ix23, ix23p, ix24, ix24p, ix31, ix31p, ix42, ix42p, ix104, ix104p, ln22, ln22p, ln23, ln23p, ln24, ln24p, ln31, ln31p, ln42, ln42p, al4, al22, al26, al28, al42, al49, al85, cf10, cf11, cf12, cf13, cf14, cf15, cf16, cf17, cf18, cf19, cf20, cf21, cf22, cf23, cf24, cf25, cf26, cf27, cf28, cf29, cf30, cf31, cf32, cf33, cf34, cf35, cf36, cf37, cf38, cf39, cf40, cf41, cf42, cf43, cf44, cf45, cf46, cf47, cf48, cf49, cf50, cf51, cf52, cf53, cf54, cf55, cf56, cf57, cf58, cf59, cf60, cf61, cf62, cf63, cf64, cf65, cf66, cf67, cf68, cf69, cf70, cf71, cf72, cf73, cf74, cf75, bd26_0_1_2_7_8_9_10_11_12_13_14_4_15, bd26_0_1_2_7_8_9_10_11_12_13_14_4_15p, bd28_, bd28_p, bd28_0, bd28_0p, bd28_0_1, bd28_0_1p, bd45_1_3_4_5_6, bd45_1_3_4_5_6p, bd49_0_1, bd49_0_1p, bd49_1, bd49_1p, bd74_0_1_2_3, bd74_0_1_2_3p, bd85_0, bd85_0p, bd85_0_1, bd85_0_1p, bd93_0_1_2, bd93_0_1_2p, bd94_0_1_2_3, bd94_0_1_2_3p, bs42_1_0, bs22_1_0, bs24_1_0, bs42_3_0_1_2, bs31_1_0, bs22_2_0_1, bs42_6_0_1_2_3_4_5, bs42_0_, eq4, eq4p, eq28, eq28p, eq42n, eq42np, eq42s, eq42sp, eq58n, eq58np, eq58s, eq58sp, eq63n, eq63np, eq63s, eq63sp, ne28, ne28p, ne45, ne45p]
  rw [store1_eq sz22 rfl hx3 (by simp)]
  have s4 : Sep [noHp, noHp.set x (confO C (.slice sb C.bl.length cpb) (.slice ap C.po.length cp) (.slice ar C.ro.length cr) (.slice az C.st.length cs)), pb, noHp.set y (confO ⟨0, 0, 0, [], [], [], [], 0, 0, 0, 0, 0, 0, 0, 0, false⟩ nilV nilV nilV nilV), h] (h3.set x (confO C (.slice sb C.bl.length cpb) (.slice ap C.po.length cp) (.slice ar C.ro.length cr) (.slice az C.st.length cs))) := by
    have := (s3.pick 1 rfl rfl).put (o := confO C (.slice sb C.bl.length cpb) (.slice ap C.po.length cp) (.slice ar C.ro.length cr) (.slice az C.st.length cs)) set_self
    rw [set_set] at this
    exact this.none
  have d4 : Dis G (h3.set x (confO C (.slice sb C.bl.length cpb) (.slice ap C.po.length cp) (.slice ar C.ro.length cr) (.slice az C.st.length cs))) := d3.set gx
  try simp -implicitDefEqProofs only [List.nil_append, List.set_cons_succ, List.set_cons_zero, cell_set_self, List.getElem?_cons_succ, List.getElem?_cons_zero, Option.some.injEq, exists_eq_left']
  generalize Hp.set h3 x _ = h4 at s4 d4 ⊢
  refine append_big cellC (by decide) un22 eocell (by decide) s4 d4 Slc.nil (ca.up (s4.in 4 rfl) d4).po (by simpa [Room] using fit.po) fun vp pp h5 op s5 d5 => ?_
  obtain ⟨sp, cpp, rfl, _⟩ := op.len (by decide)
  rw [List.nil_append] at op
  have hx5 := s5.at 1 rfl set_self
  try simp -implicitDefEqProofs only [opH_sv, opH_su, pureW_sv, opH_nil, pureW_nil, pick_t, pick_f, pick_tp, pick_fp, gd_tt, gd_ft, gd_tf, gd_ff, box_new, regs0, regs1, regs2, regs3, regs4, regs5, regs6, cells_agg, cells_int, cells_bool, cells_ptr, cells_slice, cells_string, cells_func, cells_nilFunc, cells_map, retK_ret, retK_normal, resL_tmp, resL_cell, resL_nil0, resL_nil1, resL_nil2, resL_nil3, resC_ptr, ex0, ex1, ex2, ex0p, ex1p, ex2p, HL.cond_true, HL.cond_false, thenK_normal, thenK_ret, thenK_exit, blockK_normal, blockK_ret, blockK_exit, scopeK_normal, scopeK_ret, scopeK_exit, wpH_pure, bin_add, bin_sub, bin_mul, bin_lss, bin_leq, bin_gtr, bin_geq, bin_quo, bin_rem, bin_quop, bin_remp, wrap_in, bin_addp, bin_subp, bin_mulp, bin_lssp, bin_leqp, bin_gtrp, bin_geqp, un_not, un_notp, un_neg, eq_int, ne_int, eq_intp, ne_intp, callV_fn, add_mk, upd_eq, upd_ne, cell_set_self, Nat.zero_add, Nat.add_zero, Option.some.injEq, exists_eq_left', List.getElem?_cons_succ, List.getElem?_cons_zero, true_and, and_true, bne_self_eq_false, beq_self_eq_true, Bool.not_true, Bool.not_false, Bool.and_true, Bool.and_self, Bool.and_false, Bool.true_and, List.length_cons, List.length_nil, ne_eq, not_false_eq_true, Nat.reduceAdd, Nat.reduceMul, if_true, if_false, oneCell_int, oneCell_bool, oneCell_ptr, oneCell_slice, oneCell_string, oneCell_func, oneCell_map, Int.toNat_natCast, List.set_cons_zero, List.set_cons_succ, Nat.lt_irrefl, Nat.zero_lt_succ, Nat.succ_lt_succ_iff, fa26_0, fa26_0p, fa26_1, fa26_1p, fa26_10, fa26_10p, fa26_11, fa26_11p, fa26_12, fa26_12p, fa26_13, fa26_13p, fa26_14, fa26_14p, fa26_15, fa26_15p, fa26_2, fa26_2p, fa26_3, fa26_3p, fa26_4, fa26_4p, fa26_5, fa26_5p, fa26_6, fa26_6p, fa26_7, fa26_7p, fa26_8, fa26_8p, fa26_9, fa26_9p, fa28_0, fa28_0p, fa28_1, fa28_1p, fa45_0, fa45_0p, fa45_1, fa45_1p, fa45_2, fa45_2p, fa45_3, fa45_3p, fa45_4, fa45_4p, fa45_5, fa45_5p, fa45_6, fa45_6p, fa49_0, fa49_0p, fa49_1, fa49_1p, fa74_0, fa74_0p, fa74_1, fa74_1p, fa74_2, fa74_2p, fa74_3, fa74_3p, fa85_0, fa85_0p, fa85_1, fa85_1p, fa93_0, fa93_0p, fa93_1, fa93_1p, fa93_2, fa93_2p, ld3, ld3p, ld4, ld4p, ld22, ld22p, ld23, ld23p, ld24, ld24p, ld26, ld26p, ld28, ld28p, ld42, ld42p, ld45, ld45p, ld49, ld49p, ld58, ld58p, ld69, ld69p, ld72, ld72p, ld85, ld85p, st3s, st4s, st22s, st23s, st24s, st26w, st28w, st42s, st45w, st49w, st85w, ix22, ix22p, ix23, ix23p, ix24, ix24p, ix31, ix31p, ix42, ix42p, ix104, ix104p, ln22, ln22p, ln23, ln23p, ln24, ln24p, ln31, ln31p, ln42, ln42p, al4, al22, al26, al28, al42, al49, al85, cf10, cf11, cf12, cf13, cf14, cf15, cf16, cf17, cf18, cf19, cf20, cf21, cf22, cf23, cf24, cf25, cf26, cf27, cf28, cf29, cf30, cf31, cf32, cf33, cf34, cf35, cf36, cf37, cf38, cf39, cf40, cf41, cf42, cf43, cf44, cf45, cf46, cf47, cf48, cf49, cf50, cf51, cf52, cf53, cf54, cf55, cf56, cf57, cf58, cf59, cf60, cf61, cf62, cf63, cf64, cf65, cf66, cf67, cf68, cf69, cf70, cf71, cf72, cf73, cf74, cf75, bd26_0_1_2_7_8_9_10_11_12_13_14_4_15, bd26_0_1_2_7_8_9_10_11_12_13_14_4_15p, bd28_, bd28_p, bd28_0, bd28_0p, bd28_0_1, bd28_0_1p, bd45_1_3_4_5_6, bd45_1_3_4_5_6p, bd49_0_1, bd49_0_1p, bd49_1, bd49_1p, bd74_0_1_2_3, bd74_0_1_2_3p, bd85_0, bd85_0p, bd85_0_1, bd85_0_1p, bd93_0_1_2, bd93_0_1_2p, bd94_0_1_2_3, bd94_0_1_2_3p, bs42_1_0, bs22_1_0, bs24_1_0, bs42_3_0_1_2, bs31_1_0, bs22_2_0_1, bs42_6_0_1_2_3_4_5, bs42_0_, eq4, eq4p, eq28, eq28p, eq42n, eq42np, eq42s, eq42sp, eq58n, eq58np, eq58s, eq58sp, eq63n, eq63np, eq63s, eq63sp, ne28, ne28p, ne45, ne45p]
  rw [store1_eq sz22 rfl hx5 (by simp)]
  have s6 : Sep [noHp, noHp.set x (confO C (.slice sb C.bl.length cpb) (.slice sp C.po.length cpp) (.slice ar C.ro.length cr) (.slice az C.st.length cs)), pp, pb, noHp.set y (confO ⟨0, 0, 0, [], [], [], [], 0, 0, 0, 0, 0, 0, 0, 0, false⟩ nilV nilV nilV nilV), h] (h5.set x (confO C (.slice sb C.bl.length cpb) (.slice sp C.po.length cpp) (.slice ar C.ro.length cr) (.slice az C.st.length cs))) := by
    have := (s5.pick 1 rfl rfl).put (o := confO C (.slice sb C.bl.length cpb) (.slice sp C.po.length cpp) (.slice ar C.ro.length cr) (.slice az C.st.length cs)) set_self
    rw [set_set] at this
    exact this.none
  have d6 : Dis G (h5.set x (confO C (.slice sb C.bl.length cpb) (.slice sp C.po.length cpp) (.slice ar C.ro.length cr) (.slice az C.st.length cs))) := d5.set gx
  try simp -implicitDefEqProofs only [List.nil_append, List.set_cons_succ, List.set_cons_zero, cell_set_self, List.getElem?_cons_succ, List.getElem?_cons_zero, Option.some.injEq, exists_eq_left']
  generalize Hp.set h5 x _ = h6 at s6 d6 ⊢
  refine append_big poseC (by decide) un23 eopose (by decide) s6 d6 Slc.nil (ca.up (s6.in 5 rfl) d6).ro (by simpa [Room] using fit.ro) fun vr pr h7 or s7 d7 => ?_
  obtain ⟨sr, cpr, rfl, _⟩ := or.len (by decide)
  rw [List.nil_append] at or
  have hx7 := s7.at 1 rfl set_self
  try simp -implicitDefEqProofs only [opH_sv, opH_su, pureW_sv, opH_nil, pureW_nil, pick_t, pick_f, pick_tp, pick_fp, gd_tt, gd_ft, gd_tf, gd_ff, box_new, regs0, regs1, regs2, regs3, regs4, regs5, regs6, cells_agg, cells_int, cells_bool, cells_ptr, cells_slice, cells_string, cells_func, cells_nilFunc, cells_map, retK_ret, retK_normal, resL_tmp, resL_cell, resL_nil0, resL_nil1, resL_nil2, resL_nil3, resC_ptr, ex0, ex1, ex2, ex0p, ex1p, ex2p, HL.cond_true, HL.cond_false, thenK_normal, thenK_ret, thenK_exit, blockK_normal, blockK_ret, blockK_exit, scopeK_normal, scopeK_ret, scopeK_exit, wpH_pure, bin_add, bin_sub, bin_mul, bin_lss, bin_leq, bin_gtr, bin_geq, bin_quo, bin_rem, bin_quop, bin_remp, wrap_in, bin_addp, bin_subp, bin_mulp, bin_lssp, bin_leqp, bin_gtrp, bin_geqp, un_not, un_notp, un_neg, eq_int, ne_int, eq_intp, ne_intp, callV_fn, add_mk, upd_eq, upd_ne, cell_set_self, Nat.zero_add, Nat.add_zero, Option.some.injEq, exists_eq_left', List.getElem?_cons_succ, List.getElem?_cons_zero, true_and, and_true, bne_self_eq_false, beq_self_eq_true, Bool.not_true, Bool.not_false, Bool.and_true, Bool.and_self, Bool.and_false, Bool.true_and, List.length_cons, List.length_nil, ne_eq, not_false_eq_true, Nat.reduceAdd, Nat.reduceMul, if_true, if_false, oneCell_int, oneCell_bool, oneCell_ptr, oneCell_slice, oneCell_string, oneCell_func, oneCell_map, Int.toNat_natCast, List.set_cons_zero, List.set_cons_succ, Nat.lt_irrefl, Nat.zero_lt_succ, Nat.succ_lt_succ_iff, fa26_0, fa26_0p, fa26_1, fa26_1p, fa26_10, fa26_10p, fa26_11, fa26_11p, fa26_12, fa26_12p, fa26_13, fa26_13p, fa26_14, fa26_14p, fa26_15, fa26_15p, fa26_2, fa26_2p, fa26_3, fa26_3p, fa26_4, fa26_4p, fa26_5, fa26_5p, fa26_6, fa26_6p, fa26_7, fa26_7p, fa26_8, fa26_8p, fa26_9, fa26_9p, fa28_0, fa28_0p, fa28_1, fa28_1p, fa45_0, fa45_0p, fa45_1, fa45_1p, fa45_2, fa45_2p, fa45_3, fa45_3p, fa45_4, fa45_4p, fa45_5, fa45_5p, fa45_6, fa45_6p, fa49_0, fa49_0p, fa49_1, fa49_1p, fa74_0, fa74_0p, fa74_1, fa74_1p, fa74_2, fa74_2p, fa74_3, fa74_3p, fa85_0, fa85_0p, fa85_1, fa85_1p, fa93_0, fa93_0p, fa93_1, fa93_1p, fa93_2, fa93_2p, ld3, ld3p, ld4, ld4p, ld22, ld22p, ld23, ld23p, ld24, ld24p, ld26, ld26p, ld28, ld28p, ld42, ld42p, ld45, ld45p, ld49, ld49p, ld58, ld58p, ld69, ld69p, ld72, ld72p, ld85, ld85p, st3s, st4s, st22s, st23s, st24s, st26w, st28w, st42s, st45w, st49w, st85w, ix22, ix22p, ix23, ix23p, ix24, ix24p, ix31, ix31p, ix42, ix42p, ix104, ix104p, ln22, ln22p, ln23, ln23p, ln24, ln24p, ln31, ln31p, ln42, ln42p, al4, al22, al26, al28, al42, al49, al85, cf10, cf11, cf12, cf13, cf14, cf15, cf16, cf17, cf18, cf19, cf20, cf21, cf22, cf23, cf24, cf25, cf26, cf27, cf28, cf29, cf30, cf31, cf32, cf33, cf34, cf35, cf36, cf37, cf38, cf39, cf40, cf41, cf42, cf43, cf44, cf45, cf46, cf47, cf48, cf49, cf50, cf51, cf52, cf53, cf54, cf55, cf56, cf57, cf58, cf59, cf60, cf61, cf62, cf63, cf64, cf65, cf66, cf67, cf68, cf69, cf70, cf71, cf72, cf73, cf74, cf75, bd26_0_1_2_7_8_9_10_11_12_13_14_4_15, bd26_0_1_2_7_8_9_10_11_12_13_14_4_15p, bd28_, bd28_p, bd28_0, bd28_0p, bd28_0_1, bd28_0_1p, bd45_1_3_4_5_6, bd45_1_3_4_5_6p, bd49_0_1, bd49_0_1p, bd49_1, bd49_1p, bd74_0_1_2_3, bd74_0_1_2_3p, bd85_0, bd85_0p, bd85_0_1, bd85_0_1p, bd93_0_1_2, bd93_0_1_2p, bd94_0_1_2_3, bd94_0_1_2_3p, bs42_1_0, bs22_1_0, bs24_1_0, bs42_3_0_1_2, bs31_1_0, bs22_2_0_1, bs42_6_0_1_2_3_4_5, bs42_0_, eq4, eq4p, eq28, eq28p, eq42n, eq42np, eq42s, eq42sp, eq58n, eq58np, eq58s, eq58sp, eq63n, eq63np, eq63s, eq63sp, ne28, ne28p, ne45, ne45p]
  rw [store1_eq sz23 rfl hx7 (by simp)]
  have s8 : Sep [noHp.set x (confO C (.slice sb C.bl.length cpb) (.slice sp C.po.length cpp) (.slice sr C.ro.length cpr) (.slice az C.st.length cs)), pr, pp, pb, noHp.set y (confO ⟨0, 0, 0, [], [], [], [], 0, 0, 0, 0, 0, 0, 0, 0, false⟩ nilV nilV nilV nilV), h] (h7.set x (confO C (.slice sb C.bl.length cpb) (.slice sp C.po.length cpp) (.slice sr C.ro.length cpr) (.slice az C.st.length cs))) := by
    have := (s7.pick 1 rfl rfl).put (o := confO C (.slice sb C.bl.length cpb) (.slice sp C.po.length cpp) (.slice sr C.ro.length cpr) (.slice az C.st.length cs)) set_self
    rw [set_set] at this
    exact this
  have d8 : Dis G (h7.set x (confO C (.slice sb C.bl.length cpb) (.slice sp C.po.length cpp) (.slice sr C.ro.length cpr) (.slice az C.st.length cs))) := d7.set gx
  try simp -implicitDefEqProofs (disch := first | with_reducible exact Nat.ne_of_beq_eq_false rfl | omega) only [List.nil_append, List.set_cons_succ, List.set_cons_zero, cell_set_self, List.getElem?_cons_succ, List.getElem?_cons_zero, Option.some.injEq, exists_eq_left']
  generalize Hp.set h7 x _ = h8 at s8 d8 ⊢
  refine (copystacks_spec (ca.up (s8.in 5 rfl) d8) fit.st fit.bins).mono ?_
  rintro vz h9 ⟨pz, oz, s9, d9⟩
  have s9' : Sep [pz, noHp.set x (confO C (.slice sb C.bl.length cpb) (.slice sp C.po.length cpp) (.slice sr C.ro.length cpr) (.slice az C.st.length cs)), pr, pp, pb, noHp.set y (confO ⟨0, 0, 0, [], [], [], [], 0, 0, 0, 0, 0, 0, 0, 0, false⟩ nilV nilV nilV nilV), h] h9 := by
    have := s9.split s8
    simpa using this
  obtain ⟨sz, cpz, rfl⟩ : ∃ sz cpz, vz = .slice sz C.st.length cpz := by
    obtain ⟨raws, _, _, o, _, e, _⟩ := oz
    obtain ⟨a, b, e2, _⟩ := o.len (by decide)
    exact ⟨a, b, by rw [e2, e]⟩
  have hx9 := s9'.at 1 rfl set_self
  try simp -implicitDefEqProofs (disch := first | with_reducible exact Nat.ne_of_beq_eq_false rfl | omega) only [opH_sv, opH_su, pureW_sv, opH_nil, pureW_nil, pick_t, pick_f, pick_tp, pick_fp, gd_tt, gd_ft, gd_tf, gd_ff, box_new, regs0, regs1, regs2, regs3, regs4, regs5, regs6, cells_agg, cells_int, cells_bool, cells_ptr, cells_slice, cells_string, cells_func, cells_nilFunc, cells_map, retK_ret, retK_normal, resL_tmp, resL_cell, resL_nil0, resL_nil1, resL_nil2, resL_nil3, resC_ptr, ex0, ex1, ex2, ex0p, ex1p, ex2p, HL.cond_true, HL.cond_false, thenK_normal, thenK_ret, thenK_exit, blockK_normal, blockK_ret, blockK_exit, scopeK_normal, scopeK_ret, scopeK_exit, wpH_pure, bin_add, bin_sub, bin_mul, bin_lss, bin_leq, bin_gtr, bin_geq, bin_quo, bin_rem, bin_quop, bin_remp, wrap_in, bin_addp, bin_subp, bin_mulp, bin_lssp, bin_leqp, bin_gtrp, bin_geqp, un_not, un_notp, un_neg, eq_int, ne_int, eq_intp, ne_intp, callV_fn, add_mk, upd_eq, upd_ne, cell_set_self, Nat.zero_add, Nat.add_zero, Option.some.injEq, exists_eq_left', List.getElem?_cons_succ, List.getElem?_cons_zero, true_and, and_true, bne_self_eq_false, beq_self_eq_true, Bool.not_true, Bool.not_false, Bool.and_true, Bool.and_self, Bool.and_false, Bool.true_and, List.length_cons, List.length_nil, ne_eq, not_false_eq_true, Nat.reduceAdd, Nat.reduceMul, if_true, if_false, oneCell_int, oneCell_bool, oneCell_ptr, oneCell_slice, oneCell_string, oneCell_func, oneCell_map, Int.toNat_natCast, List.set_cons_zero, List.set_cons_succ, Nat.lt_irrefl, Nat.zero_lt_succ, Nat.succ_lt_succ_iff, fa26_0, fa26_0p, fa26_1, fa26_1p, fa26_10, fa26_10p, fa26_11, fa26_11p, fa26_12, fa26_12p, fa26_13, fa26_13p, fa26_14, fa26_14p, fa26_15, fa26_15p, fa26_2, fa26_2p, fa26_3, fa26_3p, fa26_4, fa26_4p, fa26_5, fa26_5p, fa26_6, fa26_6p, fa26_7, fa26_7p, fa26_8, fa26_8p, fa26_9, fa26_9p, fa28_0, fa28_0p, fa28_1, fa28_1p, fa45_0, fa45_0p, fa45_1, fa45_1p, fa45_2, fa45_2p, fa45_3, fa45_3p, fa45_4, fa45_4p, fa45_5, fa45_5p, fa45_6, fa45_6p, fa49_0, fa49_0p, fa49_1, fa49_1p, fa74_0, fa74_0p, fa74_1, fa74_1p, fa74_2, fa74_2p, fa74_3, fa74_3p, fa85_0, fa85_0p, fa85_1, fa85_1p, fa93_0, fa93_0p, fa93_1, fa93_1p, fa93_2, fa93_2p, ld3, ld3p, ld4, ld4p, ld22, ld22p, ld23, ld23p, ld24, ld24p, ld26, ld26p, ld28, ld28p, ld42, ld42p, ld45, ld45p, ld49, ld49p, ld58, ld58p, ld69, ld69p, ld72, ld72p, ld85, ld85p, st3s, st4s, st22s, st23s, st24s, st26w, st28w, st42s, st45w, st49w, st85w, ix22, ix22p, ix23, ix23p, ix24, ix24p, ix31, ix31p, ix42, ix42p, ix104, ix104p, ln22, ln22p, ln23, ln23p, ln24, ln24p, ln31, ln31p, ln42, ln42p, al4, al22, al26, al28, al42, al49, al85, cf10, cf11, cf12, cf13, cf14, cf15, cf16, cf17, cf18, cf19, cf20, cf21, cf22, cf23, cf24, cf25, cf26, cf27, cf28, cf29, cf30, cf31, cf32, cf33, cf34, cf35, cf36, cf37, cf38, cf39, cf40, cf41, cf42, cf43, cf44, cf45, cf46, cf47, cf48, cf49, cf50, cf51, cf52, cf53, cf54, cf55, cf56, cf57, cf58, cf59, cf60, cf61, cf62, cf63, cf64, cf65, cf66, cf67, cf68, cf69, cf70, cf71, cf72, cf73, cf74, cf75, bd26_0_1_2_7_8_9_10_11_12_13_14_4_15, bd26_0_1_2_7_8_9_10_11_12_13_14_4_15p, bd28_, bd28_p, bd28_0, bd28_0p, bd28_0_1, bd28_0_1p, bd45_1_3_4_5_6, bd45_1_3_4_5_6p, bd49_0_1, bd49_0_1p, bd49_1, bd49_1p, bd74_0_1_2_3, bd74_0_1_2_3p, bd85_0, bd85_0p, bd85_0_1, bd85_0_1p, bd93_0_1_2, bd93_0_1_2p, bd94_0_1_2_3, bd94_0_1_2_3p, bs42_1_0, bs22_1_0, bs24_1_0, bs42_3_0_1_2, bs31_1_0, bs22_2_0_1, bs42_6_0_1_2_3_4_5, bs42_0_, eq4, eq4p, eq28, eq28p, eq42n, eq42np, eq42s, eq42sp, eq58n, eq58np, eq58s, eq58sp, eq63n, eq63np, eq63s, eq63sp, ne28, ne28p, ne45, ne45p]
  rw [store1_eq sz24 rfl hx9 (by simp)]
  have s10 : Sep [noHp.set x (confO C (.slice sb C.bl.length cpb) (.slice sp C.po.length cpp) (.slice sr C.ro.length cpr) (.slice sz C.st.length cpz)), pz, pr, pp, pb, noHp.set y (confO ⟨0, 0, 0, [], [], [], [], 0, 0, 0, 0, 0, 0, 0, 0, false⟩ nilV nilV nilV nilV), h] (h9.set x (confO C (.slice sb C.bl.length cpb) (.slice sp C.po.length cpp) (.slice sr C.ro.length cpr) (.slice sz C.st.length cpz))) := by
    have := (s9'.pick 1 rfl rfl).put (o := confO C (.slice sb C.bl.length cpb) (.slice sp C.po.length cpp) (.slice sr C.ro.length cpr) (.slice sz C.st.length cpz)) set_self
    rw [set_set] at this
    exact this
  have d10 : Dis G (h9.set x (confO C (.slice sb C.bl.length cpb) (.slice sp C.po.length cpp) (.slice sr C.ro.length cpr) (.slice sz C.st.length cpz))) := d9.set gx
  try simp -implicitDefEqProofs (maxSteps := 2000000) (disch := first | with_reducible exact Nat.ne_of_beq_eq_false rfl | exact oneCell_int | exact oneCell_bool | omega | rfl | (simp; done) | fail) only [List.set_cons_succ, List.set_cons_zero, cell_set_self, List.getElem?_cons_zero, Option.some.injEq, List.getElem?_cons_succ, exists_eq_left']
  generalize Hp.set h9 x _ = h10 at s10 d10 ⊢
  have hy10 := s10.at 5 rfl set_self
  rw [store26 hy10]
  try simp -implicitDefEqProofs (maxSteps := 2000000) (disch := first | with_reducible exact Nat.ne_of_beq_eq_false rfl | exact oneCell_int | exact oneCell_bool | omega | rfl | (simp; done) | fail) only [cell_set_self, List.getElem?_cons_zero, Option.some.injEq, List.getElem?_cons_succ, exists_eq_left']
  refine ⟨⟨pb, pp, pr, pz, _, _, _, _, rfl, ob, op, or, oz, ?_⟩, d10.set gy⟩
  have s11 := ((s10.pick 5 rfl rfl).put (o := confO C (.slice sb C.bl.length cpb) (.slice sp C.po.length cpp) (.slice sr C.ro.length cpr) (.slice sz C.st.length cpz)) set_self).drop.drop
  have s12 : Sep [pz, pr, pp, pb, h] _ := s11
  exact ((s12.pick 1 rfl rfl).pick 2 rfl rfl).pick 3 rfl rfl

theorem StkO.len {pz : Hp} {v : Value} {st : List (Cell × List Int)} (o : StkO pz v st) : ∃ sz cpz, v = .slice sz st.length cpz := by
  obtain ⟨raws, _, _, o, _, e, _⟩ := o
  obtain ⟨a, b, e2, _⟩ := o.len (by decide)
  exact ⟨a, b, by rw [e2, e]⟩

/-- The copy, seen. -/
theorem CO.cv {G h h' h2 pb pp pr pz : Hp} {C : Conf} {u vb vp vr vz : Value} (c : CO h C u h' pb pp pr pz vb vp vr vz) (l : h'.le h2) : CV G h2 u C := by
  obtain ⟨rfl, ob, op, or, oz, s⟩ := c
  obtain ⟨sb, cb, rfl, _⟩ := ob.len (by decide)
  obtain ⟨sp, cp, rfl, _⟩ := op.len (by decide)
  obtain ⟨sr, cr, rfl, _⟩ := or.len (by decide)
  obtain ⟨sz, cz, rfl⟩ := oz.len
  refine ⟨sb, cb, sp, cp, sr, cr, sz, cz, rfl, ob.sees (by decide) ((s.in 0 rfl).trans l), op.sees (by decide) ((s.in 1 rfl).trans l), or.sees (by decide) ((s.in 2 rfl).trans l), ?_⟩
  obtain ⟨raws, pr', pb', o, t, e, rel⟩ := oz
  refine ⟨raws, o.sees (by decide) (((t.in 0 rfl).trans (s.in 3 rfl)).trans l), fun i r x h1 h2 => ?_⟩
  obtain ⟨a, b, c⟩ := rel i r x h1 h2
  exact ⟨a, b, c.sees (by decide) (((t.in 1 rfl).trans (s.in 3 rfl)).trans l)⟩

end Go.Proofs.YtangejiigopdaaaDoor
end

section
/- What the row's premise gives: the package's steps as they lie. -/
set_option linter.unusedSimpArgs false
set_option linter.unusedVariables false
set_option maxRecDepth 100000
namespace Go.Proofs.YtangejiigopdaaaDoor
open Go Go.HL Go.ChangeShapes Go.WideShapes Go.RowKit

theorem own_knob : ownKnob Tryd.prog.godebug = none := by kernel_rfl
theorem laid_out : laidOutB Tryd.prog = true := by kernel_rfl
theorem gSteps : Tryd.prog.globalNamed "skep/grid.steps" = some 0 := by kernel_rfl
theorem tSteps : (Tryd.prog.globals[0]?).map (·.type) = some 108 := by kernel_rfl

abbrev laidL : List (String × DataW Unit) := [("skep/grid.steps", Rows.laid_skep_grid_steps)]

theorem door_met (os : Os) (args : Array Value) : laidMetH Tryd.prog laidL ((World.doorLaid Tryd.prog 400 os).forCall (fun _ _ => 0) ⟨#[], args, []⟩).memory :=
  laidMetH_of_parts3 (fuel := 8) (laidMet_of_run' 8 (by kernel_rfl) (by kernel_rfl)) (by kernel_rfl) (by kernel_rfl)

theorem dec_fieldsD {H : Type} {enc : TypeId × Value → H} {P : Program} {w : World} {base : Nat} {spare : Nat → Bool} {held : Bool} {e : TypeId} {fuel : Nat} {cs : List Value} {y : DataW H × List MemPlace} {tos : List (TypeId × Nat)} (ht : structFields P e = some tos)
    (h : DataW.trod enc P w base spare held fuel e cs = some y) : cs.length = P.cellsOf e ∧ ∃ (xs : List (DataW H × List MemPlace)) (m : Nat), y = (.agg (xs.map (·.1)), xs.flatMap (·.2)) ∧ xs.length = tos.length ∧ ∀ (i : Nat) (t o : Nat), tos[i]? = some (t, o) → DataW.trod enc P w base spare held m t ((cs.drop o).take (P.cellsOf t)) = xs[i]? := by
  unfold structFields at ht
  split at ht
  · rename_i fs hfs
    obtain ⟨xs, n, _, h0, h1, h2, h3⟩ := DataW.trod_struct hfs h
    simp only [Option.some.injEq] at ht
    subst ht
    refine ⟨h1, xs, n, h0, by simp [h2], fun i t o hi => ?_⟩
    rw [List.getElem?_map, Array.getElem?_toList] at hi
    cases q : fs[i]? with
    | none => rw [q] at hi; cases hi
    | some f =>
      rw [q] at hi
      simp only [Option.map_some, Option.some.injEq, Prod.mk.injEq] at hi
      obtain ⟨rfl, rfl⟩ := hi
      exact h3 i f q
  · cases ht

theorem un3i : Tryd.prog.underlying 3 = some (.int .i64) := by kernel_rfl
theorem c3 : Tryd.prog.cellsOf 3 = 1 := by kernel_rfl
theorem c28 : Tryd.prog.cellsOf 28 = 2 := by kernel_rfl
theorem c81 : Tryd.prog.cellsOf 108 = 8 := by kernel_rfl
theorem sf28 : structFields Tryd.prog 28 = some [(3, 0), (3, 1)] := by kernel_rfl

theorem step_dec {H : Type} {enc : TypeId × Value → H} {w : World} {base : Nat} {spare : Nat → Bool} {held : Bool} {m : Nat} {cs : List Value} {x : DataW H × List MemPlace} {a b : Int}
    (h : DataW.trod enc Tryd.prog w base spare held m 28 cs = some x) (e : x.1 = .agg [.lit (.int .i64 a), .lit (.int .i64 b)]) : cs = [.int .i64 a, .int .i64 b] := by
  obtain ⟨hl, xs, n, rfl, hxl, d⟩ := dec_fieldsD sf28 h
  rw [c28] at hl
  match cs, hl, xs, hxl with
  | [v0, v1], _, [x0, x1], _ =>
  have h0 := d 0 3 0 rfl
  have h1 := d 1 3 1 rfl
  rw [c3] at h0 h1
  obtain ⟨k0, e0, f0, _⟩ := DataW.trod_int un3i (show DataW.trod _ _ _ _ _ _ n 3 _ = some x0 from h0)
  obtain ⟨k1, e1, f1, _⟩ := DataW.trod_int un3i (show DataW.trod _ _ _ _ _ _ n 3 _ = some x1 from h1)
  simp at e0 e1
  subst e0 e1 f0 f1
  simp at e
  obtain ⟨rfl, rfl⟩ := e
  rfl

theorem len8 {α : Type} {L : List α} (h : L.length = 8) : ∃ a b c d e f g i, L = [a, b, c, d, e, f, g, i] := by
  match L, h with
  | [a, b, c, d, e, f, g, i], _ => exact ⟨a, b, c, d, e, f, g, i, rfl⟩

theorem of_laid {W : World} (h : laidMetH Tryd.prog laidL W) : Steps (ground W) := by
  rw [MakeChecks.laidMetH_plain _ _ _ (by kernel_rfl)] at h
  obtain ⟨ps, ⟨g0, t0, cs0, f0, p0, q0, hg0, ht0, hv0, hd0, _, _⟩, _, _⟩ := h
  obtain rfl := Option.some.inj (gSteps.symm.trans hg0)
  obtain rfl := Option.some.inj (tSteps.symm.trans ht0)
  obtain ⟨xs, m, rfl, hx, hl, hxl, hel⟩ := DataW.trod_array un81 hd0
  rw [c81] at hl
  rw [c28] at hel
  simp only [Prod.mk.injEq] at hx
  obtain ⟨hx, _⟩ := hx
  have hobj : ∃ e f, W.heap[0]? = some (.cells cs0 e f) := by
    unfold World.var? at hv0
    rw [gSteps] at hv0
    simp only [Option.bind_some] at hv0
    split at hv0
    · rename_i c e f hc
      cases hv0
      exact ⟨e, f, hc⟩
    · cases hv0
  obtain ⟨e, f, hobj⟩ := hobj
  refine ⟨e, f, ?_⟩
  show W.heap[0]? = _
  rw [hobj]
  match xs, hxl with
  | [x0, x1, x2, x3], _ =>
  have h0 := hel 0 (by decide)
  have h1 := hel 1 (by decide)
  have h2 := hel 2 (by decide)
  have h3 := hel 3 (by decide)
  unfold Rows.laid_skep_grid_steps at hx
  simp only [List.map_cons, List.map_nil, DataW.agg.injEq, List.cons.injEq] at hx
  have k0 := step_dec (show DataW.trod _ _ _ _ _ _ m 28 _ = some x0 from h0) hx.1.symm
  have k1 := step_dec (show DataW.trod _ _ _ _ _ _ m 28 _ = some x1 from h1) hx.2.1.symm
  have k2 := step_dec (show DataW.trod _ _ _ _ _ _ m 28 _ = some x2 from h2) hx.2.2.1.symm
  have k3 := step_dec (show DataW.trod _ _ _ _ _ _ m 28 _ = some x3 from h3) hx.2.2.2.1.symm
  obtain ⟨cs⟩ := cs0
  obtain ⟨a0, a1, a2, a3, a4, a5, a6, a7, rfl⟩ := len8 hl
  simp at k0 k1 k2 k3
  obtain ⟨rfl, rfl⟩ := k0
  obtain ⟨rfl, rfl⟩ := k1
  obtain ⟨rfl, rfl⟩ := k2
  obtain ⟨rfl, rfl⟩ := k3
  rfl

end Go.Proofs.YtangejiigopdaaaDoor
end

section
/- A text of the proofs. -/
set_option linter.unusedVariables false
set_option maxRecDepth 100000
namespace Go.Proofs.YtangejiigopdaaaDoor
open Go Go.HL
def md4 : Nat → Hint
  | 3 => ⟨false, [0, 1, 0, 0, 8, 24, 60, 127, 255, 0, 1023], [.pureN, .pureM, .pureN, .pureN, .pureM, .pureM, .eff, .pureN, .pureM, .alloc, .store], [.pureN, .pureM, .pureN, .pureN, .pureM, .pureM, .eff, .pureN, .pureM, .alloc, .store], [false, false, false, false, false, false, true, false, false, false, false], false⟩
  | 4 => ⟨false, [0, 1, 0, 4, 15, 0, 63, 0, 0, 511, 1023, 2047, 2047, 4095, 16383], [.pureM, .eff, .pureN, .pureM, .eff, .pureN, .eff, .pureN, .pureM, .eff, .pureN, .pureN, .pureN, .pureN, .pureN], [.pureM, .eff, .pureN, .pureM, .eff, .pureN, .eff, .pureN, .pureM, .eff, .pureN, .pureN, .pureN, .pureN, .pureN], [false, true, false, false, true, false, true, false, false, false, false, false, false, false, false], false⟩
  | 13 => ⟨false, [0, 1, 3, 7, 15, 15, 47, 111, 255, 511, 15, 15, 3087, 7183, 15375, 32767, 65535, 131071, 262143, 262143, 1048575, 2097151, 4194303, 8388607, 16777215, 33554431, 67108863, 67108863, 268435455, 536870911, 1073741823, 2147483647, 4294967295, 8589934591, 17179869183, 17179869183, 68719476735, 137438953471, 274877906943, 549755813887, 1099511627775], [.pureN, .pureM, .pureM, .pureN, .pureN, .pureN, .pureM, .pureN, .pureN, .pureM, .pureN, .pureN, .pureN, .pureN, .pureM, .pureM, .pureN, .pureN, .pureN, .pureN, .pureN, .pureN, .pureM, .pureM, .pureN, .pureN, .pureN, .pureN, .pureN, .pureN, .pureM, .pureM, .pureN, .pureN, .pureN, .pureN, .pureN, .pureN, .pureM, .pureM, .pureN], [.pureN, .pureM, .pureM, .pureN, .pureN, .pureN, .pureM, .pureN, .pureN, .pureM, .pureN, .pureN, .pureN, .pureN, .pureM, .pureM, .pureN, .pureN, .pureN, .pureN, .pureN, .pureN, .pureM, .pureM, .pureN, .pureN, .pureN, .pureN, .pureN, .pureN, .pureM, .pureM, .pureN, .pureN, .pureN, .pureN, .pureN, .pureN, .pureM, .pureM, .pureN], [false, false, false, false, false, false, false, false, false, false, false, false, false, false, false, false, false, false, false, false, false, false, false, false, false, false, false, false, false, false, false, false, false, false, false, false, false, false, false, false, false], false⟩
  | 15 => ⟨false, [0, 0, 0, 6, 14, 30, 0, 0, 128, 384, 0, 1024, 3072, 8128, 16383, 32767], [.pureN, .pureN, .pureN, .pureN, .pureN, .pureM, .pureN, .pureN, .pureM, .pureN, .pureN, .pureM, .pureN, .pureN, .eff, .pureN], [.pureN, .pureN, .pureN, .pureN, .pureN, .pureM, .pureN, .pureN, .pureM, .pureN, .pureN, .pureM, .pureN, .pureN, .eff, .pureN], [false, false, false, false, false, false, false, false, false, false, false, false, false, false, false, false], false⟩
  | 18 => ⟨false, [0, 0, 3, 7, 15, 0, 63, 127, 255, 255, 1023, 2047, 4095, 255, 16383, 32767], [.pureN, .pureN, .pureN, .pureN, .pureM, .pureN, .pureM, .pureN, .pureN, .pureN, .pureN, .pureN, .pureM, .pureM, .pureM, .pureN], [.pureN, .pureN, .pureN, .pureN, .pureM, .pureN, .pureM, .pureN, .pureN, .pureN, .pureN, .pureN, .pureM, .pureM, .pureM, .pureN], [false, false, false, false, false, false, false, false, false, false, false, false, false, false, false, false], false⟩
  | 21 => ⟨false, [0, 0, 0, 6, 14, 30, 63, 127, 255, 511, 1023, 511, 2559, 8191, 16383], [.pureM, .pureN, .pureN, .pureN, .pureN, .pureM, .eff, .pureN, .pureN, .pureN, .pureM, .pureN, .pureM, .pureN, .pureN], [.pureM, .pureN, .pureN, .pureN, .pureN, .pureM, .eff, .pureN, .pureN, .pureN, .late, .pureN, .late, .pureN, .pureN], [false, false, false, false, false, false, false, false, false, false, false, false, false, false, false], false⟩
  | 23 => ⟨false, [0, 0, 0, 6, 14, 30, 0, 0, 128, 0, 512, 1984, 0, 0, 12288, 28672, 61440, 126976, 262080, 524287, 1048575], [.pureN, .pureN, .pureN, .pureN, .pureN, .pureM, .pureN, .pureN, .pureM, .pureN, .pureM, .pureN, .pureN, .pureN, .pureN, .pureN, .pureM, .alloc, .eff, .eff, .pureN], [.pureN, .pureN, .pureN, .pureN, .pureN, .pureM, .pureN, .pureN, .pureM, .pureN, .pureM, .pureN, .pureN, .pureN, .pureN, .pureN, .pureM, .alloc, .eff, .eff, .pureN], [false, false, false, false, false, false, false, false, false, false, false, false, false, false, false, false, false, false, true, false, false], false⟩
  | _ => ⟨false, [], [], [], [], false⟩
def S4_k7 (G : Hp) (K : Exit → Rg → Hp → Prop) (r : Rg) (h : Hp) : Prop :=
  opH Tryd.prog G (sv (binOp .sub 3 (r 21) (.int .i64 1))) h fun v38 h38 =>
  opH Tryd.prog G (xEq .eql 3 (.tmp 0) (.tmp 0) (r 20) v38) h38 fun v39 h39 =>
  gd (wantB v39 true) (opH Tryd.prog G (callFunc 10 #[]) h39) h39 fun v40 h40 =>
  opH Tryd.prog G (xPick v39 v40 (.bool false)) h40 fun v41 h41 =>
  K .ret (upd (upd (upd (upd (upd (upd (upd (upd r 295 (r 20)) 296 (r 21)) 297 v38) 298 v39) 299 v39) 300 v40) 301 v41) 8 v41) h41
def S4_l8_k10 (G : Hp) (K : Exit → Rg → Hp → Prop) (r : Rg) (h : Hp) : Prop :=
  opH Tryd.prog G (sv (binOp .add 3 (r 23) (.int .i64 1))) h fun v46 h46 =>
  K .normal (upd (upd (upd r 284 (r 23)) 285 v46) 23 v46) h46
def S4_l8_k9 (G : Hp) (K : Exit → Rg → Hp → Prop) (r : Rg) (h : Hp) : Prop :=
  opH Tryd.prog G (sv (Instr.fieldAt 26 (r 4) 6)) h fun v47 h47 =>
  opH Tryd.prog G (sv (Instr.loadAt 24 v47)) h47 fun v48 h48 =>
  opH Tryd.prog G (sv (Instr.indexAt 24 v48 (r 23))) h48 fun v49 h49 =>
  opH Tryd.prog G (sv (Instr.fieldAt 49 v49 1)) h49 fun v50 h50 =>
  opH Tryd.prog G (sv (Instr.loadAt 42 v50)) h50 fun v51 h51 =>
  opH Tryd.prog G (sv (Builtin.len_ #[42] 3 #[v51])) h51 fun v52 h52 =>
  opH Tryd.prog G (sv (binOp .add 3 (r 21) v52)) h52 fun v53 h53 =>
  S4_l8_k10 G K (upd (upd (upd (upd (upd (upd (upd (upd (upd (upd r 286 (r 21)) 287 v47) 288 v48) 289 (r 23)) 290 v49) 291 v50) 292 v51) 293 v52) 294 v53) 21 v53) h53
def S4_l8 (G : Hp) (r : Rg) (h : Hp) (K : Exit → Rg → Hp → Prop) : Prop :=
  opH Tryd.prog G (sv (Instr.fieldAt 26 (r 4) 6)) h fun v42 h42 =>
  opH Tryd.prog G (sv (Instr.loadAt 24 v42)) h42 fun v43 h43 =>
  opH Tryd.prog G (sv (Builtin.len_ #[24] 3 #[v43])) h43 fun v44 h44 =>
  opH Tryd.prog G (sv (binOp .lss 3 (r 23) v44)) h44 fun v45 h45 =>
  cond v45
  (S4_l8_k9 G K (upd (upd (upd (upd (upd r 279 (r 23)) 280 v42) 281 v43) 282 v44) 283 v45) h45)
  (K (.exit 8) (upd (upd (upd (upd (upd r 279 (r 23)) 280 v42) 281 v43) 282 v44) 283 v45) h45)
def S4_k6 (G : Hp) (K : Exit → Rg → Hp → Prop) (r : Rg) (h : Hp) : Prop :=
  loopP (S4_l8 G) (upd r 23 (.int .i64 0)) h (blockK 8 (thenK (S4_k7 G K) K))
def S4_l11_k13 (G : Hp) (K : Exit → Rg → Hp → Prop) (r : Rg) (h : Hp) : Prop :=
  opH Tryd.prog G (sv (binOp .add 3 (r 22) (.int .i64 1))) h fun v56 h56 =>
  K .normal (upd (upd (upd r 269 (r 22)) 270 v56) 22 v56) h56
def S4_l11_k12 (G : Hp) (K : Exit → Rg → Hp → Prop) (r : Rg) (h : Hp) : Prop :=
  opH Tryd.prog G (sv (Instr.indexAt 24 (r 12) (r 22))) h fun v57 h57 =>
  opH Tryd.prog G (sv (Instr.fieldAt 49 v57 1)) h57 fun v58 h58 =>
  opH Tryd.prog G (sv (Instr.loadAt 42 v58)) h58 fun v59 h59 =>
  opH Tryd.prog G (sv (Builtin.len_ #[42] 3 #[v59])) h59 fun v60 h60 =>
  opH Tryd.prog G (sv (binOp .add 3 (r 20) v60)) h60 fun v61 h61 =>
  S4_l11_k13 G K (upd (upd (upd (upd (upd (upd (upd (upd (upd r 271 (r 20)) 272 (r 12)) 273 (r 22)) 274 v57) 275 v58) 276 v59) 277 v60) 278 v61) 20 v61) h61
def S4_l11 (G : Hp) (r : Rg) (h : Hp) (K : Exit → Rg → Hp → Prop) : Prop :=
  opH Tryd.prog G (sv (Builtin.len_ #[24] 3 #[(r 12)])) h fun v54 h54 =>
  opH Tryd.prog G (sv (binOp .lss 3 (r 22) v54)) h54 fun v55 h55 =>
  cond v55
  (S4_l11_k12 G K (upd (upd (upd (upd r 265 (r 22)) 266 (r 12)) 267 v54) 268 v55) h55)
  (K (.exit 6) (upd (upd (upd (upd r 265 (r 22)) 266 (r 12)) 267 v54) 268 v55) h55)
def S4_k5 (G : Hp) (K : Exit → Rg → Hp → Prop) (r : Rg) (h : Hp) : Prop :=
  loopP (S4_l11 G) (upd (upd (upd r 20 (.int .i64 0)) 21 (.int .i64 0)) 22 (.int .i64 0)) h (blockK 6 (thenK (S4_k6 G K) K))
def S4_l14_k16 (G : Hp) (K : Exit → Rg → Hp → Prop) (r : Rg) (h : Hp) : Prop :=
  opH Tryd.prog G (sv (binOp .add 3 (r 17) (.int .i64 1))) h fun v69 h69 =>
  K .normal (upd (upd (upd r 218 (r 17)) 219 v69) 17 v69) h69
def S4_l14_k17 (G : Hp) (K : Exit → Rg → Hp → Prop) (r : Rg) (h : Hp) : Prop :=
  opH Tryd.prog G (sv (Instr.fieldAt 26 (r 4) 6)) h fun v70 h70 =>
  opH Tryd.prog G (sv (Instr.loadAt 24 v70)) h70 fun v71 h71 =>
  opH Tryd.prog G (sv (Instr.indexAt 24 v71 (r 17))) h71 fun v72 h72 =>
  opH Tryd.prog G (sv (Instr.fieldAt 49 v72 0)) h72 fun v73 h73 =>
  opH Tryd.prog G (sv (Instr.loadAt 28 v73)) h73 fun v74 h74 =>
  opH Tryd.prog G (callFunc 21 #[(r 12), v74]) h74 fun v75 h75 =>
  opH Tryd.prog G (callFunc 24 #[v75, (r 18)]) h75 fun v76 h76 =>
  opH Tryd.prog G (sv (Op.unary .not v76)) h76 fun v77 h77 =>
  cond v77
  (K .ret (upd (upd (upd (upd (upd (upd (upd (upd (upd (upd (upd (upd r 254 (r 12)) 255 v70) 256 v71) 257 (r 17)) 258 v72) 259 v73) 260 v74) 261 v75) 262 (r 18)) 263 v76) 264 v77) 8 (.bool false)) h77)
  (S4_l14_k16 G K (upd (upd (upd (upd (upd (upd (upd (upd (upd (upd (upd r 254 (r 12)) 255 v70) 256 v71) 257 (r 17)) 258 v72) 259 v73) 260 v74) 261 v75) 262 (r 18)) 263 v76) 264 v77) h77)
def S4_l14_l18_k20 (G : Hp) (K : Exit → Rg → Hp → Prop) (r : Rg) (h : Hp) : Prop :=
  opH Tryd.prog G (sv (binOp .add 3 (r 19) (.int .i64 1))) h fun v85 h85 =>
  K .normal (upd (upd (upd r 229 (r 19)) 230 v85) 19 v85) h85
def S4_l14_l18_k19 (G : Hp) (K : Exit → Rg → Hp → Prop) (r : Rg) (h : Hp) : Prop :=
  opH Tryd.prog G (sv (Instr.fieldAt 26 (r 4) 6)) h fun v86 h86 =>
  opH Tryd.prog G (sv (Instr.loadAt 24 v86)) h86 fun v87 h87 =>
  opH Tryd.prog G (sv (Instr.indexAt 24 v87 (r 17))) h87 fun v88 h88 =>
  opH Tryd.prog G (sv (Instr.fieldAt 49 v88 1)) h88 fun v89 h89 =>
  opH Tryd.prog G (sv (Instr.loadAt 42 v89)) h89 fun v90 h90 =>
  opH Tryd.prog G (sv (Instr.indexAt 42 v90 (r 19))) h90 fun v91 h91 =>
  opH Tryd.prog G (sv (Instr.loadAt 3 v91)) h91 fun v92 h92 =>
  opH Tryd.prog G (xEq .neq 3 (.tmp 0) (.tmp 0) v92 (r 2)) h92 fun v93 h93 =>
  cond v93
  (opH Tryd.prog G (sv (Instr.fieldAt 26 (r 4) 6)) h93 fun v94 h94 =>
  opH Tryd.prog G (sv (Instr.loadAt 24 v94)) h94 fun v95 h95 =>
  opH Tryd.prog G (sv (Instr.indexAt 24 v95 (r 17))) h95 fun v96 h96 =>
  opH Tryd.prog G (sv (Instr.fieldAt 49 v96 1)) h96 fun v97 h97 =>
  opH Tryd.prog G (sv (Instr.loadAt 42 v97)) h97 fun v98 h98 =>
  opH Tryd.prog G (sv (Instr.indexAt 42 v98 (r 19))) h98 fun v99 h99 =>
  opH Tryd.prog G (sv (Instr.loadAt 3 v99)) h99 fun v100 h100 =>
  opH Tryd.prog G (sv (Instr.buildSlice 42 1 #[(0, v100)])) h100 fun v101 h101 =>
  opH Tryd.prog G (sv (Builtin.append_ #[42, 42] 42 #[(r 18), v101])) h101 fun v102 h102 =>
  S4_l14_l18_k20 G K (upd (upd (upd (upd (upd (upd (upd (upd (upd (upd (upd (upd (upd (upd (upd (upd (upd (upd (upd (upd (upd (upd (upd (upd r 231 v86) 232 v87) 233 (r 17)) 234 v88) 235 v89) 236 v90) 237 (r 19)) 238 v91) 239 v92) 240 (r 2)) 241 v93) 242 (r 18)) 243 v94) 244 v95) 245 (r 17)) 246 v96) 247 v97) 248 v98) 249 (r 19)) 250 v99) 251 v100) 252 v101) 253 v102) 18 v102) h102)
  (S4_l14_l18_k20 G K (upd (upd (upd (upd (upd (upd (upd (upd (upd (upd (upd r 231 v86) 232 v87) 233 (r 17)) 234 v88) 235 v89) 236 v90) 237 (r 19)) 238 v91) 239 v92) 240 (r 2)) 241 v93) h93)
def S4_l14_l18 (G : Hp) (r : Rg) (h : Hp) (K : Exit → Rg → Hp → Prop) : Prop :=
  opH Tryd.prog G (sv (Instr.fieldAt 26 (r 4) 6)) h fun v78 h78 =>
  opH Tryd.prog G (sv (Instr.loadAt 24 v78)) h78 fun v79 h79 =>
  opH Tryd.prog G (sv (Instr.indexAt 24 v79 (r 17))) h79 fun v80 h80 =>
  opH Tryd.prog G (sv (Instr.fieldAt 49 v80 1)) h80 fun v81 h81 =>
  opH Tryd.prog G (sv (Instr.loadAt 42 v81)) h81 fun v82 h82 =>
  opH Tryd.prog G (sv (Builtin.len_ #[42] 3 #[v82])) h82 fun v83 h83 =>
  opH Tryd.prog G (sv (binOp .lss 3 (r 19) v83)) h83 fun v84 h84 =>
  cond v84
  (S4_l14_l18_k19 G K (upd (upd (upd (upd (upd (upd (upd (upd (upd r 220 (r 19)) 221 v78) 222 v79) 223 (r 17)) 224 v80) 225 v81) 226 v82) 227 v83) 228 v84) h84)
  (K (.exit 4) (upd (upd (upd (upd (upd (upd (upd (upd (upd r 220 (r 19)) 221 v78) 222 v79) 223 (r 17)) 224 v80) 225 v81) 226 v82) 227 v83) 228 v84) h84)
def S4_l14_k15 (G : Hp) (K : Exit → Rg → Hp → Prop) (r : Rg) (h : Hp) : Prop :=
  loopP (S4_l14_l18 G) (upd (upd r 18 (.slice none 0 0)) 19 (.int .i64 0)) h (blockK 4 (thenK (S4_l14_k17 G K) (blockK 3 (thenK (S4_l14_k16 G K) K))))
def S4_l14 (G : Hp) (r : Rg) (h : Hp) (K : Exit → Rg → Hp → Prop) : Prop :=
  opH Tryd.prog G (sv (Instr.fieldAt 26 (r 4) 6)) h fun v62 h62 =>
  opH Tryd.prog G (sv (Instr.loadAt 24 v62)) h62 fun v63 h63 =>
  opH Tryd.prog G (sv (Builtin.len_ #[24] 3 #[v63])) h63 fun v64 h64 =>
  opH Tryd.prog G (sv (binOp .lss 3 (r 17) v64)) h64 fun v65 h65 =>
  gd (wantB v65 true) (opH Tryd.prog G (sv (Instr.fieldAt 26 (r 4) 15)) h65) h65 fun v66 h66 =>
  gd (wantB v65 true) (opH Tryd.prog G (sv (Instr.loadAt 4 v66)) h66) h66 fun v67 h67 =>
  opH Tryd.prog G (xPick v65 v67 (.bool false)) h67 fun v68 h68 =>
  cond v68
  (S4_l14_k15 G K (upd (upd (upd (upd (upd (upd (upd (upd (upd r 209 (r 17)) 210 v62) 211 v63) 212 v64) 213 v65) 214 v65) 215 v66) 216 v67) 217 v68) h68)
  (K (.exit 2) (upd (upd (upd (upd (upd (upd (upd (upd (upd r 209 (r 17)) 210 v62) 211 v63) 212 v64) 213 v65) 214 v65) 215 v66) 216 v67) 217 v68) h68)
def S4_k4 (G : Hp) (K : Exit → Rg → Hp → Prop) (r : Rg) (h : Hp) : Prop :=
  loopP (S4_l14 G) (upd r 17 (.int .i64 0)) h (blockK 2 (thenK (S4_k5 G K) K))
def S4_k3 (G : Hp) (K : Exit → Rg → Hp → Prop) (r : Rg) (h : Hp) : Prop :=
  opH Tryd.prog G (xEq .neq 3 (.tmp 0) (.const .nilFunc) (r 13) (.int .i64 1)) h fun v37 h37 =>
  cond v37
  (K .ret (upd (upd (upd r 207 (r 13)) 208 v37) 8 (.bool false)) h37)
  (S4_k4 G K (upd (upd r 207 (r 13)) 208 v37) h37)
def S4_l21_k23 (G : Hp) (K : Exit → Rg → Hp → Prop) (r : Rg) (h : Hp) : Prop :=
  opH Tryd.prog G (sv (binOp .add 3 (r 14) (.int .i64 1))) h fun v105 h105 =>
  K .normal (upd (upd (upd r 76 (r 14)) 77 v105) 14 v105) h105
def S4_l21_k26 (G : Hp) (K : Exit → Rg → Hp → Prop) (r : Rg) (h : Hp) : Prop :=
  pureW Tryd.prog noHp noHp (sv (Instr.indexAt 31 (r 10) (r 14))) h fun v175 h175 =>
  pureW Tryd.prog noHp noHp (sv (Instr.fieldAt 45 v175 5)) h175 fun v176 h176 =>
  pureW Tryd.prog G h (sv (Instr.loadAt 28 v176)) h176 fun v177 h177 =>
  pureW Tryd.prog G h (sv (Builtin.len_ #[42] 3 #[(r 16)])) h177 fun v178 h178 =>
  pureW Tryd.prog G h (sv (Builtin.len_ #[42] 3 #[(r 16)])) h178 fun v179 h179 =>
  pureW Tryd.prog noHp noHp (sv (Instr.sliceAt 42 (r 16) none (some v178) (some v179))) h179 fun v180 h180 =>
  pureW Tryd.prog noHp noHp (sv (Instr.indexAt 31 (r 10) (r 14))) h180 fun v181 h181 =>
  pureW Tryd.prog noHp noHp (sv (Instr.fieldAt 45 v181 3)) h181 fun v182 h182 =>
  pureW Tryd.prog G h (sv (Instr.loadAt 3 v182)) h182 fun v183 h183 =>
  opH Tryd.prog G (sv (Instr.buildSlice 42 1 #[(0, v183)])) h183 fun v184 h184 =>
  opH Tryd.prog G (sv (Builtin.append_ #[42, 42] 42 #[v180, v184])) h184 fun v185 h185 => h.le h185 ∧
  opH Tryd.prog G (callFunc 22 #[(r 12), v177, v185]) h185 fun v186 h186 =>
  S4_l21_k23 G K (upd (upd (upd (upd (upd (upd (upd (upd (upd (upd (upd (upd (upd (upd (upd (upd (upd (upd (upd (upd (upd r 187 (r 12)) 188 (r 10)) 189 (r 14)) 190 v175) 191 v176) 192 v177) 193 (r 16)) 194 (r 16)) 195 v178) 196 (r 16)) 197 v179) 198 v180) 199 (r 10)) 200 (r 14)) 201 v181) 202 v182) 203 v183) 204 v184) 205 v185) 206 v186) 12 v186) h186
def S4_l21_k25 (G : Hp) (K : Exit → Rg → Hp → Prop) (r : Rg) (h : Hp) : Prop :=
  opH Tryd.prog G (sv (Instr.indexAt 31 (r 10) (r 14))) h fun v159 h159 =>
  opH Tryd.prog G (sv (Instr.fieldAt 45 v159 5)) h159 fun v160 h160 =>
  opH Tryd.prog G (sv (Instr.loadAt 28 v160)) h160 fun v161 h161 =>
  opH Tryd.prog G (callFunc 21 #[(r 12), v161]) h161 fun v162 h162 =>
  pureW Tryd.prog G h162 (sv (Instr.loadAt 26 (r 4))) h162 fun v163 h163 =>
  pureW Tryd.prog noHp noHp (sv (Instr.indexAt 31 (r 10) (r 14))) h163 fun v164 h164 =>
  pureW Tryd.prog noHp noHp (sv (Instr.fieldAt 45 v164 5)) h164 fun v165 h165 =>
  pureW Tryd.prog G h162 (sv (Instr.loadAt 28 v165)) h165 fun v166 h166 =>
  opH Tryd.prog G (callFunc 23 #[v163, v166]) h166 fun v167 h167 =>
  pureW Tryd.prog noHp noHp (sv (Op.unary .not v167)) h167 fun v168 h168 =>
  gd (wantB v168 false) (fun K1 => K1 v162 h168) h168 fun v169 h169 =>
  gd (wantB v168 false) (pureW Tryd.prog G h169 (sv (Builtin.len_ #[42] 3 #[v169])) h169) h169 fun v170 h170 =>
  gd (wantB v168 false) (pureW Tryd.prog noHp noHp (sv (Instr.fieldAt 26 (r 4) 2)) h170) h170 fun v171 h171 =>
  gd (wantB v168 false) (pureW Tryd.prog G h171 (sv (Instr.loadAt 3 v171)) h171) h171 fun v172 h172 =>
  gd (wantB v168 false) (pureW Tryd.prog noHp noHp (sv (binOp .geq 3 v170 v172)) h172) h172 fun v173 h173 =>
  pureW Tryd.prog noHp noHp (xPick v168 (.bool true) v173) h173 fun v174 h174 =>
  cond v174
  (K .ret (upd (upd (upd (upd (upd (upd (upd (upd (upd (upd (upd (upd (upd (upd (upd (upd (upd (upd (upd (upd (upd (upd (upd (upd r 165 (r 12)) 166 (r 10)) 167 (r 14)) 168 v159) 169 v160) 170 v161) 171 v162) 16 v162) 172 v163) 173 (r 10)) 174 (r 14)) 175 v164) 176 v165) 177 v166) 178 v167) 179 v168) 180 v168) 181 v169) 182 v170) 183 v171) 184 v172) 185 v173) 186 v174) 8 (.bool false)) h174)
  (S4_l21_k26 G K (upd (upd (upd (upd (upd (upd (upd (upd (upd (upd (upd (upd (upd (upd (upd (upd (upd (upd (upd (upd (upd (upd (upd r 165 (r 12)) 166 (r 10)) 167 (r 14)) 168 v159) 169 v160) 170 v161) 171 v162) 16 v162) 172 v163) 173 (r 10)) 174 (r 14)) 175 v164) 176 v165) 177 v166) 178 v167) 179 v168) 180 v168) 181 v169) 182 v170) 183 v171) 184 v172) 185 v173) 186 v174) h174)
def S4_l21_k27 (G : Hp) (K : Exit → Rg → Hp → Prop) (r : Rg) (h : Hp) : Prop :=
  S4_l21_k23 G K r h
def S4_l21_k24 (G : Hp) (K : Exit → Rg → Hp → Prop) (r : Rg) (h : Hp) : Prop :=
  pureW Tryd.prog noHp noHp (sv (Instr.indexAt 31 (r 10) (r 14))) h fun v146 h146 =>
  pureW Tryd.prog noHp noHp (sv (Instr.fieldAt 45 v146 4)) h146 fun v147 h147 =>
  pureW Tryd.prog G h (sv (Instr.loadAt 28 v147)) h147 fun v148 h148 =>
  pureW Tryd.prog G h (sv (Builtin.len_ #[42] 3 #[(r 15)])) h148 fun v149 h149 =>
  pureW Tryd.prog noHp noHp (sv (binOp .sub 3 v149 (.int .i64 1))) h149 fun v150 h150 =>
  pureW Tryd.prog G h (sv (Builtin.len_ #[42] 3 #[(r 15)])) h150 fun v151 h151 =>
  pureW Tryd.prog noHp noHp (sv (binOp .sub 3 v151 (.int .i64 1))) h151 fun v152 h152 =>
  pureW Tryd.prog noHp noHp (sv (Instr.sliceAt 42 (r 15) none (some v150) (some v152))) h152 fun v153 h153 =>
  opH Tryd.prog G (callFunc 22 #[(r 12), v148, v153]) h153 fun v154 h154 =>
  opH Tryd.prog G (sv (Instr.indexAt 31 (r 10) (r 14))) h154 fun v155 h155 =>
  opH Tryd.prog G (sv (Instr.fieldAt 45 v155 1)) h155 fun v156 h156 =>
  opH Tryd.prog G (sv (Instr.loadAt 3 v156)) h156 fun v157 h157 =>
  opH Tryd.prog G (xEq .eql 3 (.tmp 0) (.const .nilFunc) v157 (.int .i64 2)) h157 fun v158 h158 =>
  cond v158
  (opH Tryd.prog G (sv (binOp .add 3 (r 13) (.int .i64 1))) h158 fun v187 h187 =>
  pureW Tryd.prog noHp noHp (sv (Instr.indexAt 31 (r 10) (r 14))) h187 fun v188 h188 =>
  pureW Tryd.prog noHp noHp (sv (Instr.fieldAt 45 v188 3)) h188 fun v189 h189 =>
  pureW Tryd.prog G h187 (sv (Instr.loadAt 3 v189)) h189 fun v190 h190 =>
  pureW Tryd.prog G h187 (xEq .neq 3 (.tmp 0) (.tmp 0) v190 (r 2)) h190 fun v191 h191 =>
  gd (wantB v191 false) (fun K1 => K1 (r 10) h191) h191 fun v192 h192 =>
  gd (wantB v191 false) (fun K1 => K1 (r 14) h192) h192 fun v193 h193 =>
  gd (wantB v191 false) (pureW Tryd.prog noHp noHp (sv (Instr.indexAt 31 v192 v193)) h193) h193 fun v194 h194 =>
  gd (wantB v191 false) (pureW Tryd.prog noHp noHp (sv (Instr.fieldAt 45 v194 5)) h194) h194 fun v195 h195 =>
  gd (wantB v191 false) (pureW Tryd.prog G h187 (sv (Instr.loadAt 28 v195)) h195) h195 fun v196 h196 =>
  gd (wantB v191 false) (pureW Tryd.prog G h187 (sv (Instr.loadAt 28 (r 9))) h196) h196 fun v197 h197 =>
  gd (wantB v191 false) (pureW Tryd.prog G h187 (xEq .neq 28 (.tmp 0) (.tmp 0) v196 v197) h197) h197 fun v198 h198 =>
  pureW Tryd.prog noHp noHp (xPick v191 (.bool true) v198) h198 fun v199 h199 =>
  cond v199
  (K .ret (upd (upd (upd (upd (upd (upd (upd (upd (upd (upd (upd (upd (upd (upd (upd (upd (upd (upd (upd (upd (upd (upd (upd (upd (upd (upd (upd (upd (upd (upd (upd (upd (upd (upd (upd (upd (upd (upd (upd (upd (upd (upd r 126 (r 12)) 127 (r 10)) 128 (r 14)) 129 v146) 130 v147) 131 v148) 132 (r 15)) 133 (r 15)) 134 v149) 135 v150) 136 (r 15)) 137 v151) 138 v152) 139 v153) 140 v154) 12 v154) 141 (r 10)) 142 (r 14)) 143 v155) 144 v156) 145 v157) 146 v158) 147 (r 13)) 148 v187) 13 v187) 149 (r 10)) 150 (r 14)) 151 v188) 152 v189) 153 v190) 154 (r 2)) 155 v191) 156 v191) 157 v192) 158 v193) 159 v194) 160 v195) 161 v196) 162 v197) 163 v198) 164 v199) 8 (.bool false)) h199)
  (S4_l21_k27 G K (upd (upd (upd (upd (upd (upd (upd (upd (upd (upd (upd (upd (upd (upd (upd (upd (upd (upd (upd (upd (upd (upd (upd (upd (upd (upd (upd (upd (upd (upd (upd (upd (upd (upd (upd (upd (upd (upd (upd (upd (upd r 126 (r 12)) 127 (r 10)) 128 (r 14)) 129 v146) 130 v147) 131 v148) 132 (r 15)) 133 (r 15)) 134 v149) 135 v150) 136 (r 15)) 137 v151) 138 v152) 139 v153) 140 v154) 12 v154) 141 (r 10)) 142 (r 14)) 143 v155) 144 v156) 145 v157) 146 v158) 147 (r 13)) 148 v187) 13 v187) 149 (r 10)) 150 (r 14)) 151 v188) 152 v189) 153 v190) 154 (r 2)) 155 v191) 156 v191) 157 v192) 158 v193) 159 v194) 160 v195) 161 v196) 162 v197) 163 v198) 164 v199) h199))
  (S4_l21_k25 G K (upd (upd (upd (upd (upd (upd (upd (upd (upd (upd (upd (upd (upd (upd (upd (upd (upd (upd (upd (upd (upd (upd r 126 (r 12)) 127 (r 10)) 128 (r 14)) 129 v146) 130 v147) 131 v148) 132 (r 15)) 133 (r 15)) 134 v149) 135 v150) 136 (r 15)) 137 v151) 138 v152) 139 v153) 140 v154) 12 v154) 141 (r 10)) 142 (r 14)) 143 v155) 144 v156) 145 v157) 146 v158) h158)
def S4_l21_k22 (G : Hp) (K : Exit → Rg → Hp → Prop) (r : Rg) (h : Hp) : Prop :=
  opH Tryd.prog G (sv (Instr.indexAt 31 (r 10) (r 14))) h fun v106 h106 =>
  opH Tryd.prog G (sv (Instr.fieldAt 45 v106 4)) h106 fun v107 h107 =>
  opH Tryd.prog G (sv (Instr.loadAt 28 v107)) h107 fun v108 h108 =>
  opH Tryd.prog G (callFunc 21 #[(r 12), v108]) h108 fun v109 h109 =>
  pureW Tryd.prog G h109 (sv (Builtin.len_ #[42] 3 #[v109])) h109 fun v110 h110 =>
  pureW Tryd.prog G h109 (xEq .eql 3 (.tmp 0) (.const .nilFunc) v110 (.int .i64 0)) h110 fun v111 h111 =>
  gd (wantB v111 false) (fun K1 => K1 v109 h111) h111 fun v112 h112 =>
  gd (wantB v111 false) (fun K1 => K1 v109 h112) h112 fun v113 h113 =>
  gd (wantB v111 false) (pureW Tryd.prog G h109 (sv (Builtin.len_ #[42] 3 #[v113])) h113) h113 fun v114 h114 =>
  gd (wantB v111 false) (pureW Tryd.prog noHp noHp (sv (binOp .sub 3 v114 (.int .i64 1))) h114) h114 fun v115 h115 =>
  gd (wantB v111 false) (pureW Tryd.prog noHp noHp (sv (Instr.indexAt 42 v112 v115)) h115) h115 fun v116 h116 =>
  gd (wantB v111 false) (pureW Tryd.prog G h109 (sv (Instr.loadAt 3 v116)) h116) h116 fun v117 h117 =>
  gd (wantB v111 false) (fun K1 => K1 (r 10) h117) h117 fun v118 h118 =>
  gd (wantB v111 false) (fun K1 => K1 (r 14) h118) h118 fun v119 h119 =>
  gd (wantB v111 false) (pureW Tryd.prog noHp noHp (sv (Instr.indexAt 31 v118 v119)) h119) h119 fun v120 h120 =>
  gd (wantB v111 false) (pureW Tryd.prog noHp noHp (sv (Instr.fieldAt 45 v120 3)) h120) h120 fun v121 h121 =>
  gd (wantB v111 false) (pureW Tryd.prog G h109 (sv (Instr.loadAt 3 v121)) h121) h121 fun v122 h122 =>
  gd (wantB v111 false) (pureW Tryd.prog G h109 (xEq .neq 3 (.tmp 0) (.tmp 0) v117 v122) h122) h122 fun v123 h123 =>
  pureW Tryd.prog noHp noHp (xPick v111 (.bool true) v123) h123 fun v124 h124 =>
  gd (wantB v124 false) (fun K1 => K1 (r 10) h124) h124 fun v125 h125 =>
  gd (wantB v124 false) (fun K1 => K1 (r 14) h125) h125 fun v126 h126 =>
  gd (wantB v124 false) (pureW Tryd.prog noHp noHp (sv (Instr.indexAt 31 v125 v126)) h126) h126 fun v127 h127 =>
  gd (wantB v124 false) (pureW Tryd.prog noHp noHp (sv (Instr.fieldAt 45 v127 6)) h127) h127 fun v128 h128 =>
  gd (wantB v124 false) (pureW Tryd.prog G h109 (sv (Instr.loadAt 3 v128)) h128) h128 fun v129 h129 =>
  gd (wantB v124 false) (pureW Tryd.prog G h109 (xEq .neq 3 (.tmp 0) (.const .nilFunc) v129 (.int .i64 (-1))) h129) h129 fun v130 h130 =>
  pureW Tryd.prog noHp noHp (xPick v124 (.bool true) v130) h130 fun v131 h131 =>
  gd (wantB v131 false) (fun K1 => K1 (r 10) h131) h131 fun v132 h132 =>
  gd (wantB v131 false) (fun K1 => K1 (r 14) h132) h132 fun v133 h133 =>
  gd (wantB v131 false) (pureW Tryd.prog noHp noHp (sv (Instr.indexAt 31 v132 v133)) h133) h133 fun v134 h134 =>
  gd (wantB v131 false) (pureW Tryd.prog noHp noHp (sv (Instr.fieldAt 45 v134 0)) h134) h134 fun v135 h135 =>
  gd (wantB v131 false) (pureW Tryd.prog G h109 (sv (Instr.loadAt 3 v135)) h135) h135 fun v136 h136 =>
  gd (wantB v131 false) (pureW Tryd.prog G h109 (xEq .neq 3 (.tmp 0) (.const .nilFunc) v136 (.int .i64 0)) h136) h136 fun v137 h137 =>
  pureW Tryd.prog noHp noHp (xPick v131 (.bool true) v137) h137 fun v138 h138 =>
  gd (wantB v138 false) (fun K1 => K1 (r 10) h138) h138 fun v139 h139 =>
  gd (wantB v138 false) (fun K1 => K1 (r 14) h139) h139 fun v140 h140 =>
  gd (wantB v138 false) (pureW Tryd.prog noHp noHp (sv (Instr.indexAt 31 v139 v140)) h140) h140 fun v141 h141 =>
  gd (wantB v138 false) (pureW Tryd.prog noHp noHp (sv (Instr.fieldAt 45 v141 2)) h141) h141 fun v142 h142 =>
  gd (wantB v138 false) (pureW Tryd.prog G h109 (sv (Instr.loadAt 3 v142)) h142) h142 fun v143 h143 =>
  gd (wantB v138 false) (pureW Tryd.prog G h109 (xEq .neq 3 (.tmp 0) (.const .nilFunc) v143 (.int .i64 0)) h143) h143 fun v144 h144 =>
  pureW Tryd.prog noHp noHp (xPick v138 (.bool true) v144) h144 fun v145 h145 =>
  cond v145
  (K .ret (upd (upd (upd (upd (upd (upd (upd (upd (upd (upd (upd (upd (upd (upd (upd (upd (upd (upd (upd (upd (upd (upd (upd (upd (upd (upd (upd (upd (upd (upd (upd (upd (upd (upd (upd (upd (upd (upd (upd (upd (upd (upd (upd (upd (upd (upd (upd (upd (upd (upd r 78 (r 12)) 79 (r 10)) 80 (r 14)) 81 v106) 82 v107) 83 v108) 84 v109) 15 v109) 85 v109) 86 v110) 87 v111) 88 v111) 89 v112) 90 v113) 91 v114) 92 v115) 93 v116) 94 v117) 95 v118) 96 v119) 97 v120) 98 v121) 99 v122) 100 v123) 101 v124) 102 v124) 103 v125) 104 v126) 105 v127) 106 v128) 107 v129) 108 v130) 109 v131) 110 v131) 111 v132) 112 v133) 113 v134) 114 v135) 115 v136) 116 v137) 117 v138) 118 v138) 119 v139) 120 v140) 121 v141) 122 v142) 123 v143) 124 v144) 125 v145) 8 (.bool false)) h145)
  (S4_l21_k24 G K (upd (upd (upd (upd (upd (upd (upd (upd (upd (upd (upd (upd (upd (upd (upd (upd (upd (upd (upd (upd (upd (upd (upd (upd (upd (upd (upd (upd (upd (upd (upd (upd (upd (upd (upd (upd (upd (upd (upd (upd (upd (upd (upd (upd (upd (upd (upd (upd (upd r 78 (r 12)) 79 (r 10)) 80 (r 14)) 81 v106) 82 v107) 83 v108) 84 v109) 15 v109) 85 v109) 86 v110) 87 v111) 88 v111) 89 v112) 90 v113) 91 v114) 92 v115) 93 v116) 94 v117) 95 v118) 96 v119) 97 v120) 98 v121) 99 v122) 100 v123) 101 v124) 102 v124) 103 v125) 104 v126) 105 v127) 106 v128) 107 v129) 108 v130) 109 v131) 110 v131) 111 v132) 112 v133) 113 v134) 114 v135) 115 v136) 116 v137) 117 v138) 118 v138) 119 v139) 120 v140) 121 v141) 122 v142) 123 v143) 124 v144) 125 v145) h145)
def S4_l21 (G : Hp) (r : Rg) (h : Hp) (K : Exit → Rg → Hp → Prop) : Prop :=
  opH Tryd.prog G (sv (Builtin.len_ #[31] 3 #[(r 10)])) h fun v103 h103 =>
  opH Tryd.prog G (sv (binOp .lss 3 (r 14) v103)) h103 fun v104 h104 =>
  cond v104
  (S4_l21_k22 G K (upd (upd (upd (upd r 72 (r 14)) 73 (r 10)) 74 v103) 75 v104) h104)
  (K (.exit 0) (upd (upd (upd (upd r 72 (r 14)) 73 (r 10)) 74 v103) 75 v104) h104)
def S4_k2 (G : Hp) (K : Exit → Rg → Hp → Prop) (r : Rg) (h : Hp) : Prop :=
  opH Tryd.prog G (sv (Instr.fieldAt 26 (r 4) 6)) h fun v34 h34 =>
  opH Tryd.prog G (sv (Instr.loadAt 24 v34)) h34 fun v35 h35 =>
  opH Tryd.prog G (callFunc 11 #[v35]) h35 fun v36 h36 =>
  loopP (S4_l21 G) (upd (upd (upd (upd (upd (upd r 69 v34) 70 v35) 71 v36) 12 v36) 13 (.int .i64 0)) 14 (.int .i64 0)) h36 (blockK 0 (thenK (S4_k3 G K) K))
def S4_k1 (G : Hp) (K : Exit → Rg → Hp → Prop) (r : Rg) (h : Hp) : Prop :=
  pureW Tryd.prog noHp noHp (sv (Instr.fieldAt 26 (r 4) 4)) h fun v13 h13 =>
  pureW Tryd.prog G h (sv (Instr.loadAt 22 v13)) h13 fun v14 h14 =>
  pureW Tryd.prog noHp noHp (sv (Instr.fieldAt 26 (r 4) 4)) h14 fun v15 h15 =>
  pureW Tryd.prog G h (sv (Instr.loadAt 22 v15)) h15 fun v16 h16 =>
  pureW Tryd.prog G h (sv (Builtin.len_ #[22] 3 #[v16])) h16 fun v17 h17 =>
  opH Tryd.prog G (callFunc 20 #[(r 3), v17]) h17 fun v18 h18 => h.le h18 ∧
  pureW Tryd.prog noHp noHp (sv (Instr.indexAt 22 v14 v18)) h18 fun v19 h19 =>
  pureW Tryd.prog G h (sv (Instr.loadAt 28 v19)) h19 fun v20 h20 =>
  opH Tryd.prog G (sv (Instr.alloc 28 true (.tuple #[]))) h20 fun v21 h21 =>
  opH Tryd.prog G (su (Instr.storeAt 28 v21 v20)) h21 fun v22 h22 =>
  pureW Tryd.prog G h22 (sv (Instr.loadAt 26 (r 4))) h22 fun v23 h23 =>
  opH Tryd.prog G (callFunc 13 #[v23]) h23 fun v24 h24 => h22.le h24 ∧
  pureW Tryd.prog noHp noHp (sv (Instr.fieldAt 26 (r 4) 6)) h24 fun v25 h25 =>
  pureW Tryd.prog G h22 (sv (Instr.loadAt 24 v25)) h25 fun v26 h26 =>
  opH Tryd.prog G (callFunc 11 #[v26]) h26 fun v27 h27 => h22.le h27 ∧
  opH Tryd.prog G (sv (Builtin.append_ #[22, 22] 22 #[(.slice none 0 0), (r 1)])) h27 fun v28 h28 => h22.le h28 ∧
  pureW Tryd.prog G h22 (sv (Instr.loadAt 28 v21)) h28 fun v29 h29 =>
  opH Tryd.prog G (callFunc 12 #[v24, v27, v28, (r 2), v29]) h29 fun v30 h30 =>
  pureW Tryd.prog noHp noHp (sv (Instr.extract v30 0)) h30 fun v31 h31 =>
  pureW Tryd.prog noHp noHp (sv (Instr.extract v30 1)) h31 fun v32 h32 =>
  opH Tryd.prog G (xEq .neq 32 (.tmp 0) (.const .nilFunc) v32 (.int .i64 0)) h32 fun v33 h33 =>
  cond v33
  (opH Tryd.prog G (sv (Builtin.len_ #[31] 3 #[v31])) h33 fun v200 h200 =>
  opH Tryd.prog G (xEq .eql 3 (.tmp 0) (.const .nilFunc) v200 (.int .i64 0)) h200 fun v201 h201 =>
  gd (wantB v201 true) (opH Tryd.prog G (callFunc 10 #[]) h201) h201 fun v202 h202 =>
  opH Tryd.prog G (xPick v201 v202 (.bool false)) h202 fun v203 h203 =>
  K .ret (upd (upd (upd (upd (upd (upd (upd (upd (upd (upd (upd (upd (upd (upd (upd (upd (upd (upd (upd (upd (upd (upd (upd (upd (upd (upd (upd (upd (upd (upd (upd (upd (upd (upd r 39 v13) 40 v14) 41 (r 3)) 42 v15) 43 v16) 44 v17) 45 v18) 46 v19) 47 v20) 9 v21) 49 v23) 50 v24) 51 v25) 52 v26) 53 v27) 54 (r 1)) 55 v28) 56 (r 2)) 57 v29) 58 v30) 48 v30) 59 v31) 60 v32) 10 v31) 11 v32) 61 v32) 62 v33) 63 v31) 64 v200) 65 v201) 66 v201) 67 v202) 68 v203) 8 v203) h203)
  (S4_k2 G K (upd (upd (upd (upd (upd (upd (upd (upd (upd (upd (upd (upd (upd (upd (upd (upd (upd (upd (upd (upd (upd (upd (upd (upd (upd (upd (upd r 39 v13) 40 v14) 41 (r 3)) 42 v15) 43 v16) 44 v17) 45 v18) 46 v19) 47 v20) 9 v21) 49 v23) 50 v24) 51 v25) 52 v26) 53 v27) 54 (r 1)) 55 v28) 56 (r 2)) 57 v29) 58 v30) 48 v30) 59 v31) 60 v32) 10 v31) 11 v32) 61 v32) 62 v33) h33)
def S4 (G : Hp) (K : Exit → Rg → Hp → Prop) (r : Rg) (h : Hp) : Prop :=
  opH Tryd.prog G (sv (Instr.box 26 (r 0))) h fun v0 h0 =>
  opH Tryd.prog G (sv (Instr.loadAt 26 v0)) h0 fun v1 h1 =>
  opH Tryd.prog G (callFunc 19 #[v1]) h1 fun v2 h2 =>
  opH Tryd.prog G (sv (Op.unary .not v2)) h2 fun v3 h3 =>
  gd (wantB v3 false) (opH Tryd.prog G (sv (Instr.fieldAt 26 v0 4)) h3) h3 fun v4 h4 =>
  gd (wantB v3 false) (opH Tryd.prog G (sv (Instr.loadAt 22 v4)) h4) h4 fun v5 h5 =>
  gd (wantB v3 false) (opH Tryd.prog G (sv (Builtin.len_ #[22] 3 #[v5])) h5) h5 fun v6 h6 =>
  gd (wantB v3 false) (opH Tryd.prog G (xEq .eql 3 (.tmp 0) (.const .nilFunc) v6 (.int .i64 0)) h6) h6 fun v7 h7 =>
  opH Tryd.prog G (xPick v3 (.bool true) v7) h7 fun v8 h8 =>
  gd (wantB v8 false) (fun K1 => K1 (r 1) h8) h8 fun v9 h9 =>
  gd (wantB v8 false) (opH Tryd.prog G (sv (Builtin.len_ #[22] 3 #[v9])) h9) h9 fun v10 h10 =>
  gd (wantB v8 false) (opH Tryd.prog G (sv (binOp .gtr 3 v10 (.int .i64 40))) h10) h10 fun v11 h11 =>
  opH Tryd.prog G (xPick v8 (.bool true) v11) h11 fun v12 h12 =>
  cond v12
  (opH Tryd.prog G (callFunc 10 #[]) h12 fun v204 h204 =>
  K .ret (upd (upd (upd (upd (upd (upd (upd (upd (upd (upd (upd (upd (upd (upd (upd (upd (upd (upd r 4 v0) 8 (.bool false)) 24 v1) 25 v2) 26 v3) 27 v3) 28 v4) 29 v5) 30 v6) 31 v7) 32 v8) 33 v8) 34 v9) 35 v10) 36 v11) 37 v12) 38 v204) 8 v204) h204)
  (S4_k1 G K (upd (upd (upd (upd (upd (upd (upd (upd (upd (upd (upd (upd (upd (upd (upd (upd r 4 v0) 8 (.bool false)) 24 v1) 25 v2) 26 v3) 27 v3) 28 v4) 29 v5) 30 v6) 31 v7) 32 v8) 33 v8) 34 v9) 35 v10) 36 v11) 37 v12) h12)
theorem S4_eq (G : Hp) (K : Exit → Rg → Hp → Prop) (r : Rg) (h : Hp) : wpC Tryd.prog G 302 md4 true (Tryd.f4.body.getD .skip) r h K = S4 G K r h := by kernel_rfl
theorem enter4 {G : Hp} {h : Hp} {args : Array Value} {R : Value → Hp → Prop} (hn : args.size ≤ 302) (H : S4 G (retK Tryd.prog G [.tmp 8] R) (regs args) h) : HCalls Tryd.prog G 4 args h R :=
  HCalls.enter (md := md4) mixed Tryd.func4 rfl hn (by rw [← S4_eq] at H; exact H)

def md10 : Nat → Hint
  | _ => ⟨false, [], [], [], [], false⟩
def S10 (G : Hp) (K : Exit → Rg → Hp → Prop) (r : Rg) (h : Hp) : Prop :=
  opH Tryd.prog G (callFunc 25 #[]) h fun v0 h0 =>
  opH Tryd.prog G (sv (Instr.buildSlice 42 3 #[(0, (.int .i64 7)), (1, (.int .i64 8)), (2, (.int .i64 9))])) h0 fun v1 h1 =>
  opH Tryd.prog G (sv (Instr.build 49 #[(1, v1)])) h1 fun v2 h2 =>
  opH Tryd.prog G (sv (Instr.buildSlice 24 1 #[(0, v2)])) h2 fun v3 h3 =>
  opH Tryd.prog G (sv (Instr.build 28 #[(0, (.int .i64 2))])) h3 fun v4 h4 =>
  opH Tryd.prog G (callFunc 12 #[v0, v3, (.slice none 0 0), (.int .i64 7), v4]) h4 fun v5 h5 =>
  opH Tryd.prog G (sv (Instr.extract v5 0)) h5 fun v6 h6 =>
  opH Tryd.prog G (sv (Instr.extract v5 1)) h6 fun v7 h7 =>
  opH Tryd.prog G (xEq .eql 32 (.tmp 0) (.const .nilFunc) v7 (.int .i64 0)) h7 fun v8 h8 =>
  gd (wantB v8 true) (fun K1 => K1 v6 h8) h8 fun v9 h9 =>
  gd (wantB v8 true) (opH Tryd.prog G (sv (Builtin.len_ #[31] 3 #[v9])) h9) h9 fun v10 h10 =>
  gd (wantB v8 true) (opH Tryd.prog G (xEq .eql 3 (.tmp 0) (.const .nilFunc) v10 (.int .i64 5)) h10) h10 fun v11 h11 =>
  opH Tryd.prog G (xPick v8 v11 (.bool false)) h11 fun v12 h12 =>
  gd (wantB v12 true) (fun K1 => K1 v6 h12) h12 fun v13 h13 =>
  gd (wantB v12 true) (opH Tryd.prog G (sv (Instr.indexAt 31 v13 (.int .i64 0))) h13) h13 fun v14 h14 =>
  gd (wantB v12 true) (opH Tryd.prog G (sv (Instr.fieldAt 45 v14 1)) h14) h14 fun v15 h15 =>
  gd (wantB v12 true) (opH Tryd.prog G (sv (Instr.loadAt 3 v15)) h15) h15 fun v16 h16 =>
  gd (wantB v12 true) (opH Tryd.prog G (xEq .eql 3 (.tmp 0) (.const .nilFunc) v16 (.int .i64 1)) h16) h16 fun v17 h17 =>
  opH Tryd.prog G (xPick v12 v17 (.bool false)) h17 fun v18 h18 =>
  gd (wantB v18 true) (fun K1 => K1 v6 h18) h18 fun v19 h19 =>
  gd (wantB v18 true) (opH Tryd.prog G (sv (Instr.indexAt 31 v19 (.int .i64 0))) h19) h19 fun v20 h20 =>
  gd (wantB v18 true) (opH Tryd.prog G (sv (Instr.fieldAt 45 v20 3)) h20) h20 fun v21 h21 =>
  gd (wantB v18 true) (opH Tryd.prog G (sv (Instr.loadAt 3 v21)) h21) h21 fun v22 h22 =>
  gd (wantB v18 true) (opH Tryd.prog G (xEq .eql 3 (.tmp 0) (.const .nilFunc) v22 (.int .i64 9)) h22) h22 fun v23 h23 =>
  opH Tryd.prog G (xPick v18 v23 (.bool false)) h23 fun v24 h24 =>
  gd (wantB v24 true) (fun K1 => K1 v6 h24) h24 fun v25 h25 =>
  gd (wantB v24 true) (opH Tryd.prog G (sv (Instr.indexAt 31 v25 (.int .i64 1))) h25) h25 fun v26 h26 =>
  gd (wantB v24 true) (opH Tryd.prog G (sv (Instr.fieldAt 45 v26 3)) h26) h26 fun v27 h27 =>
  gd (wantB v24 true) (opH Tryd.prog G (sv (Instr.loadAt 3 v27)) h27) h27 fun v28 h28 =>
  gd (wantB v24 true) (opH Tryd.prog G (xEq .eql 3 (.tmp 0) (.const .nilFunc) v28 (.int .i64 8)) h28) h28 fun v29 h29 =>
  opH Tryd.prog G (xPick v24 v29 (.bool false)) h29 fun v30 h30 =>
  gd (wantB v30 true) (fun K1 => K1 v6 h30) h30 fun v31 h31 =>
  gd (wantB v30 true) (opH Tryd.prog G (sv (Instr.indexAt 31 v31 (.int .i64 2))) h31) h31 fun v32 h32 =>
  gd (wantB v30 true) (opH Tryd.prog G (sv (Instr.fieldAt 45 v32 1)) h32) h32 fun v33 h33 =>
  gd (wantB v30 true) (opH Tryd.prog G (sv (Instr.loadAt 3 v33)) h33) h33 fun v34 h34 =>
  gd (wantB v30 true) (opH Tryd.prog G (xEq .eql 3 (.tmp 0) (.const .nilFunc) v34 (.int .i64 2)) h34) h34 fun v35 h35 =>
  opH Tryd.prog G (xPick v30 v35 (.bool false)) h35 fun v36 h36 =>
  gd (wantB v36 true) (fun K1 => K1 v6 h36) h36 fun v37 h37 =>
  gd (wantB v36 true) (opH Tryd.prog G (sv (Instr.indexAt 31 v37 (.int .i64 2))) h37) h37 fun v38 h38 =>
  gd (wantB v36 true) (opH Tryd.prog G (sv (Instr.fieldAt 45 v38 3)) h38) h38 fun v39 h39 =>
  gd (wantB v36 true) (opH Tryd.prog G (sv (Instr.loadAt 3 v39)) h39) h39 fun v40 h40 =>
  gd (wantB v36 true) (opH Tryd.prog G (xEq .eql 3 (.tmp 0) (.const .nilFunc) v40 (.int .i64 7)) h40) h40 fun v41 h41 =>
  opH Tryd.prog G (xPick v36 v41 (.bool false)) h41 fun v42 h42 =>
  gd (wantB v42 true) (fun K1 => K1 v6 h42) h42 fun v43 h43 =>
  gd (wantB v42 true) (opH Tryd.prog G (sv (Instr.indexAt 31 v43 (.int .i64 3))) h43) h43 fun v44 h44 =>
  gd (wantB v42 true) (opH Tryd.prog G (sv (Instr.fieldAt 45 v44 1)) h44) h44 fun v45 h45 =>
  gd (wantB v42 true) (opH Tryd.prog G (sv (Instr.loadAt 3 v45)) h45) h45 fun v46 h46 =>
  gd (wantB v42 true) (opH Tryd.prog G (xEq .eql 3 (.tmp 0) (.const .nilFunc) v46 (.int .i64 3)) h46) h46 fun v47 h47 =>
  opH Tryd.prog G (xPick v42 v47 (.bool false)) h47 fun v48 h48 =>
  gd (wantB v48 true) (fun K1 => K1 v6 h48) h48 fun v49 h49 =>
  gd (wantB v48 true) (opH Tryd.prog G (sv (Instr.indexAt 31 v49 (.int .i64 3))) h49) h49 fun v50 h50 =>
  gd (wantB v48 true) (opH Tryd.prog G (sv (Instr.fieldAt 45 v50 3)) h50) h50 fun v51 h51 =>
  gd (wantB v48 true) (opH Tryd.prog G (sv (Instr.loadAt 3 v51)) h51) h51 fun v52 h52 =>
  gd (wantB v48 true) (opH Tryd.prog G (xEq .eql 3 (.tmp 0) (.const .nilFunc) v52 (.int .i64 8)) h52) h52 fun v53 h53 =>
  opH Tryd.prog G (xPick v48 v53 (.bool false)) h53 fun v54 h54 =>
  gd (wantB v54 true) (fun K1 => K1 v6 h54) h54 fun v55 h55 =>
  gd (wantB v54 true) (opH Tryd.prog G (sv (Instr.indexAt 31 v55 (.int .i64 4))) h55) h55 fun v56 h56 =>
  gd (wantB v54 true) (opH Tryd.prog G (sv (Instr.fieldAt 45 v56 3)) h56) h56 fun v57 h57 =>
  gd (wantB v54 true) (opH Tryd.prog G (sv (Instr.loadAt 3 v57)) h57) h57 fun v58 h58 =>
  gd (wantB v54 true) (opH Tryd.prog G (xEq .eql 3 (.tmp 0) (.const .nilFunc) v58 (.int .i64 9)) h58) h58 fun v59 h59 =>
  opH Tryd.prog G (xPick v54 v59 (.bool false)) h59 fun v60 h60 =>
  K .ret (upd (upd (upd (upd (upd (upd (upd (upd (upd (upd (upd (upd (upd (upd (upd (upd (upd (upd (upd (upd (upd (upd (upd (upd (upd (upd (upd (upd (upd (upd (upd (upd (upd (upd (upd (upd (upd (upd (upd (upd (upd (upd (upd (upd (upd (upd (upd (upd (upd (upd (upd (upd (upd (upd (upd (upd (upd (upd (upd (upd (upd (upd (upd (upd (upd (upd (upd (upd (upd (upd (upd (upd (upd (upd (upd (upd r 0 (.bool false)) 4 v0) 5 v1) 6 v2) 7 v3) 8 v4) 9 v5) 3 v5) 10 v6) 11 v7) 1 v6) 2 v7) 12 v7) 13 v8) 14 v8) 15 v9) 16 v10) 17 v11) 18 v12) 19 v12) 20 v13) 21 v14) 22 v15) 23 v16) 24 v17) 25 v18) 26 v18) 27 v19) 28 v20) 29 v21) 30 v22) 31 v23) 32 v24) 33 v24) 34 v25) 35 v26) 36 v27) 37 v28) 38 v29) 39 v30) 40 v30) 41 v31) 42 v32) 43 v33) 44 v34) 45 v35) 46 v36) 47 v36) 48 v37) 49 v38) 50 v39) 51 v40) 52 v41) 53 v42) 54 v42) 55 v43) 56 v44) 57 v45) 58 v46) 59 v47) 60 v48) 61 v48) 62 v49) 63 v50) 64 v51) 65 v52) 66 v53) 67 v54) 68 v54) 69 v55) 70 v56) 71 v57) 72 v58) 73 v59) 74 v60) 0 v60) h60
theorem S10_eq (G : Hp) (K : Exit → Rg → Hp → Prop) (r : Rg) (h : Hp) : wpC Tryd.prog G 75 md10 true (Tryd.f10.body.getD .skip) r h K = S10 G K r h := by kernel_rfl
theorem enter10 {G : Hp} {h : Hp} {args : Array Value} {R : Value → Hp → Prop} (hn : args.size ≤ 75) (H : S10 G (retK Tryd.prog G [.tmp 0] R) (regs args) h) : HCalls Tryd.prog G 10 args h R :=
  HCalls.enter (md := md10) mixed Tryd.func10 rfl hn (by rw [← S10_eq] at H; exact H)

def md31 : Nat → Hint
  | 8 => ⟨false, [0, 0, 2, 0, 8, 31, 0, 0, 128, 0, 512, 2047, 4095, 8191], [.pureN, .pureN, .pureM, .pureN, .pureM, .eff, .pureN, .pureN, .pureM, .pureN, .pureM, .eff, .pureN, .pureN], [.pureN, .pureN, .pureM, .pureN, .pureM, .eff, .pureN, .pureN, .pureM, .pureN, .pureM, .eff, .pureN, .pureN], [false, false, false, false, false, true, false, false, false, false, false, false, false, false], false⟩
  | _ => ⟨false, [], [], [], [], false⟩
def S31_k1 (G : Hp) (K : Exit → Rg → Hp → Prop) (r : Rg) (h : Hp) : Prop :=
  pureW Tryd.prog noHp noHp (sv (Instr.fieldAt 28 (r 2) 0)) h fun v11 h11 =>
  pureW Tryd.prog G h (sv (Instr.loadAt 3 v11)) h11 fun v12 h12 =>
  pureW Tryd.prog noHp noHp (sv (Instr.fieldAt 28 (r 3) 0)) h12 fun v13 h13 =>
  pureW Tryd.prog G h (sv (Instr.loadAt 3 v13)) h13 fun v14 h14 =>
  opH Tryd.prog G (xCallV (.func (.func 57) #[] #[]) #[v12, v14]) h14 fun v15 h15 => h.le h15 ∧
  pureW Tryd.prog noHp noHp (sv (Instr.fieldAt 28 (r 2) 1)) h15 fun v16 h16 =>
  pureW Tryd.prog G h (sv (Instr.loadAt 3 v16)) h16 fun v17 h17 =>
  pureW Tryd.prog noHp noHp (sv (Instr.fieldAt 28 (r 3) 1)) h17 fun v18 h18 =>
  pureW Tryd.prog G h (sv (Instr.loadAt 3 v18)) h18 fun v19 h19 =>
  opH Tryd.prog G (xCallV (.func (.func 57) #[] #[]) #[v17, v19]) h19 fun v20 h20 =>
  pureW Tryd.prog noHp noHp (sv (binOp .add 3 v15 v20)) h20 fun v21 h21 =>
  K .ret (upd (upd (upd (upd (upd (upd (upd (upd (upd (upd (upd (upd (upd (upd (upd r 7 (.func (.func 57) #[] #[])) 24 (.func (.func 57) #[] #[])) 25 v11) 26 v12) 27 v13) 28 v14) 29 v15) 30 (.func (.func 57) #[] #[])) 31 v16) 32 v17) 33 v18) 34 v19) 35 v20) 36 v21) 4 v21) h21
def S31_l2_k4 (G : Hp) (K : Exit → Rg → Hp → Prop) (r : Rg) (h : Hp) : Prop :=
  opH Tryd.prog G (sv (binOp .add 3 (r 17) (.int .i64 1))) h fun v23 h23 =>
  K .normal (upd (upd r 23 v23) 17 v23) h23
def S31_l2_k3 (G : Hp) (K : Exit → Rg → Hp → Prop) (r : Rg) (h : Hp) : Prop :=
  opH Tryd.prog G (sv (Instr.index 94 (r 16) (r 17))) h fun v24 h24 =>
  opH Tryd.prog G (callFunc 56 #[v24, (.int .i64 (-1099511627776)), (.int .i64 1099511627776)]) h24 fun v25 h25 =>
  opH Tryd.prog G (sv (Op.unary .not v25)) h25 fun v26 h26 =>
  cond v26
  (K .ret (upd (upd (upd (upd (upd (upd r 19 v24) 6 v24) 20 v24) 21 v25) 22 v26) 4 (.int .i64 0)) h26)
  (S31_l2_k4 G K (upd (upd (upd (upd (upd r 19 v24) 6 v24) 20 v24) 21 v25) 22 v26) h26)
def S31_l2 (G : Hp) (r : Rg) (h : Hp) (K : Exit → Rg → Hp → Prop) : Prop :=
  opH Tryd.prog G (sv (binOp .lss 3 (r 17) (.int .i64 4))) h fun v22 h22 =>
  cond v22
  (S31_l2_k3 G K (upd r 18 v22) h22)
  (K (.exit 0) (upd r 18 v22) h22)
def S31 (G : Hp) (K : Exit → Rg → Hp → Prop) (r : Rg) (h : Hp) : Prop :=
  opH Tryd.prog G (sv (Instr.box 28 (r 0))) h fun v0 h0 =>
  opH Tryd.prog G (sv (Instr.box 28 (r 1))) h0 fun v1 h1 =>
  opH Tryd.prog G (sv (Instr.fieldAt 28 v0 0)) h1 fun v2 h2 =>
  opH Tryd.prog G (sv (Instr.loadAt 3 v2)) h2 fun v3 h3 =>
  opH Tryd.prog G (sv (Instr.fieldAt 28 v0 1)) h3 fun v4 h4 =>
  opH Tryd.prog G (sv (Instr.loadAt 3 v4)) h4 fun v5 h5 =>
  opH Tryd.prog G (sv (Instr.fieldAt 28 v1 0)) h5 fun v6 h6 =>
  opH Tryd.prog G (sv (Instr.loadAt 3 v6)) h6 fun v7 h7 =>
  opH Tryd.prog G (sv (Instr.fieldAt 28 v1 1)) h7 fun v8 h8 =>
  opH Tryd.prog G (sv (Instr.loadAt 3 v8)) h8 fun v9 h9 =>
  opH Tryd.prog G (sv (Instr.build 94 #[(0, v3), (1, v5), (2, v7), (3, v9)])) h9 fun v10 h10 =>
  loopP (S31_l2 G) (upd (upd (upd (upd (upd (upd (upd (upd (upd (upd (upd (upd (upd r 2 v0) 3 v1) 4 (.int .i64 0)) 8 v2) 9 v3) 10 v4) 11 v5) 12 v6) 13 v7) 14 v8) 15 v9) 16 v10) 17 (.int .i64 0)) h10 (blockK 0 (thenK (S31_k1 G K) K))
theorem S31_eq (G : Hp) (K : Exit → Rg → Hp → Prop) (r : Rg) (h : Hp) : wpC Tryd.prog G 37 md31 true (Tryd.f31.body.getD .skip) r h K = S31 G K r h := by kernel_rfl
theorem enter31 {G : Hp} {h : Hp} {args : Array Value} {R : Value → Hp → Prop} (hn : args.size ≤ 37) (H : S31 G (retK Tryd.prog G [.tmp 4] R) (regs args) h) : HCalls Tryd.prog G 31 args h R :=
  HCalls.enter (md := md31) mixed Tryd.func31 rfl hn (by rw [← S31_eq] at H; exact H)

def md57 : Nat → Hint
  | _ => ⟨false, [], [], [], [], false⟩
def S57 (G : Hp) (K : Exit → Rg → Hp → Prop) (r : Rg) (h : Hp) : Prop :=
  opH Tryd.prog G (sv (binOp .sub 3 (r 0) (r 1))) h fun v0 h0 =>
  opH Tryd.prog G (sv (binOp .sub 3 (r 1) (r 0))) h0 fun v1 h1 =>
  opH Tryd.prog G (sv (Builtin.max_ #[3, 3] 3 #[v0, v1])) h1 fun v2 h2 =>
  K .ret (upd (upd (upd (upd (upd (upd (upd (upd (upd r 4 (.int .i64 0)) 5 (r 0)) 6 (r 1)) 7 v0) 8 (r 1)) 9 (r 0)) 10 v1) 11 v2) 4 v2) h2
theorem S57_eq (G : Hp) (K : Exit → Rg → Hp → Prop) (r : Rg) (h : Hp) : wpC Tryd.prog G 12 md57 true (Tryd.f57.body.getD .skip) r h K = S57 G K r h := by kernel_rfl
theorem enter57 {G : Hp} {h : Hp} {args : Array Value} {R : Value → Hp → Prop} (hn : args.size ≤ 12) (H : S57 G (retK Tryd.prog G [.tmp 4] R) (regs args) h) : HCalls Tryd.prog G 57 args h R :=
  HCalls.enter (md := md57) mixed Tryd.func57 rfl hn (by rw [← S57_eq] at H; exact H)

def md30 : Nat → Hint
  | _ => ⟨false, [], [], [], [], false⟩
def S30 (G : Hp) (K : Exit → Rg → Hp → Prop) (r : Rg) (h : Hp) : Prop :=
  opH Tryd.prog G (sv (Instr.box 58 (r 0))) h fun v0 h0 =>
  K .ret (upd (upd (upd (upd r 1 v0) 2 .nilFunc) 3 (.func (.func 55) #[] #[v0])) 2 (.func (.func 55) #[] #[v0])) h0
theorem S30_eq (G : Hp) (K : Exit → Rg → Hp → Prop) (r : Rg) (h : Hp) : wpC Tryd.prog G 4 md30 true (Tryd.f30.body.getD .skip) r h K = S30 G K r h := by kernel_rfl
theorem enter30 {G : Hp} {h : Hp} {args : Array Value} {R : Value → Hp → Prop} (hn : args.size ≤ 4) (H : S30 G (retK Tryd.prog G [.tmp 2] R) (regs args) h) : HCalls Tryd.prog G 30 args h R :=
  HCalls.enter (md := md30) mixed Tryd.func30 rfl hn (by rw [← S30_eq] at H; exact H)

def md55 : Nat → Hint
  | 4 => ⟨false, [0, 1, 3, 7, 7, 7, 39, 103, 231, 503, 7, 7, 2055, 6151, 14343, 31751, 65527, 131071, 262143, 524287], [.pureN, .pureM, .pureN, .pureN, .pureN, .pureM, .pureN, .pureN, .pureM, .pureN, .pureN, .pureM, .pureN, .pureN, .pureM, .pureN, .pureN, .eff, .pureN, .pureN], [.pureN, .pureM, .pureN, .pureN, .pureN, .pureM, .pureN, .pureN, .pureM, .pureN, .pureN, .pureM, .pureN, .pureN, .pureM, .pureN, .pureN, .eff, .pureN, .pureN], [false, false, false, false, false, false, false, false, false, false, false, false, false, false, false, false, false, false, false, false], false⟩
  | _ => ⟨false, [], [], [], [], false⟩
def S55_l2_k4 (G : Hp) (K : Exit → Rg → Hp → Prop) (r : Rg) (h : Hp) : Prop :=
  opH Tryd.prog G (sv (binOp .add 3 (r 12) (.int .i64 1))) h fun v8 h8 =>
  K .normal (upd (upd r 37 v8) 12 v8) h8
def S55_l2_k3 (G : Hp) (K : Exit → Rg → Hp → Prop) (r : Rg) (h : Hp) : Prop :=
  opH Tryd.prog G (sv (Instr.indexAt 42 (r 10) (r 12))) h fun v9 h9 =>
  opH Tryd.prog G (sv (Instr.loadAt 3 v9)) h9 fun v10 h10 =>
  pureW Tryd.prog G h10 (xEq .eql 3 (.tmp 0) (.const .nilFunc) v10 (.int .i64 0)) h10 fun v11 h11 =>
  gd (wantB v11 true) (fun K1 => K1 (r 0) h11) h11 fun v12 h12 =>
  gd (wantB v11 true) (fun K1 => K1 (r 12) h12) h12 fun v13 h13 =>
  gd (wantB v11 true) (pureW Tryd.prog G h10 (sv (Instr.loadAt 58 (r 1))) h13) h13 fun v14 h14 =>
  gd (wantB v11 true) (pureW Tryd.prog noHp noHp (xNil v14) h14) h14 fun v15 h15 =>
  gd (wantB v11 true) (pureW Tryd.prog noHp noHp (sv (Instr.fieldAt 93 v15 0)) h15) h15 fun v16 h16 =>
  gd (wantB v11 true) (pureW Tryd.prog G h10 (sv (Instr.loadAt 3 v16)) h16) h16 fun v17 h17 =>
  gd (wantB v11 true) (pureW Tryd.prog noHp noHp (sv (binOp .rem 3 v13 v17)) h17) h17 fun v18 h18 =>
  gd (wantB v11 true) (fun K1 => K1 (r 12) h18) h18 fun v19 h19 =>
  gd (wantB v11 true) (pureW Tryd.prog G h10 (sv (Instr.loadAt 58 (r 1))) h19) h19 fun v20 h20 =>
  gd (wantB v11 true) (pureW Tryd.prog noHp noHp (xNil v20) h20) h20 fun v21 h21 =>
  gd (wantB v11 true) (pureW Tryd.prog noHp noHp (sv (Instr.fieldAt 93 v21 0)) h21) h21 fun v22 h22 =>
  gd (wantB v11 true) (pureW Tryd.prog G h10 (sv (Instr.loadAt 3 v22)) h22) h22 fun v23 h23 =>
  gd (wantB v11 true) (pureW Tryd.prog noHp noHp (sv (binOp .quo 3 v19 v23)) h23) h23 fun v24 h24 =>
  gd (wantB v11 true) (pureW Tryd.prog noHp noHp (sv (Instr.build 28 #[(0, v18), (1, v24)])) h24) h24 fun v25 h25 =>
  gd (wantB v11 true) (opH Tryd.prog G (xCallV v12 #[v25]) h25) h25 fun v26 h26 =>
  gd (wantB v11 true) (pureW Tryd.prog noHp noHp (sv (Op.unary .not v26)) h26) h26 fun v27 h27 =>
  pureW Tryd.prog noHp noHp (xPick v11 v27 (.bool false)) h27 fun v28 h28 =>
  cond v28
  (K .ret (upd (upd (upd (upd (upd (upd (upd (upd (upd (upd (upd (upd (upd (upd (upd (upd (upd (upd (upd (upd (upd (upd (upd (upd (upd r 14 (r 12)) 15 v9) 16 v10) 3 (r 12)) 4 v10) 17 v10) 18 v11) 19 v11) 20 v12) 21 v13) 22 v14) 23 v15) 24 v16) 25 v17) 26 v18) 27 v19) 28 v20) 29 v21) 30 v22) 31 v23) 32 v24) 33 v25) 34 v26) 35 v27) 36 v28) h28)
  (S55_l2_k4 G K (upd (upd (upd (upd (upd (upd (upd (upd (upd (upd (upd (upd (upd (upd (upd (upd (upd (upd (upd (upd (upd (upd (upd (upd (upd r 14 (r 12)) 15 v9) 16 v10) 3 (r 12)) 4 v10) 17 v10) 18 v11) 19 v11) 20 v12) 21 v13) 22 v14) 23 v15) 24 v16) 25 v17) 26 v18) 27 v19) 28 v20) 29 v21) 30 v22) 31 v23) 32 v24) 33 v25) 34 v26) 35 v27) 36 v28) h28)
def S55_l2 (G : Hp) (r : Rg) (h : Hp) (K : Exit → Rg → Hp → Prop) : Prop :=
  opH Tryd.prog G (sv (binOp .lss 3 (r 12) (r 11))) h fun v7 h7 =>
  cond v7
  (S55_l2_k3 G K (upd r 13 v7) h7)
  (K (.exit 0) (upd r 13 v7) h7)
def S55_k1 (G : Hp) (K : Exit → Rg → Hp → Prop) (r : Rg) (h : Hp) : Prop :=
  opH Tryd.prog G (sv (Instr.loadAt 58 (r 1))) h fun v2 h2 =>
  opH Tryd.prog G (xNil v2) h2 fun v3 h3 =>
  opH Tryd.prog G (sv (Instr.fieldAt 93 v3 2)) h3 fun v4 h4 =>
  opH Tryd.prog G (sv (Instr.loadAt 42 v4)) h4 fun v5 h5 =>
  opH Tryd.prog G (sv (Builtin.len_ #[42] 3 #[v5])) h5 fun v6 h6 =>
  loopP (S55_l2 G) (upd (upd (upd (upd (upd (upd r 7 v2) 8 v3) 9 v4) 10 v5) 11 v6) 12 (.int .i64 0)) h6 (blockK 0 K)
def S55 (G : Hp) (K : Exit → Rg → Hp → Prop) (r : Rg) (h : Hp) : Prop :=
  opH Tryd.prog G (sv (Instr.loadAt 58 (r 1))) h fun v0 h0 =>
  opH Tryd.prog G (xEq .eql 58 (.tmp 0) (.const .nilFunc) v0 (.pointer none)) h0 fun v1 h1 =>
  cond v1
  (K .ret (upd (upd r 5 v0) 6 v1) h1)
  (S55_k1 G K (upd (upd r 5 v0) 6 v1) h1)
theorem S55_eq (G : Hp) (K : Exit → Rg → Hp → Prop) (r : Rg) (h : Hp) : wpC Tryd.prog G 38 md55 true (Tryd.f55.body.getD .skip) r h K = S55 G K r h := by kernel_rfl
theorem enter55 {G : Hp} {h : Hp} {args : Array Value} {R : Value → Hp → Prop} (hn : args.size ≤ 38) (H : S55 G (retK Tryd.prog G [] R) (regs args) h) : HCalls Tryd.prog G 55 args h R :=
  HCalls.enter (md := md55) mixed Tryd.func55 rfl hn (by rw [← S55_eq] at H; exact H)

def md19 : Nat → Hint
  | _ => ⟨false, [], [], [], [], false⟩
def S19 (G : Hp) (K : Exit → Rg → Hp → Prop) (r : Rg) (h : Hp) : Prop :=
  opH Tryd.prog G (sv (Instr.box 26 (r 0))) h fun v0 h0 =>
  opH Tryd.prog G (sv (Instr.fieldAt 26 v0 0)) h0 fun v1 h1 =>
  opH Tryd.prog G (sv (Instr.loadAt 3 v1)) h1 fun v2 h2 =>
  opH Tryd.prog G (sv (binOp .leq 3 v2 (.int .i64 6))) h2 fun v3 h3 =>
  gd (wantB v3 true) (opH Tryd.prog G (sv (Instr.fieldAt 26 v0 1)) h3) h3 fun v4 h4 =>
  gd (wantB v3 true) (opH Tryd.prog G (sv (Instr.loadAt 3 v4)) h4) h4 fun v5 h5 =>
  gd (wantB v3 true) (opH Tryd.prog G (sv (binOp .leq 3 v5 (.int .i64 6))) h5) h5 fun v6 h6 =>
  opH Tryd.prog G (xPick v3 v6 (.bool false)) h6 fun v7 h7 =>
  gd (wantB v7 true) (opH Tryd.prog G (sv (Instr.fieldAt 26 v0 14)) h7) h7 fun v8 h8 =>
  gd (wantB v7 true) (opH Tryd.prog G (sv (Instr.loadAt 3 v8)) h8) h8 fun v9 h9 =>
  gd (wantB v7 true) (opH Tryd.prog G (sv (binOp .leq 3 v9 (.int .i64 4000))) h9) h9 fun v10 h10 =>
  opH Tryd.prog G (xPick v7 v10 (.bool false)) h10 fun v11 h11 =>
  gd (wantB v11 true) (opH Tryd.prog G (sv (Instr.fieldAt 26 v0 7)) h11) h11 fun v12 h12 =>
  gd (wantB v11 true) (opH Tryd.prog G (sv (Instr.loadAt 3 v12)) h12) h12 fun v13 h13 =>
  gd (wantB v11 true) (opH Tryd.prog G (sv (binOp .leq 3 v13 (.int .i64 100))) h13) h13 fun v14 h14 =>
  opH Tryd.prog G (xPick v11 v14 (.bool false)) h14 fun v15 h15 =>
  gd (wantB v15 true) (opH Tryd.prog G (sv (Instr.fieldAt 26 v0 10)) h15) h15 fun v16 h16 =>
  gd (wantB v15 true) (opH Tryd.prog G (sv (Instr.loadAt 3 v16)) h16) h16 fun v17 h17 =>
  gd (wantB v15 true) (opH Tryd.prog G (sv (binOp .leq 3 v17 (.int .i64 200))) h17) h17 fun v18 h18 =>
  opH Tryd.prog G (xPick v15 v18 (.bool false)) h18 fun v19 h19 =>
  gd (wantB v19 true) (opH Tryd.prog G (sv (Instr.fieldAt 26 v0 11)) h19) h19 fun v20 h20 =>
  gd (wantB v19 true) (opH Tryd.prog G (sv (Instr.loadAt 3 v20)) h20) h20 fun v21 h21 =>
  gd (wantB v19 true) (opH Tryd.prog G (sv (binOp .leq 3 v21 (.int .i64 200))) h21) h21 fun v22 h22 =>
  opH Tryd.prog G (xPick v19 v22 (.bool false)) h22 fun v23 h23 =>
  gd (wantB v23 true) (opH Tryd.prog G (sv (Instr.fieldAt 26 v0 5)) h23) h23 fun v24 h24 =>
  gd (wantB v23 true) (opH Tryd.prog G (sv (Instr.loadAt 23 v24)) h24) h24 fun v25 h25 =>
  gd (wantB v23 true) (opH Tryd.prog G (sv (Builtin.len_ #[23] 3 #[v25])) h25) h25 fun v26 h26 =>
  gd (wantB v23 true) (opH Tryd.prog G (sv (binOp .leq 3 v26 (.int .i64 4))) h26) h26 fun v27 h27 =>
  opH Tryd.prog G (xPick v23 v27 (.bool false)) h27 fun v28 h28 =>
  gd (wantB v28 true) (opH Tryd.prog G (sv (Instr.loadAt 26 v0)) h28) h28 fun v29 h29 =>
  gd (wantB v28 true) (opH Tryd.prog G (callFunc 14 #[v29]) h29) h29 fun v30 h30 =>
  opH Tryd.prog G (xPick v28 v30 (.bool false)) h30 fun v31 h31 =>
  K .ret (upd (upd (upd (upd (upd (upd (upd (upd (upd (upd (upd (upd (upd (upd (upd (upd (upd (upd (upd (upd (upd (upd (upd (upd (upd (upd (upd (upd (upd (upd (upd (upd (upd (upd (upd (upd (upd (upd (upd (upd (upd r 1 v0) 2 (.bool false)) 3 v1) 4 v2) 5 v3) 6 v3) 7 v4) 8 v5) 9 v6) 10 v7) 11 v7) 12 v8) 13 v9) 14 v10) 15 v11) 16 v11) 17 v12) 18 v13) 19 v14) 20 v15) 21 v15) 22 v16) 23 v17) 24 v18) 25 v19) 26 v19) 27 v20) 28 v21) 29 v22) 30 v23) 31 v23) 32 v24) 33 v25) 34 v26) 35 v27) 36 v28) 37 v28) 38 v29) 39 v30) 40 v31) 2 v31) h31
theorem S19_eq (G : Hp) (K : Exit → Rg → Hp → Prop) (r : Rg) (h : Hp) : wpC Tryd.prog G 41 md19 true (Tryd.f19.body.getD .skip) r h K = S19 G K r h := by kernel_rfl
theorem enter19 {G : Hp} {h : Hp} {args : Array Value} {R : Value → Hp → Prop} (hn : args.size ≤ 41) (H : S19 G (retK Tryd.prog G [.tmp 2] R) (regs args) h) : HCalls Tryd.prog G 19 args h R :=
  HCalls.enter (md := md19) mixed Tryd.func19 rfl hn (by rw [← S19_eq] at H; exact H)

def md24 : Nat → Hint
  | 6 => ⟨false, [0, 0, 3, 7, 0, 0, 48, 112, 255], [.pureN, .pureN, .pureN, .pureM, .pureN, .pureN, .pureN, .pureM, .pureM], [.pureN, .pureN, .pureN, .pureM, .pureN, .pureN, .pureN, .pureM, .pureM], [false, false, false, false, false, false, false, false, false], false⟩
  | _ => ⟨false, [], [], [], [], false⟩
def S24_k2 (G : Hp) (K : Exit → Rg → Hp → Prop) (r : Rg) (h : Hp) : Prop :=
  K .ret (upd r 4 (.bool true)) h
def S24_l3_k5 (G : Hp) (K : Exit → Rg → Hp → Prop) (r : Rg) (h : Hp) : Prop :=
  opH Tryd.prog G (sv (binOp .add 3 (r 5) (.int .i64 1))) h fun v5 h5 =>
  K .normal (upd (upd (upd r 15 (r 5)) 16 v5) 5 v5) h5
def S24_l3_k4 (G : Hp) (K : Exit → Rg → Hp → Prop) (r : Rg) (h : Hp) : Prop :=
  pureW Tryd.prog noHp noHp (sv (Instr.indexAt 42 (r 0) (r 5))) h fun v6 h6 =>
  pureW Tryd.prog G h (sv (Instr.loadAt 3 v6)) h6 fun v7 h7 =>
  pureW Tryd.prog noHp noHp (sv (Instr.indexAt 42 (r 1) (r 5))) h7 fun v8 h8 =>
  pureW Tryd.prog G h (sv (Instr.loadAt 3 v8)) h8 fun v9 h9 =>
  pureW Tryd.prog G h (xEq .neq 3 (.tmp 0) (.tmp 0) v7 v9) h9 fun v10 h10 =>
  cond v10
  (K .ret (upd (upd (upd (upd (upd (upd (upd (upd (upd (upd r 17 (r 0)) 18 (r 5)) 19 v6) 20 v7) 21 (r 1)) 22 (r 5)) 23 v8) 24 v9) 25 v10) 4 (.bool false)) h10)
  (S24_l3_k5 G K (upd (upd (upd (upd (upd (upd (upd (upd (upd r 17 (r 0)) 18 (r 5)) 19 v6) 20 v7) 21 (r 1)) 22 (r 5)) 23 v8) 24 v9) 25 v10) h10)
def S24_l3 (G : Hp) (r : Rg) (h : Hp) (K : Exit → Rg → Hp → Prop) : Prop :=
  opH Tryd.prog G (sv (Builtin.len_ #[42] 3 #[(r 0)])) h fun v3 h3 =>
  opH Tryd.prog G (sv (binOp .lss 3 (r 5) v3)) h3 fun v4 h4 =>
  cond v4
  (S24_l3_k4 G K (upd (upd (upd (upd r 11 (r 5)) 12 (r 0)) 13 v3) 14 v4) h4)
  (K (.exit 0) (upd (upd (upd (upd r 11 (r 5)) 12 (r 0)) 13 v3) 14 v4) h4)
def S24_k1 (G : Hp) (K : Exit → Rg → Hp → Prop) (r : Rg) (h : Hp) : Prop :=
  loopP (S24_l3 G) (upd r 5 (.int .i64 0)) h (blockK 0 (thenK (S24_k2 G K) K))
def S24 (G : Hp) (K : Exit → Rg → Hp → Prop) (r : Rg) (h : Hp) : Prop :=
  opH Tryd.prog G (sv (Builtin.len_ #[42] 3 #[(r 0)])) h fun v0 h0 =>
  opH Tryd.prog G (sv (Builtin.len_ #[42] 3 #[(r 1)])) h0 fun v1 h1 =>
  opH Tryd.prog G (xEq .neq 3 (.tmp 0) (.tmp 0) v0 v1) h1 fun v2 h2 =>
  cond v2
  (K .ret (upd (upd (upd (upd (upd (upd (upd r 4 (.bool false)) 6 (r 0)) 7 v0) 8 (r 1)) 9 v1) 10 v2) 4 (.bool false)) h2)
  (S24_k1 G K (upd (upd (upd (upd (upd (upd r 4 (.bool false)) 6 (r 0)) 7 v0) 8 (r 1)) 9 v1) 10 v2) h2)
theorem S24_eq (G : Hp) (K : Exit → Rg → Hp → Prop) (r : Rg) (h : Hp) : wpC Tryd.prog G 26 md24 true (Tryd.f24.body.getD .skip) r h K = S24 G K r h := by kernel_rfl
theorem enter24 {G : Hp} {h : Hp} {args : Array Value} {R : Value → Hp → Prop} (hn : args.size ≤ 26) (H : S24 G (retK Tryd.prog G [.tmp 4] R) (regs args) h) : HCalls Tryd.prog G 24 args h R :=
  HCalls.enter (md := md24) mixed Tryd.func24 rfl hn (by rw [← S24_eq] at H; exact H)

def md21 : Nat → Hint
  | 4 => ⟨false, [0, 0, 3, 7, 15, 0, 63], [.pureN, .pureN, .pureN, .pureN, .pureM, .pureM, .pureM], [.pureN, .pureN, .pureN, .pureN, .pureM, .pureM, .pureM], [false, false, false, false, false, false, false], false⟩
  | _ => ⟨false, [], [], [], [], false⟩
def S21_k1 (G : Hp) (K : Exit → Rg → Hp → Prop) (r : Rg) (h : Hp) : Prop :=
  K .ret (upd r 4 (.slice none 0 0)) h
def S21_l2_k4 (G : Hp) (K : Exit → Rg → Hp → Prop) (r : Rg) (h : Hp) : Prop :=
  opH Tryd.prog G (sv (binOp .add 3 (r 5) (.int .i64 1))) h fun v3 h3 =>
  K .normal (upd (upd (upd r 10 (r 5)) 11 v3) 5 v3) h3
def S21_l2_k3 (G : Hp) (K : Exit → Rg → Hp → Prop) (r : Rg) (h : Hp) : Prop :=
  pureW Tryd.prog noHp noHp (sv (Instr.indexAt 24 (r 0) (r 5))) h fun v4 h4 =>
  pureW Tryd.prog noHp noHp (sv (Instr.fieldAt 49 v4 0)) h4 fun v5 h5 =>
  pureW Tryd.prog G h (sv (Instr.loadAt 28 v5)) h5 fun v6 h6 =>
  pureW Tryd.prog G h (sv (Instr.loadAt 28 (r 3))) h6 fun v7 h7 =>
  pureW Tryd.prog G h (xEq .eql 28 (.tmp 0) (.tmp 0) v6 v7) h7 fun v8 h8 =>
  cond v8
  (opH Tryd.prog G (sv (Instr.indexAt 24 (r 0) (r 5))) h8 fun v9 h9 =>
  opH Tryd.prog G (sv (Instr.fieldAt 49 v9 1)) h9 fun v10 h10 =>
  opH Tryd.prog G (sv (Instr.loadAt 42 v10)) h10 fun v11 h11 =>
  K .ret (upd (upd (upd (upd (upd (upd (upd (upd (upd (upd (upd (upd (upd r 12 (r 0)) 13 (r 5)) 14 v4) 15 v5) 16 v6) 17 v7) 18 v8) 19 (r 0)) 20 (r 5)) 21 v9) 22 v10) 23 v11) 4 v11) h11)
  (S21_l2_k4 G K (upd (upd (upd (upd (upd (upd (upd r 12 (r 0)) 13 (r 5)) 14 v4) 15 v5) 16 v6) 17 v7) 18 v8) h8)
def S21_l2 (G : Hp) (r : Rg) (h : Hp) (K : Exit → Rg → Hp → Prop) : Prop :=
  opH Tryd.prog G (sv (Builtin.len_ #[24] 3 #[(r 0)])) h fun v1 h1 =>
  opH Tryd.prog G (sv (binOp .lss 3 (r 5) v1)) h1 fun v2 h2 =>
  cond v2
  (S21_l2_k3 G K (upd (upd (upd (upd r 6 (r 5)) 7 (r 0)) 8 v1) 9 v2) h2)
  (K (.exit 0) (upd (upd (upd (upd r 6 (r 5)) 7 (r 0)) 8 v1) 9 v2) h2)
def S21 (G : Hp) (K : Exit → Rg → Hp → Prop) (r : Rg) (h : Hp) : Prop :=
  opH Tryd.prog G (sv (Instr.box 28 (r 1))) h fun v0 h0 =>
  loopP (S21_l2 G) (upd (upd (upd r 3 v0) 4 (.slice none 0 0)) 5 (.int .i64 0)) h0 (blockK 0 (thenK (S21_k1 G K) K))
theorem S21_eq (G : Hp) (K : Exit → Rg → Hp → Prop) (r : Rg) (h : Hp) : wpC Tryd.prog G 24 md21 true (Tryd.f21.body.getD .skip) r h K = S21 G K r h := by kernel_rfl
theorem enter21 {G : Hp} {h : Hp} {args : Array Value} {R : Value → Hp → Prop} (hn : args.size ≤ 24) (H : S21 G (retK Tryd.prog G [.tmp 4] R) (regs args) h) : HCalls Tryd.prog G 21 args h R :=
  HCalls.enter (md := md21) mixed Tryd.func21 rfl hn (by rw [← S21_eq] at H; exact H)

def md22 : Nat → Hint
  | 4 => ⟨false, [0, 0, 3, 7, 15, 0, 63], [.pureN, .pureN, .pureN, .pureN, .pureM, .pureM, .pureM], [.pureN, .pureN, .pureN, .pureN, .pureM, .pureM, .pureM], [false, false, false, false, false, false, false], false⟩
  | _ => ⟨false, [], [], [], [], false⟩
def S22_k1 (G : Hp) (K : Exit → Rg → Hp → Prop) (r : Rg) (h : Hp) : Prop :=
  opH Tryd.prog G (sv (Instr.loadAt 28 (r 4))) h fun v1 h1 =>
  opH Tryd.prog G (sv (Instr.build 49 #[(0, v1), (1, (r 2))])) h1 fun v2 h2 =>
  opH Tryd.prog G (sv (Instr.buildSlice 24 1 #[(0, v2)])) h2 fun v3 h3 =>
  opH Tryd.prog G (sv (Builtin.append_ #[24, 24] 24 #[(r 0), v3])) h3 fun v4 h4 =>
  K .ret (upd (upd (upd (upd (upd (upd (upd r 27 (r 0)) 28 v1) 29 (r 2)) 30 v2) 31 v3) 32 v4) 6 v4) h4
def S22_l2_k4 (G : Hp) (K : Exit → Rg → Hp → Prop) (r : Rg) (h : Hp) : Prop :=
  opH Tryd.prog G (sv (binOp .add 3 (r 7) (.int .i64 1))) h fun v7 h7 =>
  K .normal (upd (upd (upd r 12 (r 7)) 13 v7) 7 v7) h7
def S22_l2_k3 (G : Hp) (K : Exit → Rg → Hp → Prop) (r : Rg) (h : Hp) : Prop :=
  pureW Tryd.prog noHp noHp (sv (Instr.indexAt 24 (r 0) (r 7))) h fun v8 h8 =>
  pureW Tryd.prog noHp noHp (sv (Instr.fieldAt 49 v8 0)) h8 fun v9 h9 =>
  pureW Tryd.prog G h (sv (Instr.loadAt 28 v9)) h9 fun v10 h10 =>
  pureW Tryd.prog G h (sv (Instr.loadAt 28 (r 4))) h10 fun v11 h11 =>
  pureW Tryd.prog G h (xEq .eql 28 (.tmp 0) (.tmp 0) v10 v11) h11 fun v12 h12 =>
  cond v12
  (opH Tryd.prog G (sv (Instr.indexAt 24 (r 0) (r 7))) h12 fun v13 h13 =>
  opH Tryd.prog G (sv (Instr.fieldAt 49 v13 1)) h13 fun v14 h14 =>
  opH Tryd.prog G (su (Instr.storeAt 42 v14 (r 2))) h14 fun v15 h15 =>
  K .ret (upd (upd (upd (upd (upd (upd (upd (upd (upd (upd (upd (upd (upd (upd r 14 (r 0)) 15 (r 7)) 16 v8) 17 v9) 18 v10) 19 v11) 20 v12) 21 (r 0)) 22 (r 7)) 23 (r 2)) 24 v13) 25 v14) 26 (r 0)) 6 (r 0)) h15)
  (S22_l2_k4 G K (upd (upd (upd (upd (upd (upd (upd r 14 (r 0)) 15 (r 7)) 16 v8) 17 v9) 18 v10) 19 v11) 20 v12) h12)
def S22_l2 (G : Hp) (r : Rg) (h : Hp) (K : Exit → Rg → Hp → Prop) : Prop :=
  opH Tryd.prog G (sv (Builtin.len_ #[24] 3 #[(r 0)])) h fun v5 h5 =>
  opH Tryd.prog G (sv (binOp .lss 3 (r 7) v5)) h5 fun v6 h6 =>
  cond v6
  (S22_l2_k3 G K (upd (upd (upd (upd r 8 (r 7)) 9 (r 0)) 10 v5) 11 v6) h6)
  (K (.exit 0) (upd (upd (upd (upd r 8 (r 7)) 9 (r 0)) 10 v5) 11 v6) h6)
def S22 (G : Hp) (K : Exit → Rg → Hp → Prop) (r : Rg) (h : Hp) : Prop :=
  opH Tryd.prog G (sv (Instr.box 28 (r 1))) h fun v0 h0 =>
  loopP (S22_l2 G) (upd (upd (upd r 4 v0) 6 (.slice none 0 0)) 7 (.int .i64 0)) h0 (blockK 0 (thenK (S22_k1 G K) K))
theorem S22_eq (G : Hp) (K : Exit → Rg → Hp → Prop) (r : Rg) (h : Hp) : wpC Tryd.prog G 33 md22 true (Tryd.f22.body.getD .skip) r h K = S22 G K r h := by kernel_rfl
theorem enter22 {G : Hp} {h : Hp} {args : Array Value} {R : Value → Hp → Prop} (hn : args.size ≤ 33) (H : S22 G (retK Tryd.prog G [.tmp 6] R) (regs args) h) : HCalls Tryd.prog G 22 args h R :=
  HCalls.enter (md := md22) mixed Tryd.func22 rfl hn (by rw [← S22_eq] at H; exact H)

def md12 : Nat → Hint
  | 4 => ⟨false, [0, 1, 3, 7, 0, 31, 63], [.pureN, .pureN, .pureN, .pureM, .pureM, .eff, .pureN], [.pureN, .pureN, .pureN, .pureM, .pureM, .eff, .pureN], [false, false, false, false, false, false, false], false⟩
  | 18 => ⟨false, [0, 1, 3, 7, 0, 31, 63, 31, 159, 511], [.pureN, .pureN, .pureN, .pureM, .pureM, .pureM, .pureN, .eff, .pureN, .eff], [.pureN, .pureN, .pureN, .pureM, .pureM, .pureM, .pureN, .eff, .pureN, .eff], [false, false, false, false, false, false, false, true, false, false, true], true⟩
  | _ => ⟨false, [], [], [], [], false⟩
def S12_k5 (G : Hp) (K : Exit → Rg → Hp → Prop) (r : Rg) (h : Hp) : Prop :=
  K .ret (upd (upd (upd r 108 (r 23)) 10 (r 23)) 11 (.int .i64 0)) h
def S12_k4 (G : Hp) (K : Exit → Rg → Hp → Prop) (r : Rg) (h : Hp) : Prop :=
  opH Tryd.prog G (sv (Instr.loadAt 28 (r 14))) h fun v20 h20 =>
  opH Tryd.prog G (sv (Instr.loadAt 28 (r 9))) h20 fun v21 h21 =>
  opH Tryd.prog G (sv (Instr.build 45 #[(1, (.int .i64 2)), (3, (r 3)), (4, v20), (5, v21), (6, (.int .i64 (-1)))])) h21 fun v22 h22 =>
  opH Tryd.prog G (sv (Instr.buildSlice 31 1 #[(0, v22)])) h22 fun v23 h23 =>
  opH Tryd.prog G (sv (Builtin.append_ #[31, 31] 31 #[(r 17), v23])) h23 fun v24 h24 =>
  opH Tryd.prog G (sv (Instr.fieldAt 26 (r 5) 15)) h24 fun v25 h25 =>
  opH Tryd.prog G (sv (Instr.loadAt 4 v25)) h25 fun v26 h26 =>
  cond v26
  (opH Tryd.prog G (callFunc 38 #[(r 18)]) h26 fun v27 h27 =>
  opH Tryd.prog G (sv (Builtin.append_ #[31, 31] 31 #[v24, (r 18)])) h27 fun v28 h28 =>
  S12_k5 G K (upd (upd (upd (upd (upd (upd (upd (upd (upd (upd (upd (upd (upd (upd (upd (upd r 94 (r 17)) 95 (r 3)) 96 v20) 97 v21) 98 v22) 99 v23) 100 v24) 23 v24) 101 v25) 102 v26) 103 (r 18)) 104 v27) 105 v24) 106 (r 18)) 107 v28) 23 v28) h28)
  (S12_k5 G K (upd (upd (upd (upd (upd (upd (upd (upd (upd (upd r 94 (r 17)) 95 (r 3)) 96 v20) 97 v21) 98 v22) 99 v23) 100 v24) 23 v24) 101 v25) 102 v26) h26)
def S12_l6_k8 (G : Hp) (K : Exit → Rg → Hp → Prop) (r : Rg) (h : Hp) : Prop :=
  opH Tryd.prog G (sv (binOp .add 3 (r 58) (.int .i64 1))) h fun v30 h30 =>
  K .normal (upd (upd r 93 v30) 58 v30) h30
def S12_l6_k9 (G : Hp) (K : Exit → Rg → Hp → Prop) (r : Rg) (h : Hp) : Prop :=
  ∃ (q40 : Hp) (Rd : Sem Next → Prop), q40.le h ∧
  pureW Tryd.prog noHp noHp (xNil (r 12)) h fun v41 h41 =>
  pureW Tryd.prog noHp noHp (sv (Instr.fieldAt 74 v41 2)) h41 fun v42 h42 =>
  Rd (sv (Instr.loadAt 72 v42)) ∧ pureW Tryd.prog G q40 (sv (Instr.loadAt 72 v42)) h42 fun v43 h43 =>
  Rd (sv (Instr.loadAt 28 (r 21))) ∧ pureW Tryd.prog G q40 (sv (Instr.loadAt 28 (r 21))) h43 fun v44 h44 =>
  Rd (sv (Instr.lookup 72 v43 v44 false)) ∧ pureW Tryd.prog G q40 (sv (Instr.lookup 72 v43 v44 false)) h44 fun v45 h45 =>
  pureW Tryd.prog noHp noHp (sv (binOp .add 3 v45 (.int .i64 1))) h45 fun v46 h46 =>
  opH Tryd.prog G (sv (Instr.mapEntry 72 v43 v44)) h46 fun v47 h47 => Kp Tryd.prog G q40 Rd h47 ∧
  pureW Tryd.prog noHp noHp (sv (Instr.extract v47 1)) h47 fun v48 h48 =>
  opH Tryd.prog G (su (Instr.entryStore 72 v43 v48 v46)) h48 fun v49 h49 =>
  opH Tryd.prog G (sv (Instr.loadAt 28 (r 14))) h49 fun v50 h50 =>
  opH Tryd.prog G (sv (Instr.loadAt 28 (r 21))) h50 fun v51 h51 =>
  opH Tryd.prog G (sv (Instr.build 45 #[(1, (.int .i64 1)), (3, (r 20)), (4, v50), (5, v51), (6, (.int .i64 (-1)))])) h51 fun v52 h52 =>
  opH Tryd.prog G (sv (Instr.buildSlice 31 1 #[(0, v52)])) h52 fun v53 h53 =>
  opH Tryd.prog G (sv (Builtin.append_ #[31, 31] 31 #[(r 17), v53])) h53 fun v54 h54 =>
  opH Tryd.prog G (sv (Instr.loadAt 28 (r 21))) h54 fun v55 h55 =>
  opH Tryd.prog G (sv (Instr.loadAt 28 (r 14))) h55 fun v56 h56 =>
  opH Tryd.prog G (sv (Instr.build 45 #[(1, (.int .i64 3)), (3, (r 20)), (4, v55), (5, v56), (6, (.int .i64 (-1)))])) h56 fun v57 h57 =>
  opH Tryd.prog G (sv (Instr.buildSlice 31 1 #[(0, v57)])) h57 fun v58 h58 =>
  opH Tryd.prog G (sv (Builtin.append_ #[31, 31] 31 #[(r 18), v58])) h58 fun v59 h59 =>
  S12_l6_k8 G K (upd (upd (upd (upd (upd (upd (upd (upd (upd (upd (upd (upd (upd (upd (upd (upd (upd (upd (upd (upd (upd (upd (upd (upd (upd r 70 (r 12)) 71 v41) 72 v42) 73 v43) 74 v44) 75 v45) 76 v46) 77 v47) 78 v48) 79 (r 17)) 80 (r 20)) 81 v50) 82 v51) 83 v52) 84 v53) 85 v54) 17 v54) 86 (r 18)) 87 (r 20)) 88 v55) 89 v56) 90 v57) 91 v58) 92 v59) 18 v59) h59
def S12_l6_k7 (G : Hp) (K : Exit → Rg → Hp → Prop) (r : Rg) (h : Hp) : Prop :=
  opH Tryd.prog G (sv (Instr.indexAt 42 (r 56) (r 58))) h fun v31 h31 =>
  opH Tryd.prog G (sv (Instr.loadAt 3 v31)) h31 fun v32 h32 =>
  opH Tryd.prog G (sv (Instr.loadAt 28 (r 14))) h32 fun v33 h33 =>
  opH Tryd.prog G (callFunc 37 #[(r 12), v33]) h33 fun v34 h34 =>
  opH Tryd.prog G (sv (Instr.extract v34 0)) h34 fun v35 h35 =>
  opH Tryd.prog G (sv (Instr.extract v34 1)) h35 fun v36 h36 =>
  opH Tryd.prog G (sv (Instr.alloc 28 true (.tuple #[]))) h36 fun v37 h37 =>
  opH Tryd.prog G (su (Instr.storeAt 28 v37 v35)) h37 fun v38 h38 =>
  opH Tryd.prog G (sv (Op.unary .not v36)) h38 fun v39 h39 =>
  cond v39
  (K .ret (upd (upd (upd (upd (upd (upd (upd (upd (upd (upd (upd (upd (upd (upd (upd r 60 v31) 61 v32) 20 v32) 63 (r 12)) 64 v33) 65 v34) 62 v34) 66 v35) 67 v36) 21 v37) 22 v36) 68 v36) 69 v39) 10 (.slice none 0 0)) 11 (.int .i64 14)) h39)
  (S12_l6_k9 G K (upd (upd (upd (upd (upd (upd (upd (upd (upd (upd (upd (upd (upd r 60 v31) 61 v32) 20 v32) 63 (r 12)) 64 v33) 65 v34) 62 v34) 66 v35) 67 v36) 21 v37) 22 v36) 68 v36) 69 v39) h39)
def S12_l6 (G : Hp) (r : Rg) (h : Hp) (K : Exit → Rg → Hp → Prop) : Prop :=
  opH Tryd.prog G (sv (binOp .lss 3 (r 58) (r 57))) h fun v29 h29 =>
  cond v29
  (S12_l6_k7 G K (upd r 59 v29) h29)
  (K (.exit 1) (upd r 59 v29) h29)
def S12_k3 (G : Hp) (K : Exit → Rg → Hp → Prop) (r : Rg) (h : Hp) : Prop :=
  opH Tryd.prog G (sv (Builtin.len_ #[42] 3 #[(r 15)])) h fun v19 h19 =>
  loopP (S12_l6 G) (upd (upd (upd (upd (upd r 17 (.slice none 0 0)) 18 (.slice none 0 0)) 56 (r 15)) 57 v19) 58 (.int .i64 0)) h19 (blockK 1 (thenK (S12_k4 G K) K))
def S12_k2 (G : Hp) (K : Exit → Rg → Hp → Prop) (r : Rg) (h : Hp) : Prop :=
  opH Tryd.prog G (callFunc 35 #[(r 12), (r 1), (r 3)]) h fun v13 h13 =>
  opH Tryd.prog G (sv (Instr.extract v13 0)) h13 fun v14 h14 =>
  opH Tryd.prog G (sv (Instr.extract v13 1)) h14 fun v15 h15 =>
  opH Tryd.prog G (sv (Instr.extract v13 2)) h15 fun v16 h16 =>
  opH Tryd.prog G (sv (Instr.alloc 28 true (.tuple #[]))) h16 fun v17 h17 =>
  opH Tryd.prog G (su (Instr.storeAt 28 v17 v14)) h17 fun v18 h18 =>
  opH Tryd.prog G (sv (Op.unary .not v16)) h18 fun v60 h60 =>
  cond v60
  (K .ret (upd (upd (upd (upd (upd (upd (upd (upd (upd (upd (upd (upd (upd (upd (upd (upd r 42 (r 12)) 43 (r 1)) 44 (r 3)) 45 v13) 41 v13) 46 v14) 47 v15) 48 v16) 14 v17) 15 v15) 16 v16) 50 v16) 51 v60) 49 v60) 10 (.slice none 0 0)) 11 (.int .i64 9)) h60)
  (opH Tryd.prog G (sv (Instr.loadAt 28 v17)) h60 fun v61 h61 =>
  opH Tryd.prog G (callFunc 36 #[(r 2), v61]) h61 fun v62 h62 =>
  cond v62
  (K .ret (upd (upd (upd (upd (upd (upd (upd (upd (upd (upd (upd (upd (upd (upd (upd (upd (upd (upd (upd (upd r 42 (r 12)) 43 (r 1)) 44 (r 3)) 45 v13) 41 v13) 46 v14) 47 v15) 48 v16) 14 v17) 15 v15) 16 v16) 50 v16) 51 v60) 49 v60) 53 (r 2)) 54 v61) 55 v62) 52 v62) 10 (.slice none 0 0)) 11 (.int .i64 8)) h62)
  (S12_k3 G K (upd (upd (upd (upd (upd (upd (upd (upd (upd (upd (upd (upd (upd (upd (upd (upd (upd (upd r 42 (r 12)) 43 (r 1)) 44 (r 3)) 45 v13) 41 v13) 46 v14) 47 v15) 48 v16) 14 v17) 15 v15) 16 v16) 50 v16) 51 v60) 49 v60) 53 (r 2)) 54 v61) 55 v62) 52 v62) h62))
def S12_k1 (G : Hp) (K : Exit → Rg → Hp → Prop) (r : Rg) (h : Hp) : Prop :=
  pureW Tryd.prog noHp noHp (xNil (r 12)) h fun v7 h7 =>
  pureW Tryd.prog noHp noHp (sv (Instr.fieldAt 74 v7 1)) h7 fun v8 h8 =>
  pureW Tryd.prog G h (sv (Instr.loadAt 58 v8)) h8 fun v9 h9 =>
  pureW Tryd.prog G h (sv (Instr.loadAt 28 (r 9))) h9 fun v10 h10 =>
  opH Tryd.prog G (callFunc 34 #[v9, v10]) h10 fun v11 h11 =>
  pureW Tryd.prog noHp noHp (sv (binOp .lss 3 v11 (.int .i64 0))) h11 fun v12 h12 =>
  cond v12
  (K .ret (upd (upd (upd (upd (upd (upd (upd (upd (upd r 34 (r 12)) 35 v7) 36 v8) 37 v9) 38 v10) 39 v11) 40 v12) 10 (.slice none 0 0)) 11 (.int .i64 10)) h12)
  (S12_k2 G K (upd (upd (upd (upd (upd (upd (upd r 34 (r 12)) 35 v7) 36 v8) 37 v9) 38 v10) 39 v11) 40 v12) h12)
def S12 (G : Hp) (K : Exit → Rg → Hp → Prop) (r : Rg) (h : Hp) : Prop :=
  opH Tryd.prog G (sv (Instr.box 26 (r 0))) h fun v0 h0 =>
  opH Tryd.prog G (sv (Instr.box 28 (r 4))) h0 fun v1 h1 =>
  opH Tryd.prog G (sv (Instr.loadAt 26 v0)) h1 fun v2 h2 =>
  opH Tryd.prog G (callFunc 33 #[v2, (r 1), (r 2)]) h2 fun v3 h3 =>
  opH Tryd.prog G (sv (Instr.extract v3 0)) h3 fun v4 h4 =>
  opH Tryd.prog G (sv (Instr.extract v3 1)) h4 fun v5 h5 =>
  opH Tryd.prog G (xEq .neq 32 (.tmp 0) (.const .nilFunc) v5 (.int .i64 0)) h5 fun v6 h6 =>
  cond v6
  (K .ret (upd (upd (upd (upd (upd (upd (upd (upd (upd (upd (upd (upd (upd (upd (upd (upd (upd (upd r 5 v0) 9 v1) 10 (.slice none 0 0)) 11 (.int .i64 0)) 25 v2) 26 (r 1)) 27 (r 2)) 28 v3) 24 v3) 29 v4) 30 v5) 12 v4) 13 v5) 31 v5) 32 v6) 33 v5) 10 (.slice none 0 0)) 11 v5) h6)
  (S12_k1 G K (upd (upd (upd (upd (upd (upd (upd (upd (upd (upd (upd (upd (upd (upd (upd r 5 v0) 9 v1) 10 (.slice none 0 0)) 11 (.int .i64 0)) 25 v2) 26 (r 1)) 27 (r 2)) 28 v3) 24 v3) 29 v4) 30 v5) 12 v4) 13 v5) 31 v5) 32 v6) h6)
theorem S12_eq (G : Hp) (K : Exit → Rg → Hp → Prop) (r : Rg) (h : Hp) : wpC Tryd.prog G 109 md12 true (Tryd.f12.body.getD .skip) r h K = S12 G K r h := by kernel_rfl
theorem enter12 {G : Hp} {h : Hp} {args : Array Value} {R : Value → Hp → Prop} (hn : args.size ≤ 109) (H : S12 G (retK Tryd.prog G [.tmp 10, .tmp 11] R) (regs args) h) : HCalls Tryd.prog G 12 args h R :=
  HCalls.enter (md := md12) mixed Tryd.func12 rfl hn (by rw [← S12_eq] at H; exact H)

def md33 : Nat → Hint
  | 8 => ⟨false, [0, 1, 3, 7, 0, 16, 63, 127, 255, 255, 511, 2047], [.pureN, .pureN, .pureN, .pureM, .pureN, .pureM, .pureM, .pureN, .pureN, .pureN, .pureN, .pureN], [.pureN, .pureN, .pureN, .pureM, .pureN, .pureM, .pureM, .pureN, .pureN, .pureN, .pureN, .pureN], [false, false, false, false, false, false, false, false, false, false, false, false], false⟩
  | 10 => ⟨false, [0, 1, 3, 7, 0, 16, 0, 64, 192, 511], [.pureN, .pureN, .pureN, .pureM, .pureN, .pureM, .pureN, .pureM, .pureM, .eff], [.pureN, .pureN, .pureN, .pureM, .pureN, .pureM, .pureN, .pureM, .pureM, .eff], [false, false, false, false, false, false, false, false, false, false], false⟩
  | _ => ⟨false, [], [], [], [], false⟩
def S33_k2 (G : Hp) (K : Exit → Rg → Hp → Prop) (r : Rg) (h : Hp) : Prop :=
  K .ret (upd (upd (upd r 57 (r 10)) 6 (r 10)) 7 (.int .i64 0)) h
def S33_l3_k5 (G : Hp) (K : Exit → Rg → Hp → Prop) (r : Rg) (h : Hp) : Prop :=
  opH Tryd.prog G (sv (binOp .add 3 (r 31) (.int .i64 1))) h fun v12 h12 =>
  K .normal (upd (upd r 56 v12) 31 v12) h12
def S33_l3_k4 (G : Hp) (K : Exit → Rg → Hp → Prop) (r : Rg) (h : Hp) : Prop :=
  opH Tryd.prog G (sv (Instr.indexAt 24 (r 29) (r 31))) h fun v13 h13 =>
  opH Tryd.prog G (sv (Instr.loadAt 49 v13)) h13 fun v14 h14 =>
  opH Tryd.prog G (sv (Instr.alloc 49 true (.tuple #[]))) h14 fun v15 h15 =>
  opH Tryd.prog G (su (Instr.storeAt 49 v15 v14)) h15 fun v16 h16 =>
  pureW Tryd.prog noHp noHp (xNil (r 10)) h16 fun v17 h17 =>
  pureW Tryd.prog noHp noHp (sv (Instr.fieldAt 74 v17 2)) h17 fun v18 h18 =>
  pureW Tryd.prog G h16 (sv (Instr.loadAt 72 v18)) h18 fun v19 h19 =>
  pureW Tryd.prog noHp noHp (sv (Instr.fieldAt 49 v15 0)) h19 fun v20 h20 =>
  pureW Tryd.prog G h16 (sv (Instr.loadAt 28 v20)) h20 fun v21 h21 =>
  pureW Tryd.prog G h16 (sv (Instr.lookup 72 v19 v21 true)) h21 fun v22 h22 =>
  pureW Tryd.prog noHp noHp (sv (Instr.extract v22 0)) h22 fun v23 h23 =>
  pureW Tryd.prog noHp noHp (sv (Instr.extract v22 1)) h23 fun v24 h24 =>
  opH Tryd.prog G (sv (Op.unary .not v24)) h24 fun v25 h25 =>
  cond v25
  (pureW Tryd.prog noHp noHp (xNil (r 10)) h25 fun v26 h26 =>
  pureW Tryd.prog noHp noHp (sv (Instr.fieldAt 74 v26 2)) h26 fun v27 h27 =>
  pureW Tryd.prog G h25 (sv (Instr.loadAt 72 v27)) h27 fun v28 h28 =>
  pureW Tryd.prog noHp noHp (sv (Instr.fieldAt 49 v15 0)) h28 fun v29 h29 =>
  pureW Tryd.prog G h25 (sv (Instr.loadAt 28 v29)) h29 fun v30 h30 =>
  pureW Tryd.prog noHp noHp (sv (Instr.fieldAt 49 v15 1)) h30 fun v31 h31 =>
  pureW Tryd.prog G h25 (sv (Instr.loadAt 42 v31)) h31 fun v32 h32 =>
  pureW Tryd.prog G h25 (sv (Builtin.len_ #[42] 3 #[v32])) h32 fun v33 h33 =>
  opH Tryd.prog G (su (Instr.mapUpdate 72 v28 v30 v33)) h33 fun v34 h34 =>
  S33_l3_k5 G K (upd (upd (upd (upd (upd (upd (upd (upd (upd (upd (upd (upd (upd (upd (upd (upd (upd (upd (upd (upd (upd (upd (upd (upd (upd (upd r 33 v13) 34 v14) 12 v15) 36 (r 10)) 37 v17) 38 v18) 39 v19) 40 v20) 41 v21) 42 v22) 35 v22) 43 v23) 44 v24) 13 v23) 14 v24) 45 v24) 46 v25) 47 (r 10)) 48 v26) 49 v27) 50 v28) 51 v29) 52 v30) 53 v31) 54 v32) 55 v33) h34)
  (S33_l3_k5 G K (upd (upd (upd (upd (upd (upd (upd (upd (upd (upd (upd (upd (upd (upd (upd (upd (upd r 33 v13) 34 v14) 12 v15) 36 (r 10)) 37 v17) 38 v18) 39 v19) 40 v20) 41 v21) 42 v22) 35 v22) 43 v23) 44 v24) 13 v23) 14 v24) 45 v24) 46 v25) h25)
def S33_l3 (G : Hp) (r : Rg) (h : Hp) (K : Exit → Rg → Hp → Prop) : Prop :=
  opH Tryd.prog G (sv (binOp .lss 3 (r 31) (r 30))) h fun v11 h11 =>
  cond v11
  (S33_l3_k4 G K (upd r 32 v11) h11)
  (K (.exit 0) (upd r 32 v11) h11)
def S33_k1 (G : Hp) (K : Exit → Rg → Hp → Prop) (r : Rg) (h : Hp) : Prop :=
  opH Tryd.prog G (sv (Instr.loadAt 26 (r 3))) h fun v6 h6 =>
  opH Tryd.prog G (sv (Instr.makeMap 72 none)) h6 fun v7 h7 =>
  opH Tryd.prog G (sv (Instr.build 74 #[(0, v6), (1, (r 8)), (2, v7), (3, (r 2))])) h7 fun v8 h8 =>
  opH Tryd.prog G (sv (Instr.box 74 v8)) h8 fun v9 h9 =>
  opH Tryd.prog G (sv (Builtin.len_ #[24] 3 #[(r 1)])) h9 fun v10 h10 =>
  loopP (S33_l3 G) (upd (upd (upd (upd (upd (upd (upd (upd (upd (upd r 23 v6) 24 (r 8)) 25 v7) 26 (r 2)) 27 v8) 28 v9) 10 v9) 29 (r 1)) 30 v10) 31 (.int .i64 0)) h10 (blockK 0 (thenK (S33_k2 G K) K))
def S33 (G : Hp) (K : Exit → Rg → Hp → Prop) (r : Rg) (h : Hp) : Prop :=
  opH Tryd.prog G (sv (Instr.box 26 (r 0))) h fun v0 h0 =>
  opH Tryd.prog G (sv (Instr.loadAt 26 v0)) h0 fun v1 h1 =>
  opH Tryd.prog G (callFunc 28 #[v1]) h1 fun v2 h2 =>
  opH Tryd.prog G (sv (Instr.extract v2 0)) h2 fun v3 h3 =>
  opH Tryd.prog G (sv (Instr.extract v2 1)) h3 fun v4 h4 =>
  opH Tryd.prog G (xEq .neq 32 (.tmp 0) (.const .nilFunc) v4 (.int .i64 0)) h4 fun v5 h5 =>
  cond v5
  (K .ret (upd (upd (upd (upd (upd (upd (upd (upd (upd (upd (upd (upd (upd (upd (upd r 3 v0) 6 (.pointer none)) 7 (.int .i64 0)) 16 v1) 17 v2) 15 v2) 18 v3) 19 v4) 8 v3) 9 v4) 20 v4) 21 v5) 22 v4) 6 (.pointer none)) 7 v4) h5)
  (S33_k1 G K (upd (upd (upd (upd (upd (upd (upd (upd (upd (upd (upd (upd r 3 v0) 6 (.pointer none)) 7 (.int .i64 0)) 16 v1) 17 v2) 15 v2) 18 v3) 19 v4) 8 v3) 9 v4) 20 v4) 21 v5) h5)
theorem S33_eq (G : Hp) (K : Exit → Rg → Hp → Prop) (r : Rg) (h : Hp) : wpC Tryd.prog G 58 md33 true (Tryd.f33.body.getD .skip) r h K = S33 G K r h := by kernel_rfl
theorem enter33 {G : Hp} {h : Hp} {args : Array Value} {R : Value → Hp → Prop} (hn : args.size ≤ 58) (H : S33 G (retK Tryd.prog G [.tmp 6, .tmp 7] R) (regs args) h) : HCalls Tryd.prog G 33 args h R :=
  HCalls.enter (md := md33) mixed Tryd.func33 rfl hn (by rw [← S33_eq] at H; exact H)

def md35 : Nat → Hint
  | 5 => ⟨false, [0, 0, 3, 7, 15, 0, 63, 127], [.pureM, .pureN, .pureN, .pureN, .pureM, .pureM, .eff, .pureN], [.pureM, .pureN, .pureN, .pureN, .pureM, .pureM, .eff, .pureN], [false, false, false, false, false, false, false, false], false⟩
  | _ => ⟨false, [], [], [], [], false⟩
def S35_k1 (G : Hp) (K : Exit → Rg → Hp → Prop) (r : Rg) (h : Hp) : Prop :=
  opH Tryd.prog G (sv (Instr.build 28 #[])) h fun v9 h9 =>
  opH Tryd.prog G (su (Instr.storeAt 28 (r 6) v9)) h9 fun v10 h10 =>
  opH Tryd.prog G (su (Instr.storeAt 42 (r 7) (.slice none 0 0))) h10 fun v11 h11 =>
  opH Tryd.prog G (su (Instr.storeAt 4 (r 8) (.bool false))) h11 fun v12 h12 =>
  K .ret (upd r 46 v9) h12
def S35_b2_k4 (G : Hp) (K : Exit → Rg → Hp → Prop) (r : Rg) (h : Hp) : Prop :=
  opH Tryd.prog G (sv (Instr.loadAt 24 (r 4))) h fun v25 h25 =>
  opH Tryd.prog G (sv (Instr.indexAt 24 v25 (r 10))) h25 fun v26 h26 =>
  opH Tryd.prog G (sv (Instr.fieldAt 49 v26 1)) h26 fun v27 h27 =>
  opH Tryd.prog G (sv (Instr.loadAt 42 v27)) h27 fun v28 h28 =>
  opH Tryd.prog G (sv (binOp .add 3 (r 11) (.int .i64 1))) h28 fun v29 h29 =>
  opH Tryd.prog G (sv (Instr.sliceAt 42 v28 (some v29) none none)) h29 fun v30 h30 =>
  opH Tryd.prog G (callFunc 62 #[v30]) h30 fun v31 h31 =>
  opH Tryd.prog G (callFunc 63 #[v31]) h31 fun v32 h32 =>
  opH Tryd.prog G (sv (Instr.loadAt 28 (r 9))) h32 fun v33 h33 =>
  opH Tryd.prog G (su (Instr.storeAt 28 (r 6) v33)) h33 fun v34 h34 =>
  opH Tryd.prog G (su (Instr.storeAt 42 (r 7) v31)) h34 fun v35 h35 =>
  opH Tryd.prog G (su (Instr.storeAt 4 (r 8) (.bool true))) h35 fun v36 h36 =>
  K .ret (upd (upd (upd (upd (upd (upd (upd (upd (upd (upd (upd (upd (upd (upd r 33 v25) 34 (r 10)) 35 v26) 36 v27) 37 v28) 38 (r 11)) 39 v29) 40 v30) 41 v31) 12 v31) 42 v31) 43 v32) 44 v33) 45 v31) h36
def S35_b2_k3 (G : Hp) (K : Exit → Rg → Hp → Prop) (r : Rg) (h : Hp) : Prop :=
  pureW Tryd.prog G h (sv (Instr.loadAt 24 (r 4))) h fun v18 h18 =>
  pureW Tryd.prog noHp noHp (sv (Instr.indexAt 24 v18 (r 10))) h18 fun v19 h19 =>
  pureW Tryd.prog noHp noHp (sv (Instr.fieldAt 49 v19 1)) h19 fun v20 h20 =>
  pureW Tryd.prog G h (sv (Instr.loadAt 42 v20)) h20 fun v21 h21 =>
  pureW Tryd.prog G h (sv (Instr.loadAt 3 (r 5))) h21 fun v22 h22 =>
  opH Tryd.prog G (callFunc 61 #[v21, v22]) h22 fun v23 h23 =>
  opH Tryd.prog G (sv (binOp .lss 3 v23 (.int .i64 0))) h23 fun v24 h24 =>
  cond v24
  (K .normal (upd (upd (upd (upd (upd (upd (upd (upd (upd (upd r 24 v18) 25 (r 10)) 26 v19) 27 v20) 28 v21) 29 v22) 30 v23) 11 v23) 31 v23) 32 v24) h24)
  (S35_b2_k4 G K (upd (upd (upd (upd (upd (upd (upd (upd (upd (upd r 24 v18) 25 (r 10)) 26 v19) 27 v20) 28 v21) 29 v22) 30 v23) 11 v23) 31 v23) 32 v24) h24)
def S35_a2 (G : Hp) (r : Rg) (h : Hp) (K : Exit → Rg → Hp → Prop) : Prop :=
  opH Tryd.prog G (sv (Instr.alloc 28 true (.tuple #[]))) h fun v13 h13 =>
  opH Tryd.prog G (su (Instr.storeAt 28 v13 (r 18))) h13 fun v14 h14 =>
  K .normal (upd r 9 v13) h14
def S35_b2 (G : Hp) (r : Rg) (h : Hp) (K : Exit → Rg → Hp → Prop) : Prop :=
  opH Tryd.prog G (sv (Instr.loadAt 24 (r 4))) h fun v15 h15 =>
  opH Tryd.prog G (callFunc 59 #[v15, (.func (.func 60) #[] #[(r 9)])]) h15 fun v16 h16 =>
  opH Tryd.prog G (sv (binOp .lss 3 v16 (.int .i64 0))) h16 fun v17 h17 =>
  cond v17
  (K .normal (upd (upd (upd (upd (upd (upd r 19 v15) 20 (.func (.func 60) #[] #[(r 9)])) 21 v16) 10 v16) 22 v16) 23 v17) h17)
  (S35_b2_k3 G K (upd (upd (upd (upd (upd (upd r 19 v15) 20 (.func (.func 60) #[] #[(r 9)])) 21 v16) 10 v16) 22 v16) 23 v17) h17)
def S35 (G : Hp) (K : Exit → Rg → Hp → Prop) (r : Rg) (h : Hp) : Prop :=
  opH Tryd.prog G (sv (Instr.box 24 (r 1))) h fun v0 h0 =>
  opH Tryd.prog G (sv (Instr.box 3 (r 2))) h0 fun v1 h1 =>
  opH Tryd.prog G (sv (Instr.alloc 28 true (.tuple #[]))) h1 fun v2 h2 =>
  opH Tryd.prog G (sv (Instr.alloc 42 true (.tuple #[]))) h2 fun v3 h3 =>
  opH Tryd.prog G (sv (Instr.alloc 4 true (.tuple #[]))) h3 fun v4 h4 =>
  opH Tryd.prog G (xNil (r 0)) h4 fun v5 h5 =>
  opH Tryd.prog G (sv (Instr.fieldAt 74 v5 1)) h5 fun v6 h6 =>
  opH Tryd.prog G (sv (Instr.loadAt 58 v6)) h6 fun v7 h7 =>
  opH Tryd.prog G (callFunc 30 #[v7]) h7 fun v8 h8 =>
  RangeW Tryd.prog G 1 (S35_a2 G) (S35_b2 G) (setR 47 #[18]) v8 (upd (upd (upd (upd (upd (upd (upd (upd (upd (upd r 4 v0) 5 v1) 6 v2) 7 v3) 8 v4) 13 (r 0)) 14 v5) 15 v6) 16 v7) 17 v8) h8 (blockK 0 (thenK (S35_k1 G K) K))
theorem S35_eq (G : Hp) (K : Exit → Rg → Hp → Prop) (r : Rg) (h : Hp) : wpC Tryd.prog G 47 md35 true (Tryd.f35.body.getD .skip) r h K = S35 G K r h := by kernel_rfl
theorem enter35 {G : Hp} {h : Hp} {args : Array Value} {R : Value → Hp → Prop} (hn : args.size ≤ 47) (H : S35 G (retK Tryd.prog G [.cell 6 28, .cell 7 42, .cell 8 4] R) (regs args) h) : HCalls Tryd.prog G 35 args h R :=
  HCalls.enter (md := md35) mixed Tryd.func35 rfl hn (by rw [← S35_eq] at H; exact H)

def md37 : Nat → Hint
  | 4 => ⟨false, [0, 0, 3, 7, 15, 31, 63, 127, 15, 511, 15, 1039, 3087, 7183, 15375, 32767, 65535, 131071, 262143, 524287, 1048575, 2097151, 262143, 8388607, 16777215], [.pureM, .pureM, .pureM, .pureN, .pureM, .pureN, .pureN, .pureM, .pureM, .pureM, .pureM, .pureN, .pureN, .pureN, .pureM, .pureN, .pureN, .pureN, .pureM, .pureN, .pureN, .pureM, .pureM, .eff, .pureN], [.pureM, .pureM, .pureM, .pureN, .pureM, .pureN, .pureN, .pureM, .pureM, .pureM, .pureM, .pureN, .pureN, .pureN, .pureM, .pureN, .pureN, .pureN, .pureM, .pureN, .pureN, .pureM, .pureM, .eff, .pureN], [false, false, false, false, false, false, false, false, false, false, false, false, false, false, false, false, false, false, false, false, false, false, false, false, false], false⟩
  | 5 => ⟨false, [0, 1, 3, 7, 7, 31, 7, 7, 255, 511, 1023], [.pureM, .pureN, .pureN, .pureM, .pureM, .eff, .pureM, .pureM, .eff, .pureN, .pureN], [.pureM, .pureN, .pureN, .pureM, .pureM, .eff, .pureM, .pureM, .eff, .pureN, .pureN], [false, false, false, false, false, true, false, false, false, false, false], true⟩
  | 7 => ⟨false, [0, 0, 1, 7], [.pureM, .pureM, .store, .pureN], [.pureM, .pureM, .store, .pureN], [false, false, true, false], true⟩
  | _ => ⟨false, [], [], [], [], false⟩
def S37_k1 (G : Hp) (K : Exit → Rg → Hp → Prop) (r : Rg) (h : Hp) : Prop :=
  ∃ q13 : Hp, q13.le h ∧
  pureW Tryd.prog G q13 (sv (Instr.loadAt 28 (r 6))) h fun v14 h14 =>
  pureW Tryd.prog G q13 (sv (Instr.loadAt 4 (r 7))) h14 fun v15 h15 =>
  opH Tryd.prog G (su (Instr.storeAt 28 (r 4) v14)) h15 fun v16 h16 => q13.le h16 ∧
  K .ret (upd (upd (upd r 53 v14) 54 v15) 5 v15) h16
def S37_b2_k3 (G : Hp) (K : Exit → Rg → Hp → Prop) (r : Rg) (h : Hp) : Prop :=
  ∃ q42 : Hp, q42.le h ∧
  pureW Tryd.prog G q42 (sv (Instr.loadAt 4 (r 7))) h fun v43 h43 =>
  pureW Tryd.prog noHp noHp (sv (Op.unary .not v43)) h43 fun v44 h44 =>
  gd (wantB v44 false) (pureW Tryd.prog G q42 (sv (Instr.loadAt 28 (r 3))) h44) h44 fun v45 h45 =>
  gd (wantB v44 false) (pureW Tryd.prog G q42 (sv (Instr.loadAt 28 (r 8))) h45) h45 fun v46 h46 =>
  gd (wantB v44 false) (fun K1 => opH Tryd.prog G (callFunc 31 #[v45, v46]) h46 fun v h' => q42.le h' ∧ K1 v h') h46 fun v47 h47 =>
  gd (wantB v44 false) (pureW Tryd.prog G q42 (sv (Instr.loadAt 28 (r 3))) h47) h47 fun v48 h48 =>
  gd (wantB v44 false) (pureW Tryd.prog G q42 (sv (Instr.loadAt 28 (r 6))) h48) h48 fun v49 h49 =>
  gd (wantB v44 false) (opH Tryd.prog G (callFunc 31 #[v48, v49]) h49) h49 fun v50 h50 =>
  gd (wantB v44 false) (pureW Tryd.prog noHp noHp (sv (binOp .lss 3 v47 v50)) h50) h50 fun v51 h51 =>
  pureW Tryd.prog noHp noHp (xPick v44 (.bool true) v51) h51 fun v52 h52 =>
  cond v52
  (opH Tryd.prog G (sv (Instr.loadAt 28 (r 8))) h52 fun v53 h53 =>
  opH Tryd.prog G (su (Instr.storeAt 28 (r 6) v53)) h53 fun v54 h54 =>
  opH Tryd.prog G (su (Instr.storeAt 4 (r 7) (.bool true))) h54 fun v55 h55 =>
  K .normal (upd (upd (upd (upd (upd (upd (upd (upd (upd (upd (upd (upd r 41 v43) 42 v44) 43 v44) 44 v45) 45 v46) 46 v47) 47 v48) 48 v49) 49 v50) 50 v51) 51 v52) 52 v53) h55)
  (K .normal (upd (upd (upd (upd (upd (upd (upd (upd (upd (upd (upd r 41 v43) 42 v44) 43 v44) 44 v45) 45 v46) 46 v47) 47 v48) 48 v49) 49 v50) 50 v51) 51 v52) h52)
def S37_a2 (G : Hp) (r : Rg) (h : Hp) (K : Exit → Rg → Hp → Prop) : Prop :=
  opH Tryd.prog G (sv (Instr.alloc 28 true (.tuple #[]))) h fun v17 h17 =>
  opH Tryd.prog G (su (Instr.storeAt 28 v17 (r 15))) h17 fun v18 h18 =>
  K .normal (upd r 8 v17) h18
def S37_b2 (G : Hp) (r : Rg) (h : Hp) (K : Exit → Rg → Hp → Prop) : Prop :=
  pureW Tryd.prog G h (sv (Instr.loadAt 28 (r 8))) h fun v19 h19 =>
  pureW Tryd.prog G h (sv (Instr.loadAt 28 (r 3))) h19 fun v20 h20 =>
  pureW Tryd.prog G h (xEq .eql 28 (.tmp 0) (.tmp 0) v19 v20) h20 fun v21 h21 =>
  gd (wantB v21 false) (pureW Tryd.prog G h (sv (Instr.loadAt 69 (r 2))) h21) h21 fun v22 h22 =>
  gd (wantB v21 false) (pureW Tryd.prog noHp noHp (xNil v22) h22) h22 fun v23 h23 =>
  gd (wantB v21 false) (pureW Tryd.prog noHp noHp (sv (Instr.fieldAt 74 v23 2)) h23) h23 fun v24 h24 =>
  gd (wantB v21 false) (pureW Tryd.prog G h (sv (Instr.loadAt 72 v24)) h24) h24 fun v25 h25 =>
  gd (wantB v21 false) (pureW Tryd.prog G h (sv (Instr.loadAt 28 (r 8))) h25) h25 fun v26 h26 =>
  gd (wantB v21 false) (pureW Tryd.prog G h (sv (Instr.lookup 72 v25 v26 false)) h26) h26 fun v27 h27 =>
  gd (wantB v21 false) (pureW Tryd.prog G h (sv (Instr.loadAt 69 (r 2))) h27) h27 fun v28 h28 =>
  gd (wantB v21 false) (pureW Tryd.prog noHp noHp (xNil v28) h28) h28 fun v29 h29 =>
  gd (wantB v21 false) (pureW Tryd.prog noHp noHp (sv (Instr.fieldAt 74 v29 0)) h29) h29 fun v30 h30 =>
  gd (wantB v21 false) (pureW Tryd.prog noHp noHp (sv (Instr.fieldAt 26 v30 2)) h30) h30 fun v31 h31 =>
  gd (wantB v21 false) (pureW Tryd.prog G h (sv (Instr.loadAt 3 v31)) h31) h31 fun v32 h32 =>
  gd (wantB v21 false) (pureW Tryd.prog noHp noHp (sv (binOp .geq 3 v27 v32)) h32) h32 fun v33 h33 =>
  pureW Tryd.prog noHp noHp (xPick v21 (.bool true) v33) h33 fun v34 h34 =>
  gd (wantB v34 false) (pureW Tryd.prog G h (sv (Instr.loadAt 69 (r 2))) h34) h34 fun v35 h35 =>
  gd (wantB v34 false) (pureW Tryd.prog noHp noHp (xNil v35) h35) h35 fun v36 h36 =>
  gd (wantB v34 false) (pureW Tryd.prog noHp noHp (sv (Instr.fieldAt 74 v36 3)) h36) h36 fun v37 h37 =>
  gd (wantB v34 false) (pureW Tryd.prog G h (sv (Instr.loadAt 22 v37)) h37) h37 fun v38 h38 =>
  gd (wantB v34 false) (pureW Tryd.prog G h (sv (Instr.loadAt 28 (r 8))) h38) h38 fun v39 h39 =>
  gd (wantB v34 false) (opH Tryd.prog G (callFunc 36 #[v38, v39]) h39) h39 fun v40 h40 =>
  pureW Tryd.prog noHp noHp (xPick v34 (.bool true) v40) h40 fun v41 h41 =>
  cond v41
  (K .normal (upd (upd (upd (upd (upd (upd (upd (upd (upd (upd (upd (upd (upd (upd (upd (upd (upd (upd (upd (upd (upd (upd (upd (upd (upd r 16 v19) 17 v20) 18 v21) 19 v21) 20 v22) 21 v23) 22 v24) 23 v25) 24 v26) 25 v27) 26 v28) 27 v29) 28 v30) 29 v31) 30 v32) 31 v33) 32 v34) 33 v34) 34 v35) 35 v36) 36 v37) 37 v38) 38 v39) 39 v40) 40 v41) h41)
  (S37_b2_k3 G K (upd (upd (upd (upd (upd (upd (upd (upd (upd (upd (upd (upd (upd (upd (upd (upd (upd (upd (upd (upd (upd (upd (upd (upd (upd r 16 v19) 17 v20) 18 v21) 19 v21) 20 v22) 21 v23) 22 v24) 23 v25) 24 v26) 25 v27) 26 v28) 27 v29) 28 v30) 29 v31) 30 v32) 31 v33) 32 v34) 33 v34) 34 v35) 35 v36) 36 v37) 37 v38) 38 v39) 39 v40) 40 v41) h41)
def S37 (G : Hp) (K : Exit → Rg → Hp → Prop) (r : Rg) (h : Hp) : Prop :=
  opH Tryd.prog G (sv (Instr.box 69 (r 0))) h fun v0 h0 =>
  opH Tryd.prog G (sv (Instr.box 28 (r 1))) h0 fun v1 h1 =>
  opH Tryd.prog G (sv (Instr.alloc 28 true (.tuple #[]))) h1 fun v2 h2 =>
  opH Tryd.prog G (sv (Instr.build 28 #[])) h2 fun v3 h3 =>
  opH Tryd.prog G (sv (Instr.alloc 28 true (.tuple #[]))) h3 fun v4 h4 =>
  opH Tryd.prog G (sv (Instr.alloc 4 true (.tuple #[]))) h4 fun v5 h5 =>
  opH Tryd.prog G (su (Instr.storeAt 28 v4 v3)) h5 fun v6 h6 =>
  opH Tryd.prog G (su (Instr.storeAt 4 v5 (.bool false))) h6 fun v7 h7 =>
  opH Tryd.prog G (sv (Instr.loadAt 69 v0)) h7 fun v8 h8 =>
  opH Tryd.prog G (xNil v8) h8 fun v9 h9 =>
  opH Tryd.prog G (sv (Instr.fieldAt 74 v9 1)) h9 fun v10 h10 =>
  opH Tryd.prog G (sv (Instr.loadAt 58 v10)) h10 fun v11 h11 =>
  opH Tryd.prog G (callFunc 30 #[v11]) h11 fun v12 h12 =>
  RangeW Tryd.prog G 1 (S37_a2 G) (S37_b2 G) (setR 55 #[15]) v12 (upd (upd (upd (upd (upd (upd (upd (upd (upd (upd (upd (upd r 2 v0) 3 v1) 4 v2) 5 (.bool false)) 9 v3) 6 v4) 7 v5) 10 v8) 11 v9) 12 v10) 13 v11) 14 v12) h12 (blockK 0 (thenK (S37_k1 G K) (scopeK K)))
theorem S37_eq (G : Hp) (K : Exit → Rg → Hp → Prop) (r : Rg) (h : Hp) : wpC Tryd.prog G 55 md37 true (Tryd.f37.body.getD .skip) r h K = S37 G K r h := by kernel_rfl
theorem enter37 {G : Hp} {h : Hp} {args : Array Value} {R : Value → Hp → Prop} (hn : args.size ≤ 55) (H : S37 G (retK Tryd.prog G [.cell 4 28, .tmp 5] R) (regs args) h) : HCalls Tryd.prog G 37 args h R :=
  HCalls.enter (md := md37) mixed Tryd.func37 rfl hn (by rw [← S37_eq] at H; exact H)

def md60 : Nat → Hint
  | _ => ⟨false, [], [], [], [], false⟩
def S60 (G : Hp) (K : Exit → Rg → Hp → Prop) (r : Rg) (h : Hp) : Prop :=
  opH Tryd.prog G (sv (Instr.box 49 (r 0))) h fun v0 h0 =>
  opH Tryd.prog G (sv (Instr.fieldAt 49 v0 0)) h0 fun v1 h1 =>
  opH Tryd.prog G (sv (Instr.loadAt 28 v1)) h1 fun v2 h2 =>
  opH Tryd.prog G (sv (Instr.loadAt 28 (r 1))) h2 fun v3 h3 =>
  opH Tryd.prog G (xEq .eql 28 (.tmp 0) (.tmp 0) v2 v3) h3 fun v4 h4 =>
  K .ret (upd (upd (upd (upd (upd (upd (upd r 2 v0) 3 (.bool false)) 4 v1) 5 v2) 6 v3) 7 v4) 3 v4) h4
theorem S60_eq (G : Hp) (K : Exit → Rg → Hp → Prop) (r : Rg) (h : Hp) : wpC Tryd.prog G 8 md60 true (Tryd.f60.body.getD .skip) r h K = S60 G K r h := by kernel_rfl
theorem enter60 {G : Hp} {h : Hp} {args : Array Value} {R : Value → Hp → Prop} (hn : args.size ≤ 8) (H : S60 G (retK Tryd.prog G [.tmp 3] R) (regs args) h) : HCalls Tryd.prog G 60 args h R :=
  HCalls.enter (md := md60) mixed Tryd.func60 rfl hn (by rw [← S60_eq] at H; exact H)

def md59 : Nat → Hint
  | _ => ⟨false, [], [], [], [], false⟩
def S59_k1 (G : Hp) (K : Exit → Rg → Hp → Prop) (r : Rg) (h : Hp) : Prop :=
  K .ret (upd r 4 (.int .i64 (-1))) h
def S59_l2_k4 (G : Hp) (K : Exit → Rg → Hp → Prop) (r : Rg) (h : Hp) : Prop :=
  opH Tryd.prog G (sv (binOp .add 3 (r 8) (.int .i64 1))) h fun v2 h2 =>
  K .normal (upd (upd r 18 v2) 8 v2) h2
def S59_l2_k3 (G : Hp) (K : Exit → Rg → Hp → Prop) (r : Rg) (h : Hp) : Prop :=
  opH Tryd.prog G (sv (Instr.indexAt 24 (r 0) (r 8))) h fun v3 h3 =>
  opH Tryd.prog G (sv (Instr.loadAt 49 v3)) h3 fun v4 h4 =>
  opH Tryd.prog G (xCallV (r 1) #[v4]) h4 fun v5 h5 =>
  cond v5
  (K .ret (upd (upd (upd (upd (upd (upd (upd (upd (upd (upd r 10 (r 8)) 5 (r 8)) 11 (r 1)) 12 (r 0)) 13 (r 8)) 14 v3) 15 v4) 16 v5) 17 (r 8)) 4 (r 8)) h5)
  (S59_l2_k4 G K (upd (upd (upd (upd (upd (upd (upd (upd r 10 (r 8)) 5 (r 8)) 11 (r 1)) 12 (r 0)) 13 (r 8)) 14 v3) 15 v4) 16 v5) h5)
def S59_l2 (G : Hp) (r : Rg) (h : Hp) (K : Exit → Rg → Hp → Prop) : Prop :=
  opH Tryd.prog G (sv (binOp .lss 3 (r 8) (r 7))) h fun v1 h1 =>
  cond v1
  (S59_l2_k3 G K (upd r 9 v1) h1)
  (K (.exit 0) (upd r 9 v1) h1)
def S59 (G : Hp) (K : Exit → Rg → Hp → Prop) (r : Rg) (h : Hp) : Prop :=
  opH Tryd.prog G (sv (Builtin.len_ #[24] 3 #[(r 0)])) h fun v0 h0 =>
  loopP (S59_l2 G) (upd (upd (upd (upd r 4 (.int .i64 0)) 6 (r 0)) 7 v0) 8 (.int .i64 0)) h0 (blockK 0 (thenK (S59_k1 G K) K))
theorem S59_eq (G : Hp) (K : Exit → Rg → Hp → Prop) (r : Rg) (h : Hp) : wpC Tryd.prog G 19 md59 true (Tryd.f59.body.getD .skip) r h K = S59 G K r h := by kernel_rfl
theorem enter59 {G : Hp} {h : Hp} {args : Array Value} {R : Value → Hp → Prop} (hn : args.size ≤ 19) (H : S59 G (retK Tryd.prog G [.tmp 4] R) (regs args) h) : HCalls Tryd.prog G 59 args h R :=
  HCalls.enter (md := md59) mixed Tryd.func59 rfl hn (by rw [← S59_eq] at H; exact H)

def md61 : Nat → Hint
  | _ => ⟨false, [], [], [], [], false⟩
def S61_k1 (G : Hp) (K : Exit → Rg → Hp → Prop) (r : Rg) (h : Hp) : Prop :=
  K .ret (upd r 4 (.int .i64 (-1))) h
def S61_l2_k4 (G : Hp) (K : Exit → Rg → Hp → Prop) (r : Rg) (h : Hp) : Prop :=
  opH Tryd.prog G (sv (binOp .add 3 (r 8) (.int .i64 1))) h fun v2 h2 =>
  K .normal (upd (upd r 18 v2) 8 v2) h2
def S61_l2_k3 (G : Hp) (K : Exit → Rg → Hp → Prop) (r : Rg) (h : Hp) : Prop :=
  opH Tryd.prog G (sv (Instr.indexAt 42 (r 0) (r 8))) h fun v3 h3 =>
  opH Tryd.prog G (sv (Instr.loadAt 3 v3)) h3 fun v4 h4 =>
  opH Tryd.prog G (xEq .eql 3 (.tmp 0) (.tmp 0) (r 1) v4) h4 fun v5 h5 =>
  cond v5
  (K .ret (upd (upd (upd (upd (upd (upd (upd (upd (upd (upd r 10 (r 8)) 5 (r 8)) 11 (r 1)) 12 (r 0)) 13 (r 8)) 14 v3) 15 v4) 16 v5) 17 (r 8)) 4 (r 8)) h5)
  (S61_l2_k4 G K (upd (upd (upd (upd (upd (upd (upd (upd r 10 (r 8)) 5 (r 8)) 11 (r 1)) 12 (r 0)) 13 (r 8)) 14 v3) 15 v4) 16 v5) h5)
def S61_l2 (G : Hp) (r : Rg) (h : Hp) (K : Exit → Rg → Hp → Prop) : Prop :=
  opH Tryd.prog G (sv (binOp .lss 3 (r 8) (r 7))) h fun v1 h1 =>
  cond v1
  (S61_l2_k3 G K (upd r 9 v1) h1)
  (K (.exit 0) (upd r 9 v1) h1)
def S61 (G : Hp) (K : Exit → Rg → Hp → Prop) (r : Rg) (h : Hp) : Prop :=
  opH Tryd.prog G (sv (Builtin.len_ #[42] 3 #[(r 0)])) h fun v0 h0 =>
  loopP (S61_l2 G) (upd (upd (upd (upd r 4 (.int .i64 0)) 6 (r 0)) 7 v0) 8 (.int .i64 0)) h0 (blockK 0 (thenK (S61_k1 G K) K))
theorem S61_eq (G : Hp) (K : Exit → Rg → Hp → Prop) (r : Rg) (h : Hp) : wpC Tryd.prog G 19 md61 true (Tryd.f61.body.getD .skip) r h K = S61 G K r h := by kernel_rfl
theorem enter61 {G : Hp} {h : Hp} {args : Array Value} {R : Value → Hp → Prop} (hn : args.size ≤ 19) (H : S61 G (retK Tryd.prog G [.tmp 4] R) (regs args) h) : HCalls Tryd.prog G 61 args h R :=
  HCalls.enter (md := md61) mixed Tryd.func61 rfl hn (by rw [← S61_eq] at H; exact H)

def md64 : Nat → Hint
  | 4 => ⟨false, [0, 0, 0, 6, 14, 31], [.pureM, .pureN, .pureN, .pureN, .pureM, .pureM], [.pureM, .pureN, .pureN, .pureN, .pureM, .pureM], [false, false, false, false, false, false], false⟩
  | _ => ⟨false, [], [], [], [], false⟩
def S64_k1 (G : Hp) (K : Exit → Rg → Hp → Prop) (r : Rg) (h : Hp) : Prop :=
  K .ret (upd r 4 (.int .i64 (-1))) h
def S64_l2_k4 (G : Hp) (K : Exit → Rg → Hp → Prop) (r : Rg) (h : Hp) : Prop :=
  opH Tryd.prog G (sv (binOp .add 3 (r 8) (.int .i64 1))) h fun v3 h3 =>
  K .normal (upd (upd r 18 v3) 8 v3) h3
def S64_l2_k3 (G : Hp) (K : Exit → Rg → Hp → Prop) (r : Rg) (h : Hp) : Prop :=
  pureW Tryd.prog G h (sv (Instr.loadAt 28 (r 3))) h fun v4 h4 =>
  pureW Tryd.prog noHp noHp (sv (Instr.indexAt 22 (r 0) (r 8))) h4 fun v5 h5 =>
  pureW Tryd.prog G h (sv (Instr.loadAt 28 v5)) h5 fun v6 h6 =>
  pureW Tryd.prog G h (xEq .eql 28 (.tmp 0) (.tmp 0) v4 v6) h6 fun v7 h7 =>
  cond v7
  (K .ret (upd (upd (upd (upd (upd (upd (upd (upd (upd (upd r 10 (r 8)) 5 (r 8)) 11 v4) 12 (r 0)) 13 (r 8)) 14 v5) 15 v6) 16 v7) 17 (r 8)) 4 (r 8)) h7)
  (S64_l2_k4 G K (upd (upd (upd (upd (upd (upd (upd (upd r 10 (r 8)) 5 (r 8)) 11 v4) 12 (r 0)) 13 (r 8)) 14 v5) 15 v6) 16 v7) h7)
def S64_l2 (G : Hp) (r : Rg) (h : Hp) (K : Exit → Rg → Hp → Prop) : Prop :=
  opH Tryd.prog G (sv (binOp .lss 3 (r 8) (r 7))) h fun v2 h2 =>
  cond v2
  (S64_l2_k3 G K (upd r 9 v2) h2)
  (K (.exit 0) (upd r 9 v2) h2)
def S64 (G : Hp) (K : Exit → Rg → Hp → Prop) (r : Rg) (h : Hp) : Prop :=
  opH Tryd.prog G (sv (Instr.box 28 (r 1))) h fun v0 h0 =>
  opH Tryd.prog G (sv (Builtin.len_ #[22] 3 #[(r 0)])) h0 fun v1 h1 =>
  loopP (S64_l2 G) (upd (upd (upd (upd (upd r 3 v0) 4 (.int .i64 0)) 6 (r 0)) 7 v1) 8 (.int .i64 0)) h1 (blockK 0 (thenK (S64_k1 G K) K))
theorem S64_eq (G : Hp) (K : Exit → Rg → Hp → Prop) (r : Rg) (h : Hp) : wpC Tryd.prog G 19 md64 true (Tryd.f64.body.getD .skip) r h K = S64 G K r h := by kernel_rfl
theorem enter64 {G : Hp} {h : Hp} {args : Array Value} {R : Value → Hp → Prop} (hn : args.size ≤ 19) (H : S64 G (retK Tryd.prog G [.tmp 4] R) (regs args) h) : HCalls Tryd.prog G 64 args h R :=
  HCalls.enter (md := md64) mixed Tryd.func64 rfl hn (by rw [← S64_eq] at H; exact H)

def md36 : Nat → Hint
  | _ => ⟨false, [], [], [], [], false⟩
def S36 (G : Hp) (K : Exit → Rg → Hp → Prop) (r : Rg) (h : Hp) : Prop :=
  opH Tryd.prog G (sv (Instr.box 28 (r 1))) h fun v0 h0 =>
  opH Tryd.prog G (sv (Instr.loadAt 28 v0)) h0 fun v1 h1 =>
  opH Tryd.prog G (callFunc 64 #[(r 0), v1]) h1 fun v2 h2 =>
  opH Tryd.prog G (sv (binOp .geq 3 v2 (.int .i64 0))) h2 fun v3 h3 =>
  K .ret (upd (upd (upd (upd (upd (upd (upd r 3 v0) 4 (.bool false)) 5 (r 0)) 6 v1) 7 v2) 8 v3) 4 v3) h3
theorem S36_eq (G : Hp) (K : Exit → Rg → Hp → Prop) (r : Rg) (h : Hp) : wpC Tryd.prog G 9 md36 true (Tryd.f36.body.getD .skip) r h K = S36 G K r h := by kernel_rfl
theorem enter36 {G : Hp} {h : Hp} {args : Array Value} {R : Value → Hp → Prop} (hn : args.size ≤ 9) (H : S36 G (retK Tryd.prog G [.tmp 4] R) (regs args) h) : HCalls Tryd.prog G 36 args h R :=
  HCalls.enter (md := md36) mixed Tryd.func36 rfl hn (by rw [← S36_eq] at H; exact H)

def md62 : Nat → Hint
  | _ => ⟨false, [], [], [], [], false⟩
def S62_k1 (G : Hp) (K : Exit → Rg → Hp → Prop) (r : Rg) (h : Hp) : Prop :=
  opH Tryd.prog G (sv (Instr.buildSlice 42 0 #[])) h fun v1 h1 =>
  opH Tryd.prog G (sv (Builtin.append_ #[42, 42] 42 #[v1, (r 0)])) h1 fun v2 h2 =>
  K .ret (upd (upd (upd (upd r 5 v1) 6 (r 0)) 7 v2) 2 v2) h2
def S62 (G : Hp) (K : Exit → Rg → Hp → Prop) (r : Rg) (h : Hp) : Prop :=
  opH Tryd.prog G (xEq .eql 42 (.tmp 0) (.const .nilFunc) (r 0) (.slice none 0 0)) h fun v0 h0 =>
  cond v0
  (K .ret (upd (upd (upd (upd r 2 (.slice none 0 0)) 3 (r 0)) 4 v0) 2 (.slice none 0 0)) h0)
  (S62_k1 G K (upd (upd (upd r 2 (.slice none 0 0)) 3 (r 0)) 4 v0) h0)
theorem S62_eq (G : Hp) (K : Exit → Rg → Hp → Prop) (r : Rg) (h : Hp) : wpC Tryd.prog G 8 md62 true (Tryd.f62.body.getD .skip) r h K = S62 G K r h := by kernel_rfl
theorem enter62 {G : Hp} {h : Hp} {args : Array Value} {R : Value → Hp → Prop} (hn : args.size ≤ 8) (H : S62 G (retK Tryd.prog G [.tmp 2] R) (regs args) h) : HCalls Tryd.prog G 62 args h R :=
  HCalls.enter (md := md62) mixed Tryd.func62 rfl hn (by rw [← S62_eq] at H; exact H)

def md38 : Nat → Hint
  | 3 => ⟨false, [0, 0, 0, 0, 0, 0, 48, 112, 0, 0, 768, 1792, 4083, 8179, 16383, 32767], [.pureN, .pureN, .pureN, .pureN, .pureN, .pureN, .pureN, .pureM, .pureN, .pureN, .pureN, .pureM, .pureN, .store, .pureN, .store], [.pureN, .pureN, .pureN, .pureN, .pureN, .pureN, .pureN, .pureM, .pureN, .pureN, .pureN, .pureM, .pureN, .store, .pureN, .store], [false, false, false, false, false, false, false, false, false, false, false, false, false, false, false, false], false⟩
  | _ => ⟨false, [], [], [], [], false⟩
def S38_l1_k3 (G : Hp) (K : Exit → Rg → Hp → Prop) (r : Rg) (h : Hp) : Prop :=
  opH Tryd.prog G (sv (binOp .add 3 (r 2) (.int .i64 1))) h fun v3 h3 =>
  opH Tryd.prog G (sv (binOp .sub 3 (r 3) (.int .i64 1))) h3 fun v4 h4 =>
  K .normal (upd (upd (upd (upd (upd (upd r 10 (r 2)) 11 v3) 12 (r 3)) 13 v4) 2 v3) 3 v4) h4
def S38_l1_k2 (G : Hp) (K : Exit → Rg → Hp → Prop) (r : Rg) (h : Hp) : Prop :=
  pureW Tryd.prog noHp noHp (sv (Instr.indexAt 31 (r 0) (r 3))) h fun v5 h5 =>
  pureW Tryd.prog G h (sv (Instr.loadAt 45 v5)) h5 fun v6 h6 =>
  pureW Tryd.prog noHp noHp (sv (Instr.indexAt 31 (r 0) (r 2))) h6 fun v7 h7 =>
  pureW Tryd.prog G h (sv (Instr.loadAt 45 v7)) h7 fun v8 h8 =>
  pureW Tryd.prog noHp noHp (sv (Instr.indexAt 31 (r 0) (r 2))) h8 fun v9 h9 =>
  opH Tryd.prog G (su (Instr.storeAt 45 v9 v6)) h9 fun v10 h10 =>
  pureW Tryd.prog noHp noHp (sv (Instr.indexAt 31 (r 0) (r 3))) h10 fun v11 h11 =>
  opH Tryd.prog G (su (Instr.storeAt 45 v11 v8)) h11 fun v12 h12 =>
  S38_l1_k3 G K (upd (upd (upd (upd (upd (upd (upd (upd (upd (upd (upd (upd (upd (upd r 14 (r 0)) 15 (r 2)) 16 (r 0)) 17 (r 3)) 18 (r 0)) 19 (r 3)) 20 v5) 21 v6) 22 (r 0)) 23 (r 2)) 24 v7) 25 v8) 26 v9) 27 v11) h12
def S38_l1 (G : Hp) (r : Rg) (h : Hp) (K : Exit → Rg → Hp → Prop) : Prop :=
  opH Tryd.prog G (sv (binOp .lss 3 (r 2) (r 3))) h fun v2 h2 =>
  cond v2
  (S38_l1_k2 G K (upd (upd (upd r 7 (r 2)) 8 (r 3)) 9 v2) h2)
  (K (.exit 0) (upd (upd (upd r 7 (r 2)) 8 (r 3)) 9 v2) h2)
def S38 (G : Hp) (K : Exit → Rg → Hp → Prop) (r : Rg) (h : Hp) : Prop :=
  opH Tryd.prog G (sv (Builtin.len_ #[31] 3 #[(r 0)])) h fun v0 h0 =>
  opH Tryd.prog G (sv (binOp .sub 3 v0 (.int .i64 1))) h0 fun v1 h1 =>
  loopP (S38_l1 G) (upd (upd (upd (upd (upd r 4 (r 0)) 5 v0) 6 v1) 2 (.int .i64 0)) 3 v1) h1 (blockK 0 K)
theorem S38_eq (G : Hp) (K : Exit → Rg → Hp → Prop) (r : Rg) (h : Hp) : wpC Tryd.prog G 28 md38 true (Tryd.f38.body.getD .skip) r h K = S38 G K r h := by kernel_rfl
theorem enter38 {G : Hp} {h : Hp} {args : Array Value} {R : Value → Hp → Prop} (hn : args.size ≤ 28) (H : S38 G (retK Tryd.prog G [] R) (regs args) h) : HCalls Tryd.prog G 38 args h R :=
  HCalls.enter (md := md38) mixed Tryd.func38 rfl hn (by rw [← S38_eq] at H; exact H)

def md63 : Nat → Hint
  | 3 => ⟨false, [0, 0, 0, 0, 0, 0, 48, 112, 0, 0, 768, 1792, 4083, 8179, 16383, 32767], [.pureN, .pureN, .pureN, .pureN, .pureN, .pureN, .pureN, .pureM, .pureN, .pureN, .pureN, .pureM, .pureN, .store, .pureN, .store], [.pureN, .pureN, .pureN, .pureN, .pureN, .pureN, .pureN, .pureM, .pureN, .pureN, .pureN, .pureM, .pureN, .store, .pureN, .store], [false, false, false, false, false, false, false, false, false, false, false, false, false, false, false, false], false⟩
  | _ => ⟨false, [], [], [], [], false⟩
def S63_l1_k3 (G : Hp) (K : Exit → Rg → Hp → Prop) (r : Rg) (h : Hp) : Prop :=
  opH Tryd.prog G (sv (binOp .add 3 (r 2) (.int .i64 1))) h fun v3 h3 =>
  opH Tryd.prog G (sv (binOp .sub 3 (r 3) (.int .i64 1))) h3 fun v4 h4 =>
  K .normal (upd (upd (upd (upd (upd (upd r 10 (r 2)) 11 v3) 12 (r 3)) 13 v4) 2 v3) 3 v4) h4
def S63_l1_k2 (G : Hp) (K : Exit → Rg → Hp → Prop) (r : Rg) (h : Hp) : Prop :=
  pureW Tryd.prog noHp noHp (sv (Instr.indexAt 42 (r 0) (r 3))) h fun v5 h5 =>
  pureW Tryd.prog G h (sv (Instr.loadAt 3 v5)) h5 fun v6 h6 =>
  pureW Tryd.prog noHp noHp (sv (Instr.indexAt 42 (r 0) (r 2))) h6 fun v7 h7 =>
  pureW Tryd.prog G h (sv (Instr.loadAt 3 v7)) h7 fun v8 h8 =>
  pureW Tryd.prog noHp noHp (sv (Instr.indexAt 42 (r 0) (r 2))) h8 fun v9 h9 =>
  opH Tryd.prog G (su (Instr.storeAt 3 v9 v6)) h9 fun v10 h10 =>
  pureW Tryd.prog noHp noHp (sv (Instr.indexAt 42 (r 0) (r 3))) h10 fun v11 h11 =>
  opH Tryd.prog G (su (Instr.storeAt 3 v11 v8)) h11 fun v12 h12 =>
  S63_l1_k3 G K (upd (upd (upd (upd (upd (upd (upd (upd (upd (upd (upd (upd (upd (upd r 14 (r 0)) 15 (r 2)) 16 (r 0)) 17 (r 3)) 18 (r 0)) 19 (r 3)) 20 v5) 21 v6) 22 (r 0)) 23 (r 2)) 24 v7) 25 v8) 26 v9) 27 v11) h12
def S63_l1 (G : Hp) (r : Rg) (h : Hp) (K : Exit → Rg → Hp → Prop) : Prop :=
  opH Tryd.prog G (sv (binOp .lss 3 (r 2) (r 3))) h fun v2 h2 =>
  cond v2
  (S63_l1_k2 G K (upd (upd (upd r 7 (r 2)) 8 (r 3)) 9 v2) h2)
  (K (.exit 0) (upd (upd (upd r 7 (r 2)) 8 (r 3)) 9 v2) h2)
def S63 (G : Hp) (K : Exit → Rg → Hp → Prop) (r : Rg) (h : Hp) : Prop :=
  opH Tryd.prog G (sv (Builtin.len_ #[42] 3 #[(r 0)])) h fun v0 h0 =>
  opH Tryd.prog G (sv (binOp .sub 3 v0 (.int .i64 1))) h0 fun v1 h1 =>
  loopP (S63_l1 G) (upd (upd (upd (upd (upd r 4 (r 0)) 5 v0) 6 v1) 2 (.int .i64 0)) 3 v1) h1 (blockK 0 K)
theorem S63_eq (G : Hp) (K : Exit → Rg → Hp → Prop) (r : Rg) (h : Hp) : wpC Tryd.prog G 28 md63 true (Tryd.f63.body.getD .skip) r h K = S63 G K r h := by kernel_rfl
theorem enter63 {G : Hp} {h : Hp} {args : Array Value} {R : Value → Hp → Prop} (hn : args.size ≤ 28) (H : S63 G (retK Tryd.prog G [] R) (regs args) h) : HCalls Tryd.prog G 63 args h R :=
  HCalls.enter (md := md63) mixed Tryd.func63 rfl hn (by rw [← S63_eq] at H; exact H)

end Go.Proofs.YtangejiigopdaaaDoor
end

section
/- GridMay: the walk. -/
set_option linter.unusedSimpArgs false
set_option linter.unusedVariables false
set_option maxRecDepth 100000
namespace Go.Proofs.YtangejiigopdaaaDoor
open Go Go.HL

theorem Fit0.lens {C : Conf} (f : Fit0 C) : C.bl.length ≤ 100000000000000 ∧ C.po.length ≤ 100000000000000 ∧ C.ro.length ≤ 100000000000000 ∧ C.st.length ≤ 100000000000000 := by
  obtain ⟨a, b, c, d, _⟩ := f
  unfold Room at a b c d
  omega

theorem CV.box {G h : Hp} {v : Value} {C : Conf} (hv : CV G h v C) : ∃ a1 n1 a2 n2 a3 n3 a4 n4, v = confV C a1 n1 a2 n2 a3 n3 a4 n4 := by
  obtain ⟨ab, cb, ap, cp, ar, cr, az, cs, rfl, ca⟩ := hv
  exact ⟨_, _, _, _, _, _, _, _, rfl⟩

end Go.Proofs.YtangejiigopdaaaDoor
end

section
/- How far two cells are apart; GridAway: the walk. -/
set_option linter.unusedSimpArgs false
set_option linter.unusedVariables false
set_option maxRecDepth 100000
namespace Go.Proofs.YtangejiigopdaaaDoor
open Go Go.HL

def mx (a b : Int) : Int := if b > a then b else a
theorem max_two {P : Program} {G h : Hp} {a b : Int} {K : Value → Hp → Prop} : wpH P G (Builtin.max_ #[3, 3] 3 #[.int .i64 a, .int .i64 b]) h K = K (.int .i64 (mx a b)) h := rfl
theorem index87_0 {G h : Hp} {a b c d : Int} {K : Value → Hp → Prop} : wpH Tryd.prog G (Instr.index 94 (.agg #[.int .i64 a, .int .i64 b, .int .i64 c, .int .i64 d]) (.int .i64 0)) h K = K (.int .i64 a) h := by kernel_rfl
theorem index87_1 {G h : Hp} {a b c d : Int} {K : Value → Hp → Prop} : wpH Tryd.prog G (Instr.index 94 (.agg #[.int .i64 a, .int .i64 b, .int .i64 c, .int .i64 d]) (.int .i64 1)) h K = K (.int .i64 b) h := by kernel_rfl
theorem index87_2 {G h : Hp} {a b c d : Int} {K : Value → Hp → Prop} : wpH Tryd.prog G (Instr.index 94 (.agg #[.int .i64 a, .int .i64 b, .int .i64 c, .int .i64 d]) (.int .i64 2)) h K = K (.int .i64 c) h := by kernel_rfl
theorem index87_3 {G h : Hp} {a b c d : Int} {K : Value → Hp → Prop} : wpH Tryd.prog G (Instr.index 94 (.agg #[.int .i64 a, .int .i64 b, .int .i64 c, .int .i64 d]) (.int .i64 3)) h K = K (.int .i64 d) h := by kernel_rfl
theorem index87 {G h : Hp} {a b c d x : Int} {j : Nat} {K : Value → Hp → Prop} (hx : [a, b, c, d][j]? = some x) : wpH Tryd.prog G (Instr.index 94 (.agg #[.int .i64 a, .int .i64 b, .int .i64 c, .int .i64 d]) (.int .i64 (j : Int))) h K = K (.int .i64 x) h := by
  match j, hx with
  | 0, hx => cases hx; exact index87_0
  | 1, hx => cases hx; exact index87_1
  | 2, hx => cases hx; exact index87_2
  | 3, hx => cases hx; exact index87_3
  | n + 4, hx => simp at hx

def gapI (a b : Int) : Int := if a > b then a - b else b - a
def farB (n : Int) : Bool := withinB n (-1099511627776) 1099511627776
def awayI (a b : Cell) : Int := if [a.1, a.2, b.1, b.2].all farB = true then gapI a.1 b.1 + gapI a.2 b.2 else 0

theorem far_iff {n : Int} : farB n = true ↔ -1099511627776 ≤ n ∧ n ≤ 1099511627776 := withinB_iff

theorem apart_spec {G h : Hp} {a b : Int} (ha : farB a = true) (hb : farB b = true) : HCalls Tryd.prog G 57 #[.int .i64 a, .int .i64 b] h (fun u h' => u = .int .i64 (gapI a b) ∧ h' = h) := by
  obtain ⟨a1, a2⟩ := far_iff.1 ha
  obtain ⟨b1, b2⟩ := far_iff.1 hb
  refine quietly (enter57 (by simp) ?_)
  unfold S57
  simp -implicitDefEqProofs (maxSteps := 2000000) (disch := first | with_reducible exact Nat.ne_of_beq_eq_false rfl | exact oneCell_int | exact oneCell_bool | omega | rfl | (simp; done) | fail) only [regs0, regs1, retK_ret, resL_tmp, upd_eq, resL_nil1, opH_sv, bin_sub, wrap_in, max_two]
  refine ⟨?_, Hp.le.refl h⟩
  unfold gapI mx
  congr 1
  split <;> split <;> omega
set_option maxHeartbeats 2000000 in
theorem away_spec {G h : Hp} {a b : Cell} : HCalls Tryd.prog G 31 #[cellV a, cellV b] h (fun u h' => u = .int .i64 (awayI a b) ∧ h' = h) := by
  refine HCalls.assume fun d => quietly (enter31 (by simp) ?_)
  unfold S31
  simp -implicitDefEqProofs (maxSteps := 2000000) (disch := first | with_reducible exact Nat.ne_of_beq_eq_false rfl | exact oneCell_int | exact oneCell_bool | omega | rfl | (simp; done) | fail) only [regs0, regs1, opH_sv, box_new, cells_agg, fa28_1, add_mk, Nat.zero_add, ld3, fa28_0, Nat.add_zero, cell_set_self, List.getElem?_cons_zero, Option.some.injEq, List.getElem?_cons_succ, exists_eq_left']
  intro x hx gx
  generalize e1 : Hp.set h x _ = h1
  obtain ⟨l1, d1, b1⟩ := boxed e1 hx d gx
  intro y hy gy
  generalize e2 : Hp.set h1 y _ = h2
  obtain ⟨l2, d2, b2⟩ := boxed e2 hy d1 gy
  have cx : ∀ j, cellIn G h2 ⟨x, j, none⟩ = _ := fun j => cell_of (look_own (l2 _ _ b1))
  have cy : ∀ j, cellIn G h2 ⟨y, j, none⟩ = _ := fun j => cell_of (look_own b2)
  try simp -implicitDefEqProofs (maxSteps := 2000000) (disch := first | with_reducible exact Nat.ne_of_beq_eq_false rfl | exact oneCell_int | exact oneCell_bool | omega | rfl | (simp; done) | fail) only [cx, List.getElem?_cons_zero, Option.some.injEq, List.getElem?_cons_succ, exists_eq_left', bd94_0_1_2_3]
  refine loop_I (fun m r h3 => ∃ j : Nat, m = 4 - j ∧ j ≤ 4 ∧ r 2 = .pointer (some ⟨x, 0, none⟩) ∧ r 3 = .pointer (some ⟨y, 0, none⟩) ∧ r 16 = .agg #[.int .i64 a.1, .int .i64 a.2, .int .i64 b.1, .int .i64 b.2] ∧ r 17 = .int .i64 j ∧ h3 = h2 ∧ ∀ n ∈ [a.1, a.2, b.1, b.2].take j, farB n = true) ?_
    (m := 4) ⟨0, rfl, by decide, by simp -implicitDefEqProofs (maxSteps := 2000000) (disch := first | with_reducible exact Nat.ne_of_beq_eq_false rfl | exact oneCell_int | exact oneCell_bool | omega | rfl | (simp; done) | fail) only [upd_ne, upd_eq], by simp -implicitDefEqProofs (maxSteps := 2000000) (disch := first | with_reducible exact Nat.ne_of_beq_eq_false rfl | exact oneCell_int | exact oneCell_bool | omega | rfl | (simp; done) | fail) only [upd_ne, upd_eq], by simp -implicitDefEqProofs (maxSteps := 2000000) (disch := first | with_reducible exact Nat.ne_of_beq_eq_false rfl | exact oneCell_int | exact oneCell_bool | omega | rfl | (simp; done) | fail) only [upd_ne, upd_eq] <;> rfl, by simp -implicitDefEqProofs (maxSteps := 2000000) (disch := first | with_reducible exact Nat.ne_of_beq_eq_false rfl | exact oneCell_int | exact oneCell_bool | omega | rfl | (simp; done) | fail) only [upd_eq] <;> rfl, rfl, by simp⟩
  rintro m r h3 ⟨j, rfl, hj, g2, g3, g16, g17, rfl, hw⟩ X HX
  unfold S31_l2
  simp -implicitDefEqProofs (maxSteps := 2000000) (disch := first | with_reducible exact Nat.ne_of_beq_eq_false rfl | exact oneCell_int | exact oneCell_bool | omega | rfl | (simp; done) | fail) only [g17, thenK_exit, blockK_exit, thenK_normal, if_true, opH_sv, bin_lss]
  refine cond_dec (fun hlt => ?_) (fun hge => ?_)
  · have hlt' : j < 4 := by omega
    obtain ⟨n, hn⟩ : ∃ n, [a.1, a.2, b.1, b.2][j]? = some n := ⟨_, List.getElem?_eq_getElem (by simpa using hlt')⟩
    unfold S31_l2_k3
    simp -implicitDefEqProofs (maxSteps := 2000000) (disch := first | with_reducible exact Nat.ne_of_beq_eq_false rfl | exact oneCell_int | exact oneCell_bool | omega | rfl | (simp; done) | fail) only [upd_ne, g16, g17, thenK_ret, blockK_ret, retK_ret, resL_tmp, upd_eq, resL_nil1, opH_sv, cf56, index87 hn]
    refine (within_spec (n := n) (a := -1099511627776) (b := 1099511627776)).mono ?_
    rintro _ h3 ⟨rfl, rfl⟩
    cases hb : withinB n (-1099511627776) 1099511627776 with
    | false =>
      try simp -implicitDefEqProofs (maxSteps := 2000000) (disch := first | with_reducible exact Nat.ne_of_beq_eq_false rfl | exact oneCell_int | exact oneCell_bool | omega | rfl | (simp; done) | fail) only [un_not, Bool.not_false, HL.cond_true]
      refine ⟨?_, l1.trans l2⟩
      unfold awayI
      rw [if_neg]
      intro q
      have := List.all_eq_true.1 q n (List.mem_of_getElem? hn)
      unfold farB at this
      rw [hb] at this; cases this
    | true =>
      try simp -implicitDefEqProofs (maxSteps := 2000000) (disch := first | with_reducible exact Nat.ne_of_beq_eq_false rfl | exact oneCell_int | exact oneCell_bool | omega | rfl | (simp; done) | fail) only [un_not, Bool.not_true, HL.cond_false]
      unfold S31_l2_k4
      simp -implicitDefEqProofs (maxSteps := 2000000) (disch := first | with_reducible exact Nat.ne_of_beq_eq_false rfl | exact oneCell_int | exact oneCell_bool | omega | rfl | (simp; done) | fail) only [upd_ne, g17, thenK_normal, opH_sv, bin_add, wrap_in]
      refine HX (4 - (j + 1)) _ _ (by omega) ⟨j + 1, rfl, hlt', by simp -implicitDefEqProofs (maxSteps := 2000000) (disch := first | with_reducible exact Nat.ne_of_beq_eq_false rfl | exact oneCell_int | exact oneCell_bool | omega | rfl | (simp; done) | fail) only [upd_ne, g2], by simp -implicitDefEqProofs (maxSteps := 2000000) (disch := first | with_reducible exact Nat.ne_of_beq_eq_false rfl | exact oneCell_int | exact oneCell_bool | omega | rfl | (simp; done) | fail) only [upd_ne, g3], by simp -implicitDefEqProofs (maxSteps := 2000000) (disch := first | with_reducible exact Nat.ne_of_beq_eq_false rfl | exact oneCell_int | exact oneCell_bool | omega | rfl | (simp; done) | fail) only [upd_ne, g16], by simp -implicitDefEqProofs (maxSteps := 2000000) (disch := first | with_reducible exact Nat.ne_of_beq_eq_false rfl | exact oneCell_int | exact oneCell_bool | omega | rfl | (simp; done) | fail) only [upd_eq] <;> rfl, rfl, ?_⟩
      rw [take_get hn]
      intro c hc
      rcases List.mem_append.1 hc with q | q
      · exact hw c q
      · simp at q; rw [q]; exact hb
  · obtain rfl : j = 4 := by omega
    rw [List.take_of_length_le (show [a.1, a.2, b.1, b.2].length ≤ 4 from Nat.le_refl 4)] at hw
    have f1 := hw a.1 (by simp)
    have f2 := hw a.2 (by simp)
    have f3 := hw b.1 (by simp)
    have f4 := hw b.2 (by simp)
    try simp -implicitDefEqProofs (maxSteps := 2000000) (disch := first | with_reducible exact Nat.ne_of_beq_eq_false rfl | exact oneCell_int | exact oneCell_bool | omega | rfl | (simp; done) | fail) only [opH_sv, opH_su, pureW_sv, opH_nil, pureW_nil, pick_t, pick_f, pick_tp, pick_fp, gd_tt, gd_ft, gd_tf, gd_ff, box_new, regs0, regs1, regs2, regs3, regs4, regs5, regs6, cells_agg, cells_int, cells_bool, cells_ptr, cells_slice, cells_string, cells_func, cells_nilFunc, cells_map, retK_ret, retK_normal, resL_tmp, resL_cell, resL_nil0, resL_nil1, resL_nil2, resL_nil3, resC_ptr, ex0, ex1, ex2, ex0p, ex1p, ex2p, HL.cond_true, HL.cond_false, thenK_normal, thenK_ret, thenK_exit, blockK_normal, blockK_ret, blockK_exit, scopeK_normal, scopeK_ret, scopeK_exit, wpH_pure, bin_add, bin_sub, bin_mul, bin_lss, bin_leq, bin_gtr, bin_geq, bin_quo, bin_rem, bin_quop, bin_remp, wrap_in, bin_addp, bin_subp, bin_mulp, bin_lssp, bin_leqp, bin_gtrp, bin_geqp, un_not, un_notp, un_neg, eq_int, ne_int, eq_intp, ne_intp, callV_fn, add_mk, upd_eq, upd_ne, cell_set_self, Nat.zero_add, Nat.add_zero, Option.some.injEq, exists_eq_left', List.getElem?_cons_succ, List.getElem?_cons_zero, true_and, and_true, bne_self_eq_false, beq_self_eq_true, Bool.not_true, Bool.not_false, Bool.and_true, Bool.and_self, Bool.and_false, Bool.true_and, List.length_cons, List.length_nil, ne_eq, not_false_eq_true, Nat.reduceAdd, Nat.reduceMul, if_true, if_false, oneCell_int, oneCell_bool, oneCell_ptr, oneCell_slice, oneCell_string, oneCell_func, oneCell_map, Int.toNat_natCast, List.set_cons_zero, List.set_cons_succ, Nat.lt_irrefl, Nat.zero_lt_succ, Nat.succ_lt_succ_iff, fa26_0, fa26_0p, fa26_1, fa26_1p, fa26_10, fa26_10p, fa26_11, fa26_11p, fa26_12, fa26_12p, fa26_13, fa26_13p, fa26_14, fa26_14p, fa26_15, fa26_15p, fa26_2, fa26_2p, fa26_3, fa26_3p, fa26_4, fa26_4p, fa26_5, fa26_5p, fa26_6, fa26_6p, fa26_7, fa26_7p, fa26_8, fa26_8p, fa26_9, fa26_9p, fa28_0, fa28_0p, fa28_1, fa28_1p, fa45_0, fa45_0p, fa45_1, fa45_1p, fa45_2, fa45_2p, fa45_3, fa45_3p, fa45_4, fa45_4p, fa45_5, fa45_5p, fa45_6, fa45_6p, fa49_0, fa49_0p, fa49_1, fa49_1p, fa74_0, fa74_0p, fa74_1, fa74_1p, fa74_2, fa74_2p, fa74_3, fa74_3p, fa85_0, fa85_0p, fa85_1, fa85_1p, fa93_0, fa93_0p, fa93_1, fa93_1p, fa93_2, fa93_2p, ld3, ld3p, ld4, ld4p, ld22, ld22p, ld23, ld23p, ld24, ld24p, ld26, ld26p, ld28, ld28p, ld42, ld42p, ld45, ld45p, ld49, ld49p, ld58, ld58p, ld69, ld69p, ld72, ld72p, ld85, ld85p, st3s, st4s, st22s, st23s, st24s, st26w, st28w, st42s, st45w, st49w, st85w, ix22, ix22p, ix23, ix23p, ix24, ix24p, ix31, ix31p, ix42, ix42p, ix104, ix104p, ln22, ln22p, ln23, ln23p, ln24, ln24p, ln31, ln31p, ln42, ln42p, al4, al22, al26, al28, al42, al49, al85, cf10, cf11, cf12, cf13, cf14, cf15, cf16, cf17, cf18, cf19, cf20, cf21, cf22, cf23, cf24, cf25, cf26, cf27, cf28, cf29, cf30, cf31, cf32, cf33, cf34, cf35, cf36, cf37, cf38, cf39, cf40, cf41, cf42, cf43, cf44, cf45, cf46, cf47, cf48, cf49, cf50, cf51, cf52, cf53, cf54, cf55, cf56, cf57, cf58, cf59, cf60, cf61, cf62, cf63, cf64, cf65, cf66, cf67, cf68, cf69, cf70, cf71, cf72, cf73, cf74, cf75, bd26_0_1_2_7_8_9_10_11_12_13_14_4_15, bd26_0_1_2_7_8_9_10_11_12_13_14_4_15p, bd28_, bd28_p, bd28_0, bd28_0p, bd28_0_1, bd28_0_1p, bd45_1_3_4_5_6, bd45_1_3_4_5_6p, bd49_0_1, bd49_0_1p, bd49_1, bd49_1p, bd74_0_1_2_3, bd74_0_1_2_3p, bd85_0, bd85_0p, bd85_0_1, bd85_0_1p, bd93_0_1_2, bd93_0_1_2p, bd94_0_1_2_3, bd94_0_1_2_3p, bs42_1_0, bs22_1_0, bs24_1_0, bs42_3_0_1_2, bs31_1_0, bs22_2_0_1, bs42_6_0_1_2_3_4_5, bs42_0_, eq4, eq4p, eq28, eq28p, eq42n, eq42np, eq42s, eq42sp, eq58n, eq58np, eq58s, eq58sp, eq63n, eq63np, eq63s, eq63sp, ne28, ne28p, ne45, ne45p]
    unfold S31_k1
    try simp -implicitDefEqProofs (maxSteps := 2000000) (disch := first | with_reducible exact Nat.ne_of_beq_eq_false rfl | exact oneCell_int | exact oneCell_bool | omega | rfl | (simp; done) | fail) only [upd_ne, g2, g3, callV_fn, retK_ret, resL_tmp, upd_eq, resL_nil1, pureW_sv, cf57, fa28_1p, add_mk, Nat.zero_add, ld3p, cy, List.getElem?_cons_succ, List.getElem?_cons_zero, Option.some.injEq, exists_eq_left', cx, fa28_0p, Nat.add_zero]
    refine (apart_spec f1 f3).mono ?_
    rintro _ h3 ⟨rfl, rfl⟩
    refine ⟨Hp.le.refl _, ?_⟩
    try simp -implicitDefEqProofs (maxSteps := 2000000) (disch := first | with_reducible exact Nat.ne_of_beq_eq_false rfl | exact oneCell_int | exact oneCell_bool | omega | rfl | (simp; done) | fail) only [opH_sv, opH_su, pureW_sv, opH_nil, pureW_nil, pick_t, pick_f, pick_tp, pick_fp, gd_tt, gd_ft, gd_tf, gd_ff, box_new, regs0, regs1, regs2, regs3, regs4, regs5, regs6, cells_agg, cells_int, cells_bool, cells_ptr, cells_slice, cells_string, cells_func, cells_nilFunc, cells_map, retK_ret, retK_normal, resL_tmp, resL_cell, resL_nil0, resL_nil1, resL_nil2, resL_nil3, resC_ptr, ex0, ex1, ex2, ex0p, ex1p, ex2p, HL.cond_true, HL.cond_false, thenK_normal, thenK_ret, thenK_exit, blockK_normal, blockK_ret, blockK_exit, scopeK_normal, scopeK_ret, scopeK_exit, wpH_pure, bin_add, bin_sub, bin_mul, bin_lss, bin_leq, bin_gtr, bin_geq, bin_quo, bin_rem, bin_quop, bin_remp, wrap_in, bin_addp, bin_subp, bin_mulp, bin_lssp, bin_leqp, bin_gtrp, bin_geqp, un_not, un_notp, un_neg, eq_int, ne_int, eq_intp, ne_intp, callV_fn, add_mk, upd_eq, upd_ne, cell_set_self, Nat.zero_add, Nat.add_zero, Option.some.injEq, exists_eq_left', List.getElem?_cons_succ, List.getElem?_cons_zero, true_and, and_true, bne_self_eq_false, beq_self_eq_true, Bool.not_true, Bool.not_false, Bool.and_true, Bool.and_self, Bool.and_false, Bool.true_and, List.length_cons, List.length_nil, ne_eq, not_false_eq_true, Nat.reduceAdd, Nat.reduceMul, if_true, if_false, oneCell_int, oneCell_bool, oneCell_ptr, oneCell_slice, oneCell_string, oneCell_func, oneCell_map, Int.toNat_natCast, List.set_cons_zero, List.set_cons_succ, Nat.lt_irrefl, Nat.zero_lt_succ, Nat.succ_lt_succ_iff, fa26_0, fa26_0p, fa26_1, fa26_1p, fa26_10, fa26_10p, fa26_11, fa26_11p, fa26_12, fa26_12p, fa26_13, fa26_13p, fa26_14, fa26_14p, fa26_15, fa26_15p, fa26_2, fa26_2p, fa26_3, fa26_3p, fa26_4, fa26_4p, fa26_5, fa26_5p, fa26_6, fa26_6p, fa26_7, fa26_7p, fa26_8, fa26_8p, fa26_9, fa26_9p, fa28_0, fa28_0p, fa28_1, fa28_1p, fa45_0, fa45_0p, fa45_1, fa45_1p, fa45_2, fa45_2p, fa45_3, fa45_3p, fa45_4, fa45_4p, fa45_5, fa45_5p, fa45_6, fa45_6p, fa49_0, fa49_0p, fa49_1, fa49_1p, fa74_0, fa74_0p, fa74_1, fa74_1p, fa74_2, fa74_2p, fa74_3, fa74_3p, fa85_0, fa85_0p, fa85_1, fa85_1p, fa93_0, fa93_0p, fa93_1, fa93_1p, fa93_2, fa93_2p, ld3, ld3p, ld4, ld4p, ld22, ld22p, ld23, ld23p, ld24, ld24p, ld26, ld26p, ld28, ld28p, ld42, ld42p, ld45, ld45p, ld49, ld49p, ld58, ld58p, ld69, ld69p, ld72, ld72p, ld85, ld85p, st3s, st4s, st22s, st23s, st24s, st26w, st28w, st42s, st45w, st49w, st85w, ix22, ix22p, ix23, ix23p, ix24, ix24p, ix31, ix31p, ix42, ix42p, ix104, ix104p, ln22, ln22p, ln23, ln23p, ln24, ln24p, ln31, ln31p, ln42, ln42p, al4, al22, al26, al28, al42, al49, al85, cf10, cf11, cf12, cf13, cf14, cf15, cf16, cf17, cf18, cf19, cf20, cf21, cf22, cf23, cf24, cf25, cf26, cf27, cf28, cf29, cf30, cf31, cf32, cf33, cf34, cf35, cf36, cf37, cf38, cf39, cf40, cf41, cf42, cf43, cf44, cf45, cf46, cf47, cf48, cf49, cf50, cf51, cf52, cf53, cf54, cf55, cf56, cf57, cf58, cf59, cf60, cf61, cf62, cf63, cf64, cf65, cf66, cf67, cf68, cf69, cf70, cf71, cf72, cf73, cf74, cf75, bd26_0_1_2_7_8_9_10_11_12_13_14_4_15, bd26_0_1_2_7_8_9_10_11_12_13_14_4_15p, bd28_, bd28_p, bd28_0, bd28_0p, bd28_0_1, bd28_0_1p, bd45_1_3_4_5_6, bd45_1_3_4_5_6p, bd49_0_1, bd49_0_1p, bd49_1, bd49_1p, bd74_0_1_2_3, bd74_0_1_2_3p, bd85_0, bd85_0p, bd85_0_1, bd85_0_1p, bd93_0_1_2, bd93_0_1_2p, bd94_0_1_2_3, bd94_0_1_2_3p, bs42_1_0, bs22_1_0, bs24_1_0, bs42_3_0_1_2, bs31_1_0, bs22_2_0_1, bs42_6_0_1_2_3_4_5, bs42_0_, eq4, eq4p, eq28, eq28p, eq42n, eq42np, eq42s, eq42sp, eq58n, eq58np, eq58s, eq58sp, eq63n, eq63np, eq63s, eq63sp, ne28, ne28p, ne45, ne45p, g2, g3, cx, cy]
    refine (apart_spec f2 f4).mono ?_
    rintro _ h3 ⟨rfl, rfl⟩
    obtain ⟨a1, a2⟩ := far_iff.1 f1
    obtain ⟨a3, a4⟩ := far_iff.1 f2
    obtain ⟨a5, a6⟩ := far_iff.1 f3
    obtain ⟨a7, a8⟩ := far_iff.1 f4
    have g1 : 0 ≤ gapI a.1 b.1 ∧ gapI a.1 b.1 ≤ 2199023255552 := by unfold gapI; split <;> omega
    have g2 : 0 ≤ gapI a.2 b.2 ∧ gapI a.2 b.2 ≤ 2199023255552 := by unfold gapI; split <;> omega
    try simp -implicitDefEqProofs (maxSteps := 2000000) (disch := first | with_reducible exact Nat.ne_of_beq_eq_false rfl | exact oneCell_int | exact oneCell_bool | omega | rfl | (simp; done) | fail) only [bin_addp, wrap_in]
    refine ⟨?_, l1.trans l2⟩
    unfold awayI
    rw [if_pos (List.all_eq_true.2 hw)]

end Go.Proofs.YtangejiigopdaaaDoor
end

section
/- The stack cells, told to any yield; cells gathered in a row. -/
set_option linter.unusedSimpArgs false
set_option linter.unusedVariables false
set_option maxRecDepth 100000
namespace Go.Proofs.YtangejiigopdaaaDoor
open Go Go.HL

abbrev cellO (c : Cell) : Obj := .cells #[.int .i64 c.1, .int .i64 c.2] 28 (0, 0)

def pickFrom {α : Type} (p : Nat → Bool) (mk : Nat → α) : Nat → Nat → List α
  | _, 0 => []
  | n, k + 1 => if p n = true then mk n :: pickFrom p mk (n + 1) k else pickFrom p mk (n + 1) k
def stP (w : Nat) (f : Nat → Nat → Int) (n : Nat) : Bool := f (n % w) (n / w) == 0
def stM (w : Nat) (n : Nat) : Cell := (((n % w : Nat) : Int), ((n / w : Nat) : Int))
def stacksW (w k : Nat) (f : Nat → Nat → Int) : List Cell := pickFrom (stP w f) (stM w) 0 (w * k)

def CellsR (G q : Hp) (Y Z : List Cell → Hp → Prop) (T : List Cell × Bool) (h' : Hp) : Prop := ∃ a', Sep [a', q] h' ∧ Dis G h' ∧ Fin T Y Z a'

set_option maxHeartbeats 2000000 in
theorem stacks1_spec {G h a q : Hp} {y g : Value} {Y Z : List Cell → Hp → Prop} {c : List Cell → Bool} {L : List Cell} {gb w k : Nat} {f : Nat → Nat → Int}
    (yl : Yl cellV G y Y Z c) (ya : Y L a) (s : Sep [a, q] h) (hg : q gb = some (.cells #[g] 58 (0, 0))) (gs : GS G q g w k f) :
    HCalls Tryd.prog G 55 #[y, .pointer (some ⟨gb, 0, none⟩)] h (fun _ h' => CellsR G q Y Z (feed c L (stacksW w k f)) h') := by
  refine HCalls.assume fun d => enter55 (by simp) ?_
  unfold S55
  have gsq := gs
  obtain ⟨⟨gp, kb, rfl, g1, g2⟩, w1, w2, k1, k2⟩ := gs
  have cg : ∀ {h3 : Hp} {a : Hp}, Sep [a, q] h3 → ∀ j, cellIn G h3 ⟨gb, j, none⟩ = _ := fun s j => cell_of (look_own (s.at 1 rfl hg))
  have cw : ∀ {h3 : Hp} {a : Hp}, Sep [a, q] h3 → Dis G h3 → cellIn G h3 ⟨gp, 0, none⟩ = some (.int .i64 w) := fun s d => cell_up (s.in 1 rfl) d (g1 0 (by decide))
  have ck : cellIn G h ⟨gp, 2, none⟩ = some (.slice (some ⟨kb, 0, none⟩) (w * k) (w * k)) := cell_up (s.in 1 rfl) d (g1 2 (by decide))
  try simp -implicitDefEqProofs only [regs1, retK_ret, resL_nil0, opH_sv, ld58, cg s, List.getElem?_cons_zero, Option.some.injEq, exists_eq_left', eq58s, HL.cond_false]
  unfold S55_k1
  try simp -implicitDefEqProofs (disch := first | with_reducible exact Nat.ne_of_beq_eq_false rfl | omega) only [upd_ne, regs1, opH_sv, ld58, cg s, List.getElem?_cons_zero, Option.some.injEq, exists_eq_left', opH_nil, fa93_2, add_mk, Nat.zero_add, ld42, ck, ln42]
  generalize hT : feed c L (stacksW w k f) = T
  refine loop_I (fun m r h3 => ∃ (i : Nat) (a : Hp) (L : List Cell), m = w * k - i ∧ i ≤ w * k ∧ r 0 = y ∧ r 1 = .pointer (some ⟨gb, 0, none⟩) ∧ r 10 = .slice (some ⟨kb, 0, none⟩) (w * k) (w * k) ∧ r 11 = .int .i64 ((w * k : Nat) : Int) ∧ r 12 = .int .i64 i ∧ Sep [a, q] h3 ∧ Dis G h3 ∧ Y L a ∧ feed c L (pickFrom (stP w f) (stM w) i (w * k - i)) = T) ?_
    (m := w * k) ⟨0, a, L, rfl, Nat.zero_le _, by simp -implicitDefEqProofs (maxSteps := 2000000) (disch := first | with_reducible exact Nat.ne_of_beq_eq_false rfl | exact oneCell_int | exact oneCell_bool | omega | rfl | (simp; done) | fail) only [upd_ne, regs0], by simp -implicitDefEqProofs (maxSteps := 2000000) (disch := first | with_reducible exact Nat.ne_of_beq_eq_false rfl | exact oneCell_int | exact oneCell_bool | omega | rfl | (simp; done) | fail) only [upd_ne, regs1], by simp -implicitDefEqProofs (maxSteps := 2000000) (disch := first | with_reducible exact Nat.ne_of_beq_eq_false rfl | exact oneCell_int | exact oneCell_bool | omega | rfl | (simp; done) | fail) only [upd_ne, upd_eq], by simp -implicitDefEqProofs (maxSteps := 2000000) (disch := first | with_reducible exact Nat.ne_of_beq_eq_false rfl | exact oneCell_int | exact oneCell_bool | omega | rfl | (simp; done) | fail) only [upd_ne, upd_eq], by simp -implicitDefEqProofs (maxSteps := 2000000) (disch := first | with_reducible exact Nat.ne_of_beq_eq_false rfl | exact oneCell_int | exact oneCell_bool | omega | rfl | (simp; done) | fail) only [upd_eq] <;> rfl, s, d, ya, hT⟩
  rintro m r h3 ⟨i, a, L, rfl, hi, q0, q1, q10, q11, q12, s, d, ya, hT⟩ X HX
  unfold S55_l2
  simp -implicitDefEqProofs only [q12, q11, thenK_exit, blockK_exit, retK_normal, resL_nil0, if_true, opH_sv, bin_lss]
  refine cond_dec (fun hlt => ?_) (fun hge => ?_)
  rotate_left
  · obtain rfl : i = w * k := by omega
    rw [Nat.sub_self] at hT
    try simp -implicitDefEqProofs only [opH_sv, opH_su, pureW_sv, opH_nil, pureW_nil, pick_t, pick_f, pick_tp, pick_fp, gd_tt, gd_ft, gd_tf, gd_ff, box_new, regs0, regs1, regs2, regs3, regs4, regs5, regs6, cells_agg, cells_int, cells_bool, cells_ptr, cells_slice, cells_string, cells_func, cells_nilFunc, cells_map, retK_ret, retK_normal, resL_tmp, resL_cell, resL_nil0, resL_nil1, resL_nil2, resL_nil3, resC_ptr, ex0, ex1, ex2, ex0p, ex1p, ex2p, HL.cond_true, HL.cond_false, thenK_normal, thenK_ret, thenK_exit, blockK_normal, blockK_ret, blockK_exit, scopeK_normal, scopeK_ret, scopeK_exit, wpH_pure, bin_add, bin_sub, bin_mul, bin_lss, bin_leq, bin_gtr, bin_geq, bin_quo, bin_rem, bin_quop, bin_remp, wrap_in, bin_addp, bin_subp, bin_mulp, bin_lssp, bin_leqp, bin_gtrp, bin_geqp, un_not, un_notp, un_neg, eq_int, ne_int, eq_intp, ne_intp, callV_fn, add_mk, upd_eq, upd_ne, cell_set_self, Nat.zero_add, Nat.add_zero, Option.some.injEq, exists_eq_left', List.getElem?_cons_succ, List.getElem?_cons_zero, true_and, and_true, bne_self_eq_false, beq_self_eq_true, Bool.not_true, Bool.not_false, Bool.and_true, Bool.and_self, Bool.and_false, Bool.true_and, List.length_cons, List.length_nil, ne_eq, not_false_eq_true, Nat.reduceAdd, Nat.reduceMul, if_true, if_false, oneCell_int, oneCell_bool, oneCell_ptr, oneCell_slice, oneCell_string, oneCell_func, oneCell_map, Int.toNat_natCast, List.set_cons_zero, List.set_cons_succ, Nat.lt_irrefl, Nat.zero_lt_succ, Nat.succ_lt_succ_iff, fa26_0, fa26_0p, fa26_1, fa26_1p, fa26_10, fa26_10p, fa26_11, fa26_11p, fa26_12, fa26_12p, fa26_13, fa26_13p, fa26_14, fa26_14p, fa26_15, fa26_15p, fa26_2, fa26_2p, fa26_3, fa26_3p, fa26_4, fa26_4p, fa26_5, fa26_5p, fa26_6, fa26_6p, fa26_7, fa26_7p, fa26_8, fa26_8p, fa26_9, fa26_9p, fa28_0, fa28_0p, fa28_1, fa28_1p, fa45_0, fa45_0p, fa45_1, fa45_1p, fa45_2, fa45_2p, fa45_3, fa45_3p, fa45_4, fa45_4p, fa45_5, fa45_5p, fa45_6, fa45_6p, fa49_0, fa49_0p, fa49_1, fa49_1p, fa74_0, fa74_0p, fa74_1, fa74_1p, fa74_2, fa74_2p, fa74_3, fa74_3p, fa85_0, fa85_0p, fa85_1, fa85_1p, fa93_0, fa93_0p, fa93_1, fa93_1p, fa93_2, fa93_2p, ld3, ld3p, ld4, ld4p, ld22, ld22p, ld23, ld23p, ld24, ld24p, ld26, ld26p, ld28, ld28p, ld42, ld42p, ld45, ld45p, ld49, ld49p, ld58, ld58p, ld69, ld69p, ld72, ld72p, ld85, ld85p, st3s, st4s, st22s, st23s, st24s, st26w, st28w, st42s, st45w, st49w, st85w, ix22, ix22p, ix23, ix23p, ix24, ix24p, ix31, ix31p, ix42, ix42p, ix104, ix104p, ln22, ln22p, ln23, ln23p, ln24, ln24p, ln31, ln31p, ln42, ln42p, al4, al22, al26, al28, al42, al49, al85, cf10, cf11, cf12, cf13, cf14, cf15, cf16, cf17, cf18, cf19, cf20, cf21, cf22, cf23, cf24, cf25, cf26, cf27, cf28, cf29, cf30, cf31, cf32, cf33, cf34, cf35, cf36, cf37, cf38, cf39, cf40, cf41, cf42, cf43, cf44, cf45, cf46, cf47, cf48, cf49, cf50, cf51, cf52, cf53, cf54, cf55, cf56, cf57, cf58, cf59, cf60, cf61, cf62, cf63, cf64, cf65, cf66, cf67, cf68, cf69, cf70, cf71, cf72, cf73, cf74, cf75, bd26_0_1_2_7_8_9_10_11_12_13_14_4_15, bd26_0_1_2_7_8_9_10_11_12_13_14_4_15p, bd28_, bd28_p, bd28_0, bd28_0p, bd28_0_1, bd28_0_1p, bd45_1_3_4_5_6, bd45_1_3_4_5_6p, bd49_0_1, bd49_0_1p, bd49_1, bd49_1p, bd74_0_1_2_3, bd74_0_1_2_3p, bd85_0, bd85_0p, bd85_0_1, bd85_0_1p, bd93_0_1_2, bd93_0_1_2p, bd94_0_1_2_3, bd94_0_1_2_3p, bs42_1_0, bs22_1_0, bs24_1_0, bs42_3_0_1_2, bs31_1_0, bs22_2_0_1, bs42_6_0_1_2_3_4_5, bs42_0_, eq4, eq4p, eq28, eq28p, eq42n, eq42np, eq42s, eq42sp, eq58n, eq58np, eq58s, eq58sp, eq63n, eq63np, eq63s, eq63sp, ne28, ne28p, ne45, ne45p]
    refine ⟨a, s, d, ?_⟩
    rw [← hT]
    exact ya
  have hlt' : i < w * k := by omega
  have hwk : w * k ≤ 16 * 16 := Nat.mul_le_mul w2 k2
  have kk : cellIn G h3 ⟨kb, i, none⟩ = some (.int .i64 (f (i % w) (i / w))) := cell_up (s.in 1 rfl) d (g2 i _ (gridL_at hlt'))
  have erest : pickFrom (stP w f) (stM w) i (w * k - i) = if stP w f i = true then stM w i :: pickFrom (stP w f) (stM w) (i + 1) (w * k - (i + 1)) else pickFrom (stP w f) (stM w) (i + 1) (w * k - (i + 1)) := by
    rw [show w * k - i = (w * k - (i + 1)) + 1 by omega]
    rfl
  rw [erest] at hT
  unfold S55_l2_k3
  simp -implicitDefEqProofs (disch := first | with_reducible exact Nat.ne_of_beq_eq_false rfl | omega) only [upd_ne, q10, q12, q0, q1, thenK_ret, blockK_ret, retK_ret, resL_nil0, opH_sv, ix57n hlt', ld3, kk, Option.some.injEq, exists_eq_left', eq_intp]
  have next : ∀ (r3 : Rg) h5 (a : Hp) (L : List Cell), r3 0 = r 0 → r3 1 = r 1 → r3 10 = r 10 → r3 11 = r 11 → r3 12 = r 12 → Sep [a, q] h5 → Dis G h5 → Y L a → feed c L (pickFrom (stP w f) (stM w) (i + 1) (w * k - (i + 1))) = T →
      S55_l2_k4 G (thenK X (blockK 0 (retK Tryd.prog G [] fun x h' => CellsR G q Y Z T h'))) r3 h5 := by
    intro r3 h5 a L v0 v1 v10 v11 v12 s5 d5 ya5 hT5
    unfold S55_l2_k4
    have v12' := v12.trans q12
    simp -implicitDefEqProofs (disch := first | with_reducible exact Nat.ne_of_beq_eq_false rfl | omega) only [v12', thenK_normal, opH_sv, bin_add, wrap_in]
    refine HX (w * k - (i + 1)) _ _ (by omega) ⟨i + 1, a, L, rfl, hlt', by simp -implicitDefEqProofs (disch := first | with_reducible exact Nat.ne_of_beq_eq_false rfl | omega) only [upd_ne, v0, q0], by simp -implicitDefEqProofs (disch := first | with_reducible exact Nat.ne_of_beq_eq_false rfl | omega) only [upd_ne, v1, q1], by simp -implicitDefEqProofs (disch := first | with_reducible exact Nat.ne_of_beq_eq_false rfl | omega) only [upd_ne, v10, q10], by simp -implicitDefEqProofs (disch := first | with_reducible exact Nat.ne_of_beq_eq_false rfl | omega) only [upd_ne, v11, q11], by simp -implicitDefEqProofs (disch := first | with_reducible exact Nat.ne_of_beq_eq_false rfl | omega) only [upd_eq] <;> rfl, s5, d5, ya5, hT5⟩
  by_cases hz : f (i % w) (i / w) = 0
  · have hp : stP w f i = true := by unfold stP; rw [hz]; rfl
    rw [hp, if_pos rfl] at hT
    have e1 : ((i : Int)).tmod (w : Int) = ((i % w : Nat) : Int) := by rw [Int.tmod_eq_emod_of_nonneg (by omega)]; rfl
    have e2 : ((i : Int)).tdiv (w : Int) = ((i / w : Nat) : Int) := by rw [Int.tdiv_eq_ediv_of_nonneg (by omega)]; rfl
    have hdiv : i / w ≤ i := Nat.div_le_self _ _
    have ew : IntKind.i64.wrap ((i / w : Nat) : Int) = ((i / w : Nat) : Int) := by
      generalize i / w = z at hdiv ⊢
      exact wrap_in (by omega) (by omega)
    try simp -implicitDefEqProofs (maxSteps := 2000000) (disch := first | with_reducible exact Nat.ne_of_beq_eq_false rfl | exact oneCell_int | exact oneCell_bool | omega | rfl | (simp; done) | fail) only [hz, beq_self_eq_true, pick_tp, gd_tt, pureW_sv, ld58p, cg s, List.getElem?_cons_zero, Option.some.injEq, exists_eq_left', pureW_nil, fa93_0p, add_mk, Nat.add_zero, ld3p, cw s d, bin_quop, e2, ew, bin_remp, e1, bd28_0_1p]
    refine opH_mono (fun v h6 H => ?_) (yl L (stM w i) a q h3 ya s d)
    obtain ⟨a6, rfl, s6, d6, z6⟩ := H
    cases hc : c (L ++ [stM w i]) with
    | false =>
      try simp -implicitDefEqProofs (disch := first | with_reducible exact Nat.ne_of_beq_eq_false rfl | omega) only [un_notp, Bool.not_false, HL.cond_true]
      rw [hc] at z6
      rw [feed_f hc] at hT
      refine ⟨a6, s6, d6, ?_⟩
      rw [← hT]
      exact z6
    | true =>
      try simp -implicitDefEqProofs (disch := first | with_reducible exact Nat.ne_of_beq_eq_false rfl | omega) only [un_notp, Bool.not_true, HL.cond_false]
      rw [hc] at z6
      rw [feed_t hc] at hT
      exact next _ _ a6 _ (by simp -implicitDefEqProofs (disch := first | with_reducible exact Nat.ne_of_beq_eq_false rfl | omega) only [upd_ne]) (by simp -implicitDefEqProofs (disch := first | with_reducible exact Nat.ne_of_beq_eq_false rfl | omega) only [upd_ne]) (by simp -implicitDefEqProofs (disch := first | with_reducible exact Nat.ne_of_beq_eq_false rfl | omega) only [upd_ne]) (by simp -implicitDefEqProofs (disch := first | with_reducible exact Nat.ne_of_beq_eq_false rfl | omega) only [upd_ne]) (by simp -implicitDefEqProofs (disch := first | with_reducible exact Nat.ne_of_beq_eq_false rfl | omega) only [upd_ne]) s6 d6 z6 hT
  · have hp : stP w f i = false := by unfold stP; simpa using hz
    rw [hp, if_neg (by simp)] at hT
    try simp -implicitDefEqProofs (disch := first | with_reducible exact Nat.ne_of_beq_eq_false rfl | omega) only [show (f (i % w) (i / w) == 0) = false by simpa using hz, pick_fp, HL.cond_false, gd_ft]
    exact next _ _ a L (by simp -implicitDefEqProofs (disch := first | with_reducible exact Nat.ne_of_beq_eq_false rfl | omega) only [upd_ne]) (by simp -implicitDefEqProofs (disch := first | with_reducible exact Nat.ne_of_beq_eq_false rfl | omega) only [upd_ne]) (by simp -implicitDefEqProofs (disch := first | with_reducible exact Nat.ne_of_beq_eq_false rfl | omega) only [upd_ne]) (by simp -implicitDefEqProofs (disch := first | with_reducible exact Nat.ne_of_beq_eq_false rfl | omega) only [upd_ne]) (by simp -implicitDefEqProofs (disch := first | with_reducible exact Nat.ne_of_beq_eq_false rfl | omega) only [upd_ne]) s d ya hT

end Go.Proofs.YtangejiigopdaaaDoor
end

section
/- The program's grid answers as the reference's. -/
set_option linter.unusedSimpArgs false
set_option linter.unusedVariables false
namespace Go.Proofs.YtangejiigopdaaaDoor
open Go Go.HL

variable {C : Conf}

theorem stacked3_eq (m : MadeOk C) (c : Cell) : (inW (wC C) (kC C) c && (fAt (f3C C) c == 0)) = stackedB C c := by
  rw [Bool.eq_iff_iff, ← stacked_eq m.laid.w m.laid.h]
  simp
theorem port3_eq (m : MadeOk C) (c : Cell) : (if inW (wC C) (kC C) c = true ∧ 1 ≤ fAt (f3C C) c then fAt (f3C C) c - 1 else -1) = portI C c := by
  have mm := made_may.1 m
  have hw := m.laid.w
  have hk := m.laid.h
  rw [inW_inB hw hk]
  unfold portI
  by_cases hp : c ∈ C.po
  · obtain ⟨h1, _, h2, h3⟩ := mm.prt c hp
    have hb : c ∉ C.bl := fun hb => by
      have := (mm.blk c hb).2.2
      exact (List.count_eq_zero.1 this) hp
    have e : fAt (f3C C) c = (C.po.idxOf c : Int) + 1 := by
      rw [f3_at hw hk h1, h2]
      simp [hb, h3, hp]
    rw [if_pos hp, e, if_pos ⟨h1, by omega⟩]
    omega
  · rw [if_neg hp]
    by_cases hi : inB C c = true
    · have e : fAt (f3C C) c ≤ 0 := by
        rw [f3_at hw hk hi]
        simp only [hp, if_false]
        repeat' split
        all_goals omega
      rw [if_neg (by omega)]
    · rw [if_neg (fun h => hi h.1)]

theorem f3_bd (m : MadeOk C) (x y : Nat) : -10 ≤ f3C C x y ∧ f3C C x y ≤ 1000 := by
  have h8 := m.laid.po8
  have hb : -2 ≤ f0C C x y ∧ f0C C x y ≤ 1000 := by
    unfold f0C kd
    split
    · rename_i h
      have := List.idxOf_lt_length_of_mem h
      rw [List.length_append] at this
      split <;> omega
    · omega
  unfold f3C f2 f1
  split
  · omega
  · split <;> omega

end Go.Proofs.YtangejiigopdaaaDoor
end

section
/- The reference: which moves are legal. -/
set_option linter.unusedSimpArgs false
set_option linter.unusedVariables false
set_option maxRecDepth 100000
namespace Go.Proofs.YtangejiigopdaaaDoor
open Go Go.HL

end Go.Proofs.YtangejiigopdaaaDoor
end

section
/- The program's moves, stack cells as the reference's. -/
set_option linter.unusedSimpArgs false
set_option linter.unusedVariables false
namespace Go.Proofs.YtangejiigopdaaaDoor
open Go Go.HL

variable {C : Conf}

theorem dirsL_congr {α : Type} {D E : Nat → List α} : ∀ {k i : Nat}, (∀ j, i ≤ j → j < i + k → D j = E j) → dirsL D i k = dirsL E i k
  | 0, i, _ => rfl
  | k + 1, i, h => by
    unfold dirsL
    rw [h i (Nat.le_refl _) (by omega), dirsL_congr fun j h1 h2 => h j (by omega) (by omega)]

def rstacksL (C : Conf) : List Cell := dirsL (fun y => pickFrom (fun x => stackedB C ((x : Int), (y : Int))) (fun x => (((x : Nat) : Int), ((y : Nat) : Int))) 0 (wC C)) 0 (kC C)

theorem pick_succ {α : Type} {p : Nat → Bool} {mk : Nat → α} {n k : Nat} : pickFrom p mk n (k + 1) = if p n = true then mk n :: pickFrom p mk (n + 1) k else pickFrom p mk (n + 1) k := rfl
theorem pick_add {α : Type} {p : Nat → Bool} {mk : Nat → α} : ∀ {a b n : Nat}, pickFrom p mk n (a + b) = pickFrom p mk n a ++ pickFrom p mk (n + a) b
  | 0, b, n => by rw [Nat.zero_add, Nat.add_zero]; rfl
  | a + 1, b, n => by
    rw [show a + 1 + b = (a + b) + 1 by omega, pick_succ, pick_succ, pick_add, show n + 1 + a = n + (a + 1) by omega]
    split <;> simp
theorem pick_congr {α : Type} {p q : Nat → Bool} {mk ml : Nat → α} : ∀ {k n m : Nat}, (∀ j, j < k → p (n + j) = q (m + j) ∧ mk (n + j) = ml (m + j)) → pickFrom p mk n k = pickFrom q ml m k
  | 0, n, m, _ => rfl
  | k + 1, n, m, h => by
    obtain ⟨h1, h2⟩ := h 0 (by omega)
    rw [Nat.add_zero, Nat.add_zero] at h1 h2
    rw [pick_succ, pick_succ, h1, h2, pick_congr (m := m + 1) fun j hj => by
      have := h (j + 1) (by omega)
      rw [show n + 1 + j = n + (j + 1) by omega, show m + 1 + j = m + (j + 1) by omega]
      exact this]

theorem pick_rows {α : Type} {p : Nat → Bool} {mk : Nat → α} {w : Nat} : ∀ {k y : Nat}, pickFrom p mk (y * w) (k * w) = dirsL (fun y => pickFrom p mk (y * w) w) y k
  | 0, y => by rw [Nat.zero_mul]; rfl
  | k + 1, y => by
    rw [Nat.succ_mul, Nat.add_comm, pick_add, show y * w + w = (y + 1) * w by rw [Nat.succ_mul], pick_rows]
    rfl

theorem stacks_eq (m : MadeOk C) : stacksW (wC C) (kC C) (f3C C) = rstacksL C := by
  obtain ⟨e1, e2, w1, w2, k1, k2⟩ := within_wk m.laid.w m.laid.h
  unfold stacksW rstacksL
  have := pick_rows (p := stP (wC C) (f3C C)) (mk := stM (wC C)) (w := wC C) (k := kC C) (y := 0)
  rw [Nat.zero_mul, Nat.mul_comm] at this
  rw [this]
  refine dirsL_congr fun y _ hy => pick_congr fun x hx => ?_
  rw [Nat.zero_add]
  have hm : (y * wC C + x) % wC C = x := by rw [Nat.mul_comm, Nat.mul_add_mod, Nat.mod_eq_of_lt hx]
  have hd : (y * wC C + x) / wC C = y := by rw [Nat.mul_comm, Nat.mul_add_div (by omega), Nat.div_eq_of_lt hx, Nat.add_zero]
  refine ⟨?_, ?_⟩
  · unfold stP
    rw [hm, hd]
    have := stacked3_eq m ((x : Int), (y : Int))
    rw [← this, show inW (wC C) (kC C) ((x : Int), (y : Int)) = true from inW_iff.2 (by refine ⟨?_, ?_, ?_, ?_⟩ <;> simp <;> omega)]
    rfl
  · unfold stM
    rw [hm, hd]

end Go.Proofs.YtangejiigopdaaaDoor
end

section
/- The reference's moves and stack cells: the walks. -/
set_option linter.unusedSimpArgs false
set_option linter.unusedVariables false
set_option maxRecDepth 100000
namespace Go.Proofs.YtangejiigopdaaaDoor
open Go Go.HL

theorem dirsL_len {α : Type} {D : Nat → List α} {b : Nat} (h : ∀ i, (D i).length ≤ b) : ∀ {k i : Nat}, (dirsL D i k).length ≤ k * b
  | 0, i => by simp [dirsL]
  | k + 1, i => by
    unfold dirsL
    have := dirsL_len h (k := k) (i := i + 1)
    have := h i
    rw [List.length_append, Nat.succ_mul]
    omega

theorem pickFrom_len {α : Type} {p : Nat → Bool} {mk : Nat → α} : ∀ {k n : Nat}, (pickFrom p mk n k).length ≤ k
  | 0, n => Nat.le_refl _
  | k + 1, n => by
    rw [pick_succ]
    have := pickFrom_len (p := p) (mk := mk) (k := k) (n := n + 1)
    split <;> (try simp only [List.length_cons]) <;> omega

end Go.Proofs.YtangejiigopdaaaDoor
end

section
/- Each legal run and turn is among the moves of its pose, just once. -/
set_option linter.unusedSimpArgs false
set_option linter.unusedVariables false
namespace Go.Proofs.YtangejiigopdaaaDoor
open Go Go.HL

variable {C : Conf}

theorem mem_dirsL {α : Type} {D : Nat → List α} {x : α} : ∀ {k i : Nat}, x ∈ dirsL D i k ↔ ∃ j, i ≤ j ∧ j < i + k ∧ x ∈ D j
  | 0, i => by
    unfold dirsL
    simp only [List.not_mem_nil, false_iff]
    rintro ⟨j, h1, h2, _⟩
    omega
  | k + 1, i => by
    unfold dirsL
    rw [List.mem_append, mem_dirsL]
    constructor
    · rintro (h | ⟨j, h1, h2, h⟩)
      · exact ⟨i, Nat.le_refl _, by omega, h⟩
      · exact ⟨j, by omega, by omega, h⟩
    · rintro ⟨j, h1, h2, h⟩
      by_cases hj : j = i
      · subst hj; exact .inl h
      · exact .inr ⟨j, by omega, by omega, h⟩
end Go.Proofs.YtangejiigopdaaaDoor
end

section
/- The yard: a map by cells. -/
set_option linter.unusedSimpArgs false
set_option linter.unusedVariables false
set_option maxRecDepth 100000
namespace Go.Proofs.YtangejiigopdaaaDoor
open Go Go.HL

theorem cell_key : KeyOk Tryd.prog 28 (fun c : Cell => cellV c) := by
  refine ⟨⟨_, Tryd.underlying28⟩, fun a b => ?_, fun b a => ⟨by intro G h K; kernel_rfl, by intro G h K; kernel_rfl⟩, fun a => ?_⟩
  · have := deq28 9998 (x0 := a.1) (x1 := a.2) (y0 := b.1) (y1 := b.2)
    rw [Bool.and_true] at this
    exact this
  · rw [show (10000 : Nat) = 9999 + 1 from rfl]
    simp [Instr.sameBits]

theorem indexc_spec {G h : Hp} {v : Value} {L : List Cell} {c : Cell} (hv : Sees cellC G h v L) (hL : L.length ≤ 100000000000000) : HCalls Tryd.prog G 64 #[v, cellV c] h (fun u h' => (∃ n : Int, u = .int .i64 n ∧ (n ≥ 0 ↔ c ∈ L)) ∧ h' = h) := by
  obtain ⟨sa, cap, rfl⟩ := hv.len
  refine HCalls.assume fun d => quietly (enter64 (by simp) ?_)
  unfold S64
  simp -implicitDefEqProofs only [regs1, regs0, opH_sv, ln22, box_new, cells_agg]
  intro x hx gx
  generalize ex : Hp.set h x _ = h2
  obtain ⟨l2, d2, b2⟩ := boxed ex hx d gx
  have hs := hv.up l2 d2
  have cx : ∀ k, cellIn G h2 ⟨x, k, none⟩ = _ := fun k => cell_of (look_own b2)
  clear ex
  generalize hKK : retK Tryd.prog G _ _ = KK
  refine loop_I (fun m r h3 => ∃ i : Nat, m = L.length - i ∧ i ≤ L.length ∧ r 0 = .slice sa L.length cap ∧ r 3 = .pointer (some ⟨x, 0, none⟩) ∧ r 7 = .int .i64 L.length ∧ r 8 = .int .i64 i ∧ h3 = h2 ∧ c ∉ L.take i) ?_
    (m := L.length) ⟨0, rfl, Nat.zero_le _, by simp -implicitDefEqProofs (disch := first | with_reducible exact Nat.ne_of_beq_eq_false rfl | omega) only [upd_ne, regs0], by simp -implicitDefEqProofs (disch := first | with_reducible exact Nat.ne_of_beq_eq_false rfl | omega) only [upd_ne, upd_eq], by simp -implicitDefEqProofs (disch := first | with_reducible exact Nat.ne_of_beq_eq_false rfl | omega) only [upd_ne, upd_eq], by simp -implicitDefEqProofs only [upd_eq] <;> rfl, rfl, by simp⟩
  rintro m r h3 ⟨i, rfl, hi, g0, g3, g7, g8, rfl, hn⟩ X HX
  unfold S64_l2
  simp -implicitDefEqProofs only [g8, g7, thenK_exit, blockK_exit, thenK_normal, if_true, opH_sv, bin_lss]
  refine cond_dec (fun hlt => ?_) (fun hge => ?_)
  · obtain ⟨y, hy⟩ : ∃ x, L[i]? = some x := ⟨_, List.getElem?_eq_getElem (by omega)⟩
    obtain ⟨b, o, rfl, y0, y1⟩ := Sees.cell hs hy
    unfold S64_l2_k3
    simp -implicitDefEqProofs (disch := first | with_reducible exact Nat.ne_of_beq_eq_false rfl | omega) only [upd_ne, g3, g0, g8, thenK_ret, blockK_ret, pureW_sv, ix22p (Int.natCast_nonneg i) hlt, Int.toNat_natCast, add_mk, ld28p, Nat.add_zero, y0, Option.some.injEq, y1, exists_eq_left', cx, List.getElem?_cons_zero, Nat.zero_add, List.getElem?_cons_succ, eq28p, Bool.and_true, cell_beq]
    refine cond_bool (fun hb => ?_) (fun hb => ?_)
    · have : c = y := eq_of_beq hb
      subst this
      rw [← hKK]
      simp -implicitDefEqProofs only [beq_self_eq_true, retK_ret, resL_tmp, upd_eq, resL_nil1]
      exact ⟨⟨_, rfl, ⟨fun _ => List.mem_of_getElem? hy, fun _ => Int.natCast_nonneg i⟩⟩, l2⟩
    · unfold S64_l2_k4
      simp -implicitDefEqProofs (disch := first | with_reducible exact Nat.ne_of_beq_eq_false rfl | omega) only [upd_ne, g8, thenK_normal, opH_sv, bin_add, wrap_in]
      refine HX (L.length - (i + 1)) _ _ (by omega) ⟨i + 1, rfl, by omega, by simp -implicitDefEqProofs (disch := first | with_reducible exact Nat.ne_of_beq_eq_false rfl | omega) only [upd_ne, g0], by simp -implicitDefEqProofs (disch := first | with_reducible exact Nat.ne_of_beq_eq_false rfl | omega) only [upd_ne, g3], by simp -implicitDefEqProofs (disch := first | with_reducible exact Nat.ne_of_beq_eq_false rfl | omega) only [upd_ne, g7], by simp -implicitDefEqProofs (disch := first | with_reducible exact Nat.ne_of_beq_eq_false rfl | omega) only [upd_eq] <;> rfl, rfl, ?_⟩
      rw [List.take_add_one, hy, List.mem_append]
      rintro (h | h)
      · exact hn h
      · simp at h
        subst h
        rw [beq_self_eq_true] at hb
        cases hb
  · obtain rfl : i = L.length := by omega
    rw [List.take_of_length_le (Nat.le_refl _)] at hn
    try simp -implicitDefEqProofs only [opH_sv, opH_su, pureW_sv, opH_nil, pureW_nil, pick_t, pick_f, pick_tp, pick_fp, gd_tt, gd_ft, gd_tf, gd_ff, box_new, regs0, regs1, regs2, regs3, regs4, regs5, regs6, cells_agg, cells_int, cells_bool, cells_ptr, cells_slice, cells_string, cells_func, cells_nilFunc, cells_map, retK_ret, retK_normal, resL_tmp, resL_cell, resL_nil0, resL_nil1, resL_nil2, resL_nil3, resC_ptr, ex0, ex1, ex2, ex0p, ex1p, ex2p, HL.cond_true, HL.cond_false, thenK_normal, thenK_ret, thenK_exit, blockK_normal, blockK_ret, blockK_exit, scopeK_normal, scopeK_ret, scopeK_exit, wpH_pure, bin_add, bin_sub, bin_mul, bin_lss, bin_leq, bin_gtr, bin_geq, bin_quo, bin_rem, bin_quop, bin_remp, wrap_in, bin_addp, bin_subp, bin_mulp, bin_lssp, bin_leqp, bin_gtrp, bin_geqp, un_not, un_notp, un_neg, eq_int, ne_int, eq_intp, ne_intp, callV_fn, add_mk, upd_eq, upd_ne, cell_set_self, Nat.zero_add, Nat.add_zero, Option.some.injEq, exists_eq_left', List.getElem?_cons_succ, List.getElem?_cons_zero, true_and, and_true, bne_self_eq_false, beq_self_eq_true, Bool.not_true, Bool.not_false, Bool.and_true, Bool.and_self, Bool.and_false, Bool.true_and, List.length_cons, List.length_nil, ne_eq, not_false_eq_true, Nat.reduceAdd, Nat.reduceMul, if_true, if_false, oneCell_int, oneCell_bool, oneCell_ptr, oneCell_slice, oneCell_string, oneCell_func, oneCell_map, Int.toNat_natCast, List.set_cons_zero, List.set_cons_succ, Nat.lt_irrefl, Nat.zero_lt_succ, Nat.succ_lt_succ_iff, fa26_0, fa26_0p, fa26_1, fa26_1p, fa26_10, fa26_10p, fa26_11, fa26_11p, fa26_12, fa26_12p, fa26_13, fa26_13p, fa26_14, fa26_14p, fa26_15, fa26_15p, fa26_2, fa26_2p, fa26_3, fa26_3p, fa26_4, fa26_4p, fa26_5, fa26_5p, fa26_6, fa26_6p, fa26_7, fa26_7p, fa26_8, fa26_8p, fa26_9, fa26_9p, fa28_0, fa28_0p, fa28_1, fa28_1p, fa45_0, fa45_0p, fa45_1, fa45_1p, fa45_2, fa45_2p, fa45_3, fa45_3p, fa45_4, fa45_4p, fa45_5, fa45_5p, fa45_6, fa45_6p, fa49_0, fa49_0p, fa49_1, fa49_1p, fa74_0, fa74_0p, fa74_1, fa74_1p, fa74_2, fa74_2p, fa74_3, fa74_3p, fa85_0, fa85_0p, fa85_1, fa85_1p, fa93_0, fa93_0p, fa93_1, fa93_1p, fa93_2, fa93_2p, ld3, ld3p, ld4, ld4p, ld22, ld22p, ld23, ld23p, ld24, ld24p, ld26, ld26p, ld28, ld28p, ld42, ld42p, ld45, ld45p, ld49, ld49p, ld58, ld58p, ld69, ld69p, ld72, ld72p, ld85, ld85p, st3s, st4s, st22s, st23s, st24s, st26w, st28w, st42s, st45w, st49w, st85w, ix22, ix22p, ix23, ix23p, ix24, ix24p, ix31, ix31p, ix42, ix42p, ix104, ix104p, ln22, ln22p, ln23, ln23p, ln24, ln24p, ln31, ln31p, ln42, ln42p, al4, al22, al26, al28, al42, al49, al85, cf10, cf11, cf12, cf13, cf14, cf15, cf16, cf17, cf18, cf19, cf20, cf21, cf22, cf23, cf24, cf25, cf26, cf27, cf28, cf29, cf30, cf31, cf32, cf33, cf34, cf35, cf36, cf37, cf38, cf39, cf40, cf41, cf42, cf43, cf44, cf45, cf46, cf47, cf48, cf49, cf50, cf51, cf52, cf53, cf54, cf55, cf56, cf57, cf58, cf59, cf60, cf61, cf62, cf63, cf64, cf65, cf66, cf67, cf68, cf69, cf70, cf71, cf72, cf73, cf74, cf75, bd26_0_1_2_7_8_9_10_11_12_13_14_4_15, bd26_0_1_2_7_8_9_10_11_12_13_14_4_15p, bd28_, bd28_p, bd28_0, bd28_0p, bd28_0_1, bd28_0_1p, bd45_1_3_4_5_6, bd45_1_3_4_5_6p, bd49_0_1, bd49_0_1p, bd49_1, bd49_1p, bd74_0_1_2_3, bd74_0_1_2_3p, bd85_0, bd85_0p, bd85_0_1, bd85_0_1p, bd93_0_1_2, bd93_0_1_2p, bd94_0_1_2_3, bd94_0_1_2_3p, bs42_1_0, bs22_1_0, bs24_1_0, bs42_3_0_1_2, bs31_1_0, bs22_2_0_1, bs42_6_0_1_2_3_4_5, bs42_0_, eq4, eq4p, eq28, eq28p, eq42n, eq42np, eq42s, eq42sp, eq58n, eq58np, eq58s, eq58sp, eq63n, eq63np, eq63s, eq63sp, ne28, ne28p, ne45, ne45p]
    unfold S64_k1
    rw [← hKK]
    simp -implicitDefEqProofs only [retK_ret, resL_tmp, upd_eq, resL_nil1]
    exact ⟨⟨_, rfl, ⟨fun h => absurd h (by decide), fun h => absurd h hn⟩⟩, l2⟩

theorem contains_spec {G h : Hp} {v : Value} {L : List Cell} {c : Cell} (hv : Sees cellC G h v L) (hL : L.length ≤ 100000000000000) : HCalls Tryd.prog G 36 #[v, cellV c] h (fun u h' => u = .bool (decide (c ∈ L)) ∧ h' = h) := by
  refine HCalls.assume fun d => quietly (enter36 (by simp) ?_)
  unfold S36
  simp -implicitDefEqProofs only [regs1, regs0, retK_ret, resL_tmp, upd_eq, resL_nil1, opH_sv, cf64, box_new, cells_agg, ld28, add_mk, Nat.add_zero, cell_set_self, List.getElem?_cons_zero, Option.some.injEq, Nat.zero_add, List.getElem?_cons_succ, exists_eq_left']
  intro x hx gx
  generalize ex : Hp.set h x _ = h2
  obtain ⟨l2, d2, b2⟩ := boxed ex hx d gx
  have cx : ∀ k, cellIn G h2 ⟨x, k, none⟩ = _ := fun k => cell_of (look_own b2)
  refine (indexc_spec (c := c) (hv.up l2 d2) hL).mono ?_
  rintro _ h2 ⟨⟨n, rfl, hn⟩, rfl⟩
  simp -implicitDefEqProofs only [bin_geq]
  exact ⟨by rw [decide_eq_decide.2 hn], l2⟩

end Go.Proofs.YtangejiigopdaaaDoor
end
