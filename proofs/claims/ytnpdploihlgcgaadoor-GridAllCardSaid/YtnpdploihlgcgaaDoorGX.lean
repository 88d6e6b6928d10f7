/- The document's example is awake. -/
import Derived.Test.YtnpdploihlgcgaaDoorGW
import Derived.Test.YtnpdploihlgcgaaDoorGP
set_option linter.unusedSimpArgs false
set_option linter.unusedVariables false
set_option maxRecDepth 100000
namespace Go.Proofs.YtnpdploihlgcgaaDoor
open Go Go.HL

def C0 : Conf := ⟨2, 2, 1, [], [], [], [], 1, 1, 1, 1, 1, 1, 1, 1, false⟩

theorem conf_spec {G h : Hp} : HCalls Tryd.prog G 29 #[] h (fun u h' => u = confV C0 none 0 none 0 none 0 none 0 ∧ h' = h) := by
  refine HCalls.assume fun d => quietly (enter29 (by simp) ?_)
  unfold S29
  simp -implicitDefEqProofs (maxSteps := 2000000) (disch := first | with_reducible exact Nat.ne_of_beq_eq_false rfl | exact oneCell_int | exact oneCell_bool | omega | rfl | (simp; done) | fail) only [retK_ret, resL_cell, upd_ne, upd_eq, resL_nil1, opH_su, opH_sv, bd26_0_1_2_7_8_9_10_11_12_13_14, al26, resC_ptr, ld26, add_mk, Nat.add_zero, Nat.zero_add, st26w, cell_set_self, List.getElem?_cons_zero, Option.some.injEq, List.getElem?_cons_succ, exists_eq_left']
  intro x hx gx
  try simp -implicitDefEqProofs (maxSteps := 2000000) (disch := first | with_reducible exact Nat.ne_of_beq_eq_false rfl | exact oneCell_int | exact oneCell_bool | omega | rfl | (simp; done) | fail) only [opH_sv, opH_su, pureW_sv, opH_nil, pureW_nil, pick_t, pick_f, pick_tp, pick_fp, gd_tt, gd_ft, gd_tf, gd_ff, box_new, regs0, regs1, regs2, regs3, regs4, regs5, regs6, cells_agg, cells_int, cells_bool, cells_ptr, cells_slice, cells_string, cells_func, cells_nilFunc, cells_map, retK_ret, retK_normal, resL_tmp, resL_cell, resL_nil0, resL_nil1, resL_nil2, resL_nil3, resC_ptr, ex0, ex1, ex2, ex0p, ex1p, ex2p, HL.cond_true, HL.cond_false, thenK_normal, thenK_ret, thenK_exit, blockK_normal, blockK_ret, blockK_exit, scopeK_normal, scopeK_ret, scopeK_exit, wpH_pure, bin_add, bin_sub, bin_mul, bin_lss, bin_leq, bin_gtr, bin_geq, bin_quo, bin_rem, bin_quop, bin_remp, wrap_in, bin_addp, bin_subp, bin_mulp, bin_lssp, bin_leqp, bin_gtrp, bin_geqp, un_not, un_notp, un_neg, eq_int, ne_int, eq_intp, ne_intp, callV_fn, add_mk, upd_eq, upd_ne, cell_set_self, Nat.zero_add, Nat.add_zero, Option.some.injEq, exists_eq_left', List.getElem?_cons_succ, List.getElem?_cons_zero, true_and, and_true, bne_self_eq_false, beq_self_eq_true, Bool.not_true, Bool.not_false, Bool.and_true, Bool.and_self, Bool.and_false, Bool.true_and, List.length_cons, List.length_nil, ne_eq, not_false_eq_true, Nat.reduceAdd, Nat.reduceMul, if_true, if_false, oneCell_int, oneCell_bool, oneCell_ptr, oneCell_slice, oneCell_string, oneCell_func, oneCell_map, Int.toNat_natCast, List.set_cons_zero, List.set_cons_succ, Nat.lt_irrefl, Nat.zero_lt_succ, Nat.succ_lt_succ_iff, fa26_0, fa26_0p, fa26_1, fa26_1p, fa26_10, fa26_10p, fa26_11, fa26_11p, fa26_12, fa26_12p, fa26_13, fa26_13p, fa26_14, fa26_14p, fa26_2, fa26_2p, fa26_3, fa26_3p, fa26_4, fa26_4p, fa26_5, fa26_5p, fa26_6, fa26_6p, fa26_7, fa26_7p, fa26_8, fa26_8p, fa26_9, fa26_9p, fa28_0, fa28_0p, fa28_1, fa28_1p, fa30_0, fa30_0p, fa30_1, fa30_1p, fa46_0, fa46_0p, fa46_1, fa46_1p, fa46_2, fa46_2p, fa46_3, fa46_3p, fa46_4, fa46_4p, fa46_5, fa46_5p, fa46_6, fa46_6p, fa86_0, fa86_0p, fa86_1, fa86_1p, fa86_2, fa86_2p, fa95_0, fa95_0p, fa95_1, fa95_1p, ld3, ld3p, ld4, ld4p, ld22, ld22p, ld23, ld23p, ld24, ld24p, ld26, ld26p, ld28, ld28p, ld30, ld30p, ld31, ld31p, ld46, ld46p, ld47, ld47p, ld52, ld52p, ld55, ld55p, ld57, ld57p, ld95, ld95p, st3s, st4s, st22s, st23s, st24s, st26w, st28w, st30w, st46w, st47s, st55s, st95w, ix22, ix22p, ix23, ix23p, ix24, ix24p, ix47, ix47p, ix56, ix56p, ix57, ix57p, ix101, ix101p, ln22, ln22p, ln23, ln23p, ln24, ln24p, ln47, ln47p, ln56, ln56p, ln57, ln57p, al22, al26, al28, al30, al46, al47, al95, cf14, cf15, cf16, cf17, cf18, cf19, cf20, cf21, cf22, cf23, cf24, cf25, cf26, cf27, cf28, cf29, cf30, cf31, cf32, cf33, cf34, cf35, cf36, cf37, cf38, cf39, cf40, cf41, cf42, cf43, cf44, cf45, cf46, cf47, cf48, cf49, cf50, cf51, cf52, cf53, cf54, cf55, cf56, cf57, cf58, cf59, cf60, cf61, cf62, cf63, cf64, cf65, cf66, cf67, cf68, cf69, cf70, cf71, cf72, cf73, cf74, cf75, cf76, cf77, cf78, cf79, cf80, bd26_0_1_2_7_8_9_10_11_12_13_14, bd26_0_1_2_7_8_9_10_11_12_13_14p, bd28_0, bd28_0p, bd28_0_1, bd28_0_1p, bd30_, bd30_p, bd30_0_1, bd30_0_1p, bd30_0, bd30_0p, bd46_0_1_2_3_4, bd46_0_1_2_3_4p, bd46_0_3_4, bd46_0_3_4p, bd86_0_1_2, bd86_0_1_2p, bd87_0_1_2_3, bd87_0_1_2_3p, bd95_0_1, bd95_0_1p, bs22_2_0_1, bs47_1_0, bs22_1_0, bs57_6_0_1_2_3_4_5, bs24_1_0, bs22_4_0_1_2_3, bs56_11_0_1_2_3_4_5_6_7_8_9_10, bs57_11_0_1_2_3_4_5_6_7_8_9_10, eq4, eq4p, eq28, eq28p, eq30, eq30p, eq31n, eq31np, eq31s, eq31sp, eq46, eq46p, eq50n, eq50np, eq50s, eq50sp, eq67n, eq67np, eq67s, eq67sp, ne4, ne4p, ne28, ne28p, ne30, ne30p, ne31n, ne31np, ne31s, ne31sp, ne46, ne46p]
  first | exact le_set hx | exact ⟨rfl, le_set hx⟩

theorem ca_nil {G h : Hp} {C : Conf} (h1 : C.bl = []) (h2 : C.po = []) (h3 : C.ro = []) (h4 : C.st = []) : CA G h C none 0 none 0 none 0 none 0 := by
  obtain ⟨w, hh, ht, bl, po, ro, st, un, ac, sp, tu, ho, qu, re, bu, back⟩ := C
  subst h1 h2 h3 h4
  exact ⟨Slc.nil.sees (e := 28) (a := noHp) (by decide) (fun _ _ e => by cases e), Slc.nil.sees (e := 28) (a := noHp) (by decide) (fun _ _ e => by cases e), Slc.nil.sees (e := 30) (a := noHp) (by decide) (fun _ _ e => by cases e), [], Slc.nil.sees (e := 95) (a := noHp) (by decide) (fun _ _ e => by cases e), by simp⟩

theorem may_nil {C : Conf} (h1 : C.bl = []) (h2 : C.po = []) (h3 : C.ro = []) (h4 : C.st = []) : MayOk C ↔ numbersB C = true := by
  refine ⟨fun m => m.nums, fun n => ⟨n, by simp [h2], by simp [h3], by simp [h1], by simp [h1], by simp [h2], by simp [h3], by simp [h3], ?_⟩⟩
  exact ⟨by simp [h4], by simp [h4], by simp [h4], by simp [h4], by simp [h4], by simp [h4]⟩

theorem made0 : MadeOk C0 := by
  rw [made_may, may_nil rfl rfl rfl rfl]
  rfl

theorem moves0 : movesW (wC C0) (kC C0) (f3C C0) ⟨0, 0, false⟩ = [⟨1, 2, 1, ⟨0, 0, false⟩, ⟨0, 1, false⟩, 0, 0⟩, ⟨2, 0, 0, ⟨0, 0, false⟩, ⟨0, 0, true⟩, 0, 0⟩] := by decide +kernel

theorem Sees.move {G h : Hp} {sa : Option Addr} {cap n : Nat} {L : List Move} (s : Sees moveC G h (.slice sa n cap) L) {i : Nat} {x : Move} (hx : L[i]? = some x) :
    ∃ b o, sa = some ⟨b, o, none⟩ ∧ ∀ j, j < 11 → cellIn G h ⟨b, o + i * 11 + j, none⟩ = (moveC.enc x)[j]? := by
  obtain ⟨b, o, c, e1, e2⟩ := s.get hx
  simp only [Value.slice.injEq] at e1
  exact ⟨b, o, e1.1, e2⟩

set_option maxHeartbeats 4000000 in
theorem awake_spec {G h : Hp} (st : Steps G) : HCalls Tryd.prog G 17 #[] h (fun u h' => u = .bool true ∧ h' = h) := by
  refine HCalls.assume fun d => quietly (enter17 (by simp) ?_)
  unfold S17
  simp -implicitDefEqProofs (maxSteps := 2000000) (disch := first | with_reducible exact Nat.ne_of_beq_eq_false rfl | exact oneCell_int | exact oneCell_bool | omega | rfl | (simp; done) | fail) only [retK_ret, resL_tmp, upd_eq, resL_nil1, opH_sv, cf14, cf29]
  refine conf_spec.mono ?_
  rintro _ h0 ⟨rfl, rfl⟩
  refine (new_spec (C := C0) (ca_nil rfl rfl rfl rfl).cv st (by intro p hp; cases hp) (by decide)).mono ?_
  rintro _ h1 ⟨l1, d1, ⟨hm, ga, gp, kb, rfl, go, s1⟩ | ⟨hm, rfl⟩⟩
  rotate_left
  · exact absurd made0 hm
  simp -implicitDefEqProofs (maxSteps := 2000000) (disch := first | with_reducible exact Nat.ne_of_beq_eq_false rfl | exact oneCell_int | exact oneCell_bool | omega | rfl | (simp; done) | fail) only [ex1, ne_int, bne_self_eq_false, pick_f, gd_ff, ex0, eq31s, HL.cond_false]
  unfold S17_k1
  try simp -implicitDefEqProofs (maxSteps := 2000000) (disch := first | with_reducible exact Nat.ne_of_beq_eq_false rfl | exact oneCell_int | exact oneCell_bool | omega | rfl | (simp; done) | fail) only [upd_ne, upd_eq, retK_ret, resL_tmp, resL_nil1, opH_sv, cf25, cf26, bd30_]
  have pb : PB ⟨0, 0, false⟩ := ⟨⟨by decide, by decide⟩, ⟨by decide, by decide⟩⟩
  have gs1 : GS G h1 (.pointer (some ⟨gp, 0, none⟩)) (wC C0) (kC C0) (f3C C0) := (go.gs (G := G)).up (s1.in 0 rfl) d1
  refine (moves26_spec (gp := gp) (p := ⟨0, 0, false⟩)).mono ?_
  rintro _ h2 ⟨b1, b2, rfl, l2, d2, e1, e2⟩
  have gs2 := gs1.up l2 d2
  refine (moves25_spec (most := 9) e1 e2 gs2 st pb (by decide) (by decide)).mono ?_
  rintro u h3 ⟨ip, o, s3, d3⟩
  rw [moves0] at o
  change Slc moveC 46 ip u [⟨1, 2, 1, ⟨0, 0, false⟩, ⟨0, 1, false⟩, 0, 0⟩, ⟨2, 0, 0, ⟨0, 0, false⟩, ⟨0, 0, true⟩, 0, 0⟩] at o
  obtain ⟨sa, cap, rfl, hc⟩ := o.len (by decide)
  have gs3 := gs2.up (s3.in 1 rfl) d3
  have sv := o.sees (G := G) (by decide) (s3.in 0 rfl)
  obtain ⟨b, ofs, rfl, z⟩ := Sees.move (i := 0) sv rfl
  obtain ⟨b', ofs', eb, z'⟩ := Sees.move (i := 1) sv rfl
  cases eb
  have z00 := z 0 (by decide)
  have z01 := z 1 (by decide)
  have z02 := z 2 (by decide)
  have z10 := z' 0 (by decide)
  simp only [moveC, Nat.zero_mul, Nat.add_zero, Nat.one_mul, List.getElem?_cons_zero, List.getElem?_cons_succ] at z00 z01 z02 z10
  try simp -implicitDefEqProofs (maxSteps := 2000000) (disch := first | with_reducible exact Nat.ne_of_beq_eq_false rfl | exact oneCell_int | exact oneCell_bool | omega | rfl | (simp; done) | fail) only [List.length_cons, List.length_nil, Nat.zero_add, Nat.reduceAdd, ln47, eq_int]
  try simp -implicitDefEqProofs (maxSteps := 2000000) (disch := first | with_reducible exact Nat.ne_of_beq_eq_false rfl | exact oneCell_int | exact oneCell_bool | omega | rfl | (simp; done) | fail) only [show (((2 : Nat) : Int) == 2) = true from rfl, pick_t, gd_tt, opH_sv, ix47 (by decide : (0 : Int) ≤ 0) (by decide : (0 : Int) < (2 : Nat)), show Int.toNat 0 = 0 from rfl, Nat.zero_mul, add_mk, Nat.add_zero, fa46_0, ld3, z00, Option.some.injEq, exists_eq_left', eq_int, beq_self_eq_true, fa46_1, z01, fa46_2, z02, ix47 (by decide : (0 : Int) ≤ 1) (by decide : (1 : Int) < (2 : Nat)), Int.toNat_one, Nat.one_mul, z10, cf37, bd28_0_1]
  refine (num_spec (c := (1, 1)) gs3).mono ?_
  rintro _ _ ⟨rfl, rfl⟩
  try simp -implicitDefEqProofs (maxSteps := 2000000) (disch := first | with_reducible exact Nat.ne_of_beq_eq_false rfl | exact oneCell_int | exact oneCell_bool | omega | rfl | (simp; done) | fail) only [show numI (wC C0) (kC C0) (1, 1) = 3 from rfl, eq_int, beq_self_eq_true, true_and]
  first | exact (l1.trans l2).trans (s3.in 1 rfl) | exact ⟨rfl, (l1.trans l2).trans (s3.in 1 rfl)⟩

end Go.Proofs.YtnpdploihlgcgaaDoor
