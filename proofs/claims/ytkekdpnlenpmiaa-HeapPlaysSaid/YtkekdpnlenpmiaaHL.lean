/- The laws' own begin: the document's example. -/
import Derived.Test.YtkekdpnlenpmiaaHQ
set_option linter.unusedSimpArgs false
set_option linter.unusedVariables false
namespace Go.Proofs.Ytkekdpnlenpmiaa
open Go Go.HL

/-- What was there is there; the heap and its row are new. -/
structure Mine (h h1 : Hp) (x : Nat) (ob : Option Nat) : Prop where
  le : h.le h1
  hx : h x = none
  row : ∀ b, ob = some b → h b = none

theorem Mine.fr {G h h1 h2 : Hp} {x : Nat} {ob ob' : Option Nat} (m : Mine h h1 x ob) (f : Fr G h1 h2 x ob ob') : Mine h h2 x ob' := by
  have hrow : ∀ b, ob' = some b → h b = none := by
    intro b hb
    rcases f.new with e | ⟨b', e, hb', _⟩
    · exact m.row b (by rw [← e]; exact hb)
    · rw [hb] at e
      cases e
      cases e : h b with
      | none => rfl
      | some o => rw [m.le _ _ e] at hb'; cases hb'
  refine ⟨fun y o e => ?_, m.hx, hrow⟩
  have h1 : y ≠ x := fun e2 => by rw [e2, m.hx] at e; cases e
  have h2 : ob' ≠ some y := fun e2 => by rw [hrow y e2] at e; cases e
  rw [f.same y h1 h2]
  exact m.le _ _ e

theorem Mine.set {h h1 : Hp} {x y : Nat} {ob : Option Nat} {o : Obj} (m : Mine h h1 x ob) (hy : h1 y = none) : Mine h (h1.set y o) x ob := by
  refine ⟨m.le.set ?_, m.hx, m.row⟩
  cases e : h y with
  | none => rfl
  | some p => rw [m.le _ _ e] at hy; cases hy

theorem awake_spec {G h : Hp} : HCalls Try.prog G 10 #[] h (fun v h' => v = .bool true ∧ h' = h) := by
  refine quietly (enter10 (by simp) ?_)
  unfold S10
  simp -implicitDefEqProofs (maxSteps := 2000000) (disch := first | with_reducible exact Nat.ne_of_beq_eq_false rfl | omega | rfl | (simp; done)) only [retK_ret, resL_tmp, upd_eq, resL_nil1, cf11]
  refine qnew_spec.mono ?_
  rintro _ h1 ⟨x, rfl, hx, gx, a1, f1⟩
  have m1 : Mine h h1 x none := ⟨fun y o e => by rw [f1 y (fun e2 => by rw [e2, hx] at e; cases e)]; exact e, hx, by simp⟩
  simp -implicitDefEqProofs (maxSteps := 2000000) (disch := first | with_reducible exact Nat.ne_of_beq_eq_false rfl | omega | rfl | (simp; done)) only [eq24s, HL.cond_false]
  unfold S10_k1
  simp -implicitDefEqProofs (maxSteps := 2000000) (disch := first | with_reducible exact Nat.ne_of_beq_eq_false rfl | omega | rfl | (simp; done)) only [opH_sv, opH_su, pureW_sv, opH_nil, pureW_nil, pick_t, pick_f, pick_tp, pick_fp, gd_tt, gd_ft, gd_tf, gd_ff, box_new, regs0, regs1, regs2, regs3, regs4, regs5, regs6, cells_agg, cells_int, cells_bool, cells_ptr, cells_slice, cells_string, cells_func, cells_nilFunc, cells_map, retK_ret, retK_normal, resL_tmp, resL_cell, resL_nil0, resL_nil1, resL_nil2, resL_nil3, resC_ptr, ex0, ex1, ex2, ex0p, ex1p, ex2p, HL.cond_true, HL.cond_false, thenK_normal, thenK_ret, thenK_exit, blockK_normal, blockK_ret, blockK_exit, scopeK_normal, scopeK_ret, scopeK_exit, wpH_pure, bin_add, bin_sub, bin_mul, bin_lss, bin_leq, bin_gtr, bin_geq, bin_quo, bin_rem, bin_quop, bin_remp, wrap_in, bin_addp, bin_subp, bin_mulp, bin_lssp, bin_leqp, bin_gtrp, bin_geqp, un_not, un_notp, un_neg, eq_int, ne_int, eq_intp, ne_intp, callV_fn, add_mk, upd_eq, upd_ne, cell_set_self, Nat.zero_add, Nat.add_zero, Option.some.injEq, exists_eq_left', List.getElem?_cons_succ, List.getElem?_cons_zero, true_and, and_true, bne_self_eq_false, beq_self_eq_true, Bool.not_true, Bool.not_false, Bool.and_true, Bool.and_self, Bool.and_false, Bool.true_and, List.length_cons, List.length_nil, ne_eq, not_false_eq_true, Nat.reduceAdd, Nat.reduceMul, if_true, if_false, oneCell_int, oneCell_bool, oneCell_ptr, oneCell_slice, oneCell_string, oneCell_func, oneCell_map, Int.toNat_natCast, List.set_cons_zero, List.set_cons_succ, Nat.lt_irrefl, Nat.zero_lt_succ, Nat.succ_lt_succ_iff, fa27_0, fa27_0p, fa27_1, fa27_1p, fa53_0, fa53_0p, fa55_0, fa55_0p, fa55_1, fa55_1p, fa63_0, fa63_0p, fa63_1, fa63_1p, fa63_2, fa63_2p, fa65_0, fa65_0p, fa65_1, fa65_1p, fa70_0, fa70_0p, fa70_1, fa70_1p, fa70_2, fa70_2p, fa72_0, fa72_0p, fa72_1, fa72_1p, ld3, ld3p, ld4, ld4p, ld9, ld9p, ld24, ld24p, ld27, ld27p, ld28, ld28p, ld39, ld39p, ld44, ld44p, ld55, ld55p, ld61, ld61p, ld65, ld65p, ld68, ld68p, ld72, ld72p, st3s, st4s, st9s, st27w, st44s, st55w, st61s, st65w, st68s, st72w, ix22, ix22p, ix31, ix31p, ix36, ix36p, ix44, ix44p, ix50, ix50p, ix61, ix61p, ix68, ix68p, ln9, ln9p, ln22, ln22p, ln31, ln31p, ln36, ln36p, ln44, ln44p, ln50, ln50p, ln61, ln61p, ln68, ln68p, al3, al27, al44, al55, al65, al72, cf10, cf11, cf12, cf13, cf14, cf15, cf16, cf17, cf18, cf19, cf20, cf21, cf22, cf23, cf24, cf25, cf26, cf27, cf28, cf29, cf30, cf31, cf32, cf33, cf34, cf35, cf36, cf37, cf38, cf39, cf40, cf41, cf42, cf43, cf44, cf45, cf46, cf47, bd27_, bd27_p, bd27_0_1, bd27_0_1p, bd53_, bd53_p, bd53_0, bd53_0p, bd63_0, bd63_0p, bd63_0_1_2, bd63_0_1_2p, bd65_, bd65_p, bd65_0_1, bd65_0_1p, bd70_0, bd70_0p, bd72_, bd72_p, bd72_0_1, bd72_0_1p, bd77_0_1, bd77_0_1p, bs61_1_0, bs68_1_0, bs44_1_0, bs61_0_, eq9, eq9p, eq24n, eq24np, eq24s, eq24sp, eq27, eq27p, eq28n, eq28np, eq28s, eq28sp, eq37n, eq37np, eq37s, eq37sp, eq39n, eq39np, eq39s, eq39sp, eq74n, eq74np, eq74s, eq74sp, ne4, ne4p, ne27, ne27p]
  refine of_spec.mono ?_
  rintro _ _ ⟨rfl, rfl⟩
  refine (qpush_spec a1 (by simp) (by omega) (by omega)).mono ?_
  rintro _ h2 ⟨b2, a2, f2⟩
  have m2 := m1.fr f2
  have a2' : HS h2 x [⟨2, 1, 0⟩] 1 (some b2) := by simpa [ins] using a2
  refine of_spec.mono ?_
  rintro _ _ ⟨rfl, rfl⟩
  refine (qpush_spec a2' (by simp) (by omega) (by omega)).mono ?_
  rintro _ h3 ⟨b3, a3, f3⟩
  have m3 := m2.fr f3
  have a3' : HS h3 x [⟨1, 2, 1⟩, ⟨2, 1, 0⟩] 2 (some b3) := by simpa [ins, It.lt] using a3
  refine of_spec.mono ?_
  rintro _ _ ⟨rfl, rfl⟩
  refine (qpush_spec a3' (by simp) (by omega) (by omega)).mono ?_
  rintro _ h4 ⟨b4, a4, f4⟩
  have m4 := m3.fr f4
  have a4' : HS h4 x [⟨1, 2, 1⟩, ⟨1, 3, 2⟩, ⟨2, 1, 0⟩] 3 (some b4) := by simpa [ins, It.lt] using a4
  refine (qpop_spec a4' (by simp)).mono ?_
  rintro _ h5 ⟨rfl, a5, f5⟩
  have m5 := m4.fr f5
  simp -implicitDefEqProofs (maxSteps := 2000000) (disch := first | with_reducible exact Nat.ne_of_beq_eq_false rfl | omega | rfl | (simp; done)) only [pkV, ex1, ex0, st27w]
  intro y hy gy
  refine (qpop_spec (a5.new hy) (by simp)).mono ?_
  rintro _ h6 ⟨rfl, a6, f6⟩
  have m6 := (m5.set hy).fr f6
  have hy6 : h6 y = some (.cells #[.int .i64 1, .int .i64 2] 27 (0, 0)) := by
    obtain ⟨o, ho⟩ := a5.at
    obtain ⟨o2, ho2⟩ := a5.row
    rw [f6.same y (fun e => by rw [e, ho] at hy; cases hy) (fun e => by cases e; rw [ho2] at hy; cases hy), set_self]
  simp only [List.tail, pkV]
  simp -implicitDefEqProofs (maxSteps := 2000000) (disch := first | with_reducible exact Nat.ne_of_beq_eq_false rfl | omega | rfl | (simp; done)) only [ex1, ex0, st27w]
  intro z hz gz
  have eyz : y ≠ z := ne_of_new hy6 hz
  have cy : ∀ k, cellIn G h6 ⟨y, k, none⟩ = _ := fun k => cell_of (look_own hy6)
  simp -implicitDefEqProofs (maxSteps := 2000000) (disch := first | with_reducible exact Nat.ne_of_beq_eq_false rfl | omega | rfl | (simp; done)) only [cell_set_other eyz, cy, List.getElem?_cons_zero, Option.some.injEq, List.getElem?_cons_succ, exists_eq_left']
  refine of_spec.mono ?_
  rintro _ _ ⟨rfl, rfl⟩
  refine ⟨Hp.le.refl _, ?_⟩
  simp -implicitDefEqProofs (maxSteps := 2000000) (disch := first | with_reducible exact Nat.ne_of_beq_eq_false rfl | omega | rfl | (simp; done)) only [eq27p, beq_self_eq_true, Bool.and_self, pick_tp, gd_tt, pureW_sv, ld27p, add_mk, Nat.add_zero, cell_set_self, List.getElem?_cons_zero, Option.some.injEq, Nat.zero_add, List.getElem?_cons_succ, exists_eq_left']
  refine of_spec.mono ?_
  rintro _ _ ⟨rfl, rfl⟩
  refine ⟨Hp.le.refl _, ?_⟩
  simp -implicitDefEqProofs (maxSteps := 2000000) (disch := first | with_reducible exact Nat.ne_of_beq_eq_false rfl | omega | rfl | (simp; done)) only [eq27p, beq_self_eq_true, Bool.and_self, pick_tp, gd_tt, cf16]
  refine (qlen_spec (a6.new hz)).mono ?_
  rintro _ _ ⟨rfl, rfl⟩
  simp -implicitDefEqProofs (maxSteps := 2000000) (disch := first | with_reducible exact Nat.ne_of_beq_eq_false rfl | omega | rfl | (simp; done)) only [List.tail, List.length_cons, List.length_nil, Nat.zero_add, eq_intp]

  exact ⟨rfl, (m6.set hz).le⟩

end Go.Proofs.Ytkekdpnlenpmiaa
