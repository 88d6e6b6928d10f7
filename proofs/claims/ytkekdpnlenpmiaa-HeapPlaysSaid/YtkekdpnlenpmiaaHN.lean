/- Several heaps side by side; which is dropped. -/
import Derived.Test.YtkekdpnlenpmiaaHM
import Derived.Test.YtkekdpnlenpmiaaHW
set_option linter.unusedSimpArgs false
set_option linter.unusedVariables false
namespace Go.Proofs.Ytkekdpnlenpmiaa
open Go Go.HL

/-- Another heap is as it was. -/
theorem HS.other {h h' : Hp} {x y : Nat} {Q Q0 : List It} {n n0 : Int} {ob ob' oby : Option Nat} (a : HS h y Q n oby) (a0 : HS h x Q0 n0 ob) (hxy : y ≠ x) (hb : ∀ b, ob = some b → oby ≠ some b)
    (same : ∀ z, z ≠ x → ob' ≠ some z → h' z = h z) (new : ∀ b, ob' = some b → ob = some b ∨ h b = none) : HS h' y Q n oby ∧ ∀ b, ob' = some b → oby ≠ some b := by
  obtain ⟨cx, hx⟩ := a0.hd
  obtain ⟨cy, hy⟩ := a.hd
  have n1 : ob' ≠ some y := by
    intro e
    rcases new y e with e2 | e2
    · subst e2
      obtain ⟨cb, hbb⟩ := a0.tl
      exact ne_type hbb hy (by decide) rfl
    · rw [hy] at e2; cases e2
  have n2 : ∀ b, ob' = some b → oby ≠ some b := by
    intro b e e2
    rcases new b e with e3 | e3
    · exact hb b e3 e2
    · obtain ⟨q, hq⟩ := a.rows b e2
      rw [hq] at e3; cases e3
  refine ⟨a.keep (same y hxy n1) fun b e => same b ?_ fun e2 => n2 b e2 e, n2⟩
  subst e
  obtain ⟨cb, hbb⟩ := a.tl
  exact ne_type hbb hx (by decide)

theorem Fr.news {G h h' : Hp} {hp : Nat} {ob ob' : Option Nat} (f : Fr G h h' hp ob ob') : ∀ b, ob' = some b → ob = some b ∨ h b = none := by
  intro b e
  rcases f.new with e2 | ⟨b', e2, hb, _⟩
  · exact .inl (by rw [← e2]; exact e)
  · rw [e] at e2; cases e2; exact .inr hb

/-- A box of its own is as it was. -/
theorem box_other {h h' : Hp} {x w : Nat} {Q0 : List It} {n0 : Int} {ob ob' : Option Nat} {cs : Array Value} {e : TypeId} (hw : h w = some (.cells cs e (0, 0))) (h63 : e ≠ 63) (h65 : e ≠ 65) (a0 : HS h x Q0 n0 ob)
    (same : ∀ z, z ≠ x → ob' ≠ some z → h' z = h z) (new : ∀ b, ob' = some b → ob = some b ∨ h b = none) : h' w = some (.cells cs e (0, 0)) := by
  obtain ⟨cx, hx⟩ := a0.hd
  rw [same w (ne_type hw hx h63) ?_]
  · exact hw
  · intro e2
    rcases new w e2 with e3 | e3
    · subst e3
      obtain ⟨cb, hbb⟩ := a0.tl
      exact ne_type hw hbb h65 rfl
    · rw [hw] at e3; cases e3

theorem drops1_spec {G h : Hp} {k m n : Int} {nb : Nat} (hn : h nb = some (.cells #[.int .i64 n] 3 (0, 0))) (hn0 : 0 < n) (hn1 : n ≤ 1000) (hm : -9223372036854775808 ≤ m ∧ m ≤ 9223372036854775807) :
    HCalls Try.prog G 33 ((#[] ++ #[.agg #[.int .i64 k, .int .i64 m]]) ++ #[.pointer (some ⟨nb, 0, none⟩)]) h (fun v h' => v = .bool (m.tmod n == 0) ∧ h' = h) := by
  have c1 : ∀ k, cellIn G h ⟨nb, k, none⟩ = _ := fun k => cell_of (look_own hn)
  refine quietly (enter33 (by simp) ?_)
  show S33 _ _ (regs #[.agg #[.int .i64 k, .int .i64 m], .pointer (some ⟨nb, 0, none⟩)]) h
  unfold S33
  simp -implicitDefEqProofs (maxSteps := 2000000) (disch := first | with_reducible exact Nat.ne_of_beq_eq_false rfl | omega | rfl | (simp; done)) only [regs0, regs1, retK_ret, resL_tmp, upd_eq, resL_nil1, opH_sv, ld3, box_new, cells_agg, fa27_1, add_mk, Nat.zero_add, cell_set_self, List.getElem?_cons_succ, List.getElem?_cons_zero, Option.some.injEq, exists_eq_left']
  intro x hx gx
  have e1 : nb ≠ x := ne_of_new hn hx
  have ht : -9223372036854775808 ≤ m.tmod n ∧ m.tmod n ≤ 9223372036854775807 := by
    have h1 := Int.tmod_lt_of_pos m hn0
    have h2 : -n < m.tmod n := Int.lt_tmod_of_pos m hn0
    have h3 := Int.natAbs_tmod m n
    have h4 := Nat.mod_le m.natAbs n.natAbs
    omega
  simp -implicitDefEqProofs (maxSteps := 2000000) (disch := first | with_reducible exact Nat.ne_of_beq_eq_false rfl | omega | rfl | (simp; done)) only [cell_set_other e1, c1, List.getElem?_cons_zero, Option.some.injEq, exists_eq_left', bin_rem, eq_int, true_and]
  exact le_set hx

theorem drops2_spec {G h : Hp} {k m n : Int} {nb : Nat} (hn : h nb = some (.cells #[.int .i64 n] 3 (0, 0))) (hn0 : 0 < n) (hn1 : n ≤ 1000) (hm : -9223372036854775808 ≤ m ∧ m ≤ 9223372036854775807) :
    HCalls Try.prog G 34 ((#[] ++ #[.agg #[.int .i64 k, .int .i64 m]]) ++ #[.pointer (some ⟨nb, 0, none⟩)]) h (fun v h' => v = .bool (m.tmod n == 0) ∧ h' = h) := by
  have c1 : ∀ k, cellIn G h ⟨nb, k, none⟩ = _ := fun k => cell_of (look_own hn)
  refine quietly (enter34 (by simp) ?_)
  show S34 _ _ (regs #[.agg #[.int .i64 k, .int .i64 m], .pointer (some ⟨nb, 0, none⟩)]) h
  unfold S34
  simp -implicitDefEqProofs (maxSteps := 2000000) (disch := first | with_reducible exact Nat.ne_of_beq_eq_false rfl | omega | rfl | (simp; done)) only [regs0, regs1, retK_ret, resL_tmp, upd_eq, resL_nil1, opH_sv, ld3, box_new, cells_agg, fa27_1, add_mk, Nat.zero_add, cell_set_self, List.getElem?_cons_succ, List.getElem?_cons_zero, Option.some.injEq, exists_eq_left']
  intro x hx gx
  have e1 : nb ≠ x := ne_of_new hn hx
  have ht : -9223372036854775808 ≤ m.tmod n ∧ m.tmod n ≤ 9223372036854775807 := by
    have h1 := Int.tmod_lt_of_pos m hn0
    have h2 : -n < m.tmod n := Int.lt_tmod_of_pos m hn0
    have h3 := Int.natAbs_tmod m n
    have h4 := Nat.mod_le m.natAbs n.natAbs
    omega
  simp -implicitDefEqProofs (maxSteps := 2000000) (disch := first | with_reducible exact Nat.ne_of_beq_eq_false rfl | omega | rfl | (simp; done)) only [cell_set_other e1, c1, List.getElem?_cons_zero, Option.some.injEq, exists_eq_left', bin_rem, eq_int, true_and]
  exact le_set hx

theorem two_spec {G h : Hp} {k m : Int} (hk : -9223372036854775808 ≤ k ∧ k ≤ 9223372036854775807) :
    HCalls Try.prog G 35 ((#[] ++ #[.agg #[.int .i64 k, .int .i64 m]]) ++ #[]) h (fun v h' => v = .bool (k.tmod 2 == 0) ∧ h' = h) := by
  refine quietly (enter35 (by simp) ?_)
  show S35 _ _ (regs #[.agg #[.int .i64 k, .int .i64 m]]) h
  unfold S35
  simp -implicitDefEqProofs (maxSteps := 2000000) (disch := first | with_reducible exact Nat.ne_of_beq_eq_false rfl | omega | rfl | (simp; done)) only [regs0, retK_ret, resL_tmp, upd_eq, resL_nil1, opH_sv, box_new, cells_agg, fa27_0, add_mk, Nat.add_zero, ld3, cell_set_self, List.getElem?_cons_zero, Option.some.injEq, exists_eq_left', bin_rem, eq_int, true_and]
  intro x hx gx
  try simp -implicitDefEqProofs (maxSteps := 2000000) (disch := first | with_reducible exact Nat.ne_of_beq_eq_false rfl | omega | rfl | (simp; done)) only [opH_sv, opH_su, pureW_sv, opH_nil, pureW_nil, pick_t, pick_f, pick_tp, pick_fp, gd_tt, gd_ft, gd_tf, gd_ff, box_new, regs0, regs1, regs2, regs3, regs4, regs5, regs6, cells_agg, cells_int, cells_bool, cells_ptr, cells_slice, cells_string, cells_func, cells_nilFunc, cells_map, retK_ret, retK_normal, resL_tmp, resL_cell, resL_nil0, resL_nil1, resL_nil2, resL_nil3, resC_ptr, ex0, ex1, ex2, ex0p, ex1p, ex2p, HL.cond_true, HL.cond_false, thenK_normal, thenK_ret, thenK_exit, blockK_normal, blockK_ret, blockK_exit, scopeK_normal, scopeK_ret, scopeK_exit, wpH_pure, bin_add, bin_sub, bin_mul, bin_lss, bin_leq, bin_gtr, bin_geq, bin_quo, bin_rem, bin_quop, bin_remp, wrap_in, bin_addp, bin_subp, bin_mulp, bin_lssp, bin_leqp, bin_gtrp, bin_geqp, un_not, un_notp, un_neg, eq_int, ne_int, eq_intp, ne_intp, callV_fn, add_mk, upd_eq, upd_ne, cell_set_self, Nat.zero_add, Nat.add_zero, Option.some.injEq, exists_eq_left', List.getElem?_cons_succ, List.getElem?_cons_zero, true_and, and_true, bne_self_eq_false, beq_self_eq_true, Bool.not_true, Bool.not_false, Bool.and_true, Bool.and_self, Bool.and_false, Bool.true_and, List.length_cons, List.length_nil, ne_eq, not_false_eq_true, Nat.reduceAdd, Nat.reduceMul, if_true, if_false, oneCell_int, oneCell_bool, oneCell_ptr, oneCell_slice, oneCell_string, oneCell_func, oneCell_map, Int.toNat_natCast, List.set_cons_zero, List.set_cons_succ, Nat.lt_irrefl, Nat.zero_lt_succ, Nat.succ_lt_succ_iff, fa27_0, fa27_0p, fa27_1, fa27_1p, fa53_0, fa53_0p, fa55_0, fa55_0p, fa55_1, fa55_1p, fa63_0, fa63_0p, fa63_1, fa63_1p, fa63_2, fa63_2p, fa65_0, fa65_0p, fa65_1, fa65_1p, fa70_0, fa70_0p, fa70_1, fa70_1p, fa70_2, fa70_2p, fa72_0, fa72_0p, fa72_1, fa72_1p, ld3, ld3p, ld4, ld4p, ld9, ld9p, ld24, ld24p, ld27, ld27p, ld28, ld28p, ld39, ld39p, ld44, ld44p, ld55, ld55p, ld61, ld61p, ld65, ld65p, ld68, ld68p, ld72, ld72p, st3s, st4s, st9s, st27w, st44s, st55w, st61s, st65w, st68s, st72w, ix22, ix22p, ix31, ix31p, ix36, ix36p, ix44, ix44p, ix50, ix50p, ix61, ix61p, ix68, ix68p, ln9, ln9p, ln22, ln22p, ln31, ln31p, ln36, ln36p, ln44, ln44p, ln50, ln50p, ln61, ln61p, ln68, ln68p, al3, al27, al44, al55, al65, al72, cf10, cf11, cf12, cf13, cf14, cf15, cf16, cf17, cf18, cf19, cf20, cf21, cf22, cf23, cf24, cf25, cf26, cf27, cf28, cf29, cf30, cf31, cf32, cf33, cf34, cf35, cf36, cf37, cf38, cf39, cf40, cf41, cf42, cf43, cf44, cf45, cf46, cf47, bd27_, bd27_p, bd27_0_1, bd27_0_1p, bd53_, bd53_p, bd53_0, bd53_0p, bd63_0, bd63_0p, bd63_0_1_2, bd63_0_1_2p, bd65_, bd65_p, bd65_0_1, bd65_0_1p, bd70_0, bd70_0p, bd72_, bd72_p, bd72_0_1, bd72_0_1p, bd77_0_1, bd77_0_1p, bs61_1_0, bs68_1_0, bs44_1_0, bs61_0_, eq9, eq9p, eq24n, eq24np, eq24s, eq24sp, eq27, eq27p, eq28n, eq28np, eq28s, eq28sp, eq37n, eq37np, eq37s, eq37sp, eq39n, eq39np, eq39s, eq39sp, eq74n, eq74np, eq74s, eq74sp, ne4, ne4p, ne27, ne27p]
  exact le_set hx

end Go.Proofs.Ytkekdpnlenpmiaa
