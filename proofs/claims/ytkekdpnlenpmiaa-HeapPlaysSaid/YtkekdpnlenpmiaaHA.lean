/- What a heap's iterator tells; two rows of things held against each other; a place. -/
import Derived.Test.YtkekdpnlenpmiaaHR
import Derived.Test.YtkekdpnlenpmiaaHLp
set_option linter.unusedSimpArgs false
set_option linter.unusedVariables false
namespace Go.Proofs.Ytkekdpnlenpmiaa
open Go Go.HL

def vC : Cod (Int × Int) := ⟨2, fun x => [.int .i64 x.1, .int .i64 x.2], fun _ => rfl, fun _ v hv => by simp at hv; rcases hv with rfl | rfl <;> rfl⟩
def It.v (x : It) : Int × Int := (x.k, x.m)

theorem eo27v : ElemOk Try.prog 27 vC.n 16 := ⟨by kernel_rfl, by kernel_rfl, by kernel_rfl⟩

theorem yield_spec {G h : Hp} {lb mb : Nat} {sl : Value} {L : List (Int × Int)} {ob : Option Nat} {most k m : Int} (hl : h lb = some (.cells #[sl] 44 (0, 0))) (o : Own vC 27 h sl L ob) (hm : h mb = some (.cells #[.int .i64 most] 3 (0, 0))) (hL : L.length ≤ 100000) :
    HCalls Try.prog G 43 #[.agg #[.int .i64 k, .int .i64 m], .pointer (some ⟨lb, 0, none⟩), .pointer (some ⟨mb, 0, none⟩)] h (fun v h' => v = .bool (decide (((L.length + 1 : Nat) : Int) < most)) ∧ ∃ sl' ob', h' lb = some (.cells #[sl'] 44 (0, 0)) ∧ Own vC 27 h' sl' (L ++ [(k, m)]) ob' ∧ Fr G h h' lb ob ob') := by
  have c1 : ∀ k, cellIn G h ⟨lb, k, none⟩ = _ := fun k => cell_of (look_own hl)
  have c2 : ∀ k, cellIn G h ⟨mb, k, none⟩ = _ := fun k => cell_of (look_own hm)
  refine HCalls.less (enter43 (by simp) (R := fun v hf => v = .bool (decide (((L.length + 1 : Nat) : Int) < most)) ∧ ∃ b cap ts, (ob = some b ∨ (h b = none ∧ G b = none)) ∧ (vC.rows (L ++ [(k, m)]) ++ ts).length = cap * vC.n ∧ b ≠ lb ∧
     ((h.set lb (.cells #[.slice (some ⟨b, 0, none⟩) (L.length + 1) cap] 44 (0, 0))).set b (.cells (vC.rows (L ++ [(k, m)]) ++ ts).toArray 27 (0, 0))).le hf) ?_)
     (fun v hf ⟨hv, b, cap, ts, h1, h2, h4, h3⟩ => ⟨_, h3, hv, .slice (some ⟨b, 0, none⟩) (L.length + 1) cap, some b, by rw [set_other h4.symm, set_self], ⟨cap, ts, by rw [List.length_append]; rfl, set_self, h2⟩, fun y y1 y2 => by rw [set_other (fun e => y2 (by rw [e])), set_other y1], by
       rcases h1 with rfl | h1
       · exact .inl rfl
       · exact .inr ⟨b, rfl, h1⟩⟩)
  unfold S43
  simp -implicitDefEqProofs (maxSteps := 2000000) (disch := first | with_reducible exact Nat.ne_of_beq_eq_false rfl | omega | rfl | (simp; done)) only [regs0, regs1, regs2, ne_eq, retK_ret, resL_tmp, upd_eq, resL_nil1, opH_sv, ld3, ld44, opH_su, box_new, cells_agg, ld27, add_mk, Nat.add_zero, cell_set_self, List.getElem?_cons_zero, Option.some.injEq, Nat.zero_add, List.getElem?_cons_succ, bs44_1_0, exists_eq_left']
  intro x hx gx
  have e1 : lb ≠ x := ne_of_new hl hx
  have e2 : mb ≠ x := ne_of_new hm hx
  simp -implicitDefEqProofs (maxSteps := 2000000) (disch := first | with_reducible exact Nat.ne_of_beq_eq_false rfl | omega | rfl | (simp; done)) only [cell_set_other e1, c1, List.getElem?_cons_zero, Option.some.injEq, exists_eq_left']
  intro q hq gq
  have hq' := none_of_set hq
  have exq : x ≠ q := ne_of_set hq
  have e3 : lb ≠ q := ne_of_new hl hq'
  have e4 : mb ≠ q := ne_of_new hm hq'
  have o' := (o.new (p := .cells #[.int .i64 k, .int .i64 m] 27 (0, 0)) hx).new (p := .cells #[.int .i64 k, .int .i64 m] 27 (0, 0)) hq
  refine append_own vC (M := [(k, m)]) un44 eo27v (by decide) o' ⟨rfl, .inr ⟨q, 0, 1, rfl, fun j hj => ?_⟩⟩ (by simp) (by simp; omega) (by simp; omega) ?_
  · rw [Nat.zero_add, cell_set_self]; rfl
  intro b cap ts hb hlen
  have e5 : lb ≠ b := by
    rcases hb with hb | ⟨hb, _⟩
    · subst hb
      exact (o.ne hl (by decide)).symm
    · exact ne_of_new hl (none_of_set (none_of_set hb))
  have e6 : mb ≠ b := by
    rcases hb with hb | ⟨hb, _⟩
    · subst hb
      exact (o.ne hm (by decide)).symm
    · exact ne_of_new hm (none_of_set (none_of_set hb))
  have e7 : lb ≠ mb := by
    intro e
    rw [e, hm] at hl
    simp at hl
  have hb2 : ob = some b ∨ (h b = none ∧ G b = none) := hb.imp id fun ⟨u, v⟩ => ⟨none_of_set (none_of_set u), v⟩
  simp only [store_past e5, store_past e3, store_past e1]
  rw [store1_eq sz44 rfl hl (by simp)]
  simp -implicitDefEqProofs (maxSteps := 2000000) (disch := first | with_reducible exact Nat.ne_of_beq_eq_false rfl | omega | rfl | (simp; done)) only [List.length_cons, List.length_nil, Nat.zero_add, List.set_cons_zero, cell_set_other e5, cell_set_other e3, cell_set_other e1, cell_set_self, List.getElem?_cons_zero, Option.some.injEq, exists_eq_left', ln44, cell_set_other e6, cell_set_other e4, cell_set_other e2, cell_set_other e7.symm, c2, bin_lss, true_and]
  refine ⟨b, cap, ts, hb2, hlen, e5.symm, ?_⟩
  refine Hp.le.both ?_
  intro y p hy
  by_cases e8 : y = lb
  · subst e8
    rw [set_self] at hy
    rw [set_other e3, set_other e1, set_self]
    exact hy
  · rw [set_other e8] at hy
    rw [set_other (ne_of_new hy hq'), set_other (ne_of_new hy hx), set_other e8]
    exact hy

theorem place_spec {G h : Hp} {a n : Int} (ha : -9223372036854775808 ≤ a) (ha2 : a ≤ 9223372036854775807) (hn : 0 < n) (hn2 : n ≤ 1000000) : HCalls Try.prog G 23 #[.int .i64 a, .int .i64 n] h (fun v h' => v = .int .i64 (a % n) ∧ h' = h) := by
  refine quietly (enter23 (by simp) ?_)
  unfold S23
  have e1 : a.tmod n = if 0 ≤ a ∨ a % n = 0 then a % n else a % n - n := by
    rw [Int.tmod_eq_emod]
    have : (n.natAbs : Int) = n := by omega
    by_cases h0 : 0 ≤ a
    · simp [h0]
    · simp [h0, this, Int.dvd_iff_emod_eq_zero]
      split <;> omega
  have hb := Int.emod_nonneg a (show n ≠ 0 by omega)
  have hb2 := Int.emod_lt_of_pos a hn
  simp -implicitDefEqProofs (maxSteps := 2000000) (disch := first | with_reducible exact Nat.ne_of_beq_eq_false rfl | omega | rfl | (simp; done)) only [regs0, regs1, opH_sv, bin_rem, bin_add, wrap_in, bin_lss]
  by_cases hc : 0 ≤ a ∨ a % n = 0
  · rw [if_pos hc] at e1
    rw [e1, dec_f (show ¬ a % n < 0 by omega)]
    simp -implicitDefEqProofs (maxSteps := 2000000) (disch := first | with_reducible exact Nat.ne_of_beq_eq_false rfl | omega | rfl | (simp; done)) only [HL.cond_false]
    unfold S23_k1
    simp -implicitDefEqProofs (maxSteps := 2000000) (disch := first | with_reducible exact Nat.ne_of_beq_eq_false rfl | omega | rfl | (simp; done)) only [opH_sv, opH_su, pureW_sv, opH_nil, pureW_nil, pick_t, pick_f, pick_tp, pick_fp, gd_tt, gd_ft, gd_tf, gd_ff, box_new, regs0, regs1, regs2, regs3, regs4, regs5, regs6, cells_agg, cells_int, cells_bool, cells_ptr, cells_slice, cells_string, cells_func, cells_nilFunc, cells_map, retK_ret, retK_normal, resL_tmp, resL_cell, resL_nil0, resL_nil1, resL_nil2, resL_nil3, resC_ptr, ex0, ex1, ex2, ex0p, ex1p, ex2p, HL.cond_true, HL.cond_false, thenK_normal, thenK_ret, thenK_exit, blockK_normal, blockK_ret, blockK_exit, scopeK_normal, scopeK_ret, scopeK_exit, wpH_pure, bin_add, bin_sub, bin_mul, bin_lss, bin_leq, bin_gtr, bin_geq, bin_quo, bin_rem, bin_quop, bin_remp, wrap_in, bin_addp, bin_subp, bin_mulp, bin_lssp, bin_leqp, bin_gtrp, bin_geqp, un_not, un_notp, un_neg, eq_int, ne_int, eq_intp, ne_intp, callV_fn, add_mk, upd_eq, upd_ne, cell_set_self, Nat.zero_add, Nat.add_zero, Option.some.injEq, exists_eq_left', List.getElem?_cons_succ, List.getElem?_cons_zero, true_and, and_true, bne_self_eq_false, beq_self_eq_true, Bool.not_true, Bool.not_false, Bool.and_true, Bool.and_self, Bool.and_false, Bool.true_and, List.length_cons, List.length_nil, ne_eq, not_false_eq_true, Nat.reduceAdd, Nat.reduceMul, if_true, if_false, oneCell_int, oneCell_bool, oneCell_ptr, oneCell_slice, oneCell_string, oneCell_func, oneCell_map, Int.toNat_natCast, List.set_cons_zero, List.set_cons_succ, Nat.lt_irrefl, Nat.zero_lt_succ, Nat.succ_lt_succ_iff, fa27_0, fa27_0p, fa27_1, fa27_1p, fa53_0, fa53_0p, fa55_0, fa55_0p, fa55_1, fa55_1p, fa63_0, fa63_0p, fa63_1, fa63_1p, fa63_2, fa63_2p, fa65_0, fa65_0p, fa65_1, fa65_1p, fa70_0, fa70_0p, fa70_1, fa70_1p, fa70_2, fa70_2p, fa72_0, fa72_0p, fa72_1, fa72_1p, ld3, ld3p, ld4, ld4p, ld9, ld9p, ld24, ld24p, ld27, ld27p, ld28, ld28p, ld39, ld39p, ld44, ld44p, ld55, ld55p, ld61, ld61p, ld65, ld65p, ld68, ld68p, ld72, ld72p, st3s, st4s, st9s, st27w, st44s, st55w, st61s, st65w, st68s, st72w, ix22, ix22p, ix31, ix31p, ix36, ix36p, ix44, ix44p, ix50, ix50p, ix61, ix61p, ix68, ix68p, ln9, ln9p, ln22, ln22p, ln31, ln31p, ln36, ln36p, ln44, ln44p, ln50, ln50p, ln61, ln61p, ln68, ln68p, al3, al27, al44, al55, al65, al72, cf10, cf11, cf12, cf13, cf14, cf15, cf16, cf17, cf18, cf19, cf20, cf21, cf22, cf23, cf24, cf25, cf26, cf27, cf28, cf29, cf30, cf31, cf32, cf33, cf34, cf35, cf36, cf37, cf38, cf39, cf40, cf41, cf42, cf43, cf44, cf45, cf46, cf47, bd27_, bd27_p, bd27_0_1, bd27_0_1p, bd53_, bd53_p, bd53_0, bd53_0p, bd63_0, bd63_0p, bd63_0_1_2, bd63_0_1_2p, bd65_, bd65_p, bd65_0_1, bd65_0_1p, bd70_0, bd70_0p, bd72_, bd72_p, bd72_0_1, bd72_0_1p, bd77_0_1, bd77_0_1p, bs61_1_0, bs68_1_0, bs44_1_0, bs61_0_, eq9, eq9p, eq24n, eq24np, eq24s, eq24sp, eq27, eq27p, eq28n, eq28np, eq28s, eq28sp, eq37n, eq37np, eq37s, eq37sp, eq39n, eq39np, eq39s, eq39sp, eq74n, eq74np, eq74s, eq74sp, ne4, ne4p, ne27, ne27p]
    exact Hp.le.refl h
  · rw [if_neg hc] at e1
    have : a % n ≠ 0 := fun e => hc (.inr e)
    rw [e1, dec_t (show a % n - n < 0 by omega)]
    simp -implicitDefEqProofs (maxSteps := 2000000) (disch := first | with_reducible exact Nat.ne_of_beq_eq_false rfl | omega | rfl | (simp; done)) only [HL.cond_true]
    unfold S23_k1
    simp -implicitDefEqProofs (maxSteps := 2000000) (disch := first | with_reducible exact Nat.ne_of_beq_eq_false rfl | omega | rfl | (simp; done)) only [upd_eq, retK_ret, resL_tmp, resL_nil1]
    exact ⟨by congr 1; omega, Hp.le.refl h⟩

end Go.Proofs.Ytkekdpnlenpmiaa
