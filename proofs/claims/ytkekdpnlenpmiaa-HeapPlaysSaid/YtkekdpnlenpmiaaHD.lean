/- Contracts: what puts in and takes out. -/
import Derived.Test.YtkekdpnlenpmiaaHC
set_option linter.unusedSimpArgs false
set_option linter.unusedVariables false
namespace Go.Proofs.Ytkekdpnlenpmiaa
open Go Go.HL

/-- A heap at hp with these things (as they lie), that many put in so far; its row's block. -/
def HR (h : Hp) (hp : Nat) (L : List It) (n : Int) (ob : Option Nat) : Prop :=
  ∃ sl, h hp = some (.cells #[.func (.func 12) #[] #[], sl, .int .i64 n] 63 (0, 0)) ∧ Own itC 65 h sl L ob

theorem HR.HA {h : Hp} {hp : Nat} {L : List It} {n : Int} {b : Nat} (a : HR h hp L n (some b)) : ∃ cap t, HA h hp b cap L n t ∧ (itC.rows L ++ t).length = cap * 3 := by
  obtain ⟨sl, h1, cap, t, rfl, h2, h3⟩ := a
  exact ⟨cap, t, ⟨h1, h2⟩, h3⟩

theorem new_spec {G h : Hp} : HCalls Try.prog G 11 #[.func (.func 12) #[] #[]] h (fun v h' => ∃ x, v = .pointer (some ⟨x, 0, none⟩) ∧ h x = none ∧ G x = none ∧ h' = h.set x (.cells #[.func (.func 12) #[] #[], .slice none 0 0, .int .i64 0] 63 (0, 0))) := by
  refine enter11 (by simp) ?_
  unfold S11
  simp -implicitDefEqProofs (maxSteps := 2000000) (disch := first | with_reducible exact Nat.ne_of_beq_eq_false rfl | omega | rfl | (simp; done)) only [regs0, retK_ret, resL_tmp, upd_eq, resL_nil1, opH_sv, box_new, bd63_0, cells_agg]
  intro x hx gx
  exact ⟨x, rfl, hx, gx, rfl⟩

theorem of_spec {G h : Hp} {a b : Int} : HCalls Try.prog G 14 #[.int .i64 a, .int .i64 b] h (fun v h' => v = .agg #[.int .i64 a, .int .i64 b] ∧ h' = h) := by
  refine quietly (enter14 (by simp) ?_)
  unfold S14
  simp -implicitDefEqProofs (maxSteps := 2000000) (disch := first | with_reducible exact Nat.ne_of_beq_eq_false rfl | omega | rfl | (simp; done)) only [opH_sv, opH_su, pureW_sv, opH_nil, pureW_nil, pick_t, pick_f, pick_tp, pick_fp, gd_tt, gd_ft, gd_tf, gd_ff, box_new, regs0, regs1, regs2, regs3, regs4, regs5, regs6, cells_agg, cells_int, cells_bool, cells_ptr, cells_slice, cells_string, cells_func, cells_nilFunc, cells_map, retK_ret, retK_normal, resL_tmp, resL_cell, resL_nil0, resL_nil1, resL_nil2, resL_nil3, resC_ptr, ex0, ex1, ex2, ex0p, ex1p, ex2p, HL.cond_true, HL.cond_false, thenK_normal, thenK_ret, thenK_exit, blockK_normal, blockK_ret, blockK_exit, scopeK_normal, scopeK_ret, scopeK_exit, wpH_pure, bin_add, bin_sub, bin_mul, bin_lss, bin_leq, bin_gtr, bin_geq, bin_quo, bin_rem, bin_quop, bin_remp, wrap_in, bin_addp, bin_subp, bin_mulp, bin_lssp, bin_leqp, bin_gtrp, bin_geqp, un_not, un_notp, un_neg, eq_int, ne_int, eq_intp, ne_intp, callV_fn, add_mk, upd_eq, upd_ne, cell_set_self, Nat.zero_add, Nat.add_zero, Option.some.injEq, exists_eq_left', List.getElem?_cons_succ, List.getElem?_cons_zero, true_and, and_true, bne_self_eq_false, beq_self_eq_true, Bool.not_true, Bool.not_false, Bool.and_true, Bool.and_self, Bool.and_false, Bool.true_and, List.length_cons, List.length_nil, ne_eq, not_false_eq_true, Nat.reduceAdd, Nat.reduceMul, if_true, if_false, oneCell_int, oneCell_bool, oneCell_ptr, oneCell_slice, oneCell_string, oneCell_func, oneCell_map, Int.toNat_natCast, List.set_cons_zero, List.set_cons_succ, Nat.lt_irrefl, Nat.zero_lt_succ, Nat.succ_lt_succ_iff, fa27_0, fa27_0p, fa27_1, fa27_1p, fa53_0, fa53_0p, fa55_0, fa55_0p, fa55_1, fa55_1p, fa63_0, fa63_0p, fa63_1, fa63_1p, fa63_2, fa63_2p, fa65_0, fa65_0p, fa65_1, fa65_1p, fa70_0, fa70_0p, fa70_1, fa70_1p, fa70_2, fa70_2p, fa72_0, fa72_0p, fa72_1, fa72_1p, ld3, ld3p, ld4, ld4p, ld9, ld9p, ld24, ld24p, ld27, ld27p, ld28, ld28p, ld39, ld39p, ld44, ld44p, ld55, ld55p, ld61, ld61p, ld65, ld65p, ld68, ld68p, ld72, ld72p, st3s, st4s, st9s, st27w, st44s, st55w, st61s, st65w, st68s, st72w, ix22, ix22p, ix31, ix31p, ix36, ix36p, ix44, ix44p, ix50, ix50p, ix61, ix61p, ix68, ix68p, ln9, ln9p, ln22, ln22p, ln31, ln31p, ln36, ln36p, ln44, ln44p, ln50, ln50p, ln61, ln61p, ln68, ln68p, al3, al27, al44, al55, al65, al72, cf10, cf11, cf12, cf13, cf14, cf15, cf16, cf17, cf18, cf19, cf20, cf21, cf22, cf23, cf24, cf25, cf26, cf27, cf28, cf29, cf30, cf31, cf32, cf33, cf34, cf35, cf36, cf37, cf38, cf39, cf40, cf41, cf42, cf43, cf44, cf45, cf46, cf47, bd27_, bd27_p, bd27_0_1, bd27_0_1p, bd53_, bd53_p, bd53_0, bd53_0p, bd63_0, bd63_0p, bd63_0_1_2, bd63_0_1_2p, bd65_, bd65_p, bd65_0_1, bd65_0_1p, bd70_0, bd70_0p, bd72_, bd72_p, bd72_0_1, bd72_0_1p, bd77_0_1, bd77_0_1p, bs61_1_0, bs68_1_0, bs44_1_0, bs61_0_, eq9, eq9p, eq24n, eq24np, eq24s, eq24sp, eq27, eq27p, eq28n, eq28np, eq28s, eq28sp, eq37n, eq37np, eq37s, eq37sp, eq39n, eq39np, eq39s, eq39sp, eq74n, eq74np, eq74s, eq74sp, ne4, ne4p, ne27, ne27p]
  exact fun x hx _ => le_set hx

theorem len_spec {G h : Hp} {hp : Nat} {L : List It} {n : Int} {ob : Option Nat} (a : HR h hp L n ob) : HCalls Try.prog G 16 #[.pointer (some ⟨hp, 0, none⟩)] h (fun v h' => v = .int .i64 L.length ∧ h' = h) := by
  obtain ⟨sl, h1, o⟩ := a
  have c1 : ∀ k, cellIn G h ⟨hp, k, none⟩ = _ := fun k => cell_of (look_own h1)
  obtain ⟨sa, cap, rfl⟩ : ∃ a c, sl = .slice a L.length c := by
    cases ob with
    | none => obtain ⟨rfl, rfl⟩ := o; exact ⟨none, 0, rfl⟩
    | some b => obtain ⟨cap, t, rfl, _⟩ := o; exact ⟨_, cap, rfl⟩
  refine quietly (enter16 (by simp) ?_)
  unfold S16
  simp -implicitDefEqProofs (maxSteps := 2000000) (disch := first | with_reducible exact Nat.ne_of_beq_eq_false rfl | omega | rfl | (simp; done)) only [regs0, retK_ret, resL_tmp, upd_eq, resL_nil1, eq24s, HL.cond_false]
  unfold S16_k1
  simp -implicitDefEqProofs (maxSteps := 2000000) (disch := first | with_reducible exact Nat.ne_of_beq_eq_false rfl | omega | rfl | (simp; done)) only [opH_sv, opH_su, pureW_sv, opH_nil, pureW_nil, pick_t, pick_f, pick_tp, pick_fp, gd_tt, gd_ft, gd_tf, gd_ff, box_new, regs0, regs1, regs2, regs3, regs4, regs5, regs6, cells_agg, cells_int, cells_bool, cells_ptr, cells_slice, cells_string, cells_func, cells_nilFunc, cells_map, retK_ret, retK_normal, resL_tmp, resL_cell, resL_nil0, resL_nil1, resL_nil2, resL_nil3, resC_ptr, ex0, ex1, ex2, ex0p, ex1p, ex2p, HL.cond_true, HL.cond_false, thenK_normal, thenK_ret, thenK_exit, blockK_normal, blockK_ret, blockK_exit, scopeK_normal, scopeK_ret, scopeK_exit, wpH_pure, bin_add, bin_sub, bin_mul, bin_lss, bin_leq, bin_gtr, bin_geq, bin_quo, bin_rem, bin_quop, bin_remp, wrap_in, bin_addp, bin_subp, bin_mulp, bin_lssp, bin_leqp, bin_gtrp, bin_geqp, un_not, un_notp, un_neg, eq_int, ne_int, eq_intp, ne_intp, callV_fn, add_mk, upd_eq, upd_ne, cell_set_self, Nat.zero_add, Nat.add_zero, Option.some.injEq, exists_eq_left', List.getElem?_cons_succ, List.getElem?_cons_zero, true_and, and_true, bne_self_eq_false, beq_self_eq_true, Bool.not_true, Bool.not_false, Bool.and_true, Bool.and_self, Bool.and_false, Bool.true_and, List.length_cons, List.length_nil, ne_eq, not_false_eq_true, Nat.reduceAdd, Nat.reduceMul, if_true, if_false, oneCell_int, oneCell_bool, oneCell_ptr, oneCell_slice, oneCell_string, oneCell_func, oneCell_map, Int.toNat_natCast, List.set_cons_zero, List.set_cons_succ, Nat.lt_irrefl, Nat.zero_lt_succ, Nat.succ_lt_succ_iff, fa27_0, fa27_0p, fa27_1, fa27_1p, fa53_0, fa53_0p, fa55_0, fa55_0p, fa55_1, fa55_1p, fa63_0, fa63_0p, fa63_1, fa63_1p, fa63_2, fa63_2p, fa65_0, fa65_0p, fa65_1, fa65_1p, fa70_0, fa70_0p, fa70_1, fa70_1p, fa70_2, fa70_2p, fa72_0, fa72_0p, fa72_1, fa72_1p, ld3, ld3p, ld4, ld4p, ld9, ld9p, ld24, ld24p, ld27, ld27p, ld28, ld28p, ld39, ld39p, ld44, ld44p, ld55, ld55p, ld61, ld61p, ld65, ld65p, ld68, ld68p, ld72, ld72p, st3s, st4s, st9s, st27w, st44s, st55w, st61s, st65w, st68s, st72w, ix22, ix22p, ix31, ix31p, ix36, ix36p, ix44, ix44p, ix50, ix50p, ix61, ix61p, ix68, ix68p, ln9, ln9p, ln22, ln22p, ln31, ln31p, ln36, ln36p, ln44, ln44p, ln50, ln50p, ln61, ln61p, ln68, ln68p, al3, al27, al44, al55, al65, al72, cf10, cf11, cf12, cf13, cf14, cf15, cf16, cf17, cf18, cf19, cf20, cf21, cf22, cf23, cf24, cf25, cf26, cf27, cf28, cf29, cf30, cf31, cf32, cf33, cf34, cf35, cf36, cf37, cf38, cf39, cf40, cf41, cf42, cf43, cf44, cf45, cf46, cf47, bd27_, bd27_p, bd27_0_1, bd27_0_1p, bd53_, bd53_p, bd53_0, bd53_0p, bd63_0, bd63_0p, bd63_0_1_2, bd63_0_1_2p, bd65_, bd65_p, bd65_0_1, bd65_0_1p, bd70_0, bd70_0p, bd72_, bd72_p, bd72_0_1, bd72_0_1p, bd77_0_1, bd77_0_1p, bs61_1_0, bs68_1_0, bs44_1_0, bs61_0_, eq9, eq9p, eq24n, eq24np, eq24s, eq24sp, eq27, eq27p, eq28n, eq28np, eq28s, eq28sp, eq37n, eq37np, eq37s, eq37sp, eq39n, eq39np, eq39s, eq39sp, eq74n, eq74np, eq74s, eq74sp, ne4, ne4p, ne27, ne27p, c1]
  exact Hp.le.refl h

theorem push_spec {G h : Hp} {hp : Nat} {L : List It} {n : Int} {ob : Option Nat} (a : HR h hp L n ob) (hL : L.length ≤ 100000) (hn0 : 0 ≤ n) (hn : n ≤ 100000) {k m : Int} :
    HCalls Try.prog G 13 #[.pointer (some ⟨hp, 0, none⟩), .agg #[.int .i64 k, .int .i64 m]] h (fun v h' => ∃ b cap ts, (ob = some b ∨ (h b = none ∧ G b = none)) ∧ (itC.rows (siftUp (L ++ [⟨k, m, n⟩]) L.length) ++ ts).length = cap * 3 ∧ 
      h' = (h.set hp (.cells #[.func (.func 12) #[] #[], .slice (some ⟨b, 0, none⟩) (L.length + 1) cap, .int .i64 (n + 1)] 63 (0, 0))).set b (.cells (itC.rows (siftUp (L ++ [⟨k, m, n⟩]) L.length) ++ ts).toArray 65 (0, 0))) := by
  obtain ⟨sl, h1, o⟩ := a
  have c1 : ∀ k, cellIn G h ⟨hp, k, none⟩ = _ := fun k => cell_of (look_own h1)
  refine HCalls.less (enter13 (by simp) (R := fun v hf => ∃ b cap ts, (ob = some b ∨ (h b = none ∧ G b = none)) ∧ (itC.rows (siftUp (L ++ [⟨k, m, n⟩]) L.length) ++ ts).length = cap * 3 ∧
     ((h.set hp (.cells #[.func (.func 12) #[] #[], .slice (some ⟨b, 0, none⟩) (L.length + 1) cap, .int .i64 (n + 1)] 63 (0, 0))).set b (.cells (itC.rows (siftUp (L ++ [⟨k, m, n⟩]) L.length) ++ ts).toArray 65 (0, 0))).le hf) ?_)
     (fun v hf ⟨b, cap, ts, h1, h2, h3⟩ => ⟨_, h3, b, cap, ts, h1, h2, rfl⟩)
  unfold S13
  simp -implicitDefEqProofs (maxSteps := 2000000) (disch := first | with_reducible exact Nat.ne_of_beq_eq_false rfl | omega | rfl | (simp; done)) only [regs1, regs0, retK_ret, resL_nil0, eq24s, pick_f, gd_ff, opH_sv, opH_nil, fa63_0, add_mk, Nat.add_zero, ld28, box_new, cells_agg]
  intro x hx gx
  have e1 : hp ≠ x := ne_of_new h1 hx
  simp -implicitDefEqProofs (maxSteps := 2000000) (disch := first | with_reducible exact Nat.ne_of_beq_eq_false rfl | omega | rfl | (simp; done)) only [cell_set_other e1, c1, List.getElem?_cons_zero, Option.some.injEq, exists_eq_left', eq28s, HL.cond_false]
  unfold S13_k1
  simp -implicitDefEqProofs (maxSteps := 2000000) (disch := first | with_reducible exact Nat.ne_of_beq_eq_false rfl | omega | rfl | (simp; done)) only [opH_sv, opH_su, pureW_sv, opH_nil, pureW_nil, pick_t, pick_f, pick_tp, pick_fp, gd_tt, gd_ft, gd_tf, gd_ff, box_new, regs0, regs1, regs2, regs3, regs4, regs5, regs6, cells_agg, cells_int, cells_bool, cells_ptr, cells_slice, cells_string, cells_func, cells_nilFunc, cells_map, retK_ret, retK_normal, resL_tmp, resL_cell, resL_nil0, resL_nil1, resL_nil2, resL_nil3, resC_ptr, ex0, ex1, ex2, ex0p, ex1p, ex2p, HL.cond_true, HL.cond_false, thenK_normal, thenK_ret, thenK_exit, blockK_normal, blockK_ret, blockK_exit, scopeK_normal, scopeK_ret, scopeK_exit, wpH_pure, bin_add, bin_sub, bin_mul, bin_lss, bin_leq, bin_gtr, bin_geq, bin_quo, bin_rem, bin_quop, bin_remp, wrap_in, bin_addp, bin_subp, bin_mulp, bin_lssp, bin_leqp, bin_gtrp, bin_geqp, un_not, un_notp, un_neg, eq_int, ne_int, eq_intp, ne_intp, callV_fn, add_mk, upd_eq, upd_ne, cell_set_self, Nat.zero_add, Nat.add_zero, Option.some.injEq, exists_eq_left', List.getElem?_cons_succ, List.getElem?_cons_zero, true_and, and_true, bne_self_eq_false, beq_self_eq_true, Bool.not_true, Bool.not_false, Bool.and_true, Bool.and_self, Bool.and_false, Bool.true_and, List.length_cons, List.length_nil, ne_eq, not_false_eq_true, Nat.reduceAdd, Nat.reduceMul, if_true, if_false, oneCell_int, oneCell_bool, oneCell_ptr, oneCell_slice, oneCell_string, oneCell_func, oneCell_map, Int.toNat_natCast, List.set_cons_zero, List.set_cons_succ, Nat.lt_irrefl, Nat.zero_lt_succ, Nat.succ_lt_succ_iff, fa27_0, fa27_0p, fa27_1, fa27_1p, fa53_0, fa53_0p, fa55_0, fa55_0p, fa55_1, fa55_1p, fa63_0, fa63_0p, fa63_1, fa63_1p, fa63_2, fa63_2p, fa65_0, fa65_0p, fa65_1, fa65_1p, fa70_0, fa70_0p, fa70_1, fa70_1p, fa70_2, fa70_2p, fa72_0, fa72_0p, fa72_1, fa72_1p, ld3, ld3p, ld4, ld4p, ld9, ld9p, ld24, ld24p, ld27, ld27p, ld28, ld28p, ld39, ld39p, ld44, ld44p, ld55, ld55p, ld61, ld61p, ld65, ld65p, ld68, ld68p, ld72, ld72p, st3s, st4s, st9s, st27w, st44s, st55w, st61s, st65w, st68s, st72w, ix22, ix22p, ix31, ix31p, ix36, ix36p, ix44, ix44p, ix50, ix50p, ix61, ix61p, ix68, ix68p, ln9, ln9p, ln22, ln22p, ln31, ln31p, ln36, ln36p, ln44, ln44p, ln50, ln50p, ln61, ln61p, ln68, ln68p, al3, al27, al44, al55, al65, al72, cf10, cf11, cf12, cf13, cf14, cf15, cf16, cf17, cf18, cf19, cf20, cf21, cf22, cf23, cf24, cf25, cf26, cf27, cf28, cf29, cf30, cf31, cf32, cf33, cf34, cf35, cf36, cf37, cf38, cf39, cf40, cf41, cf42, cf43, cf44, cf45, cf46, cf47, bd27_, bd27_p, bd27_0_1, bd27_0_1p, bd53_, bd53_p, bd53_0, bd53_0p, bd63_0, bd63_0p, bd63_0_1_2, bd63_0_1_2p, bd65_, bd65_p, bd65_0_1, bd65_0_1p, bd70_0, bd70_0p, bd72_, bd72_p, bd72_0_1, bd72_0_1p, bd77_0_1, bd77_0_1p, bs61_1_0, bs68_1_0, bs44_1_0, bs61_0_, eq9, eq9p, eq24n, eq24np, eq24s, eq24sp, eq27, eq27p, eq28n, eq28np, eq28s, eq28sp, eq37n, eq37np, eq37s, eq37sp, eq39n, eq39np, eq39s, eq39sp, eq74n, eq74np, eq74s, eq74sp, ne4, ne4p, ne27, ne27p, cell_set_other e1, c1]
  intro q hq gq
  have exq : x ≠ q := ne_of_set hq
  have hq' := none_of_set hq
  have e2 : hp ≠ q := ne_of_new h1 hq'
  have o' : Own itC 65 ((h.set x (.cells #[.int .i64 k, .int .i64 m] 27 (0, 0))).set q (.cells #[.int .i64 k, .int .i64 m, .int .i64 n] 65 (0, 0))) sl L ob := by
    cases ob with
    | none => exact o
    | some b =>
      obtain ⟨cap, t, r1, r2, r3⟩ := o
      exact ⟨cap, t, r1, by rw [set_other (ne_of_new r2 hq'), set_other (ne_of_new r2 hx)]; exact r2, r3⟩
  refine append_own itC (M := [⟨k, m, n⟩]) un61 eo65 (by decide) o' ⟨rfl, .inr ⟨q, 0, 1, rfl, fun j hj => ?_⟩⟩ (by simp) (by simp; omega) (by simp; omega) ?_
  · rw [Nat.zero_add, cell_set_self]; rfl
  intro b cap ts hb hlen
  have e3 : hp ≠ b := by
    rcases hb with hb | ⟨hb, _⟩
    · subst hb
      obtain ⟨_, _, _, r2, _⟩ := o
      intro e
      rw [e, r2] at h1
      simp at h1
    · exact ne_of_new h1 (none_of_set (none_of_set hb))
  have hb2 : ob = some b ∨ (h b = none ∧ G b = none) := hb.imp id fun ⟨u, v⟩ => ⟨none_of_set (none_of_set u), v⟩
  simp only [store_past e3, store_past e2, store_past e1]
  rw [store1_eq sz61 rfl h1 (by simp)]
  simp -implicitDefEqProofs (maxSteps := 2000000) (disch := first | with_reducible exact Nat.ne_of_beq_eq_false rfl | omega | rfl | (simp; done)) only [List.length_cons, List.length_nil, Nat.zero_add, List.set_cons_succ, List.set_cons_zero, cell_set_other e3, cell_set_other e2, cell_set_other e1, cell_set_self, List.getElem?_cons_succ, List.getElem?_cons_zero, Option.some.injEq, exists_eq_left', bin_add, wrap_in, store_past e3, store_past e2, store_past e1]
  have hLl : (L ++ [⟨k, m, n⟩] : List It).length = L.length + 1 := by simp
  have a2 : HA ((((h.set hp (.cells #[.func (.func 12) #[] #[], .slice (some ⟨b, 0, none⟩) (L.length + 1) cap, .int .i64 (n + 1)] 63 (0, 0))).set x (.cells #[.int .i64 k, .int .i64 m] 27 (0, 0))).set q (.cells #[.int .i64 k, .int .i64 m, .int .i64 n] 65 (0, 0))).set b
      (.cells (itC.rows (L ++ [⟨k, m, n⟩]) ++ ts).toArray 65 (0, 0))) hp b cap (L ++ [⟨k, m, n⟩]) (n + 1) ts :=
    ⟨by rw [set_other e3, set_other e2, set_other e1, set_self, hLl], set_self⟩
  rw [st3s rfl (by simp)]
  simp -implicitDefEqProofs (maxSteps := 2000000) (disch := first | with_reducible exact Nat.ne_of_beq_eq_false rfl | omega | rfl | (simp; done)) only [List.set_cons_succ, List.set_cons_zero, cell_set_self, List.getElem?_cons_succ, List.getElem?_cons_zero, Option.some.injEq, exists_eq_left', ln61, bin_sub, wrap_in]
  rw [show ((L.length + 1 : Nat) : Int) - 1 = (L.length : Int) by omega]
  refine (up_spec a2 (by simp; omega) (by simp)).mono ?_
  rintro _ _ rfl
  refine ⟨b, cap, ts, hb2, ?_, ?_⟩
  · rw [List.length_append, itC.rows_length] at hlen ⊢
    rw [siftUp_length]
    exact hlen
  · rw [set_set]
    refine Hp.le.both ?_
    intro y o hy
    by_cases e4 : y = hp
    · subst e4
      rw [set_self] at hy
      rw [set_other e2, set_other e1, set_self]
      exact hy
    · rw [set_other e4] at hy
      rw [set_other (ne_of_new hy hq'), set_other (ne_of_new hy hx), set_other e4]
      exact hy
end Go.Proofs.Ytkekdpnlenpmiaa
