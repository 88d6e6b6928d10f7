/- A call at both tables. -/
import Derived.Test.YtbloobepmgmbgaaRRe
import Derived.Test.YtbloobepmgmbgaaRN
import Derived.Test.YtbloobepmgmbgaaRLS
set_option linter.unusedSimpArgs false
set_option linter.unusedVariables false
set_option maxRecDepth 100000
namespace Go.Proofs.Ytbloobepmgmbgaa
open Go Go.HL Go.Proofs.Resv

def opT (T : Tb) (o : Rop) (ws : List Want) : Tb :=
  if o.k % 8 = 4 then (extendT T o.r o.c o.a o.y).2
  else if o.k % 8 = 5 then cutT (fun x => x == o.r) o.a T
  else if o.k % 8 = 6 then cutT (fun _ => true) o.a T
  else if o.k % 8 = 7 then cutT (fun x => x == o.r) FV T
  else (claimT T o.r ws).2

theorem few_le {T : Tb} {b c : Nat} (h : Few T b) (hbc : b ≤ c) : Few T c := fun L hL => Nat.le_trans (h L hL) hbc

theorem opT_inv {T : Tb} {o : Rop} {ws : List Want} {b : Nat} (g : GoodT T) (f : Few T b) : GoodT (opT T o ws) ∧ Few (opT T o ws) (b + ws.length + 1) ∧ (opT T o ws).length = T.length := by
  unfold opT
  split
  · obtain ⟨h1, h2, h3⟩ := extend_inv (r := o.r) (c := o.c) (a := o.a) (k := o.y) g f
    exact ⟨h1, few_le h2 (by omega), h3⟩
  split
  · obtain ⟨h1, h2⟩ := cutT_inv (p := fun x => x == o.r) (u := o.a) g f
    exact ⟨h1, few_le h2 (by omega), cutT_len⟩
  split
  · obtain ⟨h1, h2⟩ := cutT_inv (p := fun _ => true) (u := o.a) g f
    exact ⟨h1, few_le h2 (by omega), cutT_len⟩
  split
  · obtain ⟨h1, h2⟩ := cutT_inv (p := fun x => x == o.r) (u := FV) g f
    exact ⟨h1, few_le h2 (by omega), cutT_len⟩
  · obtain ⟨h1, h2, h3⟩ := claim_inv (r := o.r) (l := ws) g f
    exact ⟨h1, few_le h2 (by omega), h3⟩

abbrev opV (o : Rop) : Value := .agg #[.int .i64 o.k, .int .i64 o.r, .int .i64 o.c, .int .i64 o.a, .int .i64 o.y, .slice o.la o.ln o.lc]

set_option maxHeartbeats 4000000 in
theorem do_spec {G h a a2 : Hp} {R : List Hp} {tp tp2 b : Nat} {T : Tb} {o : Rop} {ws : List Want} (tb : Tab 68 a tp T) (tr : Tab 76 a2 tp2 T) (sp : HL.Sep (a :: a2 :: R) h) (ok : OpOk G o ws) (g : GoodT T) (fw : Few T b) (hb : b + ws.length ≤ 50000) (hT : T.length ≤ 1000) :
    HCalls Try.prog G 24 #[.pointer (some ⟨tp, 0, none⟩), .pointer (some ⟨tp2, 0, none⟩), opV o] h (fun u h' => u = .bool true ∧ ∃ a' a2', Tab 68 a' tp (opT T o ws) ∧ Tab 76 a2' tp2 (opT T o ws) ∧ HL.Sep (a' :: a2' :: R) h' ∧ Dis G h') := by
  obtain ⟨eln, gs, hwb, bk, br, bc, ba, by_⟩ := ok
  refine HCalls.assume fun d => enter24 (by simp) ?_
  unfold S24
  simp -implicitDefEqProofs (maxSteps := 2000000) (disch := first | with_reducible exact Nat.ne_of_beq_eq_false rfl | exact oneCell_int | exact oneCell_bool | omega | rfl | (simp; done) | fail) only [regs2, regs0, regs1, retK_ret, resL_tmp, upd_eq, resL_nil1, cf37, pureW_sv, cf21, cf38, opH_sv, cf27, cf39, cf26, cf40, cf28, cf41, cf42, cf15, cf14, box_new, cells_agg, fa51_4p, add_mk, Nat.zero_add, ld3p, fa51_3p, fa51_2p, fa51_1p, fa51_3, ld3, fa51_1, fa51_5p, ld22p, fa51_0, Nat.add_zero, cell_set_self, List.getElem?_cons_zero, Option.some.injEq, exists_eq_left']
  intro x hx gx
  generalize ex : Hp.set h x _ = h1
  obtain ⟨l1, d1, b1⟩ := boxed ex hx d gx
  have s1 := sp.new (o := .cells #[.int .i64 o.k, .int .i64 o.r, .int .i64 o.c, .int .i64 o.a, .int .i64 o.y, .slice o.la o.ln o.lc] 51 (0, 0)) hx
  rw [ex] at s1
  have cx : ∀ j, cellIn G h1 ⟨x, j, none⟩ = _ := fun j => cell_of (look_own b1)
  refine (place_spec (n := 8) bk (by decide) (by decide)).mono ?_
  rintro _ h1 ⟨rfl, rfl⟩
  have hbb : b ≤ 50000 := by omega
  obtain ⟨qb, eqb⟩ : ∃ q, q = noHp.set x (.cells #[.int .i64 o.k, .int .i64 o.r, .int .i64 o.c, .int .i64 o.a, .int .i64 o.y, .slice o.la o.ln o.lc] 51 (0, 0)) := ⟨_, rfl⟩
  rw [← eqb] at s1
  have bq : qb x = some (.cells #[.int .i64 o.k, .int .i64 o.r, .int .i64 o.c, .int .i64 o.a, .int .i64 o.y, .slice o.la o.ln o.lc] 51 (0, 0)) := by rw [eqb]; exact set_self
  have cq : ∀ j, cellIn G qb ⟨x, j, none⟩ = _ := fun j => cell_of (look_own bq)
  have cl : ∀ {h2 : Hp}, qb.le h2 → ∀ j, cellIn G h2 ⟨x, j, none⟩ = _ := fun l j => cell_of (look_own (l _ _ bq))
  have sa := s1.pick 1 rfl rfl
  try simp -implicitDefEqProofs (maxSteps := 2000000) (disch := first | with_reducible exact Nat.ne_of_beq_eq_false rfl | exact oneCell_int | exact oneCell_bool | omega | rfl | (simp; done) | fail) only [eq_int]
  refine cond_bool (fun k4 => ?_) (fun k4 => ?_)
  · have k4' : o.k % 8 = 4 := by simpa using k4
    unfold opT
    rw [if_pos k4']
    refine ⟨qb, s1.in 0 rfl, ?_⟩
    simp -implicitDefEqProofs (maxSteps := 2000000) (disch := first | with_reducible exact Nat.ne_of_beq_eq_false rfl | exact oneCell_int | exact oneCell_bool | omega | rfl | (simp; done) | fail) only [cq, List.getElem?_cons_succ, List.getElem?_cons_zero, Option.some.injEq, exists_eq_left']
    refine (extend_spec (r := o.r) (c := o.c) (k := o.a) (y := o.y) tb sa g fw hbb).mono ?_
    rintro _ h3 ⟨rfl, a', t', s', d'⟩
    refine ⟨s'.in 1 rfl, ?_⟩
    refine (rextend_spec (r := o.r) (c := o.c) (k := o.a) (y := o.y) tr (s'.pick 2 rfl rfl) g fw hbb).mono ?_
    rintro _ h4 ⟨rfl, a2', t2', s2', d2'⟩
    simp -implicitDefEqProofs (maxSteps := 2000000) (disch := first | with_reducible exact Nat.ne_of_beq_eq_false rfl | exact oneCell_int | exact oneCell_bool | omega | rfl | (simp; done) | fail) only [eq_intp, beq_self_eq_true, true_and]
    exact ⟨a', a2', t', t2', (s2'.pick 2 rfl rfl).drop.swap, d2'⟩
  have n4 : ¬ o.k % 8 = 4 := by simpa using k4
  have fin : ∀ (r1 : Rg) (h2 a' a2' : Hp), Tab 68 a' tp (opT T o ws) → Tab 76 a2' tp2 (opT T o ws) → HL.Sep (a2' :: a' :: qb :: R) h2 → Dis G h2 → S24_k1 G (retK Try.prog G [.tmp 6] fun u h' => u = .bool true ∧ ∃ a' a2', Tab 68 a' tp (opT T o ws) ∧ Tab 76 a2' tp2 (opT T o ws) ∧ HL.Sep (a' :: a2' :: R) h' ∧ Dis G h') r1 h2 := by
    intro r1 h2 a' a2' t' t2' s2' d2'
    unfold S24_k1
    try simp -implicitDefEqProofs (maxSteps := 2000000) (disch := first | with_reducible exact Nat.ne_of_beq_eq_false rfl | exact oneCell_int | exact oneCell_bool | omega | rfl | (simp; done) | fail) only [retK_ret, resL_tmp, upd_eq, resL_nil1, true_and]
    exact ⟨a', a2', t', t2', (s2'.pick 2 rfl rfl).drop.swap, d2'⟩
  try simp -implicitDefEqProofs (maxSteps := 2000000) (disch := first | with_reducible exact Nat.ne_of_beq_eq_false rfl | exact oneCell_int | exact oneCell_bool | omega | rfl | (simp; done) | fail) only [opH_sv, opH_su, pureW_sv, opH_nil, pureW_nil, pick_t, pick_f, pick_tp, pick_fp, gd_tt, gd_ft, gd_tf, gd_ff, box_new, regs0, regs1, regs2, regs3, regs4, regs5, regs6, cells_agg, cells_int, cells_bool, cells_ptr, cells_slice, cells_string, cells_func, cells_nilFunc, cells_map, retK_ret, retK_normal, resL_tmp, resL_cell, resL_nil0, resL_nil1, resL_nil2, resL_nil3, resC_ptr, ex0, ex1, ex2, ex0p, ex1p, ex2p, HL.cond_true, HL.cond_false, thenK_normal, thenK_ret, thenK_exit, blockK_normal, blockK_ret, blockK_exit, scopeK_normal, scopeK_ret, scopeK_exit, wpH_pure, bin_add, bin_sub, bin_mul, bin_lss, bin_leq, bin_gtr, bin_geq, bin_quo, bin_rem, bin_quop, bin_remp, wrap_in, bin_addp, bin_subp, bin_mulp, bin_lssp, bin_leqp, bin_gtrp, bin_geqp, un_not, un_notp, un_neg, eq_int, ne_int, eq_intp, ne_intp, callV_fn, add_mk, upd_eq, upd_ne, cell_set_self, Nat.zero_add, Nat.add_zero, Option.some.injEq, exists_eq_left', List.getElem?_cons_succ, List.getElem?_cons_zero, true_and, and_true, bne_self_eq_false, beq_self_eq_true, Bool.not_true, Bool.not_false, Bool.and_true, Bool.and_self, Bool.and_false, Bool.true_and, List.length_cons, List.length_nil, ne_eq, not_false_eq_true, Nat.reduceAdd, Nat.reduceMul, if_true, if_false, oneCell_int, oneCell_bool, oneCell_ptr, oneCell_slice, oneCell_string, oneCell_func, oneCell_map, Int.toNat_natCast, List.set_cons_zero, List.set_cons_succ, Nat.lt_irrefl, Nat.zero_lt_succ, Nat.succ_lt_succ_iff, fa30_0, fa30_0p, fa30_1, fa30_1p, fa30_2, fa30_2p, fa35_0, fa35_0p, fa35_1, fa35_1p, fa35_2, fa35_2p, fa51_0, fa51_0p, fa51_1, fa51_1p, fa51_2, fa51_2p, fa51_3, fa51_3p, fa51_4, fa51_4p, fa51_5, fa51_5p, fa68_0, fa68_0p, fa76_0, fa76_0p, fa88_0, fa88_0p, fa88_1, fa88_1p, fa88_2, fa88_2p, fa90_0, fa90_0p, fa90_1, fa90_1p, ld3, ld3p, ld22, ld22p, ld23, ld23p, ld30, ld30p, ld32, ld32p, ld35, ld35p, ld39, ld39p, ld51, ld51p, ld58, ld58p, ld66, ld66p, st3s, st30w, st32s, st35w, st39s, st51w, st58w, st88w, st90w, ix22, ix22p, ix32, ix32p, ix39, ix39p, ix46, ix46p, ix64, ix64p, ix66, ix66p, ix78, ix78p, ix81, ix81p, ln22, ln22p, ln32, ln32p, ln39, ln39p, ln46, ln46p, ln64, ln64p, ln66, ln66p, ln78, ln78p, ln81, ln81p, al30, al35, al39, al56, al58, cf12, cf13, cf14, cf15, cf16, cf17, cf18, cf19, cf20, cf21, cf22, cf23, cf24, cf25, cf26, cf27, cf28, cf29, cf30, cf31, cf32, cf33, cf34, cf35, cf36, cf37, cf38, cf39, cf40, cf41, cf42, cf43, cf44, cf45, cf46, cf47, cf48, cf49, cf50, cf51, cf52, cf53, cf54, cf55, cf56, cf57, cf58, cf60, cf61, cf62, cf63, cf64, bd30_0_1_2, bd30_0_1_2p, bd30_1, bd30_1p, bd30_1_2, bd30_1_2p, bd35_0, bd35_0p, bd35_0_1_2, bd35_0_1_2p, bd58_0_1, bd58_0_1p, bd68_0, bd68_0p, bd76_0, bd76_0p, bd88_0_1_2, bd88_0_1_2p, bd90_0_1, bd90_0_1p, bs22_1_0, bs32_1_0, bs39_1_0, bs78_1_0, bs81_1_0, eq4, eq4p, eq23n, eq23np, eq23s, eq23sp, eq37n, eq37np, eq37s, eq37sp, ne4, ne4p, ne23n, ne23np, ne23s, ne23sp, ne35, ne35p]
  refine cond_bool (fun k5 => ?_) (fun k5 => ?_)
  · have k5' : o.k % 8 = 5 := by simpa using k5
    have e : opT T o ws = cutT (fun x => x == o.r) o.a T := by unfold opT; rw [if_neg n4, if_pos k5']
    rw [e] at fin ⊢
    try simp -implicitDefEqProofs (maxSteps := 2000000) (disch := first | with_reducible exact Nat.ne_of_beq_eq_false rfl | exact oneCell_int | exact oneCell_bool | omega | rfl | (simp; done) | fail) only [cx, List.getElem?_cons_succ, List.getElem?_cons_zero, Option.some.injEq, exists_eq_left']
    refine (release_spec (r := o.r) (u := o.a) tb sa fw hbb hT).mono ?_
    rintro _ h3 ⟨rfl, a', t', s', d'⟩
    try simp -implicitDefEqProofs (maxSteps := 2000000) (disch := first | with_reducible exact Nat.ne_of_beq_eq_false rfl | exact oneCell_int | exact oneCell_bool | omega | rfl | (simp; done) | fail) only [cl (s'.in 1 rfl), List.getElem?_cons_succ, List.getElem?_cons_zero, Option.some.injEq, exists_eq_left']
    refine (rrelease_spec (r := o.r) (u := o.a) tr (s'.pick 2 rfl rfl) g fw hbb hT).mono ?_
    rintro _ h4 ⟨rfl, a2', t2', s2', d2'⟩
    exact fin _ h4 a' a2' t' t2' s2' d2'
  have n5 : ¬ o.k % 8 = 5 := by simpa using k5
  try simp -implicitDefEqProofs (maxSteps := 2000000) (disch := first | with_reducible exact Nat.ne_of_beq_eq_false rfl | exact oneCell_int | exact oneCell_bool | omega | rfl | (simp; done) | fail) only [opH_sv, opH_su, pureW_sv, opH_nil, pureW_nil, pick_t, pick_f, pick_tp, pick_fp, gd_tt, gd_ft, gd_tf, gd_ff, box_new, regs0, regs1, regs2, regs3, regs4, regs5, regs6, cells_agg, cells_int, cells_bool, cells_ptr, cells_slice, cells_string, cells_func, cells_nilFunc, cells_map, retK_ret, retK_normal, resL_tmp, resL_cell, resL_nil0, resL_nil1, resL_nil2, resL_nil3, resC_ptr, ex0, ex1, ex2, ex0p, ex1p, ex2p, HL.cond_true, HL.cond_false, thenK_normal, thenK_ret, thenK_exit, blockK_normal, blockK_ret, blockK_exit, scopeK_normal, scopeK_ret, scopeK_exit, wpH_pure, bin_add, bin_sub, bin_mul, bin_lss, bin_leq, bin_gtr, bin_geq, bin_quo, bin_rem, bin_quop, bin_remp, wrap_in, bin_addp, bin_subp, bin_mulp, bin_lssp, bin_leqp, bin_gtrp, bin_geqp, un_not, un_notp, un_neg, eq_int, ne_int, eq_intp, ne_intp, callV_fn, add_mk, upd_eq, upd_ne, cell_set_self, Nat.zero_add, Nat.add_zero, Option.some.injEq, exists_eq_left', List.getElem?_cons_succ, List.getElem?_cons_zero, true_and, and_true, bne_self_eq_false, beq_self_eq_true, Bool.not_true, Bool.not_false, Bool.and_true, Bool.and_self, Bool.and_false, Bool.true_and, List.length_cons, List.length_nil, ne_eq, not_false_eq_true, Nat.reduceAdd, Nat.reduceMul, if_true, if_false, oneCell_int, oneCell_bool, oneCell_ptr, oneCell_slice, oneCell_string, oneCell_func, oneCell_map, Int.toNat_natCast, List.set_cons_zero, List.set_cons_succ, Nat.lt_irrefl, Nat.zero_lt_succ, Nat.succ_lt_succ_iff, fa30_0, fa30_0p, fa30_1, fa30_1p, fa30_2, fa30_2p, fa35_0, fa35_0p, fa35_1, fa35_1p, fa35_2, fa35_2p, fa51_0, fa51_0p, fa51_1, fa51_1p, fa51_2, fa51_2p, fa51_3, fa51_3p, fa51_4, fa51_4p, fa51_5, fa51_5p, fa68_0, fa68_0p, fa76_0, fa76_0p, fa88_0, fa88_0p, fa88_1, fa88_1p, fa88_2, fa88_2p, fa90_0, fa90_0p, fa90_1, fa90_1p, ld3, ld3p, ld22, ld22p, ld23, ld23p, ld30, ld30p, ld32, ld32p, ld35, ld35p, ld39, ld39p, ld51, ld51p, ld58, ld58p, ld66, ld66p, st3s, st30w, st32s, st35w, st39s, st51w, st58w, st88w, st90w, ix22, ix22p, ix32, ix32p, ix39, ix39p, ix46, ix46p, ix64, ix64p, ix66, ix66p, ix78, ix78p, ix81, ix81p, ln22, ln22p, ln32, ln32p, ln39, ln39p, ln46, ln46p, ln64, ln64p, ln66, ln66p, ln78, ln78p, ln81, ln81p, al30, al35, al39, al56, al58, cf12, cf13, cf14, cf15, cf16, cf17, cf18, cf19, cf20, cf21, cf22, cf23, cf24, cf25, cf26, cf27, cf28, cf29, cf30, cf31, cf32, cf33, cf34, cf35, cf36, cf37, cf38, cf39, cf40, cf41, cf42, cf43, cf44, cf45, cf46, cf47, cf48, cf49, cf50, cf51, cf52, cf53, cf54, cf55, cf56, cf57, cf58, cf60, cf61, cf62, cf63, cf64, bd30_0_1_2, bd30_0_1_2p, bd30_1, bd30_1p, bd30_1_2, bd30_1_2p, bd35_0, bd35_0p, bd35_0_1_2, bd35_0_1_2p, bd58_0_1, bd58_0_1p, bd68_0, bd68_0p, bd76_0, bd76_0p, bd88_0_1_2, bd88_0_1_2p, bd90_0_1, bd90_0_1p, bs22_1_0, bs32_1_0, bs39_1_0, bs78_1_0, bs81_1_0, eq4, eq4p, eq23n, eq23np, eq23s, eq23sp, eq37n, eq37np, eq37s, eq37sp, ne4, ne4p, ne23n, ne23np, ne23s, ne23sp, ne35, ne35p]
  refine cond_bool (fun k6 => ?_) (fun k6 => ?_)
  · have k6' : o.k % 8 = 6 := by simpa using k6
    have e : opT T o ws = cutT (fun _ => true) o.a T := by unfold opT; rw [if_neg n4, if_neg n5, if_pos k6']
    rw [e] at fin ⊢
    try simp -implicitDefEqProofs (maxSteps := 2000000) (disch := first | with_reducible exact Nat.ne_of_beq_eq_false rfl | exact oneCell_int | exact oneCell_bool | omega | rfl | (simp; done) | fail) only [cx, List.getElem?_cons_succ, List.getElem?_cons_zero, Option.some.injEq, exists_eq_left']
    refine (expire_spec (u := o.a) tb sa fw hbb hT).mono ?_
    rintro _ h3 ⟨rfl, a', t', s', d'⟩
    try simp -implicitDefEqProofs (maxSteps := 2000000) (disch := first | with_reducible exact Nat.ne_of_beq_eq_false rfl | exact oneCell_int | exact oneCell_bool | omega | rfl | (simp; done) | fail) only [cl (s'.in 1 rfl), List.getElem?_cons_succ, List.getElem?_cons_zero, Option.some.injEq, exists_eq_left']
    refine (rexpire_spec (u := o.a) tr (s'.pick 2 rfl rfl) g fw hbb hT).mono ?_
    rintro _ h4 ⟨rfl, a2', t2', s2', d2'⟩
    exact fin _ h4 a' a2' t' t2' s2' d2'
  have n6 : ¬ o.k % 8 = 6 := by simpa using k6
  try simp -implicitDefEqProofs (maxSteps := 2000000) (disch := first | with_reducible exact Nat.ne_of_beq_eq_false rfl | exact oneCell_int | exact oneCell_bool | omega | rfl | (simp; done) | fail) only [opH_sv, opH_su, pureW_sv, opH_nil, pureW_nil, pick_t, pick_f, pick_tp, pick_fp, gd_tt, gd_ft, gd_tf, gd_ff, box_new, regs0, regs1, regs2, regs3, regs4, regs5, regs6, cells_agg, cells_int, cells_bool, cells_ptr, cells_slice, cells_string, cells_func, cells_nilFunc, cells_map, retK_ret, retK_normal, resL_tmp, resL_cell, resL_nil0, resL_nil1, resL_nil2, resL_nil3, resC_ptr, ex0, ex1, ex2, ex0p, ex1p, ex2p, HL.cond_true, HL.cond_false, thenK_normal, thenK_ret, thenK_exit, blockK_normal, blockK_ret, blockK_exit, scopeK_normal, scopeK_ret, scopeK_exit, wpH_pure, bin_add, bin_sub, bin_mul, bin_lss, bin_leq, bin_gtr, bin_geq, bin_quo, bin_rem, bin_quop, bin_remp, wrap_in, bin_addp, bin_subp, bin_mulp, bin_lssp, bin_leqp, bin_gtrp, bin_geqp, un_not, un_notp, un_neg, eq_int, ne_int, eq_intp, ne_intp, callV_fn, add_mk, upd_eq, upd_ne, cell_set_self, Nat.zero_add, Nat.add_zero, Option.some.injEq, exists_eq_left', List.getElem?_cons_succ, List.getElem?_cons_zero, true_and, and_true, bne_self_eq_false, beq_self_eq_true, Bool.not_true, Bool.not_false, Bool.and_true, Bool.and_self, Bool.and_false, Bool.true_and, List.length_cons, List.length_nil, ne_eq, not_false_eq_true, Nat.reduceAdd, Nat.reduceMul, if_true, if_false, oneCell_int, oneCell_bool, oneCell_ptr, oneCell_slice, oneCell_string, oneCell_func, oneCell_map, Int.toNat_natCast, List.set_cons_zero, List.set_cons_succ, Nat.lt_irrefl, Nat.zero_lt_succ, Nat.succ_lt_succ_iff, fa30_0, fa30_0p, fa30_1, fa30_1p, fa30_2, fa30_2p, fa35_0, fa35_0p, fa35_1, fa35_1p, fa35_2, fa35_2p, fa51_0, fa51_0p, fa51_1, fa51_1p, fa51_2, fa51_2p, fa51_3, fa51_3p, fa51_4, fa51_4p, fa51_5, fa51_5p, fa68_0, fa68_0p, fa76_0, fa76_0p, fa88_0, fa88_0p, fa88_1, fa88_1p, fa88_2, fa88_2p, fa90_0, fa90_0p, fa90_1, fa90_1p, ld3, ld3p, ld22, ld22p, ld23, ld23p, ld30, ld30p, ld32, ld32p, ld35, ld35p, ld39, ld39p, ld51, ld51p, ld58, ld58p, ld66, ld66p, st3s, st30w, st32s, st35w, st39s, st51w, st58w, st88w, st90w, ix22, ix22p, ix32, ix32p, ix39, ix39p, ix46, ix46p, ix64, ix64p, ix66, ix66p, ix78, ix78p, ix81, ix81p, ln22, ln22p, ln32, ln32p, ln39, ln39p, ln46, ln46p, ln64, ln64p, ln66, ln66p, ln78, ln78p, ln81, ln81p, al30, al35, al39, al56, al58, cf12, cf13, cf14, cf15, cf16, cf17, cf18, cf19, cf20, cf21, cf22, cf23, cf24, cf25, cf26, cf27, cf28, cf29, cf30, cf31, cf32, cf33, cf34, cf35, cf36, cf37, cf38, cf39, cf40, cf41, cf42, cf43, cf44, cf45, cf46, cf47, cf48, cf49, cf50, cf51, cf52, cf53, cf54, cf55, cf56, cf57, cf58, cf60, cf61, cf62, cf63, cf64, bd30_0_1_2, bd30_0_1_2p, bd30_1, bd30_1p, bd30_1_2, bd30_1_2p, bd35_0, bd35_0p, bd35_0_1_2, bd35_0_1_2p, bd58_0_1, bd58_0_1p, bd68_0, bd68_0p, bd76_0, bd76_0p, bd88_0_1_2, bd88_0_1_2p, bd90_0_1, bd90_0_1p, bs22_1_0, bs32_1_0, bs39_1_0, bs78_1_0, bs81_1_0, eq4, eq4p, eq23n, eq23np, eq23s, eq23sp, eq37n, eq37np, eq37s, eq37sp, ne4, ne4p, ne23n, ne23np, ne23s, ne23sp, ne35, ne35p]
  refine cond_bool (fun k7 => ?_) (fun k7 => ?_)
  · have k7' : o.k % 8 = 7 := by simpa using k7
    have e : opT T o ws = cutT (fun x => x == o.r) FV T := by unfold opT; rw [if_neg n4, if_neg n5, if_neg n6, if_pos k7']
    rw [e] at fin ⊢
    try simp -implicitDefEqProofs (maxSteps := 2000000) (disch := first | with_reducible exact Nat.ne_of_beq_eq_false rfl | exact oneCell_int | exact oneCell_bool | omega | rfl | (simp; done) | fail) only [cx, List.getElem?_cons_succ, List.getElem?_cons_zero, Option.some.injEq, exists_eq_left']
    refine (clear_spec (r := o.r) tb sa fw hbb hT).mono ?_
    rintro _ h3 ⟨rfl, a', t', s', d'⟩
    try simp -implicitDefEqProofs (maxSteps := 2000000) (disch := first | with_reducible exact Nat.ne_of_beq_eq_false rfl | exact oneCell_int | exact oneCell_bool | omega | rfl | (simp; done) | fail) only [cl (s'.in 1 rfl), List.getElem?_cons_succ, List.getElem?_cons_zero, Option.some.injEq, exists_eq_left']
    refine (rclear_spec (r := o.r) tr (s'.pick 2 rfl rfl) g fw hbb hT).mono ?_
    rintro _ h4 ⟨rfl, a2', t2', s2', d2'⟩
    exact fin _ h4 a' a2' t' t2' s2' d2'
  have n7 : ¬ o.k % 8 = 7 := by simpa using k7
  have e : opT T o ws = (claimT T o.r ws).2 := by unfold opT; rw [if_neg n4, if_neg n5, if_neg n6, if_neg n7]
  rw [e]
  clear fin
  refine ⟨qb, s1.in 0 rfl, ?_⟩
  simp -implicitDefEqProofs (maxSteps := 2000000) (disch := first | with_reducible exact Nat.ne_of_beq_eq_false rfl | exact oneCell_int | exact oneCell_bool | omega | rfl | (simp; done) | fail) only [cq, List.getElem?_cons_succ, List.getElem?_cons_zero, Option.some.injEq, exists_eq_left']
  refine append_piece wantC (by decide) un22 eowant (by decide) (by decide) (M := ws) s1.none d1 Slc.nil (gs h1 d1) (by simp; omega) fun v2 im h2 o2 s2 d2 => ?_
  rw [List.nil_append] at o2
  refine ⟨s2.in 1 rfl, ?_⟩
  have w2 := o2.sees (G := G) (by decide) (Hp.le.refl im)
  refine (claim_spec (r := o.r) (l := ws) tb (s2.pick 2 rfl rfl) w2 g fw hb).mono ?_
  rintro _ h3 ⟨rfl, a', t', s', d'⟩
  refine ⟨s'.in 2 rfl, ?_⟩
  refine (wants_spec (gs h3 d') (by omega)).mono ?_
  rintro v4 h4 ⟨ip, o4, s4, d4⟩
  have s5 : HL.Sep (ip :: a' :: im :: qb :: a2 :: R) h4 := by
    have := HL.Sep.split s4 s'
    rwa [List.append_nil] at this
  refine ⟨s5.in 3 rfl, ?_⟩
  refine (rclaim_spec (r := o.r) (l := ws) tr (s5.pick 4 rfl rfl) (o4.sees (by decide) (Hp.le.refl ip)) g fw hb).mono ?_
  rintro _ h6 ⟨rfl, a2', t2', s6, d6⟩
  simp -implicitDefEqProofs (maxSteps := 2000000) (disch := first | with_reducible exact Nat.ne_of_beq_eq_false rfl | exact oneCell_int | exact oneCell_bool | omega | rfl | (simp; done) | fail) only [eq_intp, beq_self_eq_true, true_and]
  exact ⟨a', a2', t', t2', ((((s6.pick 4 rfl rfl).drop.pick 3 rfl rfl).drop).pick 1 rfl rfl).drop.swap, d6⟩

end Go.Proofs.Ytbloobepmgmbgaa
