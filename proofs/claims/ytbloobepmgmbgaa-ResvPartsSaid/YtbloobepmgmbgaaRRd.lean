/- The reference: ticks given back. -/
import Derived.Test.YtbloobepmgmbgaaRRc
import Derived.Test.YtbloobepmgmbgaaRG
set_option linter.unusedSimpArgs false
set_option linter.unusedVariables false
set_option maxRecDepth 100000
namespace Go.Proofs.Ytbloobepmgmbgaa
open Go Go.HL Go.Proofs.Resv

def whom (r : Int) (x : Int) : Bool := decide (r < 0) || x == r

set_option maxHeartbeats 4000000 in
theorem rcutw {G h a : Hp} {R : List Hp} {tp b : Nat} {T : Tb} {r u : Int} (tb : Tab 76 a tp T) (sp : HL.Sep (a :: R) h) (g : GoodT T) (fw : Few T b) (hb : b ≤ 50000) (hT : T.length ≤ 1000) :
    HCalls Try.prog G 58 #[.pointer (some ⟨tp, 0, none⟩), .int .i64 r, .int .i64 u] h (fun v h' => v = .tuple #[] ∧ ∃ a', Tab 76 a' tp (cutT (whom r) u T) ∧ HL.Sep (a' :: R) h' ∧ Dis G h') := by
  refine HCalls.assume fun d => enter58 (by simp) ?_
  unfold S58
  generalize hKK : retK Try.prog G _ _ = KK
  refine loop_I (fun m q h3 => ∃ (i : Nat) (a' : Hp), m = T.length - i ∧ i ≤ T.length ∧ q 0 = .pointer (some ⟨tp, 0, none⟩) ∧ q 1 = .int .i64 r ∧ q 2 = .int .i64 u ∧ q 6 = .int .i64 i ∧ Tab 76 a' tp (mapTo (cutL (whom r) u) i T) ∧ HL.Sep (a' :: R) h3 ∧ Dis G h3) ?_
    (m := T.length) ⟨0, a, rfl, Nat.zero_le _, by simp -implicitDefEqProofs (maxSteps := 2000000) (disch := first | with_reducible exact Nat.ne_of_beq_eq_false rfl | exact oneCell_int | exact oneCell_bool | omega | rfl | (simp; done) | fail) only [upd_ne, regs0], by simp -implicitDefEqProofs (maxSteps := 2000000) (disch := first | with_reducible exact Nat.ne_of_beq_eq_false rfl | exact oneCell_int | exact oneCell_bool | omega | rfl | (simp; done) | fail) only [upd_ne, regs1], by simp -implicitDefEqProofs (maxSteps := 2000000) (disch := first | with_reducible exact Nat.ne_of_beq_eq_false rfl | exact oneCell_int | exact oneCell_bool | omega | rfl | (simp; done) | fail) only [upd_ne, regs2], by simp -implicitDefEqProofs (maxSteps := 2000000) (disch := first | with_reducible exact Nat.ne_of_beq_eq_false rfl | exact oneCell_int | exact oneCell_bool | omega | rfl | (simp; done) | fail) only [upd_eq] <;> rfl, by unfold mapTo; simpa using tb, sp, d⟩
  rintro m q h3 ⟨i, a3, rfl, hi, q0, q1, q2, q6, t3, s3, d3⟩ X HX
  obtain ⟨rb, e1, e2⟩ := t3.see (G := G) (Hp.le.refl a3)
  have hml := mapTo_len (f := cutL (whom r) u) hi
  rw [hml] at e1
  have l3 := s3.in 0 rfl
  unfold S58_l1
  simp -implicitDefEqProofs (maxSteps := 2000000) (disch := first | with_reducible exact Nat.ne_of_beq_eq_false rfl | exact oneCell_int | exact oneCell_bool | omega | rfl | (simp; done) | fail) only [q0, q6, thenK_exit, blockK_exit, if_true, opH_sv, opH_nil, fa76_0, add_mk, Nat.add_zero, ld66, cell_up l3 d3 e1, Option.some.injEq, exists_eq_left', ln66, bin_lss]
  refine cond_dec (fun hlt => ?_) (fun hge => ?_)
  rotate_left
  · obtain rfl : i = T.length := by omega
    rw [mapTo_all] at t3
    rw [← hKK]
    simp -implicitDefEqProofs (maxSteps := 2000000) (disch := first | with_reducible exact Nat.ne_of_beq_eq_false rfl | exact oneCell_int | exact oneCell_bool | omega | rfl | (simp; done) | fail) only [retK_normal, resL_nil0, true_and]
    exact ⟨a3, t3, s3, d3⟩
  have hi' : i < T.length := by omega
  obtain ⟨L, hL⟩ : ∃ L, T[i]? = some L := ⟨_, List.getElem?_eq_getElem hi'⟩
  have hmg := mapTo_get (f := cutL (whom r) u) hL
  obtain ⟨sa, cap, e3, e4⟩ := e2 _ _ hmg
  have gL : Resv.Good L := g _ (List.mem_of_getElem? hL)
  have fL : L.length ≤ 50000 := Nat.le_trans (fw _ (List.mem_of_getElem? hL)) hb
  have n0 := Int.natCast_nonneg i
  unfold S58_l1_k2
  refine loop_I (fun m q' h4 => ∃ (j : Nat) (io : Hp) (v : Value), m = L.length - j ∧ j ≤ L.length ∧ (∀ k, k ≤ 6 → q' k = q k) ∧ q' 7 = v ∧ q' 8 = .int .i64 j ∧ Slc slotC 35 io v (cutL (whom r) u (L.take j)) ∧ HL.Sep (io :: a3 :: R) h4 ∧ Dis G h4) ?_
    (m := L.length) ⟨0, noHp, _, rfl, Nat.zero_le _, (fun k hk => by simp (disch := omega) only [upd_ne]), rfl, by simp -implicitDefEqProofs (maxSteps := 2000000) (disch := first | with_reducible exact Nat.ne_of_beq_eq_false rfl | exact oneCell_int | exact oneCell_bool | omega | rfl | (simp; done) | fail) only [upd_eq] <;> rfl, by simp -implicitDefEqProofs (maxSteps := 2000000) (disch := first | with_reducible exact Nat.ne_of_beq_eq_false rfl | exact oneCell_int | exact oneCell_bool | omega | rfl | (simp; done) | fail) only [upd_ne, upd_eq]; exact Slc.nil, s3.none, d3⟩
  clear s3 d3 l3 h3
  rintro m q' h3 ⟨j, io, v, rfl, hj, hq, p7, p8, o, s3, d3⟩ X' HX'
  have l3 := s3.in 1 rfl
  unfold S58_l1_l5
  simp -implicitDefEqProofs (maxSteps := 2000000) (disch := first | with_reducible exact Nat.ne_of_beq_eq_false rfl | exact oneCell_int | exact oneCell_bool | omega | rfl | (simp; done) | fail) only [hq 0 (by decide), q0, hq 6 (by decide), q6, p8, thenK_exit, blockK_exit, thenK_normal, if_true, opH_sv, opH_nil, fa76_0, add_mk, Nat.add_zero, ld66, cell_up l3 d3 e1, Option.some.injEq, exists_eq_left', ix66 n0 hlt, Int.toNat_natCast, Nat.mul_one, Nat.zero_add, ld32, cell_up l3 d3 e3, ln32, bin_lss]
  refine cond_dec (fun hlj => ?_) (fun hgj => ?_)
  rotate_left
  · obtain rfl : j = L.length := by omega
    rw [List.take_of_length_le (Nat.le_refl _)] at o
    try simp -implicitDefEqProofs (maxSteps := 2000000) (disch := first | with_reducible exact Nat.ne_of_beq_eq_false rfl | exact oneCell_int | exact oneCell_bool | omega | rfl | (simp; done) | fail) only [opH_sv, opH_su, pureW_sv, opH_nil, pureW_nil, pick_t, pick_f, pick_tp, pick_fp, gd_tt, gd_ft, gd_tf, gd_ff, box_new, regs0, regs1, regs2, regs3, regs4, regs5, regs6, cells_agg, cells_int, cells_bool, cells_ptr, cells_slice, cells_string, cells_func, cells_nilFunc, cells_map, retK_ret, retK_normal, resL_tmp, resL_cell, resL_nil0, resL_nil1, resL_nil2, resL_nil3, resC_ptr, ex0, ex1, ex2, ex0p, ex1p, ex2p, HL.cond_true, HL.cond_false, thenK_normal, thenK_ret, thenK_exit, blockK_normal, blockK_ret, blockK_exit, scopeK_normal, scopeK_ret, scopeK_exit, wpH_pure, bin_add, bin_sub, bin_mul, bin_lss, bin_leq, bin_gtr, bin_geq, bin_quo, bin_rem, bin_quop, bin_remp, wrap_in, bin_addp, bin_subp, bin_mulp, bin_lssp, bin_leqp, bin_gtrp, bin_geqp, un_not, un_notp, un_neg, eq_int, ne_int, eq_intp, ne_intp, callV_fn, add_mk, upd_eq, upd_ne, cell_set_self, Nat.zero_add, Nat.add_zero, Option.some.injEq, exists_eq_left', List.getElem?_cons_succ, List.getElem?_cons_zero, true_and, and_true, bne_self_eq_false, beq_self_eq_true, Bool.not_true, Bool.not_false, Bool.and_true, Bool.and_self, Bool.and_false, Bool.true_and, List.length_cons, List.length_nil, ne_eq, not_false_eq_true, Nat.reduceAdd, Nat.reduceMul, if_true, if_false, oneCell_int, oneCell_bool, oneCell_ptr, oneCell_slice, oneCell_string, oneCell_func, oneCell_map, Int.toNat_natCast, List.set_cons_zero, List.set_cons_succ, Nat.lt_irrefl, Nat.zero_lt_succ, Nat.succ_lt_succ_iff, fa30_0, fa30_0p, fa30_1, fa30_1p, fa30_2, fa30_2p, fa35_0, fa35_0p, fa35_1, fa35_1p, fa35_2, fa35_2p, fa51_0, fa51_0p, fa51_1, fa51_1p, fa51_2, fa51_2p, fa51_3, fa51_3p, fa51_4, fa51_4p, fa51_5, fa51_5p, fa68_0, fa68_0p, fa76_0, fa76_0p, fa88_0, fa88_0p, fa88_1, fa88_1p, fa88_2, fa88_2p, fa90_0, fa90_0p, fa90_1, fa90_1p, ld3, ld3p, ld22, ld22p, ld23, ld23p, ld30, ld30p, ld32, ld32p, ld35, ld35p, ld39, ld39p, ld51, ld51p, ld58, ld58p, ld66, ld66p, st3s, st30w, st32s, st35w, st39s, st51w, st58w, st88w, st90w, ix22, ix22p, ix32, ix32p, ix39, ix39p, ix46, ix46p, ix64, ix64p, ix66, ix66p, ix78, ix78p, ix81, ix81p, ln22, ln22p, ln32, ln32p, ln39, ln39p, ln46, ln46p, ln64, ln64p, ln66, ln66p, ln78, ln78p, ln81, ln81p, al30, al35, al39, al56, al58, cf12, cf13, cf14, cf15, cf16, cf17, cf18, cf19, cf20, cf21, cf22, cf23, cf24, cf25, cf26, cf27, cf28, cf29, cf30, cf31, cf32, cf33, cf34, cf35, cf36, cf37, cf38, cf39, cf40, cf41, cf42, cf43, cf44, cf45, cf46, cf47, cf48, cf49, cf50, cf51, cf52, cf53, cf54, cf55, cf56, cf57, cf58, cf60, cf61, cf62, cf63, cf64, bd30_0_1_2, bd30_0_1_2p, bd30_1, bd30_1p, bd30_1_2, bd30_1_2p, bd35_0, bd35_0p, bd35_0_1_2, bd35_0_1_2p, bd58_0_1, bd58_0_1p, bd68_0, bd68_0p, bd76_0, bd76_0p, bd88_0_1_2, bd88_0_1_2p, bd90_0_1, bd90_0_1p, bs22_1_0, bs32_1_0, bs39_1_0, bs78_1_0, bs81_1_0, eq4, eq4p, eq23n, eq23np, eq23s, eq23sp, eq37n, eq37np, eq37s, eq37sp, ne4, ne4p, ne23n, ne23np, ne23s, ne23sp, ne35, ne35p]
    unfold S58_l1_k4
    obtain ⟨rb', l, e1', hrb, hcl, a', t', s7, d7⟩ := tab_store (c := i) t3 s3 d3 o (by rw [hml]; omega)
    rw [e1] at e1'
    obtain rfl : rb = rb' := by have e9 := e1'; simp at e9; exact e9.1
    simp -implicitDefEqProofs (maxSteps := 2000000) (disch := first | with_reducible exact Nat.ne_of_beq_eq_false rfl | exact oneCell_int | exact oneCell_bool | omega | rfl | (simp; done) | fail) only [upd_ne, hq 0 (by decide), q0, hq 6 (by decide), q6, p7, opH_su, opH_sv, opH_nil, fa76_0, add_mk, Nat.add_zero, ld66, cell_up l3 d3 e1, Option.some.injEq, exists_eq_left', ix66 n0 hlt, Int.toNat_natCast, Nat.mul_one, Nat.zero_add]
    obtain ⟨sa6, cap6, rfl, _⟩ := o.len (by decide)
    rw [store1_eq sz32 rfl hrb hcl]
    unfold S58_l1_k3
    simp -implicitDefEqProofs (maxSteps := 2000000) (disch := first | with_reducible exact Nat.ne_of_beq_eq_false rfl | exact oneCell_int | exact oneCell_bool | omega | rfl | (simp; done) | fail) only [upd_ne, hq 6 (by decide), q6, thenK_normal, opH_sv, bin_add, wrap_in]
    refine HX (T.length - (i + 1)) _ _ (by omega) ⟨i + 1, a', rfl, by omega, by simp -implicitDefEqProofs (maxSteps := 2000000) (disch := first | with_reducible exact Nat.ne_of_beq_eq_false rfl | exact oneCell_int | exact oneCell_bool | omega | rfl | (simp; done) | fail) only [upd_ne, hq 0 (by decide), q0], by simp -implicitDefEqProofs (maxSteps := 2000000) (disch := first | with_reducible exact Nat.ne_of_beq_eq_false rfl | exact oneCell_int | exact oneCell_bool | omega | rfl | (simp; done) | fail) only [upd_ne, hq 1 (by decide), q1], by simp -implicitDefEqProofs (maxSteps := 2000000) (disch := first | with_reducible exact Nat.ne_of_beq_eq_false rfl | exact oneCell_int | exact oneCell_bool | omega | rfl | (simp; done) | fail) only [upd_ne, hq 2 (by decide), q2], by simp -implicitDefEqProofs (maxSteps := 2000000) (disch := first | with_reducible exact Nat.ne_of_beq_eq_false rfl | exact oneCell_int | exact oneCell_bool | omega | rfl | (simp; done) | fail) only [upd_eq] <;> rfl, ?_, s7, d7⟩
    rw [← mapTo_set hL]
    exact t'
  obtain ⟨s, hs⟩ : ∃ s, L[j]? = some s := ⟨_, List.getElem?_eq_getElem (by omega)⟩
  obtain ⟨b', of, rfl, z0, z1, z2⟩ := Sees.slot (e4.up l3 d3) hs
  have hst : s.f < s.t := (gL.ok s (List.mem_of_getElem? hs)).2.1
  have hol : (cutL (whom r) u (L.take j)).length ≤ j := Nat.le_trans cut_len (by rw [List.length_take]; omega)
  unfold S58_l1_l5_k6
  simp -implicitDefEqProofs (maxSteps := 2000000) (disch := first | with_reducible exact Nat.ne_of_beq_eq_false rfl | exact oneCell_int | exact oneCell_bool | omega | rfl | (simp; done) | fail) only [upd_ne, hq 0 (by decide), q0, hq 6 (by decide), q6, p8, hq 1 (by decide), q1, opH_su, opH_sv, bin_lss, al35, fa35_0, add_mk, Nat.add_zero, ld3, opH_nil, fa76_0, ld66, cell_up l3 d3 e1, Option.some.injEq, exists_eq_left', ix66 n0 hlt, Int.toNat_natCast, Nat.mul_one, Nat.zero_add, ld32, cell_up l3 d3 e3, ix32 (Int.natCast_nonneg j) hlj, ld35, z0, z1, z2, st35w]
  intro y hy gy
  generalize eh : Hp.set h3 y _ = h4
  obtain ⟨l4, d4, b4⟩ := boxed eh hy d3 gy
  have s4 : HL.Sep (noHp.set y (slotO s) :: io :: a3 :: R) h4 := by rw [← eh]; exact s3.new hy
  have cy : ∀ j, cellIn G h4 ⟨y, j, none⟩ = _ := fun j => cell_of (look_own b4)
  have next : ∀ (K0 : Exit → Rg → Hp → Prop) (q1 : Rg) (h5 : Hp) (v' : Value) (io' : Hp), (∀ k, k ≤ 6 → q1 k = q k) → q1 7 = v' → q1 8 = .int .i64 j → Slc slotC 35 io' v' (cutL (whom r) u (L.take (j + 1))) → HL.Sep (io' :: a3 :: R) h5 → Dis G h5 → S58_l1_l5_k7 G (thenK X' K0) q1 h5 := by
    intro K0 q1 h5 v' io' hk k7 k8 o' s5 d5
    unfold S58_l1_l5_k7
    simp -implicitDefEqProofs (maxSteps := 2000000) (disch := first | with_reducible exact Nat.ne_of_beq_eq_false rfl | exact oneCell_int | exact oneCell_bool | omega | rfl | (simp; done) | fail) only [k8, thenK_normal, opH_sv, bin_add, wrap_in]
    exact HX' (L.length - (j + 1)) _ _ (by omega) ⟨j + 1, io', v', rfl, by omega, (fun k hk' => by simp (disch := omega) only [upd_ne, hk]), by simp -implicitDefEqProofs (maxSteps := 2000000) (disch := first | with_reducible exact Nat.ne_of_beq_eq_false rfl | exact oneCell_int | exact oneCell_bool | omega | rfl | (simp; done) | fail) only [upd_ne, k7], by simp -implicitDefEqProofs (maxSteps := 2000000) (disch := first | with_reducible exact Nat.ne_of_beq_eq_false rfl | exact oneCell_int | exact oneCell_bool | omega | rfl | (simp; done) | fail) only [upd_eq] <;> rfl, o', s5, d5⟩
  have k8 : ∀ (K0 : Exit → Rg → Hp → Prop) (q1 : Rg) (h5 : Hp) (f' : Int), (∀ k, k ≤ 8 → q1 k = q' k) → q1 9 = .pointer (some ⟨y, 0, none⟩) → HL.Sep (noHp.set y (slotO ⟨f', s.t, s.r⟩) :: io :: a3 :: R) h5 → Dis G h5 → cutS (whom r) u s = (if f' < s.t then some ⟨f', s.t, s.r⟩ else none) → S58_l1_l5_k8 G (thenK X' K0) q1 h5 := by
    intro K0 q1 h5 f' hk k9 s5 d5 hc
    have cy5 : ∀ j, cellIn G h5 ⟨y, j, none⟩ = _ := fun j => cell_of (look_own (s5.at 0 rfl set_self))
    unfold S58_l1_l5_k8
    simp -implicitDefEqProofs (maxSteps := 2000000) (disch := first | with_reducible exact Nat.ne_of_beq_eq_false rfl | exact oneCell_int | exact oneCell_bool | omega | rfl | (simp; done) | fail) only [k9, opH_sv, ld35, add_mk, Nat.add_zero, Nat.zero_add, bs32_1_0, fa35_1, ld3, fa35_0, cy5, List.getElem?_cons_zero, Option.some.injEq, List.getElem?_cons_succ, exists_eq_left', bin_lss]
    refine cond_dec (fun h6 => ?_) (fun h6 => ?_)
    · rw [if_pos h6] at hc
      intro z hz gz
      generalize ez : Hp.set h5 z _ = h7
      obtain ⟨l7, d7, b7⟩ := boxed ez hz d5 gz
      have s7 := s5.past (o := slotO ⟨f', s.t, s.r⟩) hz
      rw [ez] at s7
      rw [hk 7 (by decide), p7]
      refine append_piece slotC (by decide) un32 eoslot (by decide) (by decide) (M := [⟨f', s.t, s.r⟩]) (s7.pick 1 rfl rfl) d7 o (Sees.row (c := slotC) (L := [⟨f', s.t, s.r⟩]) b7 rfl (Nat.le_refl _)) (by simp; omega) fun v8 a8 h8 o8 s8 d8 => ?_
      refine next _ _ _ v8 a8 (fun k hk' => by simp (disch := omega) only [upd_ne, hk, hq]) (by simp -implicitDefEqProofs (maxSteps := 2000000) (disch := first | with_reducible exact Nat.ne_of_beq_eq_false rfl | exact oneCell_int | exact oneCell_bool | omega | rfl | (simp; done) | fail) only [upd_eq]) (by simp -implicitDefEqProofs (maxSteps := 2000000) (disch := first | with_reducible exact Nat.ne_of_beq_eq_false rfl | exact oneCell_int | exact oneCell_bool | omega | rfl | (simp; done) | fail) only [upd_ne, hk 8 (by decide), p8]) ?_ (s8.pick 1 rfl rfl).drop d8
      rw [cutL_take hs, hc]
      exact o8
    · rw [if_neg h6] at hc
      refine next _ _ _ v io (fun k hk' => by simp (disch := omega) only [upd_ne, hk, hq]) (by simp -implicitDefEqProofs (maxSteps := 2000000) (disch := first | with_reducible exact Nat.ne_of_beq_eq_false rfl | exact oneCell_int | exact oneCell_bool | omega | rfl | (simp; done) | fail) only [upd_ne, hk 7 (by decide), p7]) (by simp -implicitDefEqProofs (maxSteps := 2000000) (disch := first | with_reducible exact Nat.ne_of_beq_eq_false rfl | exact oneCell_int | exact oneCell_bool | omega | rfl | (simp; done) | fail) only [upd_ne, hk 8 (by decide), p8]) ?_ s5.drop d5
      rw [cutL_take hs, hc]
      simpa using o
  have yes : whom r s.r = true → ∀ (K0 : Exit → Rg → Hp → Prop) (q1 : Rg), True := fun _ _ _ => trivial
  by_cases hr : r < 0
  · simp -implicitDefEqProofs (maxSteps := 2000000) (disch := first | with_reducible exact Nat.ne_of_beq_eq_false rfl | exact oneCell_int | exact oneCell_bool | omega | rfl | (simp; done) | fail) only [decide_eq_true hr, hq 2 (by decide), q2, pick_t, HL.cond_true, gd_tf, cy, List.getElem?_cons_zero, Option.some.injEq, exists_eq_left', max_two]
    rw [store1_eq sz3 rfl b4 (by simp)]
    refine k8 _ _ _ (max s.f u) (fun k hk => by simp (disch := omega) only [upd_ne]) (by simp -implicitDefEqProofs (maxSteps := 2000000) (disch := first | with_reducible exact Nat.ne_of_beq_eq_false rfl | exact oneCell_int | exact oneCell_bool | omega | rfl | (simp; done) | fail) only [upd_ne, upd_eq]) ?_ (d4.set (d4 _ _ b4)) ?_
    · have s6 := s4.put (o := slotO ⟨max s.f u, s.t, s.r⟩) set_self
      rw [set_set] at s6
      exact s6
    · unfold cutS whom
      rw [decide_eq_true hr, Bool.true_or, if_pos rfl]
      split
      · rw [if_neg (by omega)]
      · rw [if_pos (by omega)]
  simp -implicitDefEqProofs (maxSteps := 2000000) (disch := first | with_reducible exact Nat.ne_of_beq_eq_false rfl | exact oneCell_int | exact oneCell_bool | omega | rfl | (simp; done) | fail) only [decide_eq_false hr, pick_f, gd_ff, opH_sv, fa35_2, add_mk, Nat.zero_add, ld3, cy, List.getElem?_cons_succ, List.getElem?_cons_zero, Option.some.injEq, exists_eq_left', eq_int]
  refine cond_bool (fun hb1 => ?_) (fun hb1 => ?_)
  · simp -implicitDefEqProofs (maxSteps := 2000000) (disch := first | with_reducible exact Nat.ne_of_beq_eq_false rfl | exact oneCell_int | exact oneCell_bool | omega | rfl | (simp; done) | fail) only [hq 2 (by decide), q2, max_two]
    rw [store1_eq sz3 rfl b4 (by simp)]
    refine k8 _ _ _ (max s.f u) (fun k hk => by simp (disch := omega) only [upd_ne]) (by simp -implicitDefEqProofs (maxSteps := 2000000) (disch := first | with_reducible exact Nat.ne_of_beq_eq_false rfl | exact oneCell_int | exact oneCell_bool | omega | rfl | (simp; done) | fail) only [upd_ne, upd_eq]) ?_ (d4.set (d4 _ _ b4)) ?_
    · have s6 := s4.put (o := slotO ⟨max s.f u, s.t, s.r⟩) set_self
      rw [set_set] at s6
      exact s6
    · unfold cutS whom
      rw [hb1, Bool.or_true, if_pos rfl]
      split
      · rw [if_neg (by omega)]
      · rw [if_pos (by omega)]
  · refine k8 _ _ _ s.f (fun k hk => by simp (disch := omega) only [upd_ne]) (by simp -implicitDefEqProofs (maxSteps := 2000000) (disch := first | with_reducible exact Nat.ne_of_beq_eq_false rfl | exact oneCell_int | exact oneCell_bool | omega | rfl | (simp; done) | fail) only [upd_ne, upd_eq]) s4 d4 ?_
    unfold cutS whom
    rw [hb1, decide_eq_false hr, Bool.or_false, if_neg (by decide), if_pos hst]

theorem whom_eq {r : Int} (hr : 0 ≤ r) : whom r = fun x => x == r := by funext x; unfold whom; rw [decide_eq_false (by omega), Bool.false_or]

theorem rexpire_spec {G h a : Hp} {R : List Hp} {tp b : Nat} {T : Tb} {u : Int} (tb : Tab 76 a tp T) (sp : HL.Sep (a :: R) h) (g : GoodT T) (fw : Few T b) (hb : b ≤ 50000) (hT : T.length ≤ 1000) :
    HCalls Try.prog G 39 #[.pointer (some ⟨tp, 0, none⟩), .int .i64 u] h (fun v h' => v = .tuple #[] ∧ ∃ a', Tab 76 a' tp (cutT (fun _ => true) u T) ∧ HL.Sep (a' :: R) h' ∧ Dis G h') := by
  refine enter39 (by simp) ?_
  unfold S39
  simp -implicitDefEqProofs (maxSteps := 2000000) (disch := first | with_reducible exact Nat.ne_of_beq_eq_false rfl | exact oneCell_int | exact oneCell_bool | omega | rfl | (simp; done) | fail) only [regs0, regs1, retK_normal, resL_nil0, true_and, cf58]
  refine (rcutw (r := -1) (u := u) tb sp g fw hb hT).mono ?_
  rintro _ h' ⟨rfl, a', t', s', d'⟩
  rw [show whom (-1) = fun _ => true from rfl] at t'
  exact ⟨a', t', s', d'⟩

theorem rrelease_spec {G h a : Hp} {R : List Hp} {tp b : Nat} {T : Tb} {r u : Int} (tb : Tab 76 a tp T) (sp : HL.Sep (a :: R) h) (g : GoodT T) (fw : Few T b) (hb : b ≤ 50000) (hT : T.length ≤ 1000) :
    HCalls Try.prog G 38 #[.pointer (some ⟨tp, 0, none⟩), .int .i64 r, .int .i64 u] h (fun v h' => v = .tuple #[] ∧ ∃ a', Tab 76 a' tp (cutT (fun x => x == r) u T) ∧ HL.Sep (a' :: R) h' ∧ Dis G h') := by
  refine HCalls.assume fun d => enter38 (by simp) ?_
  unfold S38
  simp -implicitDefEqProofs (maxSteps := 2000000) (disch := first | with_reducible exact Nat.ne_of_beq_eq_false rfl | exact oneCell_int | exact oneCell_bool | omega | rfl | (simp; done) | fail) only [regs1, regs0, regs2, retK_normal, resL_nil0, true_and, cf58, opH_sv, bin_geq]
  by_cases hr : 0 ≤ r
  · try simp -implicitDefEqProofs (maxSteps := 2000000) (disch := first | with_reducible exact Nat.ne_of_beq_eq_false rfl | exact oneCell_int | exact oneCell_bool | omega | rfl | (simp; done) | fail) only [show decide (r ≥ 0) = true from decide_eq_true hr, HL.cond_true]
    refine (rcutw (r := r) (u := u) tb sp g fw hb hT).mono ?_
    rintro _ h' ⟨rfl, a', t', s', d'⟩
    rw [whom_eq hr] at t'
    exact ⟨a', t', s', d'⟩
  · try simp -implicitDefEqProofs (maxSteps := 2000000) (disch := first | with_reducible exact Nat.ne_of_beq_eq_false rfl | exact oneCell_int | exact oneCell_bool | omega | rfl | (simp; done) | fail) only [show decide (r ≥ 0) = false from decide_eq_false hr, HL.cond_false]
    rw [cutT_neg (by omega) g]
    exact ⟨a, tb, sp, d⟩

theorem rclear_spec {G h a : Hp} {R : List Hp} {tp b : Nat} {T : Tb} {r : Int} (tb : Tab 76 a tp T) (sp : HL.Sep (a :: R) h) (g : GoodT T) (fw : Few T b) (hb : b ≤ 50000) (hT : T.length ≤ 1000) :
    HCalls Try.prog G 40 #[.pointer (some ⟨tp, 0, none⟩), .int .i64 r] h (fun v h' => v = .tuple #[] ∧ ∃ a', Tab 76 a' tp (cutT (fun x => x == r) FV T) ∧ HL.Sep (a' :: R) h' ∧ Dis G h') := by
  refine HCalls.assume fun d => enter40 (by simp) ?_
  unfold S40
  simp -implicitDefEqProofs (maxSteps := 2000000) (disch := first | with_reducible exact Nat.ne_of_beq_eq_false rfl | exact oneCell_int | exact oneCell_bool | omega | rfl | (simp; done) | fail) only [regs1, regs0, retK_normal, resL_nil0, true_and, cf58, opH_sv, bin_geq]
  by_cases hr : 0 ≤ r
  · try simp -implicitDefEqProofs (maxSteps := 2000000) (disch := first | with_reducible exact Nat.ne_of_beq_eq_false rfl | exact oneCell_int | exact oneCell_bool | omega | rfl | (simp; done) | fail) only [show decide (r ≥ 0) = true from decide_eq_true hr, HL.cond_true]
    refine (rcutw (r := r) (u := FV) tb sp g fw hb hT).mono ?_
    rintro _ h' ⟨rfl, a', t', s', d'⟩
    rw [whom_eq hr] at t'
    exact ⟨a', t', s', d'⟩
  · try simp -implicitDefEqProofs (maxSteps := 2000000) (disch := first | with_reducible exact Nat.ne_of_beq_eq_false rfl | exact oneCell_int | exact oneCell_bool | omega | rfl | (simp; done) | fail) only [show decide (r ≥ 0) = false from decide_eq_false hr, HL.cond_false]
    rw [cutT_neg (by omega) g]
    exact ⟨a, tb, sp, d⟩

end Go.Proofs.Ytbloobepmgmbgaa
