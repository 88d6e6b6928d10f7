/- Stretches: told to any yield; gathered in a row. -/
import Derived.Test.YtbloobepmgmbgaaRG
import Derived.Test.YtbloobepmgmbgaaRLS
import Derived.Test.YtbloobepmgmbgaaH4
set_option linter.unusedSimpArgs false
set_option linter.unusedVariables false
set_option maxRecDepth 100000
namespace Go.Proofs.Ytbloobepmgmbgaa
open Go Go.HL Go.Proofs.Resv

abbrev gapA (g : Int × Int) : Array Value := #[.int .i64 g.1, .int .i64 g.2]
theorem gap_at {r : Int} {L : List Slot} {i : Nat} {s : Slot} {at_ : Int} (hs : L[i]? = some s) : gapsFrom r (L.drop i) at_ = if s.r = r then gapsFrom r (L.drop (i + 1)) at_ else if s.f > at_ then (at_, s.f) :: gapsFrom r (L.drop (i + 1)) s.t else gapsFrom r (L.drop (i + 1)) s.t := by
  obtain ⟨hlt, rfl⟩ := List.getElem?_eq_some_iff.1 hs
  rw [List.drop_eq_getElem_cons hlt, gapsFrom]

theorem gaps_spec17 {G h : Hp} {tp : Nat} {c r : Int} : HCalls Try.prog G 17 #[.pointer (some ⟨tp, 0, none⟩), .int .i64 c, .int .i64 r] h (fun u h' => ∃ b1 b2 b3, u = .func (.func 34) #[] #[.pointer (some ⟨b1, 0, none⟩), .pointer (some ⟨b2, 0, none⟩), .pointer (some ⟨b3, 0, none⟩)] ∧ h.le h' ∧ Dis G h' ∧ h' b1 = some (.cells #[.pointer (some ⟨tp, 0, none⟩)] 23 (0, 0)) ∧ h' b2 = some (.cells #[.int .i64 c] 3 (0, 0)) ∧ h' b3 = some (.cells #[.int .i64 r] 3 (0, 0)) ∧ ∀ R, HL.Sep R h → HL.Sep R h') := by
  refine HCalls.assume fun d => enter17 (by simp) ?_
  unfold S17
  simp -implicitDefEqProofs (maxSteps := 2000000) (disch := first | with_reducible exact Nat.ne_of_beq_eq_false rfl | exact oneCell_int | exact oneCell_bool | omega | rfl | (simp; done) | fail) only [regs0, regs1, regs2, retK_ret, resL_tmp, upd_eq, resL_nil1, opH_sv, box_new, cells_int, cells_ptr]
  intro x hx gx y hy gy z hz gz
  have nxy := ne_of_set hy
  have nxz : x ≠ z := fun e => by subst e; rw [set_other nxy, set_self] at hz; cases hz
  have nyz := ne_of_set hz
  refine ⟨x, y, z, rfl, ((le_set hx).trans (le_set hy)).trans (le_set hz), ((d.set gx).set gy).set gz, by rw [set_other nxz, set_other nxy, set_self], by rw [set_other nyz, set_self], set_self, fun R s => ((s.past hx).past hy).past hz⟩

set_option maxHeartbeats 4000000 in
theorem gaps1_spec {G h a q : Hp} {y : Value} {Y Z : List (Int × Int) → Hp → Prop} {cc : List (Int × Int) → Bool} {Lt : List (Int × Int)} {b1 b2 b3 tp : Nat} {T : Tb} {c r : Int}
    (yl : Yl Try.prog gapA G y Y Z cc) (ya : Y Lt a) (s : HL.Sep [a, q] h) (h1 : q b1 = some (.cells #[.pointer (some ⟨tp, 0, none⟩)] 23 (0, 0))) (h2 : q b2 = some (.cells #[.int .i64 c] 3 (0, 0))) (h3 : q b3 = some (.cells #[.int .i64 r] 3 (0, 0))) (ts : TSee G q tp T)
    (fw : ∀ L ∈ T, L.length ≤ 50000) :
    HCalls Try.prog G 34 #[y, .pointer (some ⟨b1, 0, none⟩), .pointer (some ⟨b2, 0, none⟩), .pointer (some ⟨b3, 0, none⟩)] h (fun _ h' => ToldR G q Y Z (feed cc Lt (if inT T.length c = true then gapsL (rowT T c) r else [])) h') := by
  refine HCalls.assume fun d => enter34 (by simp) ?_
  unfold S34
  generalize hTT : feed cc Lt _ = TT
  have c1 : ∀ {h' : Hp}, q.le h' → ∀ j, cellIn G h' ⟨b1, j, none⟩ = _ := fun l j => cell_of (look_own (l _ _ h1))
  have c2 : ∀ {h' : Hp}, q.le h' → ∀ j, cellIn G h' ⟨b2, j, none⟩ = _ := fun l j => cell_of (look_own (l _ _ h2))
  have c3 : ∀ {h' : Hp}, q.le h' → ∀ j, cellIn G h' ⟨b3, j, none⟩ = _ := fun l j => cell_of (look_own (l _ _ h3))
  have lq := s.in 1 rfl
  simp -implicitDefEqProofs (maxSteps := 2000000) (disch := first | with_reducible exact Nat.ne_of_beq_eq_false rfl | exact oneCell_int | exact oneCell_bool | omega | rfl | (simp; done) | fail) only [regs1, regs2, retK_ret, resL_nil0, opH_sv, cf30, ld3, ld23, c1 lq, List.getElem?_cons_zero, Option.some.injEq, c2 lq, exists_eq_left']
  refine (has_spec (c := c) (ts.up lq d)).mono ?_
  rintro _ h ⟨rfl, rfl⟩
  rw [hasB_in]
  cases hc : inT T.length c with
  | false =>
    rw [hc, if_neg (by decide)] at hTT
    try simp -implicitDefEqProofs (maxSteps := 2000000) (disch := first | with_reducible exact Nat.ne_of_beq_eq_false rfl | exact oneCell_int | exact oneCell_bool | omega | rfl | (simp; done) | fail) only [un_not, Bool.not_false, HL.cond_true]
    exact ToldR.go s d ya hTT
  | true =>
  obtain ⟨k0, k1⟩ := inT_iff.1 hc
  have hL := rowT_get k0 k1
  rw [hc, if_pos rfl] at hTT
  generalize hLL : rowT T c = L at *
  obtain ⟨rb, e1, e2⟩ := ts
  obtain ⟨sa, cap, e3, e4⟩ := e2 _ _ hL
  have fL := fw L (List.mem_of_getElem? hL)
  try simp -implicitDefEqProofs (maxSteps := 2000000) (disch := first | with_reducible exact Nat.ne_of_beq_eq_false rfl | exact oneCell_int | exact oneCell_bool | omega | rfl | (simp; done) | fail) only [un_not, Bool.not_true, HL.cond_false]
  unfold S34_k1
  simp -implicitDefEqProofs (maxSteps := 2000000) (disch := first | with_reducible exact Nat.ne_of_beq_eq_false rfl | exact oneCell_int | exact oneCell_bool | omega | rfl | (simp; done) | fail) only [upd_ne, regs1, regs2, pureW_sv, ld3p, c2 lq, List.getElem?_cons_zero, Option.some.injEq, exists_eq_left', ld23p, c1 lq, pureW_nil, fa68_0p, add_mk, Nat.add_zero, ld66p, cell_up lq d e1, ix66p k0 k1, Nat.mul_one, Nat.zero_add, ld32p, cell_up lq d e3, ln32p]
  generalize hKK : retK Try.prog G _ _ = KK
  refine loop_I (fun m p h3 => ∃ (i : Nat) (a : Hp) (Lt : List (Int × Int)) (at_ : Int), m = L.length - i ∧ i ≤ L.length ∧ p 0 = y ∧ p 1 = .pointer (some ⟨b1, 0, none⟩) ∧ p 2 = .pointer (some ⟨b2, 0, none⟩) ∧ p 3 = .pointer (some ⟨b3, 0, none⟩) ∧ p 5 = .int .i64 at_ ∧ p 18 = .slice sa L.length cap ∧ p 19 = .int .i64 L.length ∧ p 20 = .int .i64 i ∧
      Y Lt a ∧ HL.Sep [a, q] h3 ∧ Dis G h3 ∧ feed cc Lt (gapsFrom r (L.drop i) at_) = TT) ?_
    (m := L.length) ⟨0, a, Lt, 0, rfl, Nat.zero_le _, by simp -implicitDefEqProofs (maxSteps := 2000000) (disch := first | with_reducible exact Nat.ne_of_beq_eq_false rfl | exact oneCell_int | exact oneCell_bool | omega | rfl | (simp; done) | fail) only [upd_ne, regs0], by simp -implicitDefEqProofs (maxSteps := 2000000) (disch := first | with_reducible exact Nat.ne_of_beq_eq_false rfl | exact oneCell_int | exact oneCell_bool | omega | rfl | (simp; done) | fail) only [upd_ne, regs1], by simp -implicitDefEqProofs (maxSteps := 2000000) (disch := first | with_reducible exact Nat.ne_of_beq_eq_false rfl | exact oneCell_int | exact oneCell_bool | omega | rfl | (simp; done) | fail) only [upd_ne, regs2], by simp -implicitDefEqProofs (maxSteps := 2000000) (disch := first | with_reducible exact Nat.ne_of_beq_eq_false rfl | exact oneCell_int | exact oneCell_bool | omega | rfl | (simp; done) | fail) only [upd_ne, regs3], by simp -implicitDefEqProofs (maxSteps := 2000000) (disch := first | with_reducible exact Nat.ne_of_beq_eq_false rfl | exact oneCell_int | exact oneCell_bool | omega | rfl | (simp; done) | fail) only [upd_ne, upd_eq], by simp -implicitDefEqProofs (maxSteps := 2000000) (disch := first | with_reducible exact Nat.ne_of_beq_eq_false rfl | exact oneCell_int | exact oneCell_bool | omega | rfl | (simp; done) | fail) only [upd_ne, upd_eq], by simp -implicitDefEqProofs (maxSteps := 2000000) (disch := first | with_reducible exact Nat.ne_of_beq_eq_false rfl | exact oneCell_int | exact oneCell_bool | omega | rfl | (simp; done) | fail) only [upd_ne, upd_eq], by simp -implicitDefEqProofs (maxSteps := 2000000) (disch := first | with_reducible exact Nat.ne_of_beq_eq_false rfl | exact oneCell_int | exact oneCell_bool | omega | rfl | (simp; done) | fail) only [upd_eq] <;> rfl, ya, s, d, hTT⟩
  clear ya s d lq
  clear hTT
  clear Lt a h
  rintro m p h ⟨i, a, Lt, at_, rfl, hi, p0, p1, p2, p3, p5, p18, p19, p20, ya, s, d, hTT⟩ X HX
  have lq := s.in 1 rfl
  unfold S34_l3
  simp -implicitDefEqProofs (maxSteps := 2000000) (disch := first | with_reducible exact Nat.ne_of_beq_eq_false rfl | exact oneCell_int | exact oneCell_bool | omega | rfl | (simp; done) | fail) only [p20, p19, thenK_exit, blockK_exit, thenK_normal, scopeK_exit, if_true, opH_sv, bin_lss]
  refine cond_dec (fun hlt => ?_) (fun hge => ?_)
  rotate_left
  · -- the last one
    obtain rfl : i = L.length := by omega
    rw [List.drop_of_length_le (Nat.le_refl _), gapsFrom] at hTT
    try simp -implicitDefEqProofs (maxSteps := 2000000) (disch := first | with_reducible exact Nat.ne_of_beq_eq_false rfl | exact oneCell_int | exact oneCell_bool | omega | rfl | (simp; done) | fail) only [opH_sv, opH_su, pureW_sv, opH_nil, pureW_nil, pick_t, pick_f, pick_tp, pick_fp, gd_tt, gd_ft, gd_tf, gd_ff, box_new, regs0, regs1, regs2, regs3, regs4, regs5, regs6, cells_agg, cells_int, cells_bool, cells_ptr, cells_slice, cells_string, cells_func, cells_nilFunc, cells_map, retK_ret, retK_normal, resL_tmp, resL_cell, resL_nil0, resL_nil1, resL_nil2, resL_nil3, resC_ptr, ex0, ex1, ex2, ex0p, ex1p, ex2p, HL.cond_true, HL.cond_false, thenK_normal, thenK_ret, thenK_exit, blockK_normal, blockK_ret, blockK_exit, scopeK_normal, scopeK_ret, scopeK_exit, wpH_pure, bin_add, bin_sub, bin_mul, bin_lss, bin_leq, bin_gtr, bin_geq, bin_quo, bin_rem, bin_quop, bin_remp, wrap_in, bin_addp, bin_subp, bin_mulp, bin_lssp, bin_leqp, bin_gtrp, bin_geqp, un_not, un_notp, un_neg, eq_int, ne_int, eq_intp, ne_intp, callV_fn, add_mk, upd_eq, upd_ne, cell_set_self, Nat.zero_add, Nat.add_zero, Option.some.injEq, exists_eq_left', List.getElem?_cons_succ, List.getElem?_cons_zero, true_and, and_true, bne_self_eq_false, beq_self_eq_true, Bool.not_true, Bool.not_false, Bool.and_true, Bool.and_self, Bool.and_false, Bool.true_and, List.length_cons, List.length_nil, ne_eq, not_false_eq_true, Nat.reduceAdd, Nat.reduceMul, if_true, if_false, oneCell_int, oneCell_bool, oneCell_ptr, oneCell_slice, oneCell_string, oneCell_func, oneCell_map, Int.toNat_natCast, List.set_cons_zero, List.set_cons_succ, Nat.lt_irrefl, Nat.zero_lt_succ, Nat.succ_lt_succ_iff, fa30_0, fa30_0p, fa30_1, fa30_1p, fa30_2, fa30_2p, fa35_0, fa35_0p, fa35_1, fa35_1p, fa35_2, fa35_2p, fa51_0, fa51_0p, fa51_1, fa51_1p, fa51_2, fa51_2p, fa51_3, fa51_3p, fa51_4, fa51_4p, fa51_5, fa51_5p, fa68_0, fa68_0p, fa76_0, fa76_0p, fa88_0, fa88_0p, fa88_1, fa88_1p, fa88_2, fa88_2p, fa90_0, fa90_0p, fa90_1, fa90_1p, ld3, ld3p, ld22, ld22p, ld23, ld23p, ld30, ld30p, ld32, ld32p, ld35, ld35p, ld39, ld39p, ld51, ld51p, ld58, ld58p, ld66, ld66p, st3s, st30w, st32s, st35w, st39s, st51w, st58w, st88w, st90w, ix22, ix22p, ix32, ix32p, ix39, ix39p, ix46, ix46p, ix64, ix64p, ix66, ix66p, ix78, ix78p, ix81, ix81p, ln22, ln22p, ln32, ln32p, ln39, ln39p, ln46, ln46p, ln64, ln64p, ln66, ln66p, ln78, ln78p, ln81, ln81p, al30, al35, al39, al56, al58, cf12, cf13, cf14, cf15, cf16, cf17, cf18, cf19, cf20, cf21, cf22, cf23, cf24, cf25, cf26, cf27, cf28, cf29, cf30, cf31, cf32, cf33, cf34, cf35, cf36, cf37, cf38, cf39, cf40, cf41, cf42, cf43, cf44, cf45, cf46, cf47, cf48, cf49, cf50, cf51, cf52, cf53, cf54, cf55, cf56, cf57, cf58, cf60, cf61, cf62, cf63, cf64, bd30_0_1_2, bd30_0_1_2p, bd30_1, bd30_1p, bd30_1_2, bd30_1_2p, bd35_0, bd35_0p, bd35_0_1_2, bd35_0_1_2p, bd58_0_1, bd58_0_1p, bd68_0, bd68_0p, bd76_0, bd76_0p, bd88_0_1_2, bd88_0_1_2p, bd90_0_1, bd90_0_1p, bs22_1_0, bs32_1_0, bs39_1_0, bs78_1_0, bs81_1_0, eq4, eq4p, eq23n, eq23np, eq23s, eq23sp, eq37n, eq37np, eq37s, eq37sp, ne4, ne4p, ne23n, ne23np, ne23s, ne23sp, ne35, ne35p]
    unfold S34_k2
    simp -implicitDefEqProofs (maxSteps := 2000000) (disch := first | with_reducible exact Nat.ne_of_beq_eq_false rfl | exact oneCell_int | exact oneCell_bool | omega | rfl | (simp; done) | fail) only [upd_ne, p5, opH_sv, bin_lss]
    refine cond_dec (fun hl => ?_) (fun hl => ?_)
    · rw [if_pos hl] at hTT
      simp -implicitDefEqProofs (maxSteps := 2000000) (disch := first | with_reducible exact Nat.ne_of_beq_eq_false rfl | exact oneCell_int | exact oneCell_bool | omega | rfl | (simp; done) | fail) only [p0]
      refine opH_mono ?_ (yl Lt (at_, FV) a q h ya s d)
      rintro v h' ⟨a', rfl, s', d', hy⟩
      rw [← hKK]
      try simp -implicitDefEqProofs (maxSteps := 2000000) (disch := first | with_reducible exact Nat.ne_of_beq_eq_false rfl | exact oneCell_int | exact oneCell_bool | omega | rfl | (simp; done) | fail) only [retK_normal, resL_nil0]
      cases hc2 : cc (Lt ++ [(at_, FV)]) with
      | true =>
        rw [hc2, if_pos rfl] at hy
        rw [feed_t hc2] at hTT
        exact ToldR.go s' d' hy hTT
      | false =>
        rw [hc2, if_neg (by decide)] at hy
        exact ToldR.no s' d' hy hc2 hTT
    · rw [if_neg hl] at hTT
      rw [← hKK]
      try simp -implicitDefEqProofs (maxSteps := 2000000) (disch := first | with_reducible exact Nat.ne_of_beq_eq_false rfl | exact oneCell_int | exact oneCell_bool | omega | rfl | (simp; done) | fail) only [retK_normal, resL_nil0]
      exact ToldR.go s d ya hTT
  obtain ⟨sl, hs⟩ : ∃ sl, L[i]? = some sl := ⟨_, List.getElem?_eq_getElem (by omega)⟩
  obtain ⟨b', of, rfl, z0, z1, z2⟩ := Sees.slot (e4.up lq d) hs
  rw [gap_at hs] at hTT
  unfold S34_l3_k4
  simp -implicitDefEqProofs (maxSteps := 2000000) (disch := first | with_reducible exact Nat.ne_of_beq_eq_false rfl | exact oneCell_int | exact oneCell_bool | omega | rfl | (simp; done) | fail) only [upd_ne, p18, p20, opH_sv, opH_su, al35, fa35_2, add_mk, Nat.zero_add, ld3, ix32 (Int.natCast_nonneg i) hlt, Int.toNat_natCast, ld35, Nat.add_zero, z0, Option.some.injEq, z1, z2, exists_eq_left', st35w, cell_set_self, List.getElem?_cons_succ, List.getElem?_cons_zero]
  intro x hx gx
  generalize eh : Hp.set h x _ = h4
  obtain ⟨l4, d4, b4⟩ := boxed eh hx d gx
  have s4 : HL.Sep [a, q] h4 := by rw [← eh]; exact s.past hx
  have lq4 := s4.in 1 rfl
  have cx : ∀ j, cellIn G h4 ⟨x, j, none⟩ = _ := fun j => cell_of (look_own b4)
  have next : ∀ (K0 : Exit → Rg → Hp → Prop) (p' : Rg) (h5 a' : Hp) (Lt' : List (Int × Int)) (at' : Int), (∀ k, k ≤ 3 → p' k = p k) → p' 18 = p 18 → p' 19 = p 19 → p' 20 = p 20 → p' 5 = .int .i64 at' → Y Lt' a' → HL.Sep [a', q] h5 → Dis G h5 → feed cc Lt' (gapsFrom r (L.drop (i + 1)) at') = TT →
      S34_l3_k5 G (thenK X K0) p' h5 := by
    intro K0 p' h5 a' Lt' at' hk w18 w19 w20 w5 ya' s' d' hT'
    unfold S34_l3_k5
    simp -implicitDefEqProofs (maxSteps := 2000000) (disch := first | with_reducible exact Nat.ne_of_beq_eq_false rfl | exact oneCell_int | exact oneCell_bool | omega | rfl | (simp; done) | fail) only [w20, p20, thenK_normal, opH_sv, bin_add, wrap_in]
    exact HX (L.length - (i + 1)) _ _ (by omega) ⟨i + 1, a', Lt', at', rfl, by omega, by simp -implicitDefEqProofs (maxSteps := 2000000) (disch := first | with_reducible exact Nat.ne_of_beq_eq_false rfl | exact oneCell_int | exact oneCell_bool | omega | rfl | (simp; done) | fail) only [upd_ne, hk 0 (by decide), p0], by simp -implicitDefEqProofs (maxSteps := 2000000) (disch := first | with_reducible exact Nat.ne_of_beq_eq_false rfl | exact oneCell_int | exact oneCell_bool | omega | rfl | (simp; done) | fail) only [upd_ne, hk 1 (by decide), p1], by simp -implicitDefEqProofs (maxSteps := 2000000) (disch := first | with_reducible exact Nat.ne_of_beq_eq_false rfl | exact oneCell_int | exact oneCell_bool | omega | rfl | (simp; done) | fail) only [upd_ne, hk 2 (by decide), p2], by simp -implicitDefEqProofs (maxSteps := 2000000) (disch := first | with_reducible exact Nat.ne_of_beq_eq_false rfl | exact oneCell_int | exact oneCell_bool | omega | rfl | (simp; done) | fail) only [upd_ne, hk 3 (by decide), p3], by simp -implicitDefEqProofs (maxSteps := 2000000) (disch := first | with_reducible exact Nat.ne_of_beq_eq_false rfl | exact oneCell_int | exact oneCell_bool | omega | rfl | (simp; done) | fail) only [upd_ne, w5], by simp -implicitDefEqProofs (maxSteps := 2000000) (disch := first | with_reducible exact Nat.ne_of_beq_eq_false rfl | exact oneCell_int | exact oneCell_bool | omega | rfl | (simp; done) | fail) only [upd_ne, w18, p18], by simp -implicitDefEqProofs (maxSteps := 2000000) (disch := first | with_reducible exact Nat.ne_of_beq_eq_false rfl | exact oneCell_int | exact oneCell_bool | omega | rfl | (simp; done) | fail) only [upd_ne, w19, p19], by simp -implicitDefEqProofs (maxSteps := 2000000) (disch := first | with_reducible exact Nat.ne_of_beq_eq_false rfl | exact oneCell_int | exact oneCell_bool | omega | rfl | (simp; done) | fail) only [upd_eq] <;> rfl, ya', s', d', hT'⟩
  simp -implicitDefEqProofs (maxSteps := 2000000) (disch := first | with_reducible exact Nat.ne_of_beq_eq_false rfl | exact oneCell_int | exact oneCell_bool | omega | rfl | (simp; done) | fail) only [p3, ld3, c3 lq4, List.getElem?_cons_zero, Option.some.injEq, exists_eq_left', eq_int]
  refine cond_bool (fun hb => ?_) (fun hb => ?_)
  · rw [if_pos (by simpa using hb)] at hTT
    exact next _ _ _ a Lt at_ (fun k hk => by simp (disch := omega) only [upd_ne]) (by simp -implicitDefEqProofs (maxSteps := 2000000) (disch := first | with_reducible exact Nat.ne_of_beq_eq_false rfl | exact oneCell_int | exact oneCell_bool | omega | rfl | (simp; done) | fail) only [upd_ne]) (by simp -implicitDefEqProofs (maxSteps := 2000000) (disch := first | with_reducible exact Nat.ne_of_beq_eq_false rfl | exact oneCell_int | exact oneCell_bool | omega | rfl | (simp; done) | fail) only [upd_ne]) (by simp -implicitDefEqProofs (maxSteps := 2000000) (disch := first | with_reducible exact Nat.ne_of_beq_eq_false rfl | exact oneCell_int | exact oneCell_bool | omega | rfl | (simp; done) | fail) only [upd_ne]) (by simp -implicitDefEqProofs (maxSteps := 2000000) (disch := first | with_reducible exact Nat.ne_of_beq_eq_false rfl | exact oneCell_int | exact oneCell_bool | omega | rfl | (simp; done) | fail) only [upd_ne, p5]) ya s4 d4 hTT
  rw [if_neg (by simpa using hb)] at hTT
  unfold S34_l3_k6
  have k7 : ∀ (K0 : Exit → Rg → Hp → Prop) (p' : Rg) (h5 a' : Hp) (Lt' : List (Int × Int)), (∀ k, k ≤ 3 → p' k = p k) → p' 18 = p 18 → p' 19 = p 19 → p' 20 = p 20 → p' 7 = .pointer (some ⟨x, 0, none⟩) → h5 x = some (slotO sl) → Y Lt' a' → HL.Sep [a', q] h5 → Dis G h5 → feed cc Lt' (gapsFrom r (L.drop (i + 1)) sl.t) = TT →
      S34_l3_k7 G (thenK X K0) p' h5 := by
    intro K0 p' h5 a' Lt' hk w18 w19 w20 w7 b5 ya' s' d' hT'
    have c5 : ∀ j, cellIn G h5 ⟨x, j, none⟩ = _ := fun j => cell_of (look_own b5)
    unfold S34_l3_k7
    simp -implicitDefEqProofs (maxSteps := 2000000) (disch := first | with_reducible exact Nat.ne_of_beq_eq_false rfl | exact oneCell_int | exact oneCell_bool | omega | rfl | (simp; done) | fail) only [w7, opH_sv, fa35_1, add_mk, Nat.zero_add, ld3, c5, List.getElem?_cons_succ, List.getElem?_cons_zero, Option.some.injEq, exists_eq_left']
    exact next _ _ _ a' Lt' sl.t (fun k hk' => by simp (disch := omega) only [upd_ne]; exact hk k hk') (by simp -implicitDefEqProofs (maxSteps := 2000000) (disch := first | with_reducible exact Nat.ne_of_beq_eq_false rfl | exact oneCell_int | exact oneCell_bool | omega | rfl | (simp; done) | fail) only [upd_ne, w18]) (by simp -implicitDefEqProofs (maxSteps := 2000000) (disch := first | with_reducible exact Nat.ne_of_beq_eq_false rfl | exact oneCell_int | exact oneCell_bool | omega | rfl | (simp; done) | fail) only [upd_ne, w19]) (by simp -implicitDefEqProofs (maxSteps := 2000000) (disch := first | with_reducible exact Nat.ne_of_beq_eq_false rfl | exact oneCell_int | exact oneCell_bool | omega | rfl | (simp; done) | fail) only [upd_ne, w20]) (by simp -implicitDefEqProofs (maxSteps := 2000000) (disch := first | with_reducible exact Nat.ne_of_beq_eq_false rfl | exact oneCell_int | exact oneCell_bool | omega | rfl | (simp; done) | fail) only [upd_eq]) ya' s' d' hT'
  simp -implicitDefEqProofs (maxSteps := 2000000) (disch := first | with_reducible exact Nat.ne_of_beq_eq_false rfl | exact oneCell_int | exact oneCell_bool | omega | rfl | (simp; done) | fail) only [upd_ne, upd_eq, p5, thenK_ret, blockK_ret, scopeK_ret, opH_sv, fa35_0, add_mk, Nat.add_zero, ld3, cx, List.getElem?_cons_zero, Option.some.injEq, exists_eq_left', bin_gtr]
  by_cases hg : sl.f > at_
  rotate_left
  · rw [if_neg hg] at hTT
    simp -implicitDefEqProofs (maxSteps := 2000000) (disch := first | with_reducible exact Nat.ne_of_beq_eq_false rfl | exact oneCell_int | exact oneCell_bool | omega | rfl | (simp; done) | fail) only [show decide (sl.f > at_) = false from decide_eq_false hg, pick_f, HL.cond_false, gd_ft]
    exact k7 _ _ _ a Lt (fun k hk => by simp (disch := omega) only [upd_ne]) (by simp -implicitDefEqProofs (maxSteps := 2000000) (disch := first | with_reducible exact Nat.ne_of_beq_eq_false rfl | exact oneCell_int | exact oneCell_bool | omega | rfl | (simp; done) | fail) only [upd_ne]) (by simp -implicitDefEqProofs (maxSteps := 2000000) (disch := first | with_reducible exact Nat.ne_of_beq_eq_false rfl | exact oneCell_int | exact oneCell_bool | omega | rfl | (simp; done) | fail) only [upd_ne]) (by simp -implicitDefEqProofs (maxSteps := 2000000) (disch := first | with_reducible exact Nat.ne_of_beq_eq_false rfl | exact oneCell_int | exact oneCell_bool | omega | rfl | (simp; done) | fail) only [upd_ne]) (by simp -implicitDefEqProofs (maxSteps := 2000000) (disch := first | with_reducible exact Nat.ne_of_beq_eq_false rfl | exact oneCell_int | exact oneCell_bool | omega | rfl | (simp; done) | fail) only [upd_ne, upd_eq]) b4 ya s4 d4 hTT
  rw [if_pos hg] at hTT
  simp -implicitDefEqProofs (maxSteps := 2000000) (disch := first | with_reducible exact Nat.ne_of_beq_eq_false rfl | exact oneCell_int | exact oneCell_bool | omega | rfl | (simp; done) | fail) only [show decide (sl.f > at_) = true from decide_eq_true hg, p0, pick_t, gd_tt, opH_sv, fa35_0, add_mk, Nat.add_zero, ld3, cx, List.getElem?_cons_zero, Option.some.injEq, exists_eq_left']
  -- the box stays beside the yield's own
  have s5 : HL.Sep [a, q.set x (slotO sl)] h4 := by
    rw [← eh]
    have := (s.swap.grow (o := slotO sl) hx).swap
    exact this
  refine opH_mono ?_ (yl Lt (at_, sl.f) a (q.set x (slotO sl)) h4 ya s5 d4)
  rintro v h6 ⟨a', rfl, s', d', hy⟩
  have b6 : h6 x = some (slotO sl) := s'.at 1 rfl set_self
  have s6 : HL.Sep [a', q] h6 := (s'.swap.cut (le_set (s.drop.hd.none hx))).swap
  simp -implicitDefEqProofs (maxSteps := 2000000) (disch := first | with_reducible exact Nat.ne_of_beq_eq_false rfl | exact oneCell_int | exact oneCell_bool | omega | rfl | (simp; done) | fail) only [un_not]
  cases hc2 : cc (Lt ++ [(at_, sl.f)]) with
  | true =>
    rw [hc2, if_pos rfl] at hy
    rw [feed_t hc2] at hTT
    simp -implicitDefEqProofs (maxSteps := 2000000) (disch := first | with_reducible exact Nat.ne_of_beq_eq_false rfl | exact oneCell_int | exact oneCell_bool | omega | rfl | (simp; done) | fail) only [Bool.not_true, HL.cond_false]
    exact k7 _ _ _ a' _ (fun k hk => by simp (disch := omega) only [upd_ne]) (by simp -implicitDefEqProofs (maxSteps := 2000000) (disch := first | with_reducible exact Nat.ne_of_beq_eq_false rfl | exact oneCell_int | exact oneCell_bool | omega | rfl | (simp; done) | fail) only [upd_ne]) (by simp -implicitDefEqProofs (maxSteps := 2000000) (disch := first | with_reducible exact Nat.ne_of_beq_eq_false rfl | exact oneCell_int | exact oneCell_bool | omega | rfl | (simp; done) | fail) only [upd_ne]) (by simp -implicitDefEqProofs (maxSteps := 2000000) (disch := first | with_reducible exact Nat.ne_of_beq_eq_false rfl | exact oneCell_int | exact oneCell_bool | omega | rfl | (simp; done) | fail) only [upd_ne]) (by simp -implicitDefEqProofs (maxSteps := 2000000) (disch := first | with_reducible exact Nat.ne_of_beq_eq_false rfl | exact oneCell_int | exact oneCell_bool | omega | rfl | (simp; done) | fail) only [upd_ne, upd_eq]) b6 hy s6 d' hTT
  | false =>
    rw [hc2, if_neg (by decide)] at hy
    simp -implicitDefEqProofs (maxSteps := 2000000) (disch := first | with_reducible exact Nat.ne_of_beq_eq_false rfl | exact oneCell_int | exact oneCell_bool | omega | rfl | (simp; done) | fail) only [Bool.not_false, HL.cond_true]
    rw [← hKK]
    try simp -implicitDefEqProofs (maxSteps := 2000000) (disch := first | with_reducible exact Nat.ne_of_beq_eq_false rfl | exact oneCell_int | exact oneCell_bool | omega | rfl | (simp; done) | fail) only [retK_ret, resL_nil0]
    exact ToldR.no s6 d' hy hc2 hTT
end Go.Proofs.Ytbloobepmgmbgaa
