/- The reference: stretches; wants and pairs copied. -/
import Derived.Test.YtbloobepmgmbgaaRRd
import Derived.Test.YtbloobepmgmbgaaRM
set_option linter.unusedSimpArgs false
set_option linter.unusedVariables false
set_option maxRecDepth 100000
namespace Go.Proofs.Ytbloobepmgmbgaa
open Go Go.HL Go.Proofs.Resv

theorem eowr : ElemOk Try.prog 88 wantC.n 24 := eo88
theorem eogr : ElemOk Try.prog 90 pairC.n 16 := eo90

set_option maxHeartbeats 4000000 in
theorem rgaps_spec {G h : Hp} {tp : Nat} {T : Tb} {c r : Int} (ts : TSee G h tp T) (fw : ∀ L ∈ T, L.length ≤ 50000) :
    HCalls Try.prog G 46 #[.pointer (some ⟨tp, 0, none⟩), .int .i64 c, .int .i64 r] h (fun u h' => ∃ ip, Slc pairC 90 ip u (gapsAt T c r) ∧ HL.Sep [ip, h] h' ∧ Dis G h') := by
  refine HCalls.assume fun d => enter46 (by simp) ?_
  unfold S46 gapsAt
  simp -implicitDefEqProofs (maxSteps := 2000000) (disch := first | with_reducible exact Nat.ne_of_beq_eq_false rfl | exact oneCell_int | exact oneCell_bool | omega | rfl | (simp; done) | fail) only [regs0, regs1, retK_ret, resL_tmp, upd_eq, resL_nil1, opH_sv, cf54]
  refine (there_spec (c := c) ts).mono ?_
  rintro _ h ⟨rfl, rfl⟩
  cases hc : inT T.length c with
  | false =>
    try simp -implicitDefEqProofs (maxSteps := 2000000) (disch := first | with_reducible exact Nat.ne_of_beq_eq_false rfl | exact oneCell_int | exact oneCell_bool | omega | rfl | (simp; done) | fail) only [un_not, Bool.not_false, HL.cond_true]
    exact ⟨noHp, Slc.nil, Sep.one.none, d⟩
  | true =>
  obtain ⟨c0, c1⟩ := inT_iff.1 hc
  have hL := rowT_get c0 c1
  obtain ⟨rb, e1, e2⟩ := ts
  obtain ⟨sa, cap, e3, e4⟩ := e2 _ _ hL
  have fL := fw _ (List.mem_of_getElem? hL)
  generalize hLL : rowT T c = L at *
  try simp -implicitDefEqProofs (maxSteps := 2000000) (disch := first | with_reducible exact Nat.ne_of_beq_eq_false rfl | exact oneCell_int | exact oneCell_bool | omega | rfl | (simp; done) | fail) only [if_true, un_not, Bool.not_true, HL.cond_false]
  unfold S46_k1
  generalize hKK : retK Try.prog G _ _ = KK
  refine loop_I (fun m q h3 => ∃ (i : Nat) (at_ : Int) (io : Hp) (v : Value) (out : List (Int × Int)), m = L.length - i ∧ i ≤ L.length ∧ q 0 = .pointer (some ⟨tp, 0, none⟩) ∧ q 1 = .int .i64 c ∧ q 2 = .int .i64 r ∧ q 7 = v ∧ q 8 = .int .i64 at_ ∧ q 9 = .int .i64 i ∧ Slc pairC 90 io v out ∧ out.length ≤ i ∧ HL.Sep [io, h] h3 ∧ Dis G h3 ∧ out ++ gapsFrom r (L.drop i) at_ = gapsL L r) ?_
    (m := L.length) ⟨0, 0, noHp, _, [], rfl, Nat.zero_le _, by simp -implicitDefEqProofs (maxSteps := 2000000) (disch := first | with_reducible exact Nat.ne_of_beq_eq_false rfl | exact oneCell_int | exact oneCell_bool | omega | rfl | (simp; done) | fail) only [upd_ne, regs0], by simp -implicitDefEqProofs (maxSteps := 2000000) (disch := first | with_reducible exact Nat.ne_of_beq_eq_false rfl | exact oneCell_int | exact oneCell_bool | omega | rfl | (simp; done) | fail) only [upd_ne, regs1], by simp -implicitDefEqProofs (maxSteps := 2000000) (disch := first | with_reducible exact Nat.ne_of_beq_eq_false rfl | exact oneCell_int | exact oneCell_bool | omega | rfl | (simp; done) | fail) only [upd_ne, regs2], rfl, by simp -implicitDefEqProofs (maxSteps := 2000000) (disch := first | with_reducible exact Nat.ne_of_beq_eq_false rfl | exact oneCell_int | exact oneCell_bool | omega | rfl | (simp; done) | fail) only [upd_ne, upd_eq], by simp -implicitDefEqProofs (maxSteps := 2000000) (disch := first | with_reducible exact Nat.ne_of_beq_eq_false rfl | exact oneCell_int | exact oneCell_bool | omega | rfl | (simp; done) | fail) only [upd_eq] <;> rfl, by simp -implicitDefEqProofs (maxSteps := 2000000) (disch := first | with_reducible exact Nat.ne_of_beq_eq_false rfl | exact oneCell_int | exact oneCell_bool | omega | rfl | (simp; done) | fail) only [upd_ne, upd_eq]; exact Slc.nil, Nat.zero_le _, Sep.one.none, d, rfl⟩
  rintro m q h3 ⟨i, at_, io, v, out, rfl, hi, q0, q1, q2, q7, q8, q9, o, ho, s3, d3, hm⟩ X HX
  have l3 := s3.in 1 rfl
  unfold S46_l4
  simp -implicitDefEqProofs (maxSteps := 2000000) (disch := first | with_reducible exact Nat.ne_of_beq_eq_false rfl | exact oneCell_int | exact oneCell_bool | omega | rfl | (simp; done) | fail) only [q0, q1, q9, thenK_exit, blockK_exit, thenK_normal, if_true, opH_sv, opH_nil, fa76_0, add_mk, Nat.add_zero, ld66, cell_up l3 d3 e1, Option.some.injEq, exists_eq_left', ix66 c0 c1, Nat.mul_one, Nat.zero_add, ld32, cell_up l3 d3 e3, ln32, bin_lss]
  refine cond_dec (fun hlt => ?_) (fun hge => ?_)
  rotate_left
  · obtain rfl : i = L.length := by omega
    rw [List.drop_of_length_le (Nat.le_refl _), gapsFrom] at hm
    try simp -implicitDefEqProofs (maxSteps := 2000000) (disch := first | with_reducible exact Nat.ne_of_beq_eq_false rfl | exact oneCell_int | exact oneCell_bool | omega | rfl | (simp; done) | fail) only [opH_sv, opH_su, pureW_sv, opH_nil, pureW_nil, pick_t, pick_f, pick_tp, pick_fp, gd_tt, gd_ft, gd_tf, gd_ff, box_new, regs0, regs1, regs2, regs3, regs4, regs5, regs6, cells_agg, cells_int, cells_bool, cells_ptr, cells_slice, cells_string, cells_func, cells_nilFunc, cells_map, retK_ret, retK_normal, resL_tmp, resL_cell, resL_nil0, resL_nil1, resL_nil2, resL_nil3, resC_ptr, ex0, ex1, ex2, ex0p, ex1p, ex2p, HL.cond_true, HL.cond_false, thenK_normal, thenK_ret, thenK_exit, blockK_normal, blockK_ret, blockK_exit, scopeK_normal, scopeK_ret, scopeK_exit, wpH_pure, bin_add, bin_sub, bin_mul, bin_lss, bin_leq, bin_gtr, bin_geq, bin_quo, bin_rem, bin_quop, bin_remp, wrap_in, bin_addp, bin_subp, bin_mulp, bin_lssp, bin_leqp, bin_gtrp, bin_geqp, un_not, un_notp, un_neg, eq_int, ne_int, eq_intp, ne_intp, callV_fn, add_mk, upd_eq, upd_ne, cell_set_self, Nat.zero_add, Nat.add_zero, Option.some.injEq, exists_eq_left', List.getElem?_cons_succ, List.getElem?_cons_zero, true_and, and_true, bne_self_eq_false, beq_self_eq_true, Bool.not_true, Bool.not_false, Bool.and_true, Bool.and_self, Bool.and_false, Bool.true_and, List.length_cons, List.length_nil, ne_eq, not_false_eq_true, Nat.reduceAdd, Nat.reduceMul, if_true, if_false, oneCell_int, oneCell_bool, oneCell_ptr, oneCell_slice, oneCell_string, oneCell_func, oneCell_map, Int.toNat_natCast, List.set_cons_zero, List.set_cons_succ, Nat.lt_irrefl, Nat.zero_lt_succ, Nat.succ_lt_succ_iff, fa30_0, fa30_0p, fa30_1, fa30_1p, fa30_2, fa30_2p, fa35_0, fa35_0p, fa35_1, fa35_1p, fa35_2, fa35_2p, fa51_0, fa51_0p, fa51_1, fa51_1p, fa51_2, fa51_2p, fa51_3, fa51_3p, fa51_4, fa51_4p, fa51_5, fa51_5p, fa68_0, fa68_0p, fa76_0, fa76_0p, fa88_0, fa88_0p, fa88_1, fa88_1p, fa88_2, fa88_2p, fa90_0, fa90_0p, fa90_1, fa90_1p, ld3, ld3p, ld22, ld22p, ld23, ld23p, ld30, ld30p, ld32, ld32p, ld35, ld35p, ld39, ld39p, ld51, ld51p, ld58, ld58p, ld66, ld66p, st3s, st30w, st32s, st35w, st39s, st51w, st58w, st88w, st90w, ix22, ix22p, ix32, ix32p, ix39, ix39p, ix46, ix46p, ix64, ix64p, ix66, ix66p, ix78, ix78p, ix81, ix81p, ln22, ln22p, ln32, ln32p, ln39, ln39p, ln46, ln46p, ln64, ln64p, ln66, ln66p, ln78, ln78p, ln81, ln81p, al30, al35, al39, al56, al58, cf12, cf13, cf14, cf15, cf16, cf17, cf18, cf19, cf20, cf21, cf22, cf23, cf24, cf25, cf26, cf27, cf28, cf29, cf30, cf31, cf32, cf33, cf34, cf35, cf36, cf37, cf38, cf39, cf40, cf41, cf42, cf43, cf44, cf45, cf46, cf47, cf48, cf49, cf50, cf51, cf52, cf53, cf54, cf55, cf56, cf57, cf58, cf60, cf61, cf62, cf63, cf64, bd30_0_1_2, bd30_0_1_2p, bd30_1, bd30_1p, bd30_1_2, bd30_1_2p, bd35_0, bd35_0p, bd35_0_1_2, bd35_0_1_2p, bd58_0_1, bd58_0_1p, bd68_0, bd68_0p, bd76_0, bd76_0p, bd88_0_1_2, bd88_0_1_2p, bd90_0_1, bd90_0_1p, bs22_1_0, bs32_1_0, bs39_1_0, bs78_1_0, bs81_1_0, eq4, eq4p, eq23n, eq23np, eq23s, eq23sp, eq37n, eq37np, eq37s, eq37sp, ne4, ne4p, ne23n, ne23np, ne23s, ne23sp, ne35, ne35p]
    unfold S46_k2
    simp -implicitDefEqProofs (maxSteps := 2000000) (disch := first | with_reducible exact Nat.ne_of_beq_eq_false rfl | exact oneCell_int | exact oneCell_bool | omega | rfl | (simp; done) | fail) only [upd_ne, q8, opH_sv, bd90_0_1, bs81_1_0, bin_lss]
    refine cond_dec (fun h5 => ?_) (fun h5 => ?_)
    · rw [if_pos (by simp only [FV]; exact h5)] at hm
      intro z hz gz
      generalize ez : Hp.set h3 z _ = h4
      obtain ⟨l4, d4, b4⟩ := boxed ez hz d3 gz
      have s4 := s3.past (o := (.cells #[.int .i64 at_, .int .i64 4611686018427387904] 90 (0, 0))) hz
      rw [ez] at s4
      rw [q7]
      refine append_piece pairC (by decide) un81 eogr (by decide) (by decide) (M := [(at_, FV)]) s4 d4 o (Sees.row (c := pairC) (L := [(at_, FV)]) b4 rfl (Nat.le_refl _)) (by simp; omega) fun v5 a5 h5 o5 s5 d5 => ?_
      unfold S46_k3
      rw [← hKK]
      simp -implicitDefEqProofs (maxSteps := 2000000) (disch := first | with_reducible exact Nat.ne_of_beq_eq_false rfl | exact oneCell_int | exact oneCell_bool | omega | rfl | (simp; done) | fail) only [upd_eq, retK_ret, resL_tmp, resL_nil1]
      rw [hm] at o5
      exact ⟨a5, o5, s5, d5⟩
    · rw [if_neg (by simp only [FV]; exact h5), List.append_nil] at hm
      unfold S46_k3
      rw [← hKK]
      simp -implicitDefEqProofs (maxSteps := 2000000) (disch := first | with_reducible exact Nat.ne_of_beq_eq_false rfl | exact oneCell_int | exact oneCell_bool | omega | rfl | (simp; done) | fail) only [upd_ne, q7, retK_ret, resL_tmp, upd_eq, resL_nil1]
      rw [hm] at o
      exact ⟨io, o, s3, d3⟩
  obtain ⟨s, hs⟩ : ∃ s, L[i]? = some s := ⟨_, List.getElem?_eq_getElem (by omega)⟩
  obtain ⟨b', of, rfl, z0, z1, z2⟩ := Sees.slot (e4.up l3 d3) hs
  rw [gap_at hs] at hm
  unfold S46_l4_k5
  simp -implicitDefEqProofs (maxSteps := 2000000) (disch := first | with_reducible exact Nat.ne_of_beq_eq_false rfl | exact oneCell_int | exact oneCell_bool | omega | rfl | (simp; done) | fail) only [upd_ne, q0, q1, q9, opH_sv, opH_su, al35, fa35_2, add_mk, Nat.zero_add, ld3, opH_nil, fa76_0, Nat.add_zero, ld66, cell_up l3 d3 e1, Option.some.injEq, exists_eq_left', ix66 c0 c1, Nat.mul_one, ld32, cell_up l3 d3 e3, ix32 (Int.natCast_nonneg i) hlt, Int.toNat_natCast, ld35, z0, z1, z2, st35w, cell_set_self, List.getElem?_cons_succ, List.getElem?_cons_zero]
  intro y hy gy
  generalize eh : Hp.set h3 y _ = h4
  obtain ⟨l4, d4, b4⟩ := boxed eh hy d3 gy
  have s4y : HL.Sep [noHp.set y (slotO s), io, h] h4 := by rw [← eh]; exact s3.new hy
  have s4 := s4y.drop
  have cy : ∀ j, cellIn G h4 ⟨y, j, none⟩ = _ := fun j => cell_of (look_own b4)
  have go : ∀ (K0 : Exit → Rg → Hp → Prop) (r1 : Rg) (at2 : Int) (v2 : Value) (io2 : Hp) (out2 : List (Int × Int)) (h5 : Hp), (∀ k, k ≤ 2 → r1 k = q k) → r1 7 = v2 → r1 8 = .int .i64 at2 → r1 9 = .int .i64 i → Slc pairC 90 io2 v2 out2 → out2.length ≤ i + 1 → HL.Sep [io2, h] h5 → Dis G h5 → out2 ++ gapsFrom r (L.drop (i + 1)) at2 = gapsL L r → S46_l4_k6 G (thenK X K0) r1 h5 := by
    intro K0 r1 at2 v2 io2 out2 h5 hk k7 k8 k9 o2 ho2 s5 d5 hm2
    unfold S46_l4_k6
    simp -implicitDefEqProofs (maxSteps := 2000000) (disch := first | with_reducible exact Nat.ne_of_beq_eq_false rfl | exact oneCell_int | exact oneCell_bool | omega | rfl | (simp; done) | fail) only [k9, thenK_normal, opH_sv, bin_add, wrap_in]
    exact HX (L.length - (i + 1)) _ _ (by omega) ⟨i + 1, at2, io2, v2, out2, rfl, by omega, by simp -implicitDefEqProofs (maxSteps := 2000000) (disch := first | with_reducible exact Nat.ne_of_beq_eq_false rfl | exact oneCell_int | exact oneCell_bool | omega | rfl | (simp; done) | fail) only [upd_ne, hk 0 (by decide), q0], by simp -implicitDefEqProofs (maxSteps := 2000000) (disch := first | with_reducible exact Nat.ne_of_beq_eq_false rfl | exact oneCell_int | exact oneCell_bool | omega | rfl | (simp; done) | fail) only [upd_ne, hk 1 (by decide), q1], by simp -implicitDefEqProofs (maxSteps := 2000000) (disch := first | with_reducible exact Nat.ne_of_beq_eq_false rfl | exact oneCell_int | exact oneCell_bool | omega | rfl | (simp; done) | fail) only [upd_ne, hk 2 (by decide), q2], by simp -implicitDefEqProofs (maxSteps := 2000000) (disch := first | with_reducible exact Nat.ne_of_beq_eq_false rfl | exact oneCell_int | exact oneCell_bool | omega | rfl | (simp; done) | fail) only [upd_ne, k7], by simp -implicitDefEqProofs (maxSteps := 2000000) (disch := first | with_reducible exact Nat.ne_of_beq_eq_false rfl | exact oneCell_int | exact oneCell_bool | omega | rfl | (simp; done) | fail) only [upd_ne, k8], by simp -implicitDefEqProofs (maxSteps := 2000000) (disch := first | with_reducible exact Nat.ne_of_beq_eq_false rfl | exact oneCell_int | exact oneCell_bool | omega | rfl | (simp; done) | fail) only [upd_eq] <;> rfl, o2, ho2, s5, d5, hm2⟩
  simp -implicitDefEqProofs (maxSteps := 2000000) (disch := first | with_reducible exact Nat.ne_of_beq_eq_false rfl | exact oneCell_int | exact oneCell_bool | omega | rfl | (simp; done) | fail) only [q2, eq_int]
  refine cond_bool (fun hb => ?_) (fun hb => ?_)
  · rw [if_pos (by simpa using hb)] at hm
    exact go _ _ at_ v io out h4 (fun k hk => by simp (disch := omega) only [upd_ne]) (by simp -implicitDefEqProofs (maxSteps := 2000000) (disch := first | with_reducible exact Nat.ne_of_beq_eq_false rfl | exact oneCell_int | exact oneCell_bool | omega | rfl | (simp; done) | fail) only [upd_ne, q7]) (by simp -implicitDefEqProofs (maxSteps := 2000000) (disch := first | with_reducible exact Nat.ne_of_beq_eq_false rfl | exact oneCell_int | exact oneCell_bool | omega | rfl | (simp; done) | fail) only [upd_ne, q8]) (by simp -implicitDefEqProofs (maxSteps := 2000000) (disch := first | with_reducible exact Nat.ne_of_beq_eq_false rfl | exact oneCell_int | exact oneCell_bool | omega | rfl | (simp; done) | fail) only [upd_ne, q9]) o (by omega) s4 d4 hm
  rw [if_neg (by simpa using hb)] at hm
  unfold S46_l4_k7
  simp -implicitDefEqProofs (maxSteps := 2000000) (disch := first | with_reducible exact Nat.ne_of_beq_eq_false rfl | exact oneCell_int | exact oneCell_bool | omega | rfl | (simp; done) | fail) only [upd_ne, upd_eq, q8, opH_sv, fa35_0, add_mk, Nat.add_zero, ld3, cy, List.getElem?_cons_zero, Option.some.injEq, exists_eq_left', bin_gtr, bd90_0_1, bs81_1_0]
  refine cond_dec (fun h5 => ?_) (fun h5 => ?_)
  · rw [if_pos h5] at hm
    intro z hz gz
    generalize ez : Hp.set h4 z _ = h6
    obtain ⟨l6, d6, b6⟩ := boxed ez hz d4 gz
    have s6 := (s4y.pick 1 rfl rfl).past (o := (.cells #[.int .i64 at_, .int .i64 s.f] 90 (0, 0))) hz
    rw [ez] at s6
    rw [q7]
    refine append_piece pairC (by decide) un81 eogr (by decide) (by decide) (M := [(at_, s.f)]) s6 d6 o (Sees.row (c := pairC) (L := [(at_, s.f)]) b6 rfl (Nat.le_refl _)) (by simp; omega) fun v7 a7 h7 o7 s7 d7 => ?_
    have cy7 : ∀ j, cellIn G h7 ⟨y, j, none⟩ = _ := fun j => cell_of (look_own (s7.at 1 rfl set_self))
    unfold S46_l4_k8
    simp -implicitDefEqProofs (maxSteps := 2000000) (disch := first | with_reducible exact Nat.ne_of_beq_eq_false rfl | exact oneCell_int | exact oneCell_bool | omega | rfl | (simp; done) | fail) only [upd_ne, upd_eq, opH_sv, fa35_1, add_mk, Nat.zero_add, ld3, cy7, List.getElem?_cons_succ, List.getElem?_cons_zero, Option.some.injEq, exists_eq_left']
    exact go _ _ s.t v7 a7 (out ++ [(at_, s.f)]) h7 (fun k hk => by simp (disch := omega) only [upd_ne]) (by simp -implicitDefEqProofs (maxSteps := 2000000) (disch := first | with_reducible exact Nat.ne_of_beq_eq_false rfl | exact oneCell_int | exact oneCell_bool | omega | rfl | (simp; done) | fail) only [upd_ne, upd_eq]) (by simp -implicitDefEqProofs (maxSteps := 2000000) (disch := first | with_reducible exact Nat.ne_of_beq_eq_false rfl | exact oneCell_int | exact oneCell_bool | omega | rfl | (simp; done) | fail) only [upd_eq]) (by simp -implicitDefEqProofs (maxSteps := 2000000) (disch := first | with_reducible exact Nat.ne_of_beq_eq_false rfl | exact oneCell_int | exact oneCell_bool | omega | rfl | (simp; done) | fail) only [upd_ne, q9]) o7 (by simp; omega) (s7.pick 1 rfl rfl).drop d7 (by rw [← hm]; simp)
  · rw [if_neg h5] at hm
    unfold S46_l4_k8
    simp -implicitDefEqProofs (maxSteps := 2000000) (disch := first | with_reducible exact Nat.ne_of_beq_eq_false rfl | exact oneCell_int | exact oneCell_bool | omega | rfl | (simp; done) | fail) only [upd_ne, upd_eq, opH_sv, fa35_1, add_mk, Nat.zero_add, ld3, cy, List.getElem?_cons_succ, List.getElem?_cons_zero, Option.some.injEq, exists_eq_left']
    exact go _ _ s.t v io out h4 (fun k hk => by simp (disch := omega) only [upd_ne]) (by simp -implicitDefEqProofs (maxSteps := 2000000) (disch := first | with_reducible exact Nat.ne_of_beq_eq_false rfl | exact oneCell_int | exact oneCell_bool | omega | rfl | (simp; done) | fail) only [upd_ne, q7]) (by simp -implicitDefEqProofs (maxSteps := 2000000) (disch := first | with_reducible exact Nat.ne_of_beq_eq_false rfl | exact oneCell_int | exact oneCell_bool | omega | rfl | (simp; done) | fail) only [upd_eq]) (by simp -implicitDefEqProofs (maxSteps := 2000000) (disch := first | with_reducible exact Nat.ne_of_beq_eq_false rfl | exact oneCell_int | exact oneCell_bool | omega | rfl | (simp; done) | fail) only [upd_ne, q9]) o (by omega) s4 d4 hm

theorem wants_spec {G h : Hp} {v : Value} {l : List Want} (sv : Sees wantC G h v l) (hl : l.length ≤ 50000) :
    HCalls Try.prog G 42 #[v] h (fun u h' => ∃ ip, Slc wantC 88 ip u l ∧ HL.Sep [ip, h] h' ∧ Dis G h') := by
  refine HCalls.assume fun d => enter42 (by simp) ?_
  unfold S42
  obtain ⟨sa, cap, rfl⟩ := sv.len
  generalize hKK : retK Try.prog G _ _ = KK
  refine loop_I (fun m q h3 => ∃ (i : Nat) (io : Hp) (v : Value), m = l.length - i ∧ i ≤ l.length ∧ q 0 = .slice sa l.length cap ∧ q 3 = v ∧ q 4 = .int .i64 i ∧ Slc wantC 88 io v (l.take i) ∧ HL.Sep [io, h] h3 ∧ Dis G h3) ?_
    (m := l.length) ⟨0, noHp, _, rfl, Nat.zero_le _, by simp -implicitDefEqProofs (maxSteps := 2000000) (disch := first | with_reducible exact Nat.ne_of_beq_eq_false rfl | exact oneCell_int | exact oneCell_bool | omega | rfl | (simp; done) | fail) only [upd_ne, regs0], rfl, by simp -implicitDefEqProofs (maxSteps := 2000000) (disch := first | with_reducible exact Nat.ne_of_beq_eq_false rfl | exact oneCell_int | exact oneCell_bool | omega | rfl | (simp; done) | fail) only [upd_eq] <;> rfl, by simp -implicitDefEqProofs (maxSteps := 2000000) (disch := first | with_reducible exact Nat.ne_of_beq_eq_false rfl | exact oneCell_int | exact oneCell_bool | omega | rfl | (simp; done) | fail) only [upd_ne, upd_eq]; exact Slc.nil, Sep.one.none, d⟩
  rintro m q h3 ⟨i, io, v, rfl, hi, q0, q3, q4, o, s3, d3⟩ X HX
  unfold S42_l2
  simp -implicitDefEqProofs (maxSteps := 2000000) (disch := first | with_reducible exact Nat.ne_of_beq_eq_false rfl | exact oneCell_int | exact oneCell_bool | omega | rfl | (simp; done) | fail) only [q0, q4, thenK_exit, blockK_exit, thenK_normal, if_true, opH_sv, ln22, bin_lss]
  refine cond_dec (fun hlt => ?_) (fun hge => ?_)
  rotate_left
  · obtain rfl : i = l.length := by omega
    rw [List.take_of_length_le (Nat.le_refl _)] at o
    try simp -implicitDefEqProofs (maxSteps := 2000000) (disch := first | with_reducible exact Nat.ne_of_beq_eq_false rfl | exact oneCell_int | exact oneCell_bool | omega | rfl | (simp; done) | fail) only [opH_sv, opH_su, pureW_sv, opH_nil, pureW_nil, pick_t, pick_f, pick_tp, pick_fp, gd_tt, gd_ft, gd_tf, gd_ff, box_new, regs0, regs1, regs2, regs3, regs4, regs5, regs6, cells_agg, cells_int, cells_bool, cells_ptr, cells_slice, cells_string, cells_func, cells_nilFunc, cells_map, retK_ret, retK_normal, resL_tmp, resL_cell, resL_nil0, resL_nil1, resL_nil2, resL_nil3, resC_ptr, ex0, ex1, ex2, ex0p, ex1p, ex2p, HL.cond_true, HL.cond_false, thenK_normal, thenK_ret, thenK_exit, blockK_normal, blockK_ret, blockK_exit, scopeK_normal, scopeK_ret, scopeK_exit, wpH_pure, bin_add, bin_sub, bin_mul, bin_lss, bin_leq, bin_gtr, bin_geq, bin_quo, bin_rem, bin_quop, bin_remp, wrap_in, bin_addp, bin_subp, bin_mulp, bin_lssp, bin_leqp, bin_gtrp, bin_geqp, un_not, un_notp, un_neg, eq_int, ne_int, eq_intp, ne_intp, callV_fn, add_mk, upd_eq, upd_ne, cell_set_self, Nat.zero_add, Nat.add_zero, Option.some.injEq, exists_eq_left', List.getElem?_cons_succ, List.getElem?_cons_zero, true_and, and_true, bne_self_eq_false, beq_self_eq_true, Bool.not_true, Bool.not_false, Bool.and_true, Bool.and_self, Bool.and_false, Bool.true_and, List.length_cons, List.length_nil, ne_eq, not_false_eq_true, Nat.reduceAdd, Nat.reduceMul, if_true, if_false, oneCell_int, oneCell_bool, oneCell_ptr, oneCell_slice, oneCell_string, oneCell_func, oneCell_map, Int.toNat_natCast, List.set_cons_zero, List.set_cons_succ, Nat.lt_irrefl, Nat.zero_lt_succ, Nat.succ_lt_succ_iff, fa30_0, fa30_0p, fa30_1, fa30_1p, fa30_2, fa30_2p, fa35_0, fa35_0p, fa35_1, fa35_1p, fa35_2, fa35_2p, fa51_0, fa51_0p, fa51_1, fa51_1p, fa51_2, fa51_2p, fa51_3, fa51_3p, fa51_4, fa51_4p, fa51_5, fa51_5p, fa68_0, fa68_0p, fa76_0, fa76_0p, fa88_0, fa88_0p, fa88_1, fa88_1p, fa88_2, fa88_2p, fa90_0, fa90_0p, fa90_1, fa90_1p, ld3, ld3p, ld22, ld22p, ld23, ld23p, ld30, ld30p, ld32, ld32p, ld35, ld35p, ld39, ld39p, ld51, ld51p, ld58, ld58p, ld66, ld66p, st3s, st30w, st32s, st35w, st39s, st51w, st58w, st88w, st90w, ix22, ix22p, ix32, ix32p, ix39, ix39p, ix46, ix46p, ix64, ix64p, ix66, ix66p, ix78, ix78p, ix81, ix81p, ln22, ln22p, ln32, ln32p, ln39, ln39p, ln46, ln46p, ln64, ln64p, ln66, ln66p, ln78, ln78p, ln81, ln81p, al30, al35, al39, al56, al58, cf12, cf13, cf14, cf15, cf16, cf17, cf18, cf19, cf20, cf21, cf22, cf23, cf24, cf25, cf26, cf27, cf28, cf29, cf30, cf31, cf32, cf33, cf34, cf35, cf36, cf37, cf38, cf39, cf40, cf41, cf42, cf43, cf44, cf45, cf46, cf47, cf48, cf49, cf50, cf51, cf52, cf53, cf54, cf55, cf56, cf57, cf58, cf60, cf61, cf62, cf63, cf64, bd30_0_1_2, bd30_0_1_2p, bd30_1, bd30_1p, bd30_1_2, bd30_1_2p, bd35_0, bd35_0p, bd35_0_1_2, bd35_0_1_2p, bd58_0_1, bd58_0_1p, bd68_0, bd68_0p, bd76_0, bd76_0p, bd88_0_1_2, bd88_0_1_2p, bd90_0_1, bd90_0_1p, bs22_1_0, bs32_1_0, bs39_1_0, bs78_1_0, bs81_1_0, eq4, eq4p, eq23n, eq23np, eq23s, eq23sp, eq37n, eq37np, eq37s, eq37sp, ne4, ne4p, ne23n, ne23np, ne23s, ne23sp, ne35, ne35p]
    unfold S42_k1
    rw [← hKK]
    simp -implicitDefEqProofs (maxSteps := 2000000) (disch := first | with_reducible exact Nat.ne_of_beq_eq_false rfl | exact oneCell_int | exact oneCell_bool | omega | rfl | (simp; done) | fail) only [upd_ne, q3, retK_ret, resL_tmp, upd_eq, resL_nil1]
    exact ⟨io, o, s3, d3⟩
  obtain ⟨x, hx⟩ : ∃ x, l[i]? = some x := ⟨_, List.getElem?_eq_getElem (by omega)⟩
  obtain ⟨bb, of, rfl, z0, z1, z2⟩ := Sees.want (sv.up (s3.in 1 rfl) d3) hx
  unfold S42_l2_k3
  simp -implicitDefEqProofs (maxSteps := 2000000) (disch := first | with_reducible exact Nat.ne_of_beq_eq_false rfl | exact oneCell_int | exact oneCell_bool | omega | rfl | (simp; done) | fail) only [upd_ne, q0, q4, opH_sv, pureW_sv, ix22p, Int.toNat_natCast, add_mk, fa30_2p, ld3p, z2, Option.some.injEq, exists_eq_left', fa30_1p, z1, fa30_0p, Nat.add_zero, z0, bd88_0_1_2p, bs78_1_0]
  intro z hz gz
  generalize ez : Hp.set h3 z _ = h4
  obtain ⟨l4, d4, b4⟩ := boxed ez hz d3 gz
  have s4 := s3.past (o := (.cells #[.int .i64 x.c, .int .i64 x.f, .int .i64 x.t] 88 (0, 0))) hz
  rw [ez] at s4
  rw [q3]
  refine append_piece wantC (by decide) un78 eowr (by decide) (by decide) (M := [x]) s4 d4 o (Sees.row (c := wantC) (L := [x]) b4 rfl (Nat.le_refl _)) (by simp; omega) fun v5 a5 h5 o5 s5 d5 => ?_
  unfold S42_l2_k4
  simp -implicitDefEqProofs (maxSteps := 2000000) (disch := first | with_reducible exact Nat.ne_of_beq_eq_false rfl | exact oneCell_int | exact oneCell_bool | omega | rfl | (simp; done) | fail) only [upd_ne, q4, thenK_normal, opH_sv, bin_add, wrap_in]
  refine HX (l.length - (i + 1)) _ _ (by omega) ⟨i + 1, a5, v5, rfl, by omega, by simp -implicitDefEqProofs (maxSteps := 2000000) (disch := first | with_reducible exact Nat.ne_of_beq_eq_false rfl | exact oneCell_int | exact oneCell_bool | omega | rfl | (simp; done) | fail) only [upd_ne, q0], by simp -implicitDefEqProofs (maxSteps := 2000000) (disch := first | with_reducible exact Nat.ne_of_beq_eq_false rfl | exact oneCell_int | exact oneCell_bool | omega | rfl | (simp; done) | fail) only [upd_ne, upd_eq], by simp -implicitDefEqProofs (maxSteps := 2000000) (disch := first | with_reducible exact Nat.ne_of_beq_eq_false rfl | exact oneCell_int | exact oneCell_bool | omega | rfl | (simp; done) | fail) only [upd_eq] <;> rfl, ?_, s5, d5⟩
  rw [List.take_add_one, hx]
  exact o5

theorem pairs_spec {G h : Hp} {v : Value} {l : List (Int × Int)} (sv : Sees pairC G h v l) (hl : l.length ≤ 100000) :
    HCalls Try.prog G 45 #[v] h (fun u h' => ∃ ip, Slc pairC 58 ip u l ∧ HL.Sep [ip, h] h' ∧ Dis G h') := by
  refine HCalls.assume fun d => enter45 (by simp) ?_
  unfold S45
  obtain ⟨sa, cap, rfl⟩ := sv.len
  generalize hKK : retK Try.prog G _ _ = KK
  refine loop_I (fun m q h3 => ∃ (i : Nat) (io : Hp) (v : Value), m = l.length - i ∧ i ≤ l.length ∧ q 0 = .slice sa l.length cap ∧ q 3 = v ∧ q 4 = .int .i64 i ∧ Slc pairC 58 io v (l.take i) ∧ HL.Sep [io, h] h3 ∧ Dis G h3) ?_
    (m := l.length) ⟨0, noHp, _, rfl, Nat.zero_le _, by simp -implicitDefEqProofs (maxSteps := 2000000) (disch := first | with_reducible exact Nat.ne_of_beq_eq_false rfl | exact oneCell_int | exact oneCell_bool | omega | rfl | (simp; done) | fail) only [upd_ne, regs0], rfl, by simp -implicitDefEqProofs (maxSteps := 2000000) (disch := first | with_reducible exact Nat.ne_of_beq_eq_false rfl | exact oneCell_int | exact oneCell_bool | omega | rfl | (simp; done) | fail) only [upd_eq] <;> rfl, by simp -implicitDefEqProofs (maxSteps := 2000000) (disch := first | with_reducible exact Nat.ne_of_beq_eq_false rfl | exact oneCell_int | exact oneCell_bool | omega | rfl | (simp; done) | fail) only [upd_ne, upd_eq]; exact Slc.nil, Sep.one.none, d⟩
  rintro m q h3 ⟨i, io, v, rfl, hi, q0, q3, q4, o, s3, d3⟩ X HX
  unfold S45_l2
  simp -implicitDefEqProofs (maxSteps := 2000000) (disch := first | with_reducible exact Nat.ne_of_beq_eq_false rfl | exact oneCell_int | exact oneCell_bool | omega | rfl | (simp; done) | fail) only [q0, q4, thenK_exit, blockK_exit, thenK_normal, if_true, opH_sv, ln81, bin_lss]
  refine cond_dec (fun hlt => ?_) (fun hge => ?_)
  rotate_left
  · obtain rfl : i = l.length := by omega
    rw [List.take_of_length_le (Nat.le_refl _)] at o
    try simp -implicitDefEqProofs (maxSteps := 2000000) (disch := first | with_reducible exact Nat.ne_of_beq_eq_false rfl | exact oneCell_int | exact oneCell_bool | omega | rfl | (simp; done) | fail) only [opH_sv, opH_su, pureW_sv, opH_nil, pureW_nil, pick_t, pick_f, pick_tp, pick_fp, gd_tt, gd_ft, gd_tf, gd_ff, box_new, regs0, regs1, regs2, regs3, regs4, regs5, regs6, cells_agg, cells_int, cells_bool, cells_ptr, cells_slice, cells_string, cells_func, cells_nilFunc, cells_map, retK_ret, retK_normal, resL_tmp, resL_cell, resL_nil0, resL_nil1, resL_nil2, resL_nil3, resC_ptr, ex0, ex1, ex2, ex0p, ex1p, ex2p, HL.cond_true, HL.cond_false, thenK_normal, thenK_ret, thenK_exit, blockK_normal, blockK_ret, blockK_exit, scopeK_normal, scopeK_ret, scopeK_exit, wpH_pure, bin_add, bin_sub, bin_mul, bin_lss, bin_leq, bin_gtr, bin_geq, bin_quo, bin_rem, bin_quop, bin_remp, wrap_in, bin_addp, bin_subp, bin_mulp, bin_lssp, bin_leqp, bin_gtrp, bin_geqp, un_not, un_notp, un_neg, eq_int, ne_int, eq_intp, ne_intp, callV_fn, add_mk, upd_eq, upd_ne, cell_set_self, Nat.zero_add, Nat.add_zero, Option.some.injEq, exists_eq_left', List.getElem?_cons_succ, List.getElem?_cons_zero, true_and, and_true, bne_self_eq_false, beq_self_eq_true, Bool.not_true, Bool.not_false, Bool.and_true, Bool.and_self, Bool.and_false, Bool.true_and, List.length_cons, List.length_nil, ne_eq, not_false_eq_true, Nat.reduceAdd, Nat.reduceMul, if_true, if_false, oneCell_int, oneCell_bool, oneCell_ptr, oneCell_slice, oneCell_string, oneCell_func, oneCell_map, Int.toNat_natCast, List.set_cons_zero, List.set_cons_succ, Nat.lt_irrefl, Nat.zero_lt_succ, Nat.succ_lt_succ_iff, fa30_0, fa30_0p, fa30_1, fa30_1p, fa30_2, fa30_2p, fa35_0, fa35_0p, fa35_1, fa35_1p, fa35_2, fa35_2p, fa51_0, fa51_0p, fa51_1, fa51_1p, fa51_2, fa51_2p, fa51_3, fa51_3p, fa51_4, fa51_4p, fa51_5, fa51_5p, fa68_0, fa68_0p, fa76_0, fa76_0p, fa88_0, fa88_0p, fa88_1, fa88_1p, fa88_2, fa88_2p, fa90_0, fa90_0p, fa90_1, fa90_1p, ld3, ld3p, ld22, ld22p, ld23, ld23p, ld30, ld30p, ld32, ld32p, ld35, ld35p, ld39, ld39p, ld51, ld51p, ld58, ld58p, ld66, ld66p, st3s, st30w, st32s, st35w, st39s, st51w, st58w, st88w, st90w, ix22, ix22p, ix32, ix32p, ix39, ix39p, ix46, ix46p, ix64, ix64p, ix66, ix66p, ix78, ix78p, ix81, ix81p, ln22, ln22p, ln32, ln32p, ln39, ln39p, ln46, ln46p, ln64, ln64p, ln66, ln66p, ln78, ln78p, ln81, ln81p, al30, al35, al39, al56, al58, cf12, cf13, cf14, cf15, cf16, cf17, cf18, cf19, cf20, cf21, cf22, cf23, cf24, cf25, cf26, cf27, cf28, cf29, cf30, cf31, cf32, cf33, cf34, cf35, cf36, cf37, cf38, cf39, cf40, cf41, cf42, cf43, cf44, cf45, cf46, cf47, cf48, cf49, cf50, cf51, cf52, cf53, cf54, cf55, cf56, cf57, cf58, cf60, cf61, cf62, cf63, cf64, bd30_0_1_2, bd30_0_1_2p, bd30_1, bd30_1p, bd30_1_2, bd30_1_2p, bd35_0, bd35_0p, bd35_0_1_2, bd35_0_1_2p, bd58_0_1, bd58_0_1p, bd68_0, bd68_0p, bd76_0, bd76_0p, bd88_0_1_2, bd88_0_1_2p, bd90_0_1, bd90_0_1p, bs22_1_0, bs32_1_0, bs39_1_0, bs78_1_0, bs81_1_0, eq4, eq4p, eq23n, eq23np, eq23s, eq23sp, eq37n, eq37np, eq37s, eq37sp, ne4, ne4p, ne23n, ne23np, ne23s, ne23sp, ne35, ne35p]
    unfold S45_k1
    rw [← hKK]
    simp -implicitDefEqProofs (maxSteps := 2000000) (disch := first | with_reducible exact Nat.ne_of_beq_eq_false rfl | exact oneCell_int | exact oneCell_bool | omega | rfl | (simp; done) | fail) only [upd_ne, q3, retK_ret, resL_tmp, upd_eq, resL_nil1]
    exact ⟨io, o, s3, d3⟩
  obtain ⟨x, hx⟩ : ∃ x, l[i]? = some x := ⟨_, List.getElem?_eq_getElem (by omega)⟩
  obtain ⟨bb, of, rfl, z0, z1⟩ := Sees.pair (sv.up (s3.in 1 rfl) d3) hx
  unfold S45_l2_k3
  simp -implicitDefEqProofs (maxSteps := 2000000) (disch := first | with_reducible exact Nat.ne_of_beq_eq_false rfl | exact oneCell_int | exact oneCell_bool | omega | rfl | (simp; done) | fail) only [upd_ne, q0, q4, opH_sv, pureW_sv, ix81p, Int.toNat_natCast, add_mk, fa90_1p, ld3p, z1, Option.some.injEq, exists_eq_left', fa90_0p, Nat.add_zero, z0, bd58_0_1p, bs39_1_0]
  intro z hz gz
  generalize ez : Hp.set h3 z _ = h4
  obtain ⟨l4, d4, b4⟩ := boxed ez hz d3 gz
  have s4 := s3.past (o := pairO x) hz
  rw [ez] at s4
  rw [q3]
  refine append_piece pairC (by decide) un39 eopair (by decide) (by decide) (M := [x]) s4 d4 o (Sees.row (c := pairC) (L := [x]) b4 rfl (Nat.le_refl _)) (by simp; omega) fun v5 a5 h5 o5 s5 d5 => ?_
  unfold S45_l2_k4
  simp -implicitDefEqProofs (maxSteps := 2000000) (disch := first | with_reducible exact Nat.ne_of_beq_eq_false rfl | exact oneCell_int | exact oneCell_bool | omega | rfl | (simp; done) | fail) only [upd_ne, q4, thenK_normal, opH_sv, bin_add, wrap_in]
  refine HX (l.length - (i + 1)) _ _ (by omega) ⟨i + 1, a5, v5, rfl, by omega, by simp -implicitDefEqProofs (maxSteps := 2000000) (disch := first | with_reducible exact Nat.ne_of_beq_eq_false rfl | exact oneCell_int | exact oneCell_bool | omega | rfl | (simp; done) | fail) only [upd_ne, q0], by simp -implicitDefEqProofs (maxSteps := 2000000) (disch := first | with_reducible exact Nat.ne_of_beq_eq_false rfl | exact oneCell_int | exact oneCell_bool | omega | rfl | (simp; done) | fail) only [upd_ne, upd_eq], by simp -implicitDefEqProofs (maxSteps := 2000000) (disch := first | with_reducible exact Nat.ne_of_beq_eq_false rfl | exact oneCell_int | exact oneCell_bool | omega | rfl | (simp; done) | fail) only [upd_eq] <;> rfl, ?_, s5, d5⟩
  rw [List.take_add_one, hx]
  exact o5

end Go.Proofs.Ytbloobepmgmbgaa
