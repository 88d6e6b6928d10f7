/- A robot's stretches are just the ticks that no other robot has. -/
import Derived.Test.YtbloobepmgmbgaaRRi
set_option linter.unusedSimpArgs false
set_option linter.unusedVariables false
set_option maxRecDepth 100000
namespace Go.Proofs.Ytbloobepmgmbgaa
open Go Go.HL Go.Proofs.Resv

theorem put_gaps {T : Tb} {r : Int} {w : Want} (hr : 0 ≤ r) (g : GoodT T) (hv : validW T.length w = true) (hf : freeW T r w = true) {c : Int} : gapsAt (putW r T w) c r = gapsAt T c r := by
  obtain ⟨⟨c0, c1⟩, f0, f1, f2⟩ := valid_iff.1 hv
  unfold gapsAt
  rw [putW_len]
  unfold putW
  rw [rowT_set c0 c1]
  split
  · split
    · rename_i e
      subst e
      exact gaps_put (rowT_good g _) f0 f1 f2 hr hf
    · rfl
  · rfl

/-- A stretch as a want. -/
def gw (ce : Int) (g : Int × Int) : Want := ⟨ce, g.1, g.2⟩
structure GapsOk (T : Tb) (ro ce : Int) : Prop where
  apart : (gapsAt T ce ro).Pairwise (fun x y => x.2 < y.1)
  lo : ∀ g ∈ gapsAt T ce ro, 0 ≤ g.1 ∧ g.1 < g.2 ∧ g.2 ≤ FV
  left : ∀ g ∈ gapsAt T ce ro, 0 < g.1 → claimT T ro [⟨ce, g.1 - 1, g.1 + 1⟩] = (18, T)
  right : ∀ g ∈ gapsAt T ce ro, g.2 < FV → claimT T ro [⟨ce, g.2 - 1, g.2 + 1⟩] = (18, T)
  valid : ((gapsAt T ce ro).map (gw ce)).all (validW T.length) = true
  free : ((gapsAt T ce ro).map (gw ce)).all (freeW T ro) = true

theorem taken {T : Tb} {ro : Int} {w : Want} (hr : 0 ≤ ro) (hv : validW T.length w = true) (hf : freeW T ro w = false) : claimT T ro [w] = (18, T) := by
  unfold claimT
  rw [if_neg (by omega), if_pos (by simp [hv]), if_neg (by simp [hf])]

theorem gaps_ok {T : Tb} {ro ce : Int} (g : GoodT T) (hr : 0 ≤ ro) (c0 : 0 ≤ ce) (c1 : ce < T.length) : GapsOk T ro ce := by
  have gL := rowT_good g ce
  have hin : inT T.length ce = true := inT_iff.2 ⟨c0, c1⟩
  have e : gapsAt T ce ro = gapsFrom ro (rowT T ce) 0 := by unfold gapsAt; rw [if_pos hin]; rfl
  obtain ⟨p1, p2⟩ := gaps_spec (r := ro) gL (Int.le_refl 0) (by simp) (fun s hs => .inl (gL.ok s hs).1)
  rw [← e] at p1 p2
  have nf : ∀ {f t : Int}, (∃ s ∈ rowT T ce, s.r ≠ ro ∧ s.f < t ∧ f < s.t) → freeW T ro ⟨ce, f, t⟩ = false := fun {f t} ⟨s, hs, h1, h2, h3⟩ => by
    cases hh : freeW T ro ⟨ce, f, t⟩ with
    | false => rfl
    | true =>
      rcases free_iff.1 hh s hs h1 with k | k
      · have : t ≤ s.f := k
        omega
      · have : s.t ≤ f := k
        omega
  refine ⟨p1, fun g hg => ⟨(p2 g hg).1, (p2 g hg).2.1, (p2 g hg).2.2.1⟩, fun g hg h0 => ?_, fun g hg h0 => ?_, ?_, ?_⟩
  · obtain ⟨k1, k2, k3, k4, k5, k6⟩ := p2 g hg
    refine taken hr (valid_iff.2 ⟨⟨c0, c1⟩, by show 0 ≤ g.1 - 1; omega, by show g.1 - 1 < g.1 + 1; omega, by show g.1 + 1 ≤ FV; omega⟩) (nf ?_)
    rcases k4 with k4 | ⟨s, hs, h1, h2⟩
    · omega
    · have := (gL.ok s hs).2.1
      exact ⟨s, hs, h1, by omega, by omega⟩
  · obtain ⟨k1, k2, k3, k4, k5, k6⟩ := p2 g hg
    refine taken hr (valid_iff.2 ⟨⟨c0, c1⟩, by show 0 ≤ g.2 - 1; omega, by show g.2 - 1 < g.2 + 1; omega, by show g.2 + 1 ≤ FV; omega⟩) (nf ?_)
    rcases k5 with k5 | ⟨s, hs, h1, h2⟩
    · omega
    · have := (gL.ok s hs).2.1
      exact ⟨s, hs, h1, by omega, by omega⟩
  · rw [List.all_eq_true]
    intro w hw
    obtain ⟨g, hg, rfl⟩ := List.mem_map.1 hw
    obtain ⟨k1, k2, k3, k4, k5, k6⟩ := p2 g hg
    exact valid_iff.2 ⟨⟨c0, c1⟩, k1, k2, k3⟩
  · rw [List.all_eq_true]
    intro w hw
    obtain ⟨g, hg, rfl⟩ := List.mem_map.1 hw
    obtain ⟨k1, k2, k3, k4, k5, k6⟩ := p2 g hg
    exact free_iff.2 fun s hs h1 => k6 s hs h1

theorem puts_gaps {ro : Int} (hr : 0 ≤ ro) {c : Int} : ∀ {l : List Want} {T : Tb}, GoodT T → l.all (validW T.length) = true → l.all (freeW T ro) = true → gapsAt (putsT ro T l) c ro = gapsAt T c ro := by
  intro l
  induction l with
  | nil => intro T _ _ _; rfl
  | cons w l ih =>
    intro T g hv hf
    rw [List.all_cons, Bool.and_eq_true] at hv hf
    obtain ⟨b, fb⟩ := some_few T
    obtain ⟨g1, _, k1⟩ := putW_inv hr g fb hv.1 hf.1
    have e1 : (l.all (freeW (putW ro T w) ro)) = l.all (freeW T ro) := by congr 1; funext u; exact k1 u
    have := ih (T := putW ro T w) g1 (by rw [putW_len]; exact hv.2) (by rw [e1]; exact hf.2)
    show gapsAt (putsT ro (putW ro T w) l) c ro = _
    rw [this, put_gaps hr g hv.1 hf.1]

/-- The i-th stretch can be claimed behind the earlier ones. -/
theorem puts_next {T : Tb} {ro : Int} {l : List Want} {b i : Nat} {w : Want} (hr : 0 ≤ ro) (g : GoodT T) (f : Few T b) (hv : l.all (validW T.length) = true) (hf : l.all (freeW T ro) = true) (hw : l[i]? = some w) :
    claimT (putsT ro T (l.take i)) ro [w] = (0, putsT ro T (l.take (i + 1))) ∧ GoodT (putsT ro T (l.take i)) ∧ Few (putsT ro T (l.take i)) (b + i) ∧ (putsT ro T (l.take i)).length = T.length := by
  have sub : ∀ u ∈ l.take i, u ∈ l := fun u hu => List.mem_of_mem_take hu
  obtain ⟨g3, fw3, l3, k3⟩ := puts_inv hr (l := l.take i) g f (List.all_eq_true.2 fun u hu => List.all_eq_true.1 hv u (sub u hu)) (List.all_eq_true.2 fun u hu => List.all_eq_true.1 hf u (sub u hu))
  have hwl := List.mem_of_getElem? hw
  refine ⟨?_, g3, few_le fw3 (by rw [List.length_take]; omega), l3⟩
  unfold claimT
  rw [if_neg (by omega), if_pos (by simp [l3, List.all_eq_true.1 hv w hwl]), if_pos (by simp [k3, List.all_eq_true.1 hf w hwl]), puts_take hw]
  rfl

theorem una2 : Try.prog.underlying 58 = some (.array 2 3) := by kernel_rfl
theorem ixp0 {G h : Hp} {b o : Nat} {K : Value → Prop} : pw Try.prog G h (Instr.indexAt 58 (.pointer (some ⟨b, o, none⟩)) (.int .i64 0)) K = K (.pointer (some ⟨b, o, none⟩)) := by
  rw [index_arrp una2 sz3 (Int.le_refl 0) (by decide), add_mk]
  rfl
theorem ixp1 {G h : Hp} {b o : Nat} {K : Value → Prop} : pw Try.prog G h (Instr.indexAt 58 (.pointer (some ⟨b, o, none⟩)) (.int .i64 1)) K = K (.pointer (some ⟨b, o + 1, none⟩)) := by
  rw [index_arrp una2 sz3 (by decide) (by decide), add_mk]
  rfl

def gpK (G : Hp) : Exit → Rg → Hp → Prop := retK Try.prog G [.tmp 6] fun u _ => u = .bool true

set_option maxHeartbeats 4000000 in
theorem gaps_k3 {G h0 a lp : Hp} {R : List Hp} {tp b : Nat} {T : Tb} {ro ce : Int} {r : Rg} {v : Value} {L : List (Int × Int)} (eL : L = gapsAt T ce ro) (hr : 0 ≤ ro) (ok : GapsOk T ro ce) (q1 : r 1 = .int .i64 ro) (q2 : r 2 = .int .i64 ce) (q7 : r 7 = .pointer (some ⟨tp, 0, none⟩)) (q11 : r 11 = v) (o : Slc pairC 58 lp v L) (t1 : Tab 68 a tp T) (s3 : HL.Sep (a :: lp :: R) h0) (d3 : Dis G h0) (g : GoodT T) (f : Few T b) (hb : b ≤ 4000) (lT : T.length = 6) : S8_k3 G (gpK G) r h0 := by
  unfold S8_k3
  generalize hKK : gpK G = KK
  have hLl : L.length ≤ b + 1 := by rw [eL]; exact gapsAt_len f
  obtain ⟨sa, cap, rfl, _⟩ := o.len (by decide)
  have hmap : ∀ {i : Nat} {x : Int × Int}, L[i]? = some x → (L.map (gw ce))[i]? = some (gw ce x) := fun h => by rw [List.getElem?_map, h]; rfl
  have hva : (L.map (gw ce)).all (validW T.length) = true := by rw [eL]; exact ok.valid
  have hfa : (L.map (gw ce)).all (freeW T ro) = true := by rw [eL]; exact ok.free
  refine loop_I (fun m q h3 => ∃ (i : Nat) (a : Hp), m = L.length - i ∧ i ≤ L.length ∧ q 1 = .int .i64 ro ∧ q 2 = .int .i64 ce ∧ q 7 = .pointer (some ⟨tp, 0, none⟩) ∧ q 11 = .slice sa L.length cap ∧ q 13 = .int .i64 i ∧ Tab 68 a tp (putsT ro T ((L.map (gw ce)).take i)) ∧ HL.Sep (a :: lp :: R) h3 ∧ Dis G h3) ?_
    (m := L.length) ⟨0, a, rfl, Nat.zero_le _, by simp -implicitDefEqProofs (maxSteps := 2000000) (disch := first | with_reducible exact Nat.ne_of_beq_eq_false rfl | exact oneCell_int | exact oneCell_bool | omega | rfl | (simp; done) | fail) only [upd_ne, q1], by simp -implicitDefEqProofs (maxSteps := 2000000) (disch := first | with_reducible exact Nat.ne_of_beq_eq_false rfl | exact oneCell_int | exact oneCell_bool | omega | rfl | (simp; done) | fail) only [upd_ne, q2], by simp -implicitDefEqProofs (maxSteps := 2000000) (disch := first | with_reducible exact Nat.ne_of_beq_eq_false rfl | exact oneCell_int | exact oneCell_bool | omega | rfl | (simp; done) | fail) only [upd_ne, q7], by simp -implicitDefEqProofs (maxSteps := 2000000) (disch := first | with_reducible exact Nat.ne_of_beq_eq_false rfl | exact oneCell_int | exact oneCell_bool | omega | rfl | (simp; done) | fail) only [upd_ne, q11], by simp -implicitDefEqProofs (maxSteps := 2000000) (disch := first | with_reducible exact Nat.ne_of_beq_eq_false rfl | exact oneCell_int | exact oneCell_bool | omega | rfl | (simp; done) | fail) only [upd_eq] <;> rfl, t1, s3, d3⟩
  clear q1 q2 q7 q11 t1 s3 d3
  rintro m q h3 ⟨i, a, rfl, hi, q1, q2, q7, q11, q13, t1, s3, d3⟩ X HX
  unfold S8_l5
  simp -implicitDefEqProofs (maxSteps := 2000000) (disch := first | with_reducible exact Nat.ne_of_beq_eq_false rfl | exact oneCell_int | exact oneCell_bool | omega | rfl | (simp; done) | fail) only [q11, q13, thenK_exit, blockK_exit, thenK_normal, if_true, opH_sv, ln39, bin_lss]
  refine cond_dec (fun hlt => ?_) (fun hge => ?_)
  rotate_left
  · obtain rfl : i = L.length := by omega
    rw [List.take_of_length_le (by simp)] at t1
    obtain ⟨g5, f5, l5, _⟩ := puts_inv hr g f hva hfa
    have eg := puts_gaps hr (c := ce) g hva hfa
    rw [List.length_map] at f5
    generalize putsT ro T (L.map (gw ce)) = T5 at *
    try simp -implicitDefEqProofs (maxSteps := 2000000) (disch := first | with_reducible exact Nat.ne_of_beq_eq_false rfl | exact oneCell_int | exact oneCell_bool | omega | rfl | (simp; done) | fail) only [opH_sv, opH_su, pureW_sv, opH_nil, pureW_nil, pick_t, pick_f, pick_tp, pick_fp, gd_tt, gd_ft, gd_tf, gd_ff, box_new, regs0, regs1, regs2, regs3, regs4, regs5, regs6, cells_agg, cells_int, cells_bool, cells_ptr, cells_slice, cells_string, cells_func, cells_nilFunc, cells_map, retK_ret, retK_normal, resL_tmp, resL_cell, resL_nil0, resL_nil1, resL_nil2, resL_nil3, resC_ptr, ex0, ex1, ex2, ex0p, ex1p, ex2p, HL.cond_true, HL.cond_false, thenK_normal, thenK_ret, thenK_exit, blockK_normal, blockK_ret, blockK_exit, scopeK_normal, scopeK_ret, scopeK_exit, wpH_pure, bin_add, bin_sub, bin_mul, bin_lss, bin_leq, bin_gtr, bin_geq, bin_quo, bin_rem, bin_quop, bin_remp, wrap_in, bin_addp, bin_subp, bin_mulp, bin_lssp, bin_leqp, bin_gtrp, bin_geqp, un_not, un_notp, un_neg, eq_int, ne_int, eq_intp, ne_intp, callV_fn, add_mk, upd_eq, upd_ne, cell_set_self, Nat.zero_add, Nat.add_zero, Option.some.injEq, exists_eq_left', List.getElem?_cons_succ, List.getElem?_cons_zero, true_and, and_true, bne_self_eq_false, beq_self_eq_true, Bool.not_true, Bool.not_false, Bool.and_true, Bool.and_self, Bool.and_false, Bool.true_and, List.length_cons, List.length_nil, ne_eq, not_false_eq_true, Nat.reduceAdd, Nat.reduceMul, if_true, if_false, oneCell_int, oneCell_bool, oneCell_ptr, oneCell_slice, oneCell_string, oneCell_func, oneCell_map, Int.toNat_natCast, List.set_cons_zero, List.set_cons_succ, Nat.lt_irrefl, Nat.zero_lt_succ, Nat.succ_lt_succ_iff, fa30_0, fa30_0p, fa30_1, fa30_1p, fa30_2, fa30_2p, fa35_0, fa35_0p, fa35_1, fa35_1p, fa35_2, fa35_2p, fa51_0, fa51_0p, fa51_1, fa51_1p, fa51_2, fa51_2p, fa51_3, fa51_3p, fa51_4, fa51_4p, fa51_5, fa51_5p, fa68_0, fa68_0p, fa76_0, fa76_0p, fa88_0, fa88_0p, fa88_1, fa88_1p, fa88_2, fa88_2p, fa90_0, fa90_0p, fa90_1, fa90_1p, ld3, ld3p, ld22, ld22p, ld23, ld23p, ld30, ld30p, ld32, ld32p, ld35, ld35p, ld39, ld39p, ld51, ld51p, ld58, ld58p, ld66, ld66p, st3s, st30w, st32s, st35w, st39s, st51w, st58w, st88w, st90w, ix22, ix22p, ix32, ix32p, ix39, ix39p, ix46, ix46p, ix64, ix64p, ix66, ix66p, ix78, ix78p, ix81, ix81p, ln22, ln22p, ln32, ln32p, ln39, ln39p, ln46, ln46p, ln64, ln64p, ln66, ln66p, ln78, ln78p, ln81, ln81p, al30, al35, al39, al56, al58, cf12, cf13, cf14, cf15, cf16, cf17, cf18, cf19, cf20, cf21, cf22, cf23, cf24, cf25, cf26, cf27, cf28, cf29, cf30, cf31, cf32, cf33, cf34, cf35, cf36, cf37, cf38, cf39, cf40, cf41, cf42, cf43, cf44, cf45, cf46, cf47, cf48, cf49, cf50, cf51, cf52, cf53, cf54, cf55, cf56, cf57, cf58, cf60, cf61, cf62, cf63, cf64, bd30_0_1_2, bd30_0_1_2p, bd30_1, bd30_1p, bd30_1_2, bd30_1_2p, bd35_0, bd35_0p, bd35_0_1_2, bd35_0_1_2p, bd58_0_1, bd58_0_1p, bd68_0, bd68_0p, bd76_0, bd76_0p, bd88_0_1_2, bd88_0_1_2p, bd90_0_1, bd90_0_1p, bs22_1_0, bs32_1_0, bs39_1_0, bs78_1_0, bs81_1_0, eq4, eq4p, eq23n, eq23np, eq23s, eq23sp, eq37n, eq37np, eq37s, eq37sp, ne4, ne4p, ne23n, ne23np, ne23s, ne23sp, ne35, ne35p]
    unfold S8_k4
    simp -implicitDefEqProofs (maxSteps := 2000000) (disch := first | with_reducible exact Nat.ne_of_beq_eq_false rfl | exact oneCell_int | exact oneCell_bool | omega | rfl | (simp; done) | fail) only [upd_ne, q7, q2, q1, cf20, cf18, cf17]
    refine (gaps_spec17 (c := ce) (r := ro)).mono ?_
    rintro _ h5 ⟨b1, b2, b3, rfl, l5', d5, k1, k2, k3, sp5⟩
    have s5 := sp5 _ s3
    refine (stretches_spec (most := 10000) k1 k2 k3 (t1.see (s5.in 0 rfl)) (fun L hL => Nat.le_trans (f5 L hL) (by omega)) (by decide) (by decide)).mono ?_
    rintro v6 h6 ⟨ip, o6, s6, d6⟩
    have e6 : ((if inT T5.length ce = true then gapsL (rowT T5 ce) ro else []).take (10000 : Int).toNat) = L := by
      show (gapsAt T5 ce ro).take (10000 : Int).toNat = L
      rw [eg, ← eL]
      exact List.take_of_length_le (by show L.length ≤ 10000; omega)
    rw [e6] at o6
    have l6 : h5.le h6 := s6.in 1 rfl
    try simp -implicitDefEqProofs (maxSteps := 2000000) (disch := first | with_reducible exact Nat.ne_of_beq_eq_false rfl | exact oneCell_int | exact oneCell_bool | omega | rfl | (simp; done) | fail) only [q11]
    refine (alike_spec (o6.sees (by decide) (s6.in 0 rfl)) (o.sees (by decide) ((s5.in 1 rfl).trans l6)) (by omega)).mono ?_
    rintro _ h6 ⟨rfl, rfl⟩
    try simp -implicitDefEqProofs (maxSteps := 2000000) (disch := first | with_reducible exact Nat.ne_of_beq_eq_false rfl | exact oneCell_int | exact oneCell_bool | omega | rfl | (simp; done) | fail) only [decide_true, pick_t, gd_tt, cf13]
    refine awake_spec.mono ?_
    rintro _ _ ⟨rfl, rfl⟩
    rw [← hKK]
    unfold gpK
    try simp -implicitDefEqProofs (maxSteps := 2000000) (disch := first | with_reducible exact Nat.ne_of_beq_eq_false rfl | exact oneCell_int | exact oneCell_bool | omega | rfl | (simp; done) | fail) only [retK_ret, resL_tmp, upd_eq, resL_nil1]
  obtain ⟨x, hx⟩ : ∃ x, L[i]? = some x := ⟨_, List.getElem?_eq_getElem (by omega)⟩
  obtain ⟨bb, of, rfl, z0, z1⟩ := Sees.pair (o.sees (G := G) (by decide) (s3.in 1 rfl)) hx
  obtain ⟨ec, g4, f4, l4⟩ := puts_next hr g f hva hfa (hmap hx)
  unfold S8_l5_k6
  simp -implicitDefEqProofs (maxSteps := 2000000) (disch := first | with_reducible exact Nat.ne_of_beq_eq_false rfl | exact oneCell_int | exact oneCell_bool | omega | rfl | (simp; done) | fail) only [upd_ne, q11, q13, q2, q7, q1, thenK_ret, blockK_ret, cf15, opH_sv, pureW_sv, ix39p, Int.toNat_natCast, add_mk, ixp1, ld3p, z1, Option.some.injEq, exists_eq_left', ixp0, z0, bd30_0_1_2p, bs22_1_0]
  intro y hy gy
  refine (claim1_spec (r := ro) (w := gw ce x) t1 s3 hy g4 f4 (by omega)).mono ?_
  rintro _ h4 ⟨rfl, a4, t4, s4, d4⟩
  rw [ec] at t4
  simp -implicitDefEqProofs (maxSteps := 2000000) (disch := first | with_reducible exact Nat.ne_of_beq_eq_false rfl | exact oneCell_int | exact oneCell_bool | omega | rfl | (simp; done) | fail) only [ec, ne_intp, bne_self_eq_false, HL.cond_false]
  unfold S8_l5_k7
  simp -implicitDefEqProofs (maxSteps := 2000000) (disch := first | with_reducible exact Nat.ne_of_beq_eq_false rfl | exact oneCell_int | exact oneCell_bool | omega | rfl | (simp; done) | fail) only [upd_ne, q13, thenK_normal, opH_sv, bin_add, wrap_in]
  exact HX (L.length - (i + 1)) _ _ (by omega) ⟨i + 1, a4, rfl, by omega, by simp -implicitDefEqProofs (maxSteps := 2000000) (disch := first | with_reducible exact Nat.ne_of_beq_eq_false rfl | exact oneCell_int | exact oneCell_bool | omega | rfl | (simp; done) | fail) only [upd_ne, q1], by simp -implicitDefEqProofs (maxSteps := 2000000) (disch := first | with_reducible exact Nat.ne_of_beq_eq_false rfl | exact oneCell_int | exact oneCell_bool | omega | rfl | (simp; done) | fail) only [upd_ne, q2], by simp -implicitDefEqProofs (maxSteps := 2000000) (disch := first | with_reducible exact Nat.ne_of_beq_eq_false rfl | exact oneCell_int | exact oneCell_bool | omega | rfl | (simp; done) | fail) only [upd_ne, q7], by simp -implicitDefEqProofs (maxSteps := 2000000) (disch := first | with_reducible exact Nat.ne_of_beq_eq_false rfl | exact oneCell_int | exact oneCell_bool | omega | rfl | (simp; done) | fail) only [upd_ne, q11], by simp -implicitDefEqProofs (maxSteps := 2000000) (disch := first | with_reducible exact Nat.ne_of_beq_eq_false rfl | exact oneCell_int | exact oneCell_bool | omega | rfl | (simp; done) | fail) only [upd_eq] <;> rfl, t4, s4, d4⟩

end Go.Proofs.Ytbloobepmgmbgaa
