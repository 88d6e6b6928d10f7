/- ResvExtends: the walk. -/
import Derived.Test.YtbloobepmgmbgaaRK
set_option linter.unusedSimpArgs false
set_option linter.unusedVariables false
set_option maxRecDepth 100000
namespace Go.Proofs.Ytbloobepmgmbgaa
open Go Go.HL Go.Proofs.Resv

set_option maxHeartbeats 8000000 in
theorem extends_walk {G : Hp} {a b c e : Int} (ha : Bd a) (hb : Bd b) (hc : Bd c) (he : Bd e) : HCalls Try.prog G 4 #[.int .i64 a, .int .i64 b, .int .i64 c, .int .i64 e] noHp (fun u _ => u = .bool true) := by
  refine HCalls.assume fun d => enter4 (by simp) ?_
  unfold S4
  simp -implicitDefEqProofs (maxSteps := 2000000) (disch := first | with_reducible exact Nat.ne_of_beq_eq_false rfl | exact oneCell_int | exact oneCell_bool | omega | rfl | (simp; done) | fail) only [regs0, regs1, regs3, regs2, retK_ret, resL_tmp, upd_eq, resL_nil1, opH_sv, cf12, cf14]
  refine (place_spec (n := 1000) ha (by decide) (by decide)).mono ?_
  rintro _ _ ⟨rfl, rfl⟩
  refine (place_spec (n := 1000) hb (by decide) (by decide)).mono ?_
  rintro _ _ ⟨rfl, rfl⟩
  simp -implicitDefEqProofs (maxSteps := 2000000) (disch := first | with_reducible exact Nat.ne_of_beq_eq_false rfl | exact oneCell_int | exact oneCell_bool | omega | rfl | (simp; done) | fail) only [bin_add, wrap_in]
  refine (place_spec (n := 50) he (by decide) (by decide)).mono ?_
  rintro _ _ ⟨rfl, rfl⟩
  refine (place_spec (n := 60) hc (by decide) (by decide)).mono ?_
  rintro _ h0 ⟨rfl, rfl⟩
  have a0 := Int.emod_nonneg a (show (1000 : Int) ≠ 0 by decide)
  have a1 := Int.emod_lt_of_pos a (show (0 : Int) < 1000 by decide)
  have b0 := Int.emod_nonneg b (show (1000 : Int) ≠ 0 by decide)
  have b1 := Int.emod_lt_of_pos b (show (0 : Int) < 1000 by decide)
  have e0 := Int.emod_nonneg e (show (50 : Int) ≠ 0 by decide)
  have e1 := Int.emod_lt_of_pos e (show (0 : Int) < 50 by decide)
  have c0 := Int.emod_nonneg c (show (60 : Int) ≠ 0 by decide)
  have c1 := Int.emod_lt_of_pos c (show (0 : Int) < 60 by decide)
  generalize a % 1000 = f at *
  generalize hl : 1 + b % 1000 = l at *
  have l0 : 0 < l := by omega
  have l1 : l ≤ 1000 := by omega
  clear hl b0 b1
  generalize e % 50 = g at *
  generalize c % 60 = n at *
  have ok : ExOk f l g := ⟨a0, l0, e0, by simp only [FV]; omega⟩
  refine (new_spec (n := 1) (by decide) (by decide)).mono ?_
  rintro _ h1 ⟨pa, tp, rfl, t1, s1, d1⟩
  simp -implicitDefEqProofs (maxSteps := 2000000) (disch := first | with_reducible exact Nat.ne_of_beq_eq_false rfl | exact oneCell_int | exact oneCell_bool | omega | rfl | (simp; done) | fail) only [ex1, ne_int, bne_self_eq_false, pick_f, gd_ff, ex0, eq23s, cf15, opH_sv, bin_add, wrap_in, bd30_1_2, bs22_1_0]
  intro x hx gx
  refine (claim1_spec (r := 1) (w := ⟨0, f, f + l⟩) (b := 0) t1 s1 hx goodT_rep fewT_rep (by decide)).mono ?_
  rintro _ h2 ⟨rfl, pa2, t2, s2, d2⟩
  obtain ⟨g2, f2, _⟩ := claim_inv (T := List.replicate 1 []) (r := 1) (l := [⟨0, f, f + l⟩]) goodT_rep (fewT_rep (b := 0))
  have q1 : claimT (List.replicate 1 []) 1 [⟨0, f, f + l⟩] = (0, [[⟨f, f + l, 1⟩]]) := ex_claim1 ok
  rw [q1] at t2 g2 f2
  simp -implicitDefEqProofs (maxSteps := 2000000) (disch := first | with_reducible exact Nat.ne_of_beq_eq_false rfl | exact oneCell_int | exact oneCell_bool | omega | rfl | (simp; done) | fail) only [q1, ne_int, bne_self_eq_false, pick_f, gd_ff, cf15, opH_sv, bin_add, wrap_in, bd30_1_2, bs22_1_0]
  intro y hy gy
  refine (claim1_spec (r := 2) (w := ⟨0, f + l + g, FV⟩) (b := 1) t2 s2 hy g2 f2 (by decide)).mono ?_
  rintro _ h3 ⟨rfl, pa3, t3, s3, d3⟩
  obtain ⟨g3, f3, _⟩ := claim_inv (r := 2) (l := [⟨0, f + l + g, FV⟩]) g2 f2
  have q2 := ex_claim2 ok
  rw [q2] at t3 g3 f3
  simp -implicitDefEqProofs (maxSteps := 2000000) (disch := first | with_reducible exact Nat.ne_of_beq_eq_false rfl | exact oneCell_int | exact oneCell_bool | omega | rfl | (simp; done) | fail) only [q2, ne_int, bne_self_eq_false, HL.cond_false]
  unfold S4_k1
  simp -implicitDefEqProofs (maxSteps := 2000000) (disch := first | with_reducible exact Nat.ne_of_beq_eq_false rfl | exact oneCell_int | exact oneCell_bool | omega | rfl | (simp; done) | fail) only [upd_ne, upd_eq, retK_ret, resL_tmp, resL_nil1, opH_sv, bin_gtr, cf16, cf21, bin_add, wrap_in, bin_sub]
  refine (extend_spec (r := 1) (c := 0) (k := f + l - 1) (y := n) t3 s3 g3 f3 (by simp)).mono ?_
  rintro _ h4 ⟨rfl, pa4, t4, s4, d4⟩
  obtain ⟨g4, f4, _⟩ := extend_inv (r := 1) (c := 0) (a := f + l - 1) (k := n) g3 f3
  rw [ex_ext1 ok c0 c1] at t4 g4 f4
  rw [ex_ext1 ok c0 c1]
  refine (slots_spec (c := 0) (t4.see (s4.in 0 rfl)) (fun L hL => Nat.le_trans (f4 L hL) (by simp))).mono ?_
  rintro u5 h5 ⟨io, o5, s5, d5⟩
  by_cases hng : n ≤ g
  · rw [if_pos hng] at t4 g4 f4 o5
    rw [if_pos hng]
    rw [show rowAt (0, [row0 f l g n]).2 0 = row0 f l g n from rfl] at o5
    have see5 := o5.sees (G := G) (by decide) (s5.in 0 rfl)
    obtain ⟨sa, cap, rfl⟩ := see5.len
    obtain ⟨pb, po, rfl, z0, z1, z2⟩ := Sees.slot see5 (i := 0) rfl
    rw [Nat.zero_mul, Nat.add_zero] at z0 z1 z2
    simp -implicitDefEqProofs (maxSteps := 2000000) (disch := first | with_reducible exact Nat.ne_of_beq_eq_false rfl | exact oneCell_int | exact oneCell_bool | omega | rfl | (simp; done) | fail) only [show decide (n > g) = false from decide_eq_false (by omega), eq_int, HL.cond_false]
    unfold S4_k2
    have hp0 : (0 : Int) < ((row0 f l g n).length : Nat) := by show (0 : Int) < 2; decide
    have s5' : HL.Sep [pa4, io] h5 := by
      have := s5.split s4
      simp only [List.cons_append, List.nil_append] at this
      exact this.swap.take 2 rfl
    simp -implicitDefEqProofs (maxSteps := 2000000) (disch := first | with_reducible exact Nat.ne_of_beq_eq_false rfl | exact oneCell_int | exact oneCell_bool | omega | rfl | (simp; done) | fail) only [upd_ne, upd_eq, regs2, retK_ret, resL_tmp, resL_nil1, eq_int, beq_self_eq_true, pick_t, gd_tt, opH_sv, ln32, show (((row0 f l g n).length : Nat) : Int) = 2 from rfl, ix32 (Int.le_refl 0) hp0, show (0 : Int).toNat * 3 = 0 from rfl, add_mk, Nat.add_zero, fa35_0, ld3, z0, Option.some.injEq, exists_eq_left', bin_add, wrap_in, fa35_1, z1, cf21]
    refine (extend_spec (r := 1) (c := 0) (k := f + l + n) (y := 1) t4 s5' g4 f4 (by simp)).mono ?_
    rintro _ h6 ⟨rfl, pa6, t6, s6, d6⟩
    rw [show (extendT (0, [row0 f l g n]).2 1 0 (f + l + n) 1) = (3, [row0 f l g n]) from ex_ext3] at t6
    simp -implicitDefEqProofs (maxSteps := 2000000) (disch := first | with_reducible exact Nat.ne_of_beq_eq_false rfl | exact oneCell_int | exact oneCell_bool | omega | rfl | (simp; done) | fail) only [show (extendT (0, [row0 f l g n]).2 1 0 (f + l + n) 1) = (3, [row0 f l g n]) from ex_ext3, eq_int, beq_self_eq_true, pick_t, gd_tt, cf21, opH_sv, bin_add, wrap_in]
    refine (extend_spec (r := 2) (c := 0) (k := f + l + g) (y := c) t6 s6 g4 f4 (by simp)).mono ?_
    rintro _ h7 ⟨rfl, pa7, t7, s7, d7⟩
    simp -implicitDefEqProofs (maxSteps := 2000000) (disch := first | with_reducible exact Nat.ne_of_beq_eq_false rfl | exact oneCell_int | exact oneCell_bool | omega | rfl | (simp; done) | fail) only [ex_ext2 ok hng, eq_int, beq_self_eq_true, pick_t, gd_tt, cf13]
    refine awake_spec.mono ?_
    rintro _ _ ⟨rfl, rfl⟩
    try simp -implicitDefEqProofs (maxSteps := 2000000) (disch := first | with_reducible exact Nat.ne_of_beq_eq_false rfl | exact oneCell_int | exact oneCell_bool | omega | rfl | (simp; done) | fail) only []
  · rw [if_neg hng] at t4 g4 f4 o5
    rw [if_neg hng]
    rw [show rowAt (18, [row0 f l g 0]).2 0 = row0 f l g 0 from rfl] at o5
    have see5 := o5.sees (G := G) (by decide) (s5.in 0 rfl)
    obtain ⟨sa, cap, rfl⟩ := see5.len
    obtain ⟨pb, po, rfl, z0, z1, z2⟩ := Sees.slot see5 (i := 0) rfl
    rw [Nat.zero_mul, Nat.add_zero] at z0 z1 z2
    rw [show f + l + 0 = f + l by omega] at z1
    have hp0 : (0 : Int) < ((row0 f l g 0).length : Nat) := by show (0 : Int) < 2; decide
    simp -implicitDefEqProofs (maxSteps := 2000000) (disch := first | with_reducible exact Nat.ne_of_beq_eq_false rfl | exact oneCell_int | exact oneCell_bool | omega | rfl | (simp; done) | fail) only [show decide (n > g) = true from decide_eq_true (by omega), eq_int, beq_self_eq_true, pick_t, gd_tt, opH_sv, ln32, show (((row0 f l g 0).length : Nat) : Int) = 2 from rfl, bin_add, wrap_in, ix32 (Int.le_refl 0) hp0, show (0 : Int).toNat * 3 = 0 from rfl, add_mk, Nat.add_zero, fa35_1, ld3, z1, Option.some.injEq, exists_eq_left', cf13, HL.cond_true]
    refine awake_spec.mono ?_
    rintro _ _ ⟨rfl, rfl⟩
    try simp -implicitDefEqProofs (maxSteps := 2000000) (disch := first | with_reducible exact Nat.ne_of_beq_eq_false rfl | exact oneCell_int | exact oneCell_bool | omega | rfl | (simp; done) | fail) only []
end Go.Proofs.Ytbloobepmgmbgaa
