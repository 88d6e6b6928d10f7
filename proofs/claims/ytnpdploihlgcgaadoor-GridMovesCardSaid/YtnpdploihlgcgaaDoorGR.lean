/- The reference's shift and number; rows of cells held against each other; a place. -/
import Derived.Test.YtnpdploihlgcgaaDoorGQ
set_option linter.unusedSimpArgs false
set_option linter.unusedVariables false
set_option maxRecDepth 100000
namespace Go.Proofs.YtnpdploihlgcgaaDoor
open Go Go.HL

theorem samecells_spec {G h : Hp} {u v : Value} {L M : List Cell} (hL : Sees cellC G h u L) (hM : Sees cellC G h v M) (hlen : L.length ≤ 100000000000000) :
    HCalls Tryd.prog G 20 #[u, v] h (fun w h' => w = .bool (decide (L = M)) ∧ h' = h) := by
  refine quietly (enter20 (by simp) ?_)
  obtain ⟨sa, cap, rfl⟩ := hL.len
  obtain ⟨sb, cap', rfl⟩ := hM.len
  unfold S20
  simp -implicitDefEqProofs (maxSteps := 2000000) (disch := first | with_reducible exact Nat.ne_of_beq_eq_false rfl | exact oneCell_int | exact oneCell_bool | omega | rfl | (simp; done) | fail) only [regs0, regs1, retK_ret, resL_tmp, upd_eq, resL_nil1, opH_sv, ln22, ne_int]
  by_cases hlm : L.length = M.length
  · rw [show ((L.length : Int) != (M.length : Int)) = false by simp [hlm]]
    simp -implicitDefEqProofs (maxSteps := 2000000) (disch := first | with_reducible exact Nat.ne_of_beq_eq_false rfl | exact oneCell_int | exact oneCell_bool | omega | rfl | (simp; done) | fail) only [HL.cond_false]
    unfold S20_k1
    refine loop_I (fun m r h3 => ∃ (i : Nat), m = L.length - i ∧ i ≤ L.length ∧ r 0 = .slice sa L.length cap ∧ r 1 = .slice sb M.length cap' ∧ r 5 = .int .i64 i ∧ h3 = h ∧ L.take i = M.take i) ?_
     (m := L.length) ⟨0, rfl, Nat.zero_le _, by simp -implicitDefEqProofs (maxSteps := 2000000) (disch := first | with_reducible exact Nat.ne_of_beq_eq_false rfl | exact oneCell_int | exact oneCell_bool | omega | rfl | (simp; done) | fail) only [upd_ne, regs0], by simp -implicitDefEqProofs (maxSteps := 2000000) (disch := first | with_reducible exact Nat.ne_of_beq_eq_false rfl | exact oneCell_int | exact oneCell_bool | omega | rfl | (simp; done) | fail) only [upd_ne, regs1], by simp -implicitDefEqProofs (maxSteps := 2000000) (disch := first | with_reducible exact Nat.ne_of_beq_eq_false rfl | exact oneCell_int | exact oneCell_bool | omega | rfl | (simp; done) | fail) only [upd_eq]; rfl, rfl, by simp⟩
    rintro m r h ⟨i, rfl, hi, g0, g1, g5, rfl, htk⟩ X HX
    unfold S20_l3
    simp -implicitDefEqProofs (maxSteps := 2000000) (disch := first | with_reducible exact Nat.ne_of_beq_eq_false rfl | exact oneCell_int | exact oneCell_bool | omega | rfl | (simp; done) | fail) only [g0, g5, thenK_exit, blockK_exit, thenK_normal, if_true, opH_sv, ln22, bin_lss]
    refine cond_dec (fun hlt => ?_) (fun hge => ?_)
    · have hlt' : i < L.length := by omega
      obtain ⟨x, hx⟩ : ∃ x, L[i]? = some x := ⟨_, List.getElem?_eq_getElem hlt'⟩
      obtain ⟨y, hy⟩ : ∃ x, M[i]? = some x := ⟨_, List.getElem?_eq_getElem (by omega)⟩
      obtain ⟨b, o, rfl, x0, x1⟩ := Sees.cell hL hx
      obtain ⟨b', o', rfl, y0, y1⟩ := Sees.cell hM hy
      unfold S20_l3_k4
      simp -implicitDefEqProofs (maxSteps := 2000000) (disch := first | with_reducible exact Nat.ne_of_beq_eq_false rfl | exact oneCell_int | exact oneCell_bool | omega | rfl | (simp; done) | fail) only [upd_ne, g0, g5, g1, thenK_ret, blockK_ret, retK_ret, resL_tmp, upd_eq, resL_nil1, pureW_sv, ix22p (Int.natCast_nonneg i) (show (i : Int) < M.length by omega), Int.toNat_natCast, add_mk, ld28p, Nat.add_zero, y0, Option.some.injEq, y1, exists_eq_left', ix22p (Int.natCast_nonneg i) hlt, x0, x1, ne28p, Bool.and_true, cell_beq]
      cases hb : (x == y) with
      | false =>
        simp -implicitDefEqProofs (maxSteps := 2000000) (disch := first | with_reducible exact Nat.ne_of_beq_eq_false rfl | exact oneCell_int | exact oneCell_bool | omega | rfl | (simp; done) | fail) only [Bool.not_false, HL.cond_true]
        refine ⟨?_, Hp.le.refl h⟩
        have hne : x ≠ y := by
          rintro rfl
          simp at hb
        congr 1
        symm
        apply dec_f
        rintro rfl
        rw [hx] at hy
        cases hy
        exact hne rfl
      | true =>
        simp -implicitDefEqProofs (maxSteps := 2000000) (disch := first | with_reducible exact Nat.ne_of_beq_eq_false rfl | exact oneCell_int | exact oneCell_bool | omega | rfl | (simp; done) | fail) only [Bool.not_true, HL.cond_false]
        unfold S20_l3_k5
        simp -implicitDefEqProofs (maxSteps := 2000000) (disch := first | with_reducible exact Nat.ne_of_beq_eq_false rfl | exact oneCell_int | exact oneCell_bool | omega | rfl | (simp; done) | fail) only [upd_ne, g5, thenK_normal, opH_sv, bin_add, wrap_in]
        have hxy : x = y := by simpa using hb
        refine HX (L.length - (i + 1)) _ _ (by omega) ⟨i + 1, rfl, hlt', by simp -implicitDefEqProofs (maxSteps := 2000000) (disch := first | with_reducible exact Nat.ne_of_beq_eq_false rfl | exact oneCell_int | exact oneCell_bool | omega | rfl | (simp; done) | fail) only [upd_ne, g0], by simp -implicitDefEqProofs (maxSteps := 2000000) (disch := first | with_reducible exact Nat.ne_of_beq_eq_false rfl | exact oneCell_int | exact oneCell_bool | omega | rfl | (simp; done) | fail) only [upd_ne, g1], by simp -implicitDefEqProofs (maxSteps := 2000000) (disch := first | with_reducible exact Nat.ne_of_beq_eq_false rfl | exact oneCell_int | exact oneCell_bool | omega | rfl | (simp; done) | fail) only [upd_eq]; rfl, rfl, ?_⟩
        rw [List.take_add_one, List.take_add_one, hx, hy, htk, hxy]
    · obtain rfl : i = L.length := by omega
      show S20_k2 _ _ _ _
      unfold S20_k2
      simp -implicitDefEqProofs (maxSteps := 2000000) (disch := first | with_reducible exact Nat.ne_of_beq_eq_false rfl | exact oneCell_int | exact oneCell_bool | omega | rfl | (simp; done) | fail) only [retK_ret, resL_tmp, upd_eq, resL_nil1]
      rw [List.take_of_length_le (Nat.le_refl _), List.take_of_length_le (by omega)] at htk
      exact ⟨by rw [dec_t htk], Hp.le.refl h⟩
  · rw [show ((L.length : Int) != (M.length : Int)) = true by simp; omega]
    simp -implicitDefEqProofs (maxSteps := 2000000) (disch := first | with_reducible exact Nat.ne_of_beq_eq_false rfl | exact oneCell_int | exact oneCell_bool | omega | rfl | (simp; done) | fail) only [HL.cond_true]
    exact ⟨by rw [dec_f (fun e => hlm (by rw [e]))], Hp.le.refl h⟩

theorem place_spec {G h : Hp} {a n : Int} (ha : Bd a) (hn : 0 < n) (hn2 : n ≤ 1000000) : HCalls Tryd.prog G 30 #[.int .i64 a, .int .i64 n] h (fun v h' => v = .int .i64 (a % n) ∧ h' = h) := by
  refine quietly (enter30 (by simp) ?_)
  obtain ⟨ha1, ha2⟩ := ha
  unfold S30
  have e1 : a.tmod n = if 0 ≤ a ∨ a % n = 0 then a % n else a % n - n := by
    rw [Int.tmod_eq_emod]
    have : (n.natAbs : Int) = n := by omega
    by_cases h0 : 0 ≤ a
    · simp [h0]
    · simp [h0, this, Int.dvd_iff_emod_eq_zero]
      split <;> omega
  have hb := Int.emod_nonneg a (show n ≠ 0 by omega)
  have hb2 := Int.emod_lt_of_pos a hn
  simp -implicitDefEqProofs (maxSteps := 2000000) (disch := first | with_reducible exact Nat.ne_of_beq_eq_false rfl | exact oneCell_int | exact oneCell_bool | omega | rfl | (simp; done) | fail) only [regs0, regs1, opH_sv, bin_rem, bin_add, wrap_in, bin_lss]
  by_cases hc : 0 ≤ a ∨ a % n = 0
  · rw [if_pos hc] at e1
    rw [e1, dec_f (show ¬ a % n < 0 by omega)]
    simp -implicitDefEqProofs (maxSteps := 2000000) (disch := first | with_reducible exact Nat.ne_of_beq_eq_false rfl | exact oneCell_int | exact oneCell_bool | omega | rfl | (simp; done) | fail) only [HL.cond_false]
    unfold S30_k1
    simp -implicitDefEqProofs (maxSteps := 2000000) (disch := first | with_reducible exact Nat.ne_of_beq_eq_false rfl | exact oneCell_int | exact oneCell_bool | omega | rfl | (simp; done) | fail) only [upd_ne, upd_eq, retK_ret, resL_tmp, resL_nil1, true_and]
    exact Hp.le.refl h
  · rw [if_neg hc] at e1
    have : a % n ≠ 0 := fun e => hc (.inr e)
    rw [e1, dec_t (show a % n - n < 0 by omega)]
    simp -implicitDefEqProofs (maxSteps := 2000000) (disch := first | with_reducible exact Nat.ne_of_beq_eq_false rfl | exact oneCell_int | exact oneCell_bool | omega | rfl | (simp; done) | fail) only [HL.cond_true]
    unfold S30_k1
    simp -implicitDefEqProofs (maxSteps := 2000000) (disch := first | with_reducible exact Nat.ne_of_beq_eq_false rfl | exact oneCell_int | exact oneCell_bool | omega | rfl | (simp; done) | fail) only [upd_eq, retK_ret, resL_tmp, resL_nil1]
    exact ⟨by congr 1; omega, Hp.le.refl h⟩

end Go.Proofs.YtnpdploihlgcgaaDoor
