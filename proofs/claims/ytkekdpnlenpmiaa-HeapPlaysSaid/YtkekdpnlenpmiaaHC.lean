/- Contracts of the heap's functions: how two are held against each other, exchanged, moved up and down. -/
import Derived.Test.YtkekdpnlenpmiaaHLk
import Derived.Test.YtkekdpnlenpmiaaHS
set_option linter.unusedSimpArgs false
set_option linter.unusedVariables false
namespace Go.Proofs.Ytkekdpnlenpmiaa
open Go Go.HL

/-- A thing in the heap: its key, its name, when it was put in. -/
structure It where
  k : Int
  m : Int
  n : Int

def itC : Cod It := ⟨3, fun x => [.int .i64 x.k, .int .i64 x.m, .int .i64 x.n], fun _ => rfl, fun _ v hv => by simp at hv; rcases hv with rfl | rfl | rfl <;> rfl⟩

def It.lt (x y : It) : Bool := if x.k < y.k then true else if y.k < x.k then false else decide (x.n < y.n)

/-- The heap lies at hp, its things at bp, with spare room t. -/
structure HA (h : Hp) (hp bp cap : Nat) (L : List It) (n : Int) (t : List Value) : Prop where
  hd : h hp = some (.cells #[.func (.func 12) #[] #[], .slice (some ⟨bp, 0, none⟩) L.length cap, .int .i64 n] 63 (0, 0))
  row : h bp = some (.cells (itC.rows L ++ t).toArray 65 (0, 0))

theorem HA.ne {h : Hp} {hp bp cap : Nat} {L : List It} {n : Int} {t : List Value} (a : HA h hp bp cap L n t) : hp ≠ bp := fun e => by
  have h1 := a.hd
  have h2 := a.row
  rw [e, h2] at h1
  simp at h1

theorem HA.le {h h' : Hp} {hp bp cap : Nat} {L : List It} {n : Int} {t : List Value} (a : HA h hp bp cap L n t) (l : h.le h') : HA h' hp bp cap L n t := ⟨l _ _ a.hd, l _ _ a.row⟩

theorem less_spec {G h : Hp} {a0 a1 b0 b1 : Int} : HCalls Try.prog G 12 #[.agg #[.int .i64 a0, .int .i64 a1], .agg #[.int .i64 b0, .int .i64 b1]] h (fun v h' => v = .bool (decide (a0 < b0)) ∧ h' = h) := by
  refine quietly (enter12 (by simp) ?_)
  unfold S12
  simp -implicitDefEqProofs (maxSteps := 2000000) (disch := first | with_reducible exact Nat.ne_of_beq_eq_false rfl | omega | rfl | (simp; done)) only [regs0, regs1, retK_ret, resL_tmp, upd_eq, resL_nil1, opH_sv, box_new, cells_agg, fa27_0, add_mk, Nat.add_zero, ld3, cell_set_self, List.getElem?_cons_zero, Option.some.injEq, exists_eq_left']
  intro x hx gx y hy gy
  have hxy : x ≠ y := ne_of_set hy
  simp -implicitDefEqProofs (maxSteps := 2000000) (disch := first | with_reducible exact Nat.ne_of_beq_eq_false rfl | omega | rfl | (simp; done)) only [cell_set_other hxy, cell_set_self, List.getElem?_cons_zero, Option.some.injEq, exists_eq_left', bin_lss, true_and]
  exact (le_set hx).trans (le_set hy)

theorem it0 {L : List It} {t : List Value} {i : Nat} {x : It} (hi : L[i]? = some x) : (itC.rows L ++ t)[i * 3]? = some (.int .i64 x.k) := itC.rows_get (j := 0) hi (by decide)
theorem it1 {L : List It} {t : List Value} {i : Nat} {x : It} (hi : L[i]? = some x) : (itC.rows L ++ t)[i * 3 + 1]? = some (.int .i64 x.m) := itC.rows_get (j := 1) hi (by decide)
theorem it2 {L : List It} {t : List Value} {i : Nat} {x : It} (hi : L[i]? = some x) : (itC.rows L ++ t)[i * 3 + 2]? = some (.int .i64 x.n) := itC.rows_get (j := 2) hi (by decide)

theorem ahead_spec {G h : Hp} {hp bp cap : Nat} {L : List It} {n : Int} {t : List Value} (a : HA h hp bp cap L n t) {i j : Nat} {x y : It} (hi : L[i]? = some x) (hj : L[j]? = some y) :
    HCalls Try.prog G 45 #[.pointer (some ⟨hp, 0, none⟩), .int .i64 i, .int .i64 j] h (fun v h' => v = .bool (x.lt y) ∧ h' = h) := by
  have hil : i < L.length := (List.getElem?_eq_some_iff.1 hi).1
  have hjl : j < L.length := (List.getElem?_eq_some_iff.1 hj).1
  have c1 : ∀ k, cellIn G h ⟨hp, k, none⟩ = _ := fun k => cell_of (look_own a.hd)
  have c2 : ∀ k, cellIn G h ⟨bp, k, none⟩ = _ := fun k => cell_of (look_own a.row)
  refine quietly (enter45 (by simp) ?_)
  unfold S45
  simp -implicitDefEqProofs (maxSteps := 2000000) (disch := first | with_reducible exact Nat.ne_of_beq_eq_false rfl | omega | rfl | (simp; done)) only [regs0, regs1, regs2, retK_ret, resL_tmp, upd_eq, resL_nil1, pureW_sv, pureW_nil, fa63_0p, add_mk, Nat.add_zero, ld28p, opH_su, opH_sv, al65, fa65_0p, ld27p, Nat.zero_add, fa63_1p, ld61p, c1, List.getElem?_cons_succ, List.getElem?_cons_zero, Option.some.injEq, exists_eq_left', ix61p, Int.toNat_natCast, ld65p]
  simp -implicitDefEqProofs (maxSteps := 2000000) (disch := first | with_reducible exact Nat.ne_of_beq_eq_false rfl | omega | rfl | (simp; done)) only [c2, it0 hi, Option.some.injEq, it1 hi, it2 hi, it0 hj, it1 hj, it2 hj, exists_eq_left']
  intro p hp' gp q hq gq
  have hpq : p ≠ q := ne_of_set hq
  have hq' := none_of_set hq
  have e1 : hp ≠ p := ne_of_new a.hd hp'
  have e2 : hp ≠ q := ne_of_new a.hd hq'
  simp -implicitDefEqProofs (maxSteps := 2000000) (disch := first | with_reducible exact Nat.ne_of_beq_eq_false rfl | omega | rfl | (simp; done)) only [store_past hpq, st65w, cell_set_self, List.getElem?_cons_zero, Option.some.injEq, List.getElem?_cons_succ, exists_eq_left']
  refine ⟨((Hp.le.refl h).set hp').set hq', ?_⟩
  simp -implicitDefEqProofs (maxSteps := 2000000) (disch := first | with_reducible exact Nat.ne_of_beq_eq_false rfl | omega | rfl | (simp; done)) only [cell_set_other e2, cell_set_other e1, c1, List.getElem?_cons_zero, Option.some.injEq, cell_set_other hpq, cell_set_self, List.getElem?_cons_succ, exists_eq_left', callV_fn, cf12]
  refine less_spec.mono ?_
  rintro _ _ ⟨rfl, rfl⟩
  refine cond_dec (fun hlt => ?_) (fun hge => ?_)
  · exact ⟨by simp [It.lt, hlt], ((Hp.le.refl h).set hp').set hq'⟩
  simp -implicitDefEqProofs (maxSteps := 2000000) (disch := first | with_reducible exact Nat.ne_of_beq_eq_false rfl | omega | rfl | (simp; done)) only [cell_set_other e2, cell_set_other e1, c1, List.getElem?_cons_zero, Option.some.injEq, cell_set_self, List.getElem?_cons_succ, cell_set_other hpq, exists_eq_left', callV_fn, cf12]
  refine less_spec.mono ?_
  rintro _ _ ⟨rfl, rfl⟩
  refine cond_dec (fun hlt => ?_) (fun hge2 => ?_)
  · exact ⟨by simp [It.lt, hlt, hge], ((Hp.le.refl h).set hp').set hq'⟩
  unfold S45_k1
  simp -implicitDefEqProofs (maxSteps := 2000000) (disch := first | with_reducible exact Nat.ne_of_beq_eq_false rfl | omega | rfl | (simp; done)) only [opH_sv, opH_su, pureW_sv, opH_nil, pureW_nil, pick_t, pick_f, pick_tp, pick_fp, gd_tt, gd_ft, gd_tf, gd_ff, box_new, regs0, regs1, regs2, regs3, regs4, regs5, regs6, cells_agg, cells_int, cells_bool, cells_ptr, cells_slice, cells_string, cells_func, cells_nilFunc, cells_map, retK_ret, retK_normal, resL_tmp, resL_cell, resL_nil0, resL_nil1, resL_nil2, resL_nil3, resC_ptr, ex0, ex1, ex2, ex0p, ex1p, ex2p, HL.cond_true, HL.cond_false, thenK_normal, thenK_ret, thenK_exit, blockK_normal, blockK_ret, blockK_exit, scopeK_normal, scopeK_ret, scopeK_exit, wpH_pure, bin_add, bin_sub, bin_mul, bin_lss, bin_leq, bin_gtr, bin_geq, bin_quo, bin_rem, bin_quop, bin_remp, wrap_in, bin_addp, bin_subp, bin_mulp, bin_lssp, bin_leqp, bin_gtrp, bin_geqp, un_not, un_notp, un_neg, eq_int, ne_int, eq_intp, ne_intp, callV_fn, add_mk, upd_eq, upd_ne, cell_set_self, Nat.zero_add, Nat.add_zero, Option.some.injEq, exists_eq_left', List.getElem?_cons_succ, List.getElem?_cons_zero, true_and, and_true, bne_self_eq_false, beq_self_eq_true, Bool.not_true, Bool.not_false, Bool.and_true, Bool.and_self, Bool.and_false, Bool.true_and, List.length_cons, List.length_nil, ne_eq, not_false_eq_true, Nat.reduceAdd, Nat.reduceMul, if_true, if_false, oneCell_int, oneCell_bool, oneCell_ptr, oneCell_slice, oneCell_string, oneCell_func, oneCell_map, Int.toNat_natCast, List.set_cons_zero, List.set_cons_succ, Nat.lt_irrefl, Nat.zero_lt_succ, Nat.succ_lt_succ_iff, fa27_0, fa27_0p, fa27_1, fa27_1p, fa53_0, fa53_0p, fa55_0, fa55_0p, fa55_1, fa55_1p, fa63_0, fa63_0p, fa63_1, fa63_1p, fa63_2, fa63_2p, fa65_0, fa65_0p, fa65_1, fa65_1p, fa70_0, fa70_0p, fa70_1, fa70_1p, fa70_2, fa70_2p, fa72_0, fa72_0p, fa72_1, fa72_1p, ld3, ld3p, ld4, ld4p, ld9, ld9p, ld24, ld24p, ld27, ld27p, ld28, ld28p, ld39, ld39p, ld44, ld44p, ld55, ld55p, ld61, ld61p, ld65, ld65p, ld68, ld68p, ld72, ld72p, st3s, st4s, st9s, st27w, st44s, st55w, st61s, st65w, st68s, st72w, ix22, ix22p, ix31, ix31p, ix36, ix36p, ix44, ix44p, ix50, ix50p, ix61, ix61p, ix68, ix68p, ln9, ln9p, ln22, ln22p, ln31, ln31p, ln36, ln36p, ln44, ln44p, ln50, ln50p, ln61, ln61p, ln68, ln68p, al3, al27, al44, al55, al65, al72, cf10, cf11, cf12, cf13, cf14, cf15, cf16, cf17, cf18, cf19, cf20, cf21, cf22, cf23, cf24, cf25, cf26, cf27, cf28, cf29, cf30, cf31, cf32, cf33, cf34, cf35, cf36, cf37, cf38, cf39, cf40, cf41, cf42, cf43, cf44, cf45, cf46, cf47, bd27_, bd27_p, bd27_0_1, bd27_0_1p, bd53_, bd53_p, bd53_0, bd53_0p, bd63_0, bd63_0p, bd63_0_1_2, bd63_0_1_2p, bd65_, bd65_p, bd65_0_1, bd65_0_1p, bd70_0, bd70_0p, bd72_, bd72_p, bd72_0_1, bd72_0_1p, bd77_0_1, bd77_0_1p, bs61_1_0, bs68_1_0, bs44_1_0, bs61_0_, eq9, eq9p, eq24n, eq24np, eq24s, eq24sp, eq27, eq27p, eq28n, eq28np, eq28s, eq28sp, eq37n, eq37np, eq37s, eq37sp, eq39n, eq39np, eq39s, eq39sp, eq74n, eq74np, eq74s, eq74sp, ne4, ne4p, ne27, ne27p, cell_set_other hpq, cell_set_other e1, cell_set_other e2, c1]
  exact ⟨by simp [It.lt, hge, hge2], ((Hp.le.refl h).set hp').set hq'⟩

theorem swap_spec {G h : Hp} {hp bp cap : Nat} {L : List It} {n : Int} {t : List Value} (a : HA h hp bp cap L n t) {i j : Nat} {x y : It} (hi : L[i]? = some x) (hj : L[j]? = some y) :
    HCalls Try.prog G 37 #[.pointer (some ⟨hp, 0, none⟩), .int .i64 i, .int .i64 j] h (fun v h' => h' = h.set bp (.cells (itC.rows ((L.set i y).set j x) ++ t).toArray 65 (0, 0))) := by
  have hil : i < L.length := (List.getElem?_eq_some_iff.1 hi).1
  have hjl : j < L.length := (List.getElem?_eq_some_iff.1 hj).1
  have c1 : ∀ k, cellIn G h ⟨hp, k, none⟩ = _ := fun k => cell_of (look_own a.hd)
  have c2 : ∀ k, cellIn G h ⟨bp, k, none⟩ = _ := fun k => cell_of (look_own a.row)
  refine enter37 (by simp) ?_
  unfold S37
  simp -implicitDefEqProofs (maxSteps := 2000000) (disch := first | with_reducible exact Nat.ne_of_beq_eq_false rfl | omega | rfl | (simp; done)) only [regs0, regs2, regs1, retK_normal, resL_nil0, opH_su, pureW_sv, pureW_nil, fa63_1p, add_mk, Nat.zero_add, ld61p, c1, List.getElem?_cons_succ, List.getElem?_cons_zero, Option.some.injEq, exists_eq_left', ix61p, Int.toNat_natCast, ld65p, Nat.add_zero]
  simp -implicitDefEqProofs (maxSteps := 2000000) (disch := first | with_reducible exact Nat.ne_of_beq_eq_false rfl | omega | rfl | (simp; done)) only [c2, it0 hj, Option.some.injEq, it1 hj, it2 hj, it0 hi, it1 hi, it2 hi, exists_eq_left']
  refine Eq.mpr (store_elem itC (x := y) sz65 a.row hil) ?_
  refine Eq.mpr (store_elem itC (x := x) sz65 set_self (by simpa using hjl)) ?_
  rw [set_set]

/-- Two exchanged. -/
def swapL (L : List It) (i j : Nat) : List It := match L[i]?, L[j]? with
  | some x, some y => (L.set i y).set j x
  | _, _ => L

theorem swapL_length (L : List It) (i j : Nat) : (swapL L i j).length = L.length := by
  unfold swapL
  split <;> simp

/-- Is the one at i ahead of that at j? -/
def aheadL (L : List It) (i j : Nat) : Bool := match L[i]?, L[j]? with
  | some x, some y => x.lt y
  | _, _ => false

def siftUp (L : List It) (i : Nat) : List It := if h : 0 < i ∧ aheadL L i ((i - 1) / 2) = true then siftUp (swapL L i ((i - 1) / 2)) ((i - 1) / 2) else L
  termination_by i
  decreasing_by omega

theorem siftUp_length (L : List It) (i : Nat) : (siftUp L i).length = L.length := by
  induction i using Nat.strongRecOn generalizing L with
  | _ i ih =>
    rw [siftUp]
    split
    · rw [ih _ (by omega), swapL_length]
    · rfl

theorem HA.swap {h : Hp} {hp bp cap : Nat} {L L' : List It} {n : Int} {t : List Value} (a : HA h hp bp cap L n t) (hl : L'.length = L.length) : HA (h.set bp (.cells (itC.rows L' ++ t).toArray 65 (0, 0))) hp bp cap L' n t :=
  ⟨by rw [set_other a.ne, hl]; exact a.hd, set_self⟩

theorem tdiv2 {m : Nat} : ((m : Int)).tdiv 2 = ((m / 2 : Nat) : Int) := by
  rw [Int.tdiv_eq_ediv_of_nonneg (by omega)]; omega

theorem up_spec {G h : Hp} {hp bp cap : Nat} {L : List It} {n : Int} {t : List Value} (a : HA h hp bp cap L n t) (hL : L.length ≤ 1000000) {i : Nat} (hi : i < L.length) :
    HCalls Try.prog G 36 #[.pointer (some ⟨hp, 0, none⟩), .int .i64 i] h (fun v h' => h' = h.set bp (.cells (itC.rows (siftUp L i) ++ t).toArray 65 (0, 0))) := by
  refine enter36 (by simp) ?_
  unfold S36
  refine loop_I (fun m r h' => m < L.length ∧ r 0 = .pointer (some ⟨hp, 0, none⟩) ∧ r 1 = .int .i64 m ∧ ∃ M, M.length = L.length ∧ h' = h.set bp (.cells (itC.rows M ++ t).toArray 65 (0, 0)) ∧ siftUp M m = siftUp L i) ?_ (m := i) ⟨hi, rfl, rfl, L, rfl, (set_same a.row).symm, rfl⟩
  rintro m r h' ⟨hm, e0, e1, M, hM, rfl, hs⟩ X hX
  have a' := a.swap hM
  unfold S36_l1
  simp -implicitDefEqProofs (maxSteps := 2000000) (disch := first | with_reducible exact Nat.ne_of_beq_eq_false rfl | omega | rfl | (simp; done)) only [e1, e0, thenK_exit, blockK_exit, retK_normal, resL_nil0, if_true, opH_sv, bin_gtr]
  by_cases h0 : 0 < m
  · rw [dec_t (show (m : Int) > 0 by omega)]
    obtain ⟨k, rfl⟩ : ∃ k, m = k + 1 := ⟨m - 1, by omega⟩
    have hk : ((k + 1 : Nat) : Int) - 1 = (k : Int) := by omega
    simp -implicitDefEqProofs (maxSteps := 2000000) (disch := first | with_reducible exact Nat.ne_of_beq_eq_false rfl | omega | rfl | (simp; done)) only [pick_t, gd_tt, cf45, opH_sv, bin_sub, hk, wrap_in, bin_quo, tdiv2]
    obtain ⟨x, hx⟩ : ∃ x, M[k + 1]? = some x := ⟨_, List.getElem?_eq_getElem (by omega)⟩
    obtain ⟨y, hy⟩ : ∃ y, M[k / 2]? = some y := ⟨_, List.getElem?_eq_getElem (by omega)⟩
    refine (ahead_spec a' hx hy).mono ?_
    rintro _ _ ⟨rfl, rfl⟩
    have ea : aheadL M (k + 1) (k / 2) = x.lt y := by simp [aheadL, hx, hy]
    refine cond_bool (fun hlt => ?_) (fun hge => ?_)
    · unfold S36_l1_k2
      simp -implicitDefEqProofs (maxSteps := 2000000) (disch := first | with_reducible exact Nat.ne_of_beq_eq_false rfl | omega | rfl | (simp; done)) only [upd_ne, e1, e0, thenK_normal, opH_sv, bin_sub, hk, wrap_in, bin_quo, tdiv2, cf37]
      refine (swap_spec a' hx hy).mono ?_
      rintro _ _ rfl
      refine hX (k / 2) _ _ (by omega) ⟨by omega, by simp -implicitDefEqProofs (maxSteps := 2000000) (disch := first | with_reducible exact Nat.ne_of_beq_eq_false rfl | omega | rfl | (simp; done)) only [upd_ne, e0], by simp -implicitDefEqProofs (maxSteps := 2000000) (disch := first | with_reducible exact Nat.ne_of_beq_eq_false rfl | omega | rfl | (simp; done)) only [upd_eq], swapL M (k + 1) (k / 2), by rw [swapL_length]; exact hM, ?_, ?_⟩
      · rw [set_set]; simp [swapL, hx, hy]
      · rw [← hs]
        conv => rhs; rw [siftUp]
        rw [dif_pos ⟨by omega, by rw [show k + 1 - 1 = k by omega, ea]; exact hlt⟩]
        rfl
    · have e : siftUp M (k + 1) = M := by rw [siftUp, dif_neg]; rw [show k + 1 - 1 = k by omega, ea, hge]; simp
      rw [← hs, e]
  · rw [dec_f (show ¬ (m : Int) > 0 by omega)]
    simp -implicitDefEqProofs (maxSteps := 2000000) (disch := first | with_reducible exact Nat.ne_of_beq_eq_false rfl | omega | rfl | (simp; done)) only [pick_f, HL.cond_false, gd_ft]
    have e : siftUp M m = M := by rw [siftUp, dif_neg (by omega)]
    rw [← hs, e]

end Go.Proofs.Ytkekdpnlenpmiaa
