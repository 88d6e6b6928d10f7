/- The program's moves, stack cells as the reference's. -/
import Derived.Test.YtnpdploihlgcgaaDoorGBb
set_option linter.unusedSimpArgs false
set_option linter.unusedVariables false
namespace Go.Proofs.YtnpdploihlgcgaaDoor
open Go Go.HL

variable {C : Conf}

theorem shiftP_zero {p : Pose} (hp : PB p) {d : Int} : shiftP p d 0 = p := by
  obtain ⟨h1, h2⟩ := hp
  unfold shiftP
  rw [Int.zero_mul, Int.zero_mul, Int.add_zero, Int.add_zero, wr_in h1, wr_in h2]

theorem all_range_succ {s : Nat → Bool} {n : Nat} : (List.range (n + 1)).all s = (s 0 && (List.range n).all fun i => s (i + 1)) := by
  rw [List.range_succ_eq_map, List.all_cons, List.all_map]
  rfl

theorem legal_eq (m : MadeOk C) {v : Move} (hp : PB v.f) : wayB (wC C) (kC C) (f3C C) v = legalR C v := by
  have ho := open3_eq m
  have hf := fits3_eq m
  unfold wayB legalR
  rw [hf]
  cases hfp : fitsB C v.f with
  | false => rfl
  | true =>
  rw [Bool.true_and, Bool.true_and]
  by_cases hk1 : v.k = 1
  · rw [if_pos hk1, if_pos hk1, all_range_succ]
    have e0 : stepB (wC C) (kC C) (f3C C) v 0 = withinB v.d 0 3 := by
      unfold stepB okS
      rw [hf, show ((0 : Nat) : Int) = 0 from rfl, shiftP_zero hp, hfp, show withinB 0 0 16 = true from rfl]
      simp
    rw [e0]
    cases hd : withinB v.d 0 3 with
    | false => simp
    | true =>
    have hd2 := withinB_iff.1 hd
    by_cases hn : 1 ≤ v.n
    · by_cases hn2 : v.n ≤ 16
      · rw [decide_eq_true hn, show withinB v.n 1 16 = true from withinB_iff.2 ⟨hn, hn2⟩, shiftR_eq hp hd2]
        have : ((List.range v.n.toNat).all fun i => stepB (wC C) (kC C) (f3C C) v (i + 1)) = (List.range v.n.toNat).all (rstepB C v) := by
          rw [Bool.eq_iff_iff, List.all_eq_true, List.all_eq_true]
          have e : ∀ i ∈ List.range v.n.toNat, stepB (wC C) (kC C) (f3C C) v (i + 1) = rstepB C v i := by
            intro i hi
            have hi := List.mem_range.1 hi
            unfold stepB rstepB okS
            rw [hd, show withinB ((i + 1 : Nat) : Int) 0 16 = true from withinB_iff.2 (by omega), hf, shiftR_eq hp hd2]
            rfl
          exact ⟨fun h i hi => by rw [← e i hi]; exact h i hi, fun h i hi => by rw [e i hi]; exact h i hi⟩
        rw [this]
        simp only [Bool.true_and]
        rw [Bool.and_comm]
      · have h1 : ((List.range v.n.toNat).all fun i => stepB (wC C) (kC C) (f3C C) v (i + 1)) = false := by
          rw [List.all_eq_false]
          refine ⟨16, List.mem_range.2 (by omega), ?_⟩
          unfold stepB okS
          rw [show withinB ((16 + 1 : Nat) : Int) 0 16 = false from rfl]
          simp
        have h2 : withinB v.n 1 16 = false := by
          cases h : withinB v.n 1 16 with
          | false => rfl
          | true => exact absurd (withinB_iff.1 h).2 hn2
        rw [h1, h2]
        simp
    · have h2 : withinB v.n 1 16 = false := by
        cases h : withinB v.n 1 16 with
        | false => rfl
        | true => exact absurd (withinB_iff.1 h).1 hn
      rw [decide_eq_false hn, h2]
      simp
  · rw [if_neg hk1, if_neg hk1]
    have e1 : decide (v.d = 0 ∧ v.n = 0) = (decide (v.n = 0) && decide (v.d = 0)) := by
      rw [Bool.eq_iff_iff]; simp [and_comm]
    rw [e1]
    by_cases hk2 : v.k = 2
    · rw [if_pos hk2, if_pos hk2]
      have e2 : (squareL (v.f.x, v.f.y)).all (openW (wC C) (kC C) (f3C C)) = (squareL (v.f.x, v.f.y)).all (openB C) := by
        congr 1
        funext c
        exact ho c
      rw [e2]
      cases decide (v.n = 0) <;> cases decide (v.d = 0) <;> simp
    · rw [if_neg hk2, if_neg hk2]
      cases decide (v.n = 0) <;> cases decide (v.d = 0) <;> simp

def mkR (p : Pose) (d n : Nat) : Move := ⟨1, d, n, p, shiftR p d n, 0, 0⟩
def rrunD (C : Conf) (p : Pose) (d : Nat) : List Move := runFrom (fun n => legalR C (mkR p d n)) (mkR p d) 1 16
def rmovesL (C : Conf) (p : Pose) : List Move := if fitsB C p = true then dirsL (rrunD C p) 0 4 ++ (if legalR C (turnM p) = true then [turnM p] else []) else []

theorem dirsL_congr {α : Type} {D E : Nat → List α} : ∀ {k i : Nat}, (∀ j, i ≤ j → j < i + k → D j = E j) → dirsL D i k = dirsL E i k
  | 0, i, _ => rfl
  | k + 1, i, h => by
    unfold dirsL
    rw [h i (Nat.le_refl _) (by omega), dirsL_congr fun j h1 h2 => h j (by omega) (by omega)]

theorem run_eq (m : MadeOk C) {p : Pose} (hp : PB p) (hf : fitsB C p = true) {d : Nat} (hd : d < 4) : ∀ (k n : Nat), 1 ≤ n → n + k ≤ 17 → (∀ j, 1 ≤ j → j < n → fitsB C (shiftR p d j) = true) →
    runFrom (okRun (wC C) (kC C) (f3C C) p d) (mkRun p d) n k = runFrom (fun n => legalR C (mkR p d n)) (mkR p d) n k
  | 0, n, _, _, _ => rfl
  | k + 1, n, h1, h2, h3 => by
    have hd2 : (0 : Int) ≤ (d : Int) ∧ (d : Int) ≤ 3 := by omega
    have e1 : okRun (wC C) (kC C) (f3C C) p d n = fitsB C (shiftR p d n) := by
      unfold okRun
      rw [fits3_eq m, shiftR_eq hp hd2]
    have e2 : mkRun p d n = mkR p d n := by
      unfold mkRun mkR
      rw [shiftR_eq hp hd2]
    have e3 : legalR C (mkR p d n) = fitsB C (shiftR p d n) := by
      unfold legalR
      rw [show (mkR p d n).f = p from rfl, hf, Bool.true_and, if_pos (show (mkR p d n).k = 1 from rfl), show withinB (mkR p d n).n 1 16 = true from withinB_iff.2 (show (1 : Int) ≤ (n : Int) ∧ (n : Int) ≤ 16 by omega), show withinB (mkR p d n).d 0 3 = true from withinB_iff.2 hd2, show decide ((mkR p d n).t = shiftR p (mkR p d n).d (mkR p d n).n) = true from decide_eq_true rfl, show (mkR p d n).n.toNat = (n - 1) + 1 from (by show (n : Int).toNat = _; omega), List.range_succ, List.all_append]
      have e4 : (List.range (n - 1)).all (rstepB C (mkR p d n)) = true := by
        rw [List.all_eq_true]
        intro i hi
        have hi := List.mem_range.1 hi
        exact h3 (i + 1) (by omega) (by omega)
      rw [e4]
      show (true && (true && (true && (true && (fitsB C (shiftR p d (((n - 1 : Nat) : Int) + 1)) && true))))) = _
      rw [show ((n - 1 : Nat) : Int) + 1 = (n : Int) by omega]
      simp
    unfold runFrom
    rw [e1, e2, e3]
    cases hb : fitsB C (shiftR p d n) with
    | false => rfl
    | true =>
      rw [if_pos rfl, if_pos rfl, run_eq m hp hf hd k (n + 1) (by omega) (by omega) fun j a b => by
        by_cases hj : j < n
        · exact h3 j a hj
        · obtain rfl : j = n := by omega
          exact hb]

theorem moves_eq (m : MadeOk C) {p : Pose} (hp : PB p) : movesW (wC C) (kC C) (f3C C) p = rmovesL C p := by
  unfold movesW rmovesL
  rw [fits3_eq m, legal_eq m (v := turnM p) hp]
  cases hf : fitsB C p with
  | false => rfl
  | true =>
    rw [if_pos rfl, if_pos rfl]
    congr 1
    unfold runsL
    exact dirsL_congr fun j _ hj => run_eq m hp hf (by omega) 16 1 (Nat.le_refl _) (by decide) fun j a b => absurd b (by omega)

end Go.Proofs.YtnpdploihlgcgaaDoor
