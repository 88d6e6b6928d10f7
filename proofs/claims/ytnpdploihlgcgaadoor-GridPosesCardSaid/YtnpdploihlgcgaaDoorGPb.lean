/- The program's grid answers as the reference's. -/
import Derived.Test.YtnpdploihlgcgaaDoorGR
import Derived.Test.YtnpdploihlgcgaaDoorGP
set_option linter.unusedSimpArgs false
set_option linter.unusedVariables false
namespace Go.Proofs.YtnpdploihlgcgaaDoor
open Go Go.HL

variable {C : Conf}

theorem f3_open (m : MadeOk C) (x y : Nat) : f3C C x y = -1 ↔ f0C C x y = -1 := by
  unfold f3C
  refine f2_open (fun c hc => ?_) x y
  obtain ⟨p, hp, hcp⟩ := List.mem_flatMap.1 hc
  exact (fits_cells (m.rob.fit p hp) c hcp).2

theorem open3_eq (m : MadeOk C) (c : Cell) : openW (wC C) (kC C) (f3C C) c = openB C c := by
  rw [← open_eq m.laid.w m.laid.h]
  exact openW_congr (fun x y _ _ => f3_open m x y) c
theorem fits3_eq (m : MadeOk C) (p : Pose) : fitsW (wC C) (kC C) (f3C C) p = fitsB C p := by
  rw [← fits_eq m.laid.w m.laid.h]
  exact fitsW_congr (fun x y _ _ => f3_open m x y) p
theorem num_eq (m : MadeOk C) (c : Cell) : numI (wC C) (kC C) c = numR C c := by
  unfold numI numR
  rw [inW_inB m.laid.w m.laid.h, (within_wk m.laid.w m.laid.h).1]
theorem stacked3_eq (m : MadeOk C) (c : Cell) : (inW (wC C) (kC C) c && (fAt (f3C C) c == 0)) = stackedB C c := by
  rw [Bool.eq_iff_iff, ← stacked_eq m.laid.w m.laid.h]
  simp
theorem port3_eq (m : MadeOk C) (c : Cell) : (if inW (wC C) (kC C) c = true ∧ 1 ≤ fAt (f3C C) c then fAt (f3C C) c - 1 else -1) = portI C c := by
  have mm := made_may.1 m
  have hw := m.laid.w
  have hk := m.laid.h
  rw [inW_inB hw hk]
  unfold portI
  by_cases hp : c ∈ C.po
  · obtain ⟨h1, _, h2, h3⟩ := mm.prt c hp
    have hb : c ∉ C.bl := fun hb => by
      have := (mm.blk c hb).2.2
      exact (List.count_eq_zero.1 this) hp
    have e : fAt (f3C C) c = (C.po.idxOf c : Int) + 1 := by
      rw [f3_at hw hk h1, h2]
      simp [hb, h3, hp]
    rw [if_pos hp, e, if_pos ⟨h1, by omega⟩]
    omega
  · rw [if_neg hp]
    by_cases hi : inB C c = true
    · have e : fAt (f3C C) c ≤ 0 := by
        rw [f3_at hw hk hi]
        simp only [hp, if_false]
        repeat' split
        all_goals omega
      rw [if_neg (by omega)]
    · rw [if_neg (fun h => hi h.1)]

theorem f3_bd (m : MadeOk C) (x y : Nat) : -10 ≤ f3C C x y ∧ f3C C x y ≤ 1000 := by
  have h8 := m.laid.po8
  have hb : -2 ≤ f0C C x y ∧ f0C C x y ≤ 1000 := by
    unfold f0C kd
    split
    · rename_i h
      have := List.idxOf_lt_length_of_mem h
      rw [List.length_append] at this
      split <;> omega
    · omega
  unfold f3C f2 f1
  split
  · omega
  · split <;> omega

end Go.Proofs.YtnpdploihlgcgaaDoor
