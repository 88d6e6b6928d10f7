/- HeapPlays, the plain law: things kept in the order in which they came, and the first of them. -/
import Derived.Test.YtkekdpnlenpmiaaHZ
set_option linter.unusedSimpArgs false
set_option linter.unusedVariables false
namespace Go.Proofs.Ytkekdpnlenpmiaa
open Go Go.HL

/-- Sorted by the keys, those alike in their first order. -/
def srt (L : List (Int × Int)) : List (Int × Int) := L.foldl (fun a x => insP x a) []

theorem srt_push (L : List (Int × Int)) (x : Int × Int) : srt (L ++ [x]) = insP x (srt L) := by
  unfold srt; rw [List.foldl_append]; rfl

theorem insP_mem {x y : Int × Int} : ∀ {L : List (Int × Int)}, y ∈ insP x L ↔ y = x ∨ y ∈ L
  | [] => by simp [insP]
  | z :: r => by
    unfold insP
    split
    · simp
    · rw [List.mem_cons, insP_mem (L := r), List.mem_cons]
      constructor
      · rintro (h | h | h) <;> simp [h]
      · rintro (h | h | h) <;> simp [h]

theorem insP_sorted {x : Int × Int} : ∀ {L : List (Int × Int)}, L.Pairwise (fun a b => a.1 ≤ b.1) → (insP x L).Pairwise (fun a b => a.1 ≤ b.1)
  | [], _ => by simp [insP]
  | z :: r, h => by
    have h' := List.pairwise_cons.1 h
    unfold insP
    split
    · rename_i hlt
      refine List.pairwise_cons.2 ⟨fun y hy => ?_, h⟩
      rcases List.mem_cons.1 hy with rfl | hy
      · omega
      · have := h'.1 y hy; omega
    · rename_i hge
      refine List.pairwise_cons.2 ⟨fun y hy => ?_, insP_sorted h'.2⟩
      rcases insP_mem.1 hy with rfl | hy
      · omega
      · exact h'.1 y hy

theorem rev_ind {α : Type} {P : List α → Prop} (h0 : P []) (h1 : ∀ L x, P L → P (L ++ [x])) (L : List α) : P L := by
  have : ∀ n (L : List α), L.length = n → P L := by
    intro n
    induction n with
    | zero => intro L hL; rw [List.length_eq_zero_iff.1 hL]; exact h0
    | succ n ih =>
      intro L hL
      have hne : L ≠ [] := fun e => by rw [e] at hL; cases hL
      rw [← List.dropLast_concat_getLast hne]
      exact h1 _ _ (ih _ (by rw [List.length_dropLast]; omega))
  exact this _ L rfl

theorem srt_sorted (L : List (Int × Int)) : (srt L).Pairwise (fun a b => a.1 ≤ b.1) :=
  rev_ind (P := fun L => (srt L).Pairwise (fun a b => a.1 ≤ b.1)) .nil (fun L x h => by rw [srt_push]; exact insP_sorted h) L

theorem srt_mem (L : List (Int × Int)) : ∀ y, y ∈ srt L ↔ y ∈ L :=
  rev_ind (P := fun L => ∀ y, y ∈ srt L ↔ y ∈ L) (fun y => by simp [srt]) (fun L x h y => by rw [srt_push, insP_mem, h]; simp [or_comm]) L

theorem insP_length {x : Int × Int} : ∀ {L : List (Int × Int)}, (insP x L).length = L.length + 1
  | [] => rfl
  | z :: r => by unfold insP; split <;> simp [insP_length (L := r)]

theorem srt_length (L : List (Int × Int)) : (srt L).length = L.length :=
  rev_ind (P := fun L => (srt L).length = L.length) rfl (fun L x h => by rw [srt_push, insP_length, h]; simp) L

theorem srt_filter (p : Int × Int → Bool) (L : List (Int × Int)) : srt (L.filter p) = (srt L).filter p :=
  rev_ind (P := fun L => srt (L.filter p) = (srt L).filter p) rfl (fun L x h => by
    rw [srt_push, insP_filter (srt_sorted L), List.filter_append]
    cases hx : p x with
    | true => simp [List.filter_cons, hx, srt_push, h]
    | false => simp [List.filter_cons, hx, h]) L

/-- The first one is told first, and the rest as if it had never been there. -/
theorem srt_first {A B : List (Int × Int)} {x : Int × Int} (hA : ∀ a ∈ A, x.1 < a.1) (hB : ∀ b ∈ B, x.1 ≤ b.1) : srt (A ++ x :: B) = x :: srt (A ++ B) := by
  revert hB
  refine rev_ind (P := fun B => (∀ b ∈ B, x.1 ≤ b.1) → srt (A ++ x :: B) = x :: srt (A ++ B)) (fun _ => ?_) (fun B b ih hB => ?_) B
  · rw [srt_push, insP_low (fun y hy => hA y ((srt_mem A y).1 hy)), List.append_nil]
  · have e1 : A ++ x :: (B ++ [b]) = (A ++ x :: B) ++ [b] := by simp
    have e2 : A ++ (B ++ [b]) = (A ++ B) ++ [b] := by simp
    rw [e1, e2, srt_push, srt_push, ih (fun y hy => hB y (List.mem_append_left _ hy))]
    have := hB b (by simp)
    show (if b.1 < x.1 then _ else _) = _
    rw [if_neg (by omega)]

end Go.Proofs.Ytkekdpnlenpmiaa
