/- Tables: claims, longer slots, ticks given back. -/
import Derived.Test.YtbloobepmgmbgaaRP
namespace Go.Proofs.Resv

abbrev Tb := List (List Slot)
structure Want where
  c : Int
  f : Int
  t : Int

def rowT (T : Tb) (c : Int) : List Slot := if 0 ≤ c then T.getD c.toNat [] else []
def inT (n : Nat) (c : Int) : Bool := decide (0 ≤ c) && decide (c < n)
def validW (n : Nat) (w : Want) : Bool := inT n w.c && (decide (0 ≤ w.f) && (decide (w.f < w.t) && decide (w.t ≤ FV)))
def freeW (T : Tb) (r : Int) (w : Want) : Bool := freeB (rowT T w.c) r w.f w.t
def putW (r : Int) (T : Tb) (w : Want) : Tb := T.set w.c.toNat (putL (rowT T w.c) r w.f w.t)
def putsT (r : Int) (T : Tb) (l : List Want) : Tb := l.foldl (putW r) T
def claimT (T : Tb) (r : Int) (l : List Want) : Int × Tb :=
  if r < 0 then (1, T) else if l.all (validW T.length) = true then (if l.all (freeW T r) = true then (0, putsT r T l) else (18, T)) else (1, T)

def GoodT (T : Tb) : Prop := ∀ L ∈ T, Good L
def Few (T : Tb) (b : Nat) : Prop := ∀ L ∈ T, L.length ≤ b

theorem inT_iff {n : Nat} {c : Int} : inT n c = true ↔ 0 ≤ c ∧ c < n := by unfold inT; simp
theorem valid_iff {n : Nat} {w : Want} : validW n w = true ↔ (0 ≤ w.c ∧ w.c < n) ∧ 0 ≤ w.f ∧ w.f < w.t ∧ w.t ≤ FV := by
  unfold validW
  rw [Bool.and_eq_true, inT_iff]
  simp

theorem rowT_get {T : Tb} {c : Int} (h0 : 0 ≤ c) (h1 : c < T.length) : T[c.toNat]? = some (rowT T c) := by
  unfold rowT
  rw [if_pos h0, List.getD_eq_getElem?_getD, List.getElem?_eq_getElem (by omega)]
  rfl
theorem rowT_out {T : Tb} {c : Int} (h : ¬ (0 ≤ c ∧ c < T.length)) : rowT T c = [] := by
  unfold rowT
  split
  · rename_i h0
    rw [List.getD_eq_getElem?_getD, List.getElem?_eq_none (by omega)]
    rfl
  · rfl
theorem rowT_good {T : Tb} (g : GoodT T) (c : Int) : Good (rowT T c) := by
  by_cases h : 0 ≤ c ∧ c < T.length
  · exact g _ (List.mem_of_getElem? (rowT_get h.1 h.2))
  · rw [rowT_out h]; exact Good.nil
theorem rowT_few {T : Tb} {b : Nat} (g : Few T b) (c : Int) : (rowT T c).length ≤ b := by
  by_cases h : 0 ≤ c ∧ c < T.length
  · exact g _ (List.mem_of_getElem? (rowT_get h.1 h.2))
  · rw [rowT_out h]; exact Nat.zero_le _

theorem rowT_set {T : Tb} {c d : Int} {L : List Slot} (h0 : 0 ≤ c) (h1 : c < T.length) : rowT (T.set c.toNat L) d = if d = c then L else rowT T d := by
  by_cases h : 0 ≤ d ∧ d < T.length
  · have e := rowT_get (T := T.set c.toNat L) (c := d) h.1 (by rw [List.length_set]; exact h.2)
    by_cases hdc : d = c
    · subst hdc
      rw [if_pos rfl]
      rw [List.getElem?_set_self (by omega)] at e
      exact (Option.some.inj e).symm
    · rw [if_neg hdc]
      rw [List.getElem?_set_ne (by omega), rowT_get h.1 h.2] at e
      exact (Option.some.inj e).symm
  · rw [rowT_out (by rw [List.length_set]; exact h), if_neg (by omega), rowT_out h]

theorem mem_set {T : Tb} {k : Nat} {L M : List Slot} (h : M ∈ T.set k L) : M = L ∨ M ∈ T := by
  rcases List.mem_or_eq_of_mem_set h with h | h
  · exact .inr h
  · exact .inl h

theorem putW_len {r : Int} {T : Tb} {w : Want} : (putW r T w).length = T.length := by unfold putW; rw [List.length_set]

theorem putW_inv {r : Int} {T : Tb} {w : Want} {b : Nat} (hr : 0 ≤ r) (g : GoodT T) (fw : Few T b) (hv : validW T.length w = true) (hf : freeW T r w = true) : GoodT (putW r T w) ∧ Few (putW r T w) (b + 1) ∧ ∀ u, freeW (putW r T w) r u = freeW T r u := by
  obtain ⟨⟨c0, c1⟩, f0, f1, f2⟩ := valid_iff.1 hv
  refine ⟨fun M hM => ?_, fun M hM => ?_, fun u => ?_⟩
  · rcases mem_set hM with rfl | h
    · exact (put_spec (rowT_good g _) f0 f1 f2 hr hf).1
    · exact g M h
  · rcases mem_set hM with rfl | h
    · exact Nat.le_trans put_len (Nat.succ_le_succ (rowT_few fw _))
    · exact Nat.le_succ_of_le (fw M h)
  · unfold freeW putW
    rw [rowT_set c0 c1]
    split
    · rename_i e
      rw [free_put (rowT_good g _) f0 f1 f2 hr hf, e]
    · rfl

theorem puts_inv {r : Int} (hr : 0 ≤ r) : ∀ {l : List Want} {T : Tb} {b : Nat}, GoodT T → Few T b → l.all (validW T.length) = true → l.all (freeW T r) = true →
    GoodT (putsT r T l) ∧ Few (putsT r T l) (b + l.length) ∧ (putsT r T l).length = T.length ∧ ∀ u, freeW (putsT r T l) r u = freeW T r u := by
  intro l
  induction l with
  | nil => intro T b g f _ _; exact ⟨g, f, rfl, fun _ => rfl⟩
  | cons w l ih =>
    intro T b g f hv hf
    rw [List.all_cons, Bool.and_eq_true] at hv hf
    obtain ⟨g1, f1, k1⟩ := putW_inv hr g f hv.1 hf.1
    have e1 : (l.all (freeW (putW r T w) r)) = l.all (freeW T r) := by
      congr 1
      funext u
      exact k1 u
    obtain ⟨g2, f2, l2, k2⟩ := ih (T := putW r T w) g1 f1 (by rw [putW_len]; exact hv.2) (by rw [e1]; exact hf.2)
    refine ⟨g2, fun M hM => ?_, l2.trans putW_len, fun u => (k2 u).trans (k1 u)⟩
    have := f2 M hM
    rw [List.length_cons]
    omega

theorem claim_inv {T : Tb} {r : Int} {l : List Want} {b : Nat} (g : GoodT T) (f : Few T b) : GoodT (claimT T r l).2 ∧ Few (claimT T r l).2 (b + l.length) ∧ (claimT T r l).2.length = T.length := by
  unfold claimT
  have few : Few T (b + l.length) := fun M hM => Nat.le_trans (f M hM) (Nat.le_add_right _ _)
  split
  · exact ⟨g, few, rfl⟩
  · rename_i hr
    split
    · rename_i hv
      split
      · rename_i hf
        obtain ⟨g1, f1, l1, _⟩ := puts_inv (by omega) g f hv hf
        exact ⟨g1, f1, l1⟩
      · exact ⟨g, few, rfl⟩
    · exact ⟨g, few, rfl⟩

def cutI (a : Int) : Int := max 0 (min a FV)
def sumI (a b : Int) : Int := if cutI a > FV - cutI b then FV else cutI a + cutI b
def hitB (r at_ : Int) (s : Slot) : Bool := s.r == r && (decide (s.f ≤ at_) && decide (at_ < s.t))
def extendT (T : Tb) (r c at_ by_ : Int) : Int × Tb :=
  if inT T.length c = true then
    match (rowT T c).find? (hitB r at_) with
    | none => (3, T)
    | some s => if freeB (rowT T c) r s.f (sumI s.t by_) = true then (0, T.set c.toNat (putL (rowT T c) r s.f (sumI s.t by_))) else (18, T)
  else (3, T)

theorem sum_le {a b : Int} : sumI a b ≤ FV := by
  unfold sumI cutI
  split
  · simp
  · simp only [FV] at *; omega
theorem sum_ge {a b : Int} (h1 : a ≤ FV) : a ≤ sumI a b := by
  unfold sumI cutI
  split
  · exact h1
  · simp only [FV] at *; omega

theorem find_mem {L : List Slot} {r a : Int} {s : Slot} (h : L.find? (hitB r a) = some s) : s ∈ L ∧ s.r = r ∧ s.f ≤ a ∧ a < s.t := by
  refine ⟨List.mem_of_find?_eq_some h, ?_⟩
  have := List.find?_some h
  unfold hitB at this
  simp at this
  exact this

theorem extend_inv {T : Tb} {r c a k : Int} {b : Nat} (g : GoodT T) (f : Few T b) : GoodT (extendT T r c a k).2 ∧ Few (extendT T r c a k).2 (b + 1) ∧ (extendT T r c a k).2.length = T.length := by
  have few : Few T (b + 1) := fun M hM => Nat.le_succ_of_le (f M hM)
  unfold extendT
  split
  · rename_i hc
    obtain ⟨c0, c1⟩ := inT_iff.1 hc
    split
    · exact ⟨g, few, rfl⟩
    · rename_i s hs
      obtain ⟨m1, m2, m3, m4⟩ := find_mem hs
      have ok := (rowT_good g c).ok s m1
      split
      · rename_i hf
        refine ⟨fun M hM => ?_, fun M hM => ?_, by rw [List.length_set]⟩
        · rcases mem_set hM with rfl | h
          · exact (put_spec (rowT_good g c) ok.1 (Int.lt_of_lt_of_le ok.2.1 (sum_ge ok.2.2.1)) sum_le (by rw [← m2]; exact ok.2.2.2) hf).1
          · exact g M h
        · rcases mem_set hM with rfl | h
          · exact Nat.le_trans put_len (Nat.succ_le_succ (rowT_few f _))
          · exact few M h
      · exact ⟨g, few, rfl⟩
  · exact ⟨g, few, rfl⟩

def cutT (p : Int → Bool) (u : Int) (T : Tb) : Tb := T.map (cutL p u)
theorem cutT_len {p : Int → Bool} {u : Int} {T : Tb} : (cutT p u T).length = T.length := by unfold cutT; rw [List.length_map]
theorem cutT_inv {p : Int → Bool} {u : Int} {T : Tb} {b : Nat} (g : GoodT T) (f : Few T b) : GoodT (cutT p u T) ∧ Few (cutT p u T) b := by
  refine ⟨fun M hM => ?_, fun M hM => ?_⟩
  · obtain ⟨L, hL, rfl⟩ := List.mem_map.1 hM
    exact (cut_spec (g L hL)).1
  · obtain ⟨L, hL, rfl⟩ := List.mem_map.1 hM
    exact Nat.le_trans cut_len (f L hL)
/-- Nobody below zero has anything. -/
theorem cut_neg {r u : Int} (hr : r < 0) : ∀ {L : List Slot}, Good L → cutL (fun x => x == r) u L = L := by
  intro L
  induction L with
  | nil => intro _; rfl
  | cons s L ih =>
    intro g
    have := (g.ok s (.head _)).2.2.2
    have e : cutS (fun x => x == r) u s = some s := by
      unfold cutS
      rw [if_neg]
      simp
      omega
    unfold cutL at *
    rw [List.filterMap_cons, e]
    simp only
    rw [ih g.tail]
theorem cutT_neg {r u : Int} (hr : r < 0) : ∀ {T : Tb}, GoodT T → cutT (fun x => x == r) u T = T := by
  intro T
  induction T with
  | nil => intro _; rfl
  | cons L T ih =>
    intro g
    unfold cutT at *
    rw [List.map_cons, cut_neg hr (g L (.head _)), ih fun M hM => g M (.tail _ hM)]

end Go.Proofs.Resv
