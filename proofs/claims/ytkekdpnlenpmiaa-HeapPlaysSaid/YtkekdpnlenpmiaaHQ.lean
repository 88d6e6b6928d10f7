/- The heap by what it will tell: a sorted list. -/
import Derived.Test.YtkekdpnlenpmiaaHP
set_option linter.unusedSimpArgs false
set_option linter.unusedVariables false
namespace Go.Proofs.Ytkekdpnlenpmiaa
open Go Go.HL

/-- Put in at its place. -/
def ins (x : It) : List It → List It
  | [] => [x]
  | y :: r => if x.lt y = true then x :: y :: r else y :: ins x r

theorem ins_perm (x : It) : ∀ Q : List It, (ins x Q).Perm (x :: Q)
  | [] => .refl _
  | y :: r => by
    unfold ins
    split
    · exact .refl _
    · exact ((ins_perm x r).cons y).trans (.swap x y r)

theorem ins_sorted {x : It} : ∀ {Q : List It}, Q.Pairwise It.le → (ins x Q).Pairwise It.le
  | [], _ => by simp [ins]
  | y :: r, h => by
    unfold ins
    rw [List.pairwise_cons] at h
    split
    · rename_i hlt
      rw [List.pairwise_cons, List.pairwise_cons]
      refine ⟨fun z hz => ?_, h⟩
      rcases List.mem_cons.1 hz with rfl | hz
      · exact le_of_lt hlt
      · exact (le_of_lt hlt).trans (h.1 z hz)
    · rename_i hge
      rw [List.pairwise_cons]
      refine ⟨fun z hz => ?_, ins_sorted h.2⟩
      have hz' := (ins_perm x r).mem_iff.1 hz
      rcases List.mem_cons.1 hz' with rfl | hz'
      · unfold It.le; simpa using hge
      · exact h.1 z hz'

/-- A heap that will tell Q; n were put in so far; its row lies in ob. -/
def HS (h : Hp) (hp : Nat) (Q : List It) (n : Int) (ob : Option Nat) : Prop :=
  ∃ L, HR h hp L n ob ∧ heapOk L ∧ L.Perm Q ∧ Q.Pairwise It.le ∧ (Q.map It.n).Nodup ∧ ∀ x ∈ Q, 0 ≤ x.n ∧ x.n < n

/-- What else lies there is as it was; the row's block is the old one, or new. -/
structure Fr (G h h' : Hp) (hp : Nat) (ob ob' : Option Nat) : Prop where
  same : ∀ y, y ≠ hp → ob' ≠ some y → h' y = h y
  new : ob' = ob ∨ ∃ b, ob' = some b ∧ h b = none ∧ G b = none

theorem HS.keep {h h' : Hp} {hp : Nat} {Q : List It} {n : Int} {ob : Option Nat} (a : HS h hp Q n ob) (e1 : h' hp = h hp) (e2 : ∀ b, ob = some b → h' b = h b) : HS h' hp Q n ob := by
  obtain ⟨L, h1, h2⟩ := a
  exact ⟨L, h1.keep e1 e2, h2⟩
theorem HS.new {h : Hp} {hp : Nat} {Q : List It} {n : Int} {ob : Option Nat} (a : HS h hp Q n ob) {x : Nat} {o : Obj} (hx : h x = none) : HS (h.set x o) hp Q n ob := by
  obtain ⟨L, h1, h2⟩ := a
  exact ⟨L, h1.new hx, h2⟩
theorem HS.at {h : Hp} {hp : Nat} {Q : List It} {n : Int} {ob : Option Nat} (a : HS h hp Q n ob) : ∃ o, h hp = some o := by
  obtain ⟨L, ⟨sl, h1, _⟩, _⟩ := a
  exact ⟨_, h1⟩
theorem HS.row {h : Hp} {hp : Nat} {Q : List It} {n : Int} {b : Nat} (a : HS h hp Q n (some b)) : ∃ o, h b = some o := by
  obtain ⟨L, ⟨sl, _, cap, t, _, h1, _⟩, _⟩ := a
  exact ⟨_, h1⟩
theorem HS.ne {h : Hp} {hp : Nat} {Q : List It} {n : Int} {b : Nat} (a : HS h hp Q n (some b)) : hp ≠ b := by
  obtain ⟨L, a, _⟩ := a
  obtain ⟨_, _, ha, _⟩ := a.HA
  exact ha.ne

theorem qnew_spec {G h : Hp} : HCalls Try.prog G 11 #[.func (.func 12) #[] #[]] h (fun v h' => ∃ x, v = .pointer (some ⟨x, 0, none⟩) ∧ h x = none ∧ G x = none ∧ HS h' x [] 0 none ∧ (∀ y, y ≠ x → h' y = h y)) := by
  refine new_spec.mono ?_
  rintro _ _ ⟨x, rfl, hx, gx, rfl⟩
  exact ⟨x, rfl, hx, gx, ⟨[], ⟨_, set_self, rfl, rfl⟩, fun j _ hj => by simp at hj, .refl _, .nil, by simp, by simp⟩, fun y hy => set_other hy⟩

theorem qlen_spec {G h : Hp} {hp : Nat} {Q : List It} {n : Int} {ob : Option Nat} (a : HS h hp Q n ob) : HCalls Try.prog G 16 #[.pointer (some ⟨hp, 0, none⟩)] h (fun v h' => v = .int .i64 Q.length ∧ h' = h) := by
  obtain ⟨L, h1, _, h2, _⟩ := a
  rw [← h2.length_eq]
  exact len_spec h1

theorem qpush_spec {G h : Hp} {hp : Nat} {Q : List It} {n : Int} {ob : Option Nat} (a : HS h hp Q n ob) (hL : Q.length ≤ 100000) (hn0 : 0 ≤ n) (hn : n ≤ 100000) {k m : Int} :
    HCalls Try.prog G 13 #[.pointer (some ⟨hp, 0, none⟩), .agg #[.int .i64 k, .int .i64 m]] h (fun v h' => ∃ b, HS h' hp (ins ⟨k, m, n⟩ Q) (n + 1) (some b) ∧ Fr G h h' hp ob (some b)) := by
  obtain ⟨L, h1, h2, h3, h4, h5, h6⟩ := a
  obtain ⟨o, ho⟩ : ∃ o, h hp = some o := by obtain ⟨sl, e, _⟩ := h1; exact ⟨_, e⟩
  refine (push_spec h1 (by rw [h3.length_eq]; exact hL) hn0 hn).mono ?_
  rintro v h' ⟨b, cap, ts, hb, hlen, rfl⟩
  have hne : hp ≠ b := by
    rcases hb with rfl | ⟨hb, _⟩
    · obtain ⟨_, _, ha, _⟩ := h1.HA; exact ha.ne
    · exact ne_of_new ho hb
  obtain ⟨p1, p2⟩ := push_ok (x := ⟨k, m, n⟩) h2
  refine ⟨b, ⟨_, ⟨_, by rw [set_other hne, set_self], cap, ts, by rw [siftUp_length, List.length_append]; rfl, set_self, hlen⟩, p1, p2.trans ((h3.cons _).trans (ins_perm _ _).symm), ins_sorted h4, ?_, ?_⟩, ⟨fun y y1 y2 => ?_, ?_⟩⟩
  · have := ((ins_perm ⟨k, m, n⟩ Q).map It.n).nodup_iff
    rw [this, List.map_cons, List.nodup_cons]
    refine ⟨fun hmem => ?_, h5⟩
    obtain ⟨x, hx, e⟩ := List.mem_map.1 hmem
    have := (h6 x hx).2
    simp only at e
    omega
  · intro x hx
    rcases List.mem_cons.1 ((ins_perm _ _).mem_iff.1 hx) with rfl | hx
    · exact ⟨hn0, by simp only; omega⟩
    · have := h6 x hx; omega
  · rw [set_other (fun e => y2 (by rw [e])), set_other y1]
  · rcases hb with rfl | hb
    · exact .inl rfl
    · exact .inr ⟨b, rfl, hb⟩

theorem same_first {L : List It} {x y : It} {R : List It} (hp : (y :: L).Perm (x :: R)) (hs : (x :: R).Pairwise It.le) (hd : ((x :: R).map It.n).Nodup) (hy : ∀ z ∈ L, y.le z) : y = x := by
  have h1 : y.le x := by
    rcases List.mem_cons.1 (hp.mem_iff.2 (.head _ : x ∈ x :: R)) with rfl | h
    · exact .refl _
    · exact hy x h
  have h2 : x.le y := by
    rcases List.mem_cons.1 (hp.mem_iff.1 (.head _ : y ∈ y :: L)) with rfl | h
    · exact .refl _
    · exact (List.pairwise_cons.1 hs).1 y h
  have hn : x.n = y.n := by rw [le_iff] at h1 h2; omega
  rcases List.mem_cons.1 (hp.mem_iff.1 (.head _ : y ∈ y :: L)) with rfl | h
  · rfl
  · exfalso
    rw [List.map_cons, List.nodup_cons] at hd
    exact hd.1 (List.mem_map.2 ⟨y, h, hn.symm⟩)

theorem qpeek_spec {G h : Hp} {hp : Nat} {Q : List It} {n : Int} {ob : Option Nat} (a : HS h hp Q n ob) : HCalls Try.prog G 25 #[.pointer (some ⟨hp, 0, none⟩)] h (fun v h' => v = pkV Q ∧ h' = h) := by
  obtain ⟨L, h1, h2, h3, h4, h5, h6⟩ := a
  refine (peek_spec h1).mono ?_
  rintro _ _ ⟨rfl, rfl⟩
  refine ⟨?_, rfl⟩
  cases Q with
  | nil => rw [List.perm_nil.1 h3]
  | cons x R =>
    cases L with
    | nil => exact absurd h3.length_eq (by simp)
    | cons y L =>
      obtain rfl := same_first h3 h4 h5 (pop_ok h2).2.2
      rfl

theorem qpop_spec {G h : Hp} {hp : Nat} {Q : List It} {n : Int} {ob : Option Nat} (a : HS h hp Q n ob) (hL : Q.length ≤ 100000) : HCalls Try.prog G 15 #[.pointer (some ⟨hp, 0, none⟩)] h (fun v h' => v = pkV Q ∧ HS h' hp Q.tail n ob ∧ Fr G h h' hp ob ob) := by
  have aa := a
  obtain ⟨L, h1, h2, h3, h4, h5, h6⟩ := a
  cases Q with
  | nil =>
    obtain rfl := List.perm_nil.1 h3
    refine (pop_nil h1).mono ?_
    rintro _ _ ⟨rfl, rfl⟩
    exact ⟨rfl, aa, fun _ _ _ => rfl, .inl rfl⟩
  | cons x R =>
    cases L with
    | nil => exact absurd h3.length_eq (by simp)
    | cons y L =>
      obtain ⟨p1, p2, p3⟩ := pop_ok h2
      obtain rfl := same_first h3 h4 h5 p3
      cases ob with
      | none => obtain ⟨_, _, _, e⟩ := h1; cases e
      | some b =>
        obtain ⟨cap, t, ha, hlen⟩ := h1.HA
        have hl := h3.length_eq
        simp only [List.length_cons] at hl hL
        refine (pop_cons ha hlen (by omega)).mono ?_
        rintro _ _ ⟨rfl, ts, hts, rfl⟩
        have hpl := popL_length (y :: L)
        simp only [List.length_cons, Nat.add_sub_cancel] at hpl
        rw [List.pairwise_cons] at h4
        rw [List.map_cons, List.nodup_cons] at h5
        refine ⟨rfl, ⟨popL (y :: L), ⟨_, by rw [set_other ha.ne, set_self], cap, ts, by rw [hpl], set_self, hts⟩, p1, (p2.symm.trans h3).cons_inv, h4.2, h5.2, fun z hz => h6 z (.tail _ hz)⟩, ⟨fun z z1 z2 => ?_, .inl rfl⟩⟩
        rw [set_other (fun e => z2 (by rw [e])), set_other z1]

end Go.Proofs.Ytkekdpnlenpmiaa
