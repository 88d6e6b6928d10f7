/- From the walk in the order of the text to whatever order is drawn, and to the world. -/
import Derived.Test.YtkekdpnlenpmiaaHLc
namespace Go.HL
open Go

section
variable {P : Program} {G : Hp} {n : Nat} {all : Bool} {ops : Array Oper} {B : Array Nat} {h0 : Hp}

theorem dOp_monoS {i : Nat} {r : Rg} {h : Hp} {K K' : Rg → Hp → Prop} (hs : Sat G h) (hk : ∀ r h, Sat G h → K r h → K' r h) (H : dOp P G n all ops B h0 i K r h) :
    dOp P G n all ops B h0 i K' r h := by
  unfold dOp at *
  split
  · rename_i e; simp only [e] at H; exact hk _ _ hs H
  · rename_i o e
    simp only [e] at H
    split
    · rename_i e2; rw [if_pos e2] at H; exact stepD_mono (fun v h H s => hk _ _ s (H s)) H
    · rename_i e2; rw [if_neg e2] at H; exact hk _ _ hs H

/-- There is a state behind an operation. -/
theorem dOp_some {i : Nat} {r : Rg} {h : Hp} {K : Rg → Hp → Prop} (hs : Sat G h) (H : dOp P G n all ops B h0 i K r h) : ∃ r' h', Sat G h' ∧ K r' h' := by
  unfold dOp at H
  split at H
  · exact ⟨_, _, hs, H⟩
  · split at H
    · unfold stepS stepD at H
      split at H
      · obtain ⟨v, _, H⟩ := H; exact ⟨_, _, hs, H hs⟩
      · obtain ⟨v, _, H⟩ := H; exact ⟨_, _, hs, H hs⟩
      · obtain ⟨v, _, H⟩ := H; exact ⟨_, _, hs, H hs⟩
      · obtain ⟨w, hw⟩ := hs
        split at H
        · obtain ⟨v, h1, w1, m1, _, k1⟩ := opH_some hw H
          exact ⟨_, _, ⟨w1, m1.keeps hw⟩, k1 ⟨w1, m1.keeps hw⟩⟩
        · obtain ⟨v, h1, w1, m1, k1⟩ := opH_some hw H
          exact ⟨_, _, ⟨w1, m1.keeps hw⟩, k1 ⟨w1, m1.keeps hw⟩⟩
    · exact ⟨_, _, hs, H⟩

/-- What has come up has all come up that it waits for. -/
def Down (ops : Array Oper) (listed : Array Bool) : Prop := ∀ j o, ops[j]? = some o → listed.getD j false = true → ∀ e ∈ o.after, Region.binds .any e = true → listed.getD e.on false = true

theorem getD_false_of {listed : Array Bool} {j : Nat} (h : listed.getD j true = false) : listed.getD j false = false := by
  by_cases hj : j < listed.size
  · simp [hj] at h ⊢; exact h
  · simp [hj] at h

theorem Down.take {listed : Array Bool} (d : Down ops listed) {j : Nat} (hj : j ∈ Region.ready .any ops listed) : Down ops (listed.setIfInBounds j true) := by
  intro k o hk hl e he hb
  by_cases hkj : j = k
  · subst hkj
    obtain ⟨_, o', ho', hall⟩ := mem_ready.1 hj
    rw [hk] at ho'
    cases ho'
    exact getD_set_true (hall e he hb)
  · rw [getD_set_ne false hkj] at hl
    exact getD_set_true (d k o hk hl e he hb)

theorem fold_bit (B : Array Nat) (l : List Edge) : ∀ (s i : Nat), (l.foldl (fun s e => if Region.binds .any e then s ||| 2 ^ e.on ||| B.getD e.on 0 else s) s).testBit i = true →
    s.testBit i = true ∨ ∃ e ∈ l, Region.binds .any e = true ∧ (e.on = i ∨ bit B e.on i = true) := by
  induction l with
  | nil => intro s i h; exact .inl h
  | cons e l ih =>
    intro s i h
    rw [List.foldl_cons] at h
    rcases ih _ _ h with h1 | ⟨e', he', hb, h2⟩
    · split at h1
      · rename_i hb
        simp only [Nat.testBit_or, Bool.or_eq_true] at h1
        rcases h1 with (h1 | h1) | h1
        · exact .inl h1
        · rw [Nat.testBit_two_pow] at h1
          exact .inr ⟨e, .head _, hb, .inl (by simpa using h1)⟩
        · exact .inr ⟨e, .head _, hb, .inr h1⟩
      · exact .inl h1
    · exact .inr ⟨e', .tail _ he', hb, h2⟩

theorem bitsOk_spec (h : bitsOk ops B = true) {j : Nat} {o : Oper} (hj : ops[j]? = some o) :
    (∀ e ∈ o.after, Region.binds .any e = true → e.on < j) ∧ ∀ i, bit B j i = true → ∃ e ∈ o.after, Region.binds .any e = true ∧ (e.on = i ∨ bit B e.on i = true) := by
  unfold bitsOk at h
  rw [Array.all_eq_true_iff_forall_mem] at h
  have hmem : (o, j) ∈ ops.zipIdx := by
    rw [Array.mem_zipIdx_iff_getElem?]
    simpa using hj
  have h1 := h _ hmem
  simp only [Bool.and_eq_true, beq_iff_eq] at h1
  obtain ⟨h1, h2⟩ := h1
  constructor
  · intro e he hb
    have := Array.all_eq_true_iff_forall_mem.1 h1 e he
    simpa [hb] using this
  · intro i hi
    have h3 : (o.after.foldl (fun s e => if Region.binds .any e then s ||| 2 ^ e.on ||| B.getD e.on 0 else s) 0).testBit i = true := by
      rw [← h2, Nat.testBit_or]
      unfold bit at hi
      rw [hi]; rfl
    rw [← Array.foldl_toList] at h3
    rcases fold_bit B _ _ _ h3 with h4 | ⟨e, he, hb, h4⟩
    · simp at h4
    · exact ⟨e, by simpa using he, hb, h4⟩

theorem listed_of_bit (hB : bitsOk ops B = true) {listed : Array Bool} (d : Down ops listed) : ∀ (j : Nat) (i : Nat) (o : Oper), ops[j]? = some o →
    (∀ e ∈ o.after, Region.binds .any e = true → listed.getD e.on false = true) → bit B j i = true → listed.getD i false = true := by
  intro j
  induction j using Nat.strongRecOn with
  | _ j ih =>
    intro i o hj hall hb
    obtain ⟨h1, h2⟩ := bitsOk_spec hB hj
    obtain ⟨e, he, hbe, h3⟩ := h2 i hb
    rcases h3 with rfl | h3
    · exact hall e he hbe
    · have hl := hall e he hbe
      cases ho : ops[e.on]? with
      | none =>
        unfold bit at h3
        exfalso
        have hlt := h1 e he hbe
        have := (Array.getElem?_eq_some_iff.1 hj).1
        have := Array.getElem?_eq_none_iff.1 ho
        omega
      | some oe => exact ih e.on (h1 e he hbe) i oe ho (fun e' he' hb' => d e.on oe ho hl e' he' hb') h3

theorem regionOk_pair (h : regionOk all ops B = true) {i j : Nat} {oi oj : Oper} (hi : ops[i]? = some oi) (hj : ops[j]? = some oj) (hlt : i < j) :
    bit B j i = true ∨ (mayPair (kindAt all ops B i) (kindAt all ops B j) = true ∧ oi.apart ops oj = true) := by
  simp only [regionOk, Bool.and_eq_true, List.all_eq_true, List.mem_range] at h
  have := h.2 j (Array.getElem?_eq_some_iff.1 hj).1 i hlt
  simpa [hi, hj] using this

theorem regionOk_bits (h : regionOk all ops B = true) : bitsOk ops B = true := by
  simp only [regionOk, Bool.and_eq_true] at h; exact h.1.1

theorem regionOk_select (h : regionOk all ops B = true) : Region.noSelect ops = true := by
  simp only [regionOk, Bool.and_eq_true] at h; exact h.1.2

theorem anyD_first (hok : regionOk all ops B = true) (hs0 : Sat G h0) {K : Rg → Hp → Prop} {i : Nat} {oi : Oper} (hi : ops[i]? = some oi) :
    ∀ (fuel : Nat) (listed : Array Bool) (r : Rg) (h : Hp), Sat G h → Down ops listed →
      (∀ j oj, ops[j]? = some oj → j ≠ i → listed.getD j true = false → bit B j i = true ∨ (mayPair (kindAt all ops B i) (kindAt all ops B j) = true ∧ oi.apart ops oj = true)) →
      i ∈ Region.ready .any ops listed → dOp P G n all ops B h0 i (anyD P G n all ops B h0 K fuel (listed.setIfInBounds i true)) r h → anyD P G n all ops B h0 K (fuel + 1) listed r h := by
  have hB := regionOk_bits hok
  have hsel := Region.noSelect_spec (regionOk_select hok)
  intro fuel
  induction fuel with
  | zero =>
    intro listed r h hs d hfree hr H
    refine ⟨fun h => (by rw [h] at hr; cases hr), fun j hj => ?_⟩
    by_cases hji : j = i
    · subst hji; exact H
    · obtain ⟨r', h', _, k⟩ := dOp_some hs H
      have := ready_mono hj hji
      rw [k.1] at this
      cases this
  | succ fuel ih =>
    intro listed r h hs d hfree hr H
    refine ⟨fun h => (by rw [h] at hr; cases hr), fun j hj => ?_⟩
    by_cases hji : j = i
    · subst hji; exact H
    · obtain ⟨hjun, oj, hoj, hall⟩ := mem_ready.1 hj
      have hnb : bit B j i = false := by
        cases hb : bit B j i with
        | false => rfl
        | true =>
          have h1 := listed_of_bit hB d j i oj hoj hall hb
          have h2 := getD_false_of (mem_ready.1 hr).1
          rw [h1] at h2; cases h2
      have hpair := (hfree j oj hoj hji hjun).resolve_left (by rw [hnb]; simp)
      have H1 : dOp P G n all ops B h0 i (dOp P G n all ops B h0 j (anyD P G n all ops B h0 K fuel ((listed.setIfInBounds i true).setIfInBounds j true))) r h :=
        dOp_mono (fun r' h' k => k.2 j (ready_mono hj hji)) H
      have H2 := swapD hi hoj (fun cs b => hsel i oi cs b hi) (fun cs b => hsel j oj cs b hoj) hpair.1 hpair.2 hs hs0 H1
      refine dOp_monoS hs (fun r' h' hs' k => ih (listed.setIfInBounds j true) r' h' hs' (d.take hj) ?_ (ready_mono hr (Ne.symm hji)) ?_) H2
      · intro k ok hk hki hun
        refine hfree k ok hk hki ?_
        by_cases hjk : j = k
        · subst hjk; exact hjun
        · rw [getD_set_ne true hjk] at hun; exact hun
      · rw [Array.setIfInBounds_comm _ _ hji]; exact k

theorem lex_any (hok : regionOk all ops B = true) (hs0 : Sat G h0) {K : Rg → Hp → Prop} : ∀ (l : List Oper) (k : Nat) (listed : Array Bool) (r : Rg) (h : Hp), (∀ j, l[j]? = ops[k + j]?) → k + l.length = ops.size →
    listed.size = ops.size → (∀ j, j < ops.size → listed.getD j false = decide (j < k)) → Sat G h →
    lexD P G n all ops B h0 k l r h K → anyD P G n all ops B h0 K l.length listed r h
  | [], k, listed, r, h, _, hk, hsz, hlist, _, H => by
    refine ⟨?_, H⟩
    rw [List.eq_nil_iff_forall_not_mem]
    intro j hj
    obtain ⟨hjun, oj, hoj, _⟩ := mem_ready.1 hj
    have hlt := (Array.getElem?_eq_some_iff.1 hoj).1
    have h1 := hlist j hlt
    rw [getD_false_of hjun] at h1
    simp at h1 hk
    omega
  | o :: rest, k, listed, r, h, hl, hk, hsz, hlist, hs, H => by
    have hB := regionOk_bits hok
    have h0' : ops[k]? = some o := by simpa using (hl 0).symm
    have hlt := (Array.getElem?_eq_some_iff.1 h0').1
    have hl' : ∀ j, rest[j]? = ops[k + 1 + j]? := fun j => by have := hl (j + 1); simpa [Nat.add_assoc, Nat.add_comm 1 j] using this
    have hlist' : ∀ j, j < ops.size → (listed.setIfInBounds k true).getD j false = decide (j < k + 1) := fun j hj => by
      by_cases hjk : k = j
      · subst hjk; simp [hsz, hj]
      · rw [getD_set_ne false hjk, hlist j hj]
        simp only [decide_eq_decide]
        omega
    have hlk : listed.getD k true = false := by
      have := hlist k hlt
      simp only [Array.getD_eq_getD_getElem?] at this ⊢
      rw [Array.getElem?_eq_getElem (by omega)] at this ⊢
      simpa using this
    have hready : k ∈ Region.ready .any ops listed := mem_ready.2 ⟨hlk, o, h0', fun e he hb => by
      have := (bitsOk_spec hB h0').1 e he hb
      rw [hlist e.on (by omega)]; simpa using this⟩
    have hdown : Down ops listed := fun j oj hj hlj e he hb => by
      have hjlt := (Array.getElem?_eq_some_iff.1 hj).1
      rw [hlist j hjlt] at hlj
      have := (bitsOk_spec hB hj).1 e he hb
      simp at hlj
      rw [hlist e.on (by omega)]; simp; omega
    refine anyD_first hok hs0 h0' rest.length listed r h hs hdown ?_ hready ?_
    · intro j oj hj hjk hun
      have hjlt := (Array.getElem?_eq_some_iff.1 hj).1
      have h1 := hlist j hjlt
      rw [getD_false_of hun] at h1
      simp at h1
      exact regionOk_pair hok h0' hj (by omega)
    · unfold dOp
      simp only [h0']
      unfold lexD at H
      split
      · rename_i hw
        rw [if_pos hw] at H
        exact stepD_mono (fun v h' k' s => lex_any hok hs0 rest (k + 1) _ _ h' hl' (by simp at hk; omega) (by simp [hsz]) hlist' s k') H
      · rename_i hw
        rw [if_neg hw] at H
        exact lex_any hok hs0 rest (k + 1) _ _ h hl' (by simp at hk; omega) (by simp [hsz]) hlist' hs H

end
end Go.HL
