/- The layer of step rules over owned blocks. -/
import Derived.Test.YtnpdploihlgcgaaDoorH3
import Derived.Test.YtnpdploihlgcgaaDoorH2
/- copy into a row of one's own at any place; append of a row that is made; the pieces of a row. -/
set_option linter.unusedVariables false
set_option linter.unusedSimpArgs false
namespace Go.HL
open Go
theorem gd_un {w : Bool} {X : (Value → Hp → Prop) → Prop} {h : Hp} {K : Value → Hp → Prop} : gd (wantB undef w) X h K = K undef h := by cases w <;> rfl
theorem boxed {G h h1 : Hp} {x : Nat} {o : Obj} (e : h.set x o = h1) (hx : h x = none) (d : Dis G h) (gx : G x = none) : h.le h1 ∧ Dis G h1 ∧ h1 x = some o := by
  subst e
  exact ⟨le_set hx, d.set gx, set_self⟩
theorem setR1 {n d : Nat} {v : Value} {r : Rg} (hd : d < n) : setR n #[d] #[v] r = upd r d v := by
  unfold setR
  simp [putR, hd]
section
variable {P : Program} {G : Hp} {α : Type}

end
end Go.HL

/- Yields: what an iterator tells, to any yield. -/
set_option linter.unusedVariables false
namespace Go.HL
open Go

/-- A yield: Y between two calls, Z behind the one that stopped; c: does it go on? Any piece that it does not own stays. -/
def Yl {α : Type} (P : Program) (enc : α → Array Value) (G : Hp) (y : Value) (Y Z : List α → Hp → Prop) (c : List α → Bool) : Prop :=
  ∀ (L : List α) (m : α) (a q h : Hp), Y L a → Sep [a, q] h → Dis G h →
    opH P G (xCallV y (enc m)) h (fun v h' => ∃ a', v = .bool (c (L ++ [m])) ∧ Sep [a', q] h' ∧ Dis G h' ∧ (if c (L ++ [m]) = true then Y (L ++ [m]) a' else Z (L ++ [m]) a'))

/-- What is told of M behind L. -/
def feed {α : Type} (c : List α → Bool) : List α → List α → List α × Bool
  | L, [] => (L, true)
  | L, m :: M => if c (L ++ [m]) = true then feed c (L ++ [m]) M else (L ++ [m], false)
theorem feed_t {α : Type} {c : List α → Bool} {L M : List α} {m : α} (h : c (L ++ [m]) = true) : feed c L (m :: M) = feed c (L ++ [m]) M := by rw [feed, if_pos h]
theorem feed_f {α : Type} {c : List α → Bool} {L M : List α} {m : α} (h : c (L ++ [m]) = false) : feed c L (m :: M) = (L ++ [m], false) := by rw [feed, if_neg (by simp [h])]
theorem feed_app {α : Type} {c : List α → Bool} : ∀ {M N L : List α}, feed c L (M ++ N) = if (feed c L M).2 = true then feed c (feed c L M).1 N else feed c L M
  | [], N, L => by simp [feed]
  | m :: M, N, L => by
    rw [List.cons_append]
    cases h : c (L ++ [m]) with
    | true => rw [feed_t h, feed_t h, feed_app]
    | false => rw [feed_f h, feed_f h]; simp
/-- The yield that goes on while fewer than k were told. -/
def lessC {α : Type} (k : Int) (L : List α) : Bool := decide ((L.length : Int) < k)
theorem feed_less {α : Type} {k : Int} : ∀ {M L : List α}, (L.length : Int) < k → feed (lessC k) L M = (L ++ M.take (k.toNat - L.length), decide (((L ++ M).length : Int) < k))
  | [], L, h => by simp [feed, h]
  | m :: M, L, h => by
    have e1 : k.toNat - L.length = (k.toNat - (L ++ [m]).length) + 1 := by rw [List.length_append, List.length_singleton]; omega
    by_cases h2 : ((L ++ [m]).length : Int) < k
    · rw [feed_t (by unfold lessC; exact decide_eq_true h2), feed_less h2, e1, List.take_succ_cons]
      simp
    · rw [feed_f (by unfold lessC; exact decide_eq_false h2)]
      rw [List.length_append, List.length_singleton] at h2
      have e2 : k.toNat - (L ++ [m]).length = 0 := by rw [List.length_append, List.length_singleton]; omega
      rw [e1, e2]
      simp only [List.take_succ_cons, List.take_zero, List.length_append, List.length_cons, Prod.mk.injEq, true_and]
      symm
      apply decide_eq_false
      omega

def Fin {α : Type} (T : List α × Bool) (Y Z : List α → Hp → Prop) (a : Hp) : Prop := if T.2 = true then Y T.1 a else Z T.1 a

/-- Behind the telling: the yield's own piece, and the others. -/
def ToldR {α : Type} (G q : Hp) (Y Z : List α → Hp → Prop) (T : List α × Bool) (h' : Hp) : Prop := ∃ a', Sep [a', q] h' ∧ Dis G h' ∧ Fin T Y Z a'
theorem ToldR.go {α : Type} {G q a h' : Hp} {Y Z : List α → Hp → Prop} {T : List α × Bool} {L : List α} {c : List α → Bool} (s : Sep [a, q] h') (d : Dis G h') (y : Y L a) (e : feed c L [] = T) : ToldR G q Y Z T h' := by
  subst e
  exact ⟨a, s, d, by unfold Fin; rw [feed]; exact y⟩
theorem ToldR.no {α : Type} {G q a h' : Hp} {Y Z : List α → Hp → Prop} {T : List α × Bool} {L M : List α} {m : α} {c : List α → Bool} (s : Sep [a, q] h') (d : Dis G h') (z : Z (L ++ [m]) a) (hc : c (L ++ [m]) = false) (e : feed c L (m :: M) = T) : ToldR G q Y Z T h' := by
  subst e
  exact ⟨a, s, d, by unfold Fin; rw [feed_f hc]; simpa using z⟩

/-- What a gathering yield owns: the row so far, its box, the box of how many at most. -/
def GY {α : Type} (c : Cod α) (e T : TypeId) (most : Int) (lb mb : Nat) (L : List α) (a : Hp) : Prop := ∃ ip v, Slc c e ip v L ∧ Sep [ip, noHp.set lb (.cells #[v] T (0, 0)), noHp.set mb (.cells #[.int .i64 most] 3 (0, 0))] a
def GYb {α : Type} (c : Cod α) (e T : TypeId) (most : Int) (lb mb : Nat) (L : List α) (a : Hp) : Prop := GY c e T most lb mb L a ∧ (L.length : Int) < most

end Go.HL

/- Maps whose keys are structs. -/
set_option linter.unusedVariables false
set_option linter.unusedSimpArgs false
set_option linter.unusedSectionVars false
namespace Go.HL
open Go
section
variable {P : Program} {G : Hp} {κ : Type} [BEq κ] [LawfulBEq κ]

def kidx (L : List (κ × Value)) (k : κ) : Option Nat := L.findIdx? fun p => p.1 == k
def KMap (ke : κ → Value) (o : Obj) (L : List (κ × Value)) : Prop := ∃ es clock, o = .map es clock ∧ es.toList.map (fun e => (e.key, e.val)) = L.map (fun p => (ke p.1, p.2)) ∧ (es.toList.map (·.born)).Nodup ∧ ∀ b ∈ es.toList.map (·.born), b < clock
section
variable {T kt et : TypeId} {ke : κ → Value} {z : Value} {b : Nat} {o : Obj} {L : List (κ × Value)} {h : Hp} {k : κ}

end
end
end Go.HL

/- An entry of a map that is made or found, and stored by its stamp; pieces chosen by their places. -/
set_option linter.unusedVariables false
set_option linter.unusedSimpArgs false
set_option linter.unusedSectionVars false
namespace Go.HL
open Go

/-- Pieces by their places. -/
theorem Sep.sel {L L' : List Hp} {h : Hp} (s : Sep L h) (is : List Nat) (nd : is.Nodup) (e : is.filterMap (fun i => L[i]?) = L') : Sep L' h := by
  subst e
  refine ⟨fun a ha => ?_, ?_⟩
  · obtain ⟨i, _, hi⟩ := List.mem_filterMap.1 ha
    exact s.1 a (List.mem_of_getElem? hi)
  · have key : ∀ (i j : Nat) (a b : Hp), i ≠ j → L[i]? = some a → L[j]? = some b → Apart a b := by
      intro i j a b hij ha hb
      obtain ⟨hi, rfl⟩ := List.getElem?_eq_some_iff.1 ha
      obtain ⟨hj, rfl⟩ := List.getElem?_eq_some_iff.1 hb
      rcases Nat.lt_or_gt_of_ne hij with h1 | h1
      · exact List.pairwise_iff_getElem.1 s.2 i j hi hj h1
      · exact (List.pairwise_iff_getElem.1 s.2 j i hj hi h1).symm
    clear s
    induction is with
    | nil => exact List.Pairwise.nil
    | cons i is ih =>
      rw [List.nodup_cons] at nd
      rw [List.filterMap_cons]
      cases ha : L[i]? with
      | none => exact ih nd.2
      | some a =>
        refine List.Pairwise.cons (fun b hb => ?_) (ih nd.2)
        obtain ⟨j, hj, hbj⟩ := List.mem_filterMap.1 hb
        exact key i j a b (fun e => nd.1 (e ▸ hj)) ha hbj

section
variable {P : Program} {G : Hp} {κ : Type} [BEq κ] [LawfulBEq κ]
variable {T kt et : TypeId} {ke : κ → Value} {z : Value} {b : Nat} {o : Obj} {L : List (κ × Value)} {h : Hp} {k : κ}

/-- A map, and the stamp of a key's entry. -/
def KEntry (ke : κ → Value) (o : Obj) (L : List (κ × Value)) (k : κ) (st : Nat) : Prop := ∃ es clock, o = .map es clock ∧ es.toList.map (fun e => (e.key, e.val)) = L.map (fun p => (ke p.1, p.2)) ∧ (es.toList.map (·.born)).Nodup ∧ (∀ b ∈ es.toList.map (·.born), b < clock) ∧
  ∃ (i : Nat) (e : MapEntry), es[i]? = some e ∧ e.born = st ∧ kidx L k = some i
theorem KEntry.map {st : Nat} (m : KEntry ke o L k st) : KMap ke o L := by
  obtain ⟨es, clock, rfl, h1, h2, h3, _⟩ := m
  exact ⟨es, clock, rfl, h1, h2, h3⟩

end
end Go.HL
