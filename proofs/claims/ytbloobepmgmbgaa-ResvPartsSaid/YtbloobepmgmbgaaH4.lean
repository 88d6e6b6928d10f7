/- The layer of step rules over owned blocks. -/
import Derived.Test.YtbloobepmgmbgaaH3
/- copy into a row of one's own at any place; append of a row that is made; the pieces of a row. -/
set_option linter.unusedVariables false
set_option linter.unusedSimpArgs false
namespace Go.HL
open Go
theorem boxed {G h h1 : Hp} {x : Nat} {o : Obj} (e : h.set x o = h1) (hx : h x = none) (d : Dis G h) (gx : G x = none) : h.le h1 ∧ Dis G h1 ∧ h1 x = some o := by
  subst e
  exact ⟨le_set hx, d.set gx, set_self⟩
theorem set_is {h h1 : Hp} {b : Nat} {o : Obj} (e : h.set b o = h1) : h1 b = some o := by rw [← e]; exact set_self
theorem set_is_ne {h h1 : Hp} {b c : Nat} {o : Obj} (e : h.set b o = h1) (hc : c ≠ b) : h1 c = h c := by rw [← e]; exact set_other hc
theorem sep_pack2 {x y h : Hp} {R : List Hp} (s : Sep (x :: y :: R) h) : ∃ b, Sep (b :: R) h ∧ Sep [x, y] b := by
  obtain ⟨s1, ap⟩ := s.join
  exact ⟨_, s1, ⟨fun a ha => by
    simp only [List.mem_cons, List.not_mem_nil, or_false] at ha
    rcases ha with rfl | rfl
    · exact Hp.le_join
    · exact Hp.le_join2 ap, by simp [ap]⟩⟩
theorem sep_pack3 {x y z h : Hp} {R : List Hp} (s : Sep (x :: y :: z :: R) h) : ∃ b, Sep (b :: R) h ∧ Sep [x, y, z] b := by
  have s1 : Sep (y :: z :: x :: R) h := s.rot.rot
  obtain ⟨s2, a2⟩ := s1.join
  obtain ⟨s3, a3⟩ := s2.swap.join
  refine ⟨_, s3, fun a ha => ?_, (List.pairwise_append (l₁ := [x, y, z]) (l₂ := R)).1 s.2 |>.1⟩
  simp only [List.mem_cons, List.not_mem_nil, or_false] at ha
  rcases ha with rfl | rfl | rfl
  · exact Hp.le_join
  · exact Hp.le_join.trans (Hp.le_join2 a3)
  · exact (Hp.le_join2 a2).trans (Hp.le_join2 a3)
section
variable {P : Program} {G : Hp} {α : Type}

theorem slice_from0 {T e : TypeId} {n : Nat} (hu : P.underlying T = some (.slice e)) (hs : (P.info? e).map (·.size) = some n) {h : Hp} {K : Value → Hp → Prop} :
    wpH P G (Instr.sliceAt T (.slice none 0 0) (some (.int .i64 0)) none none) h K = K (.slice none 0 0) h := by
  cases hi : P.info? e with
  | none => rw [hi] at hs; cases hs
  | some x =>
    rw [hi] at hs; simp at hs; subst hs
    simp [Instr.sliceAt, Instr.slice, Instr.sliceBounds, Instr.sliceBound, asIntOf, underlying, program, bind, Sem.bind, pure, wpH, wpH_bind, hu, sizeOf, typeInfo, hi]

/-- copy to a place of a row of one's own. -/
theorem copy_at (c : Cod α) (hn : 0 < c.n) {T e : TypeId} {bytes : Nat} (hu : P.underlying T = some (.slice e)) (k : ElemOk P e c.n bytes) {ty : TypeId} {h : Hp} {b off nd cap : Nat} {e' : TypeId} {x : Value} {l : List Value} {M : List α}
    (hb : h b = some (.cells l.toArray e' (0, 0))) (s : Src G h c.n x M.length (c.rows M)) (hle : M.length ≤ nd) (hfit : off + M.length * c.n ≤ l.length) {K : Value → Hp → Prop} :
    wpH P G (Builtin.copy_ #[T, T] ty #[.slice (some ⟨b, off, none⟩) nd cap, x]) h K = K (.int .i64 M.length) (h.set b (.cells (l.take off ++ c.rows M ++ l.drop (off + M.length * c.n)).toArray e' (0, 0))) := by
  obtain ⟨i, z, hi, hsz, rfl, hz, hzc⟩ := k.get
  have hb' : ∀ (α β : Type) (s : Sem α) (g : α → Sem β), (s >>= g) = s.bind g := fun _ _ _ _ => rfl
  have hs : i.size = c.n := hsz
  simp only [Builtin.copy_, hb', underlying, program, sizeOf, typeInfo, Sem.bind, pure]
  simp only [wpH, wpH_bind, hu, hi, List.getElem?_toArray, List.getElem?_cons_zero, List.getElem?_cons_succ, lenOf_src s, hs]
  rw [show Nat.min M.length nd = M.length from Nat.min_eq_left hle, firstCells_src s]
  rw [storeCells_eq (i := off) (k := 0) (c.rows M).toArray.toList hb (by simp [c.rows_length]; omega) (by simpa using c.rows_one M)]
  rw [putL_eq _ _ _ (by simp [c.rows_length]; omega)]
  simp [c.rows_length, goInt]

/-- The same, of a longer slice's first ones. -/
theorem copy_part (c : Cod α) (hn : 0 < c.n) {T e : TypeId} {bytes : Nat} (hu : P.underlying T = some (.slice e)) (k : ElemOk P e c.n bytes) {ty : TypeId} {h : Hp} {b off nd cap q oq m cx : Nat} {e' : TypeId} {l : List Value} {M : List α}
    (hb : h b = some (.cells l.toArray e' (0, 0))) (hm : Nat.min m nd = M.length) (s : ∀ j, j < (c.rows M).length → cellIn G h ⟨q, oq + j, none⟩ = (c.rows M)[j]?) (hfit : off + M.length * c.n ≤ l.length) {K : Value → Hp → Prop} :
    wpH P G (Builtin.copy_ #[T, T] ty #[.slice (some ⟨b, off, none⟩) nd cap, .slice (some ⟨q, oq, none⟩) m cx]) h K = K (.int .i64 M.length) (h.set b (.cells (l.take off ++ c.rows M ++ l.drop (off + M.length * c.n)).toArray e' (0, 0))) := by
  obtain ⟨i, z, hi, hsz, rfl, hz, hzc⟩ := k.get
  have hb' : ∀ (α β : Type) (s : Sem α) (g : α → Sem β), (s >>= g) = s.bind g := fun _ _ _ _ => rfl
  have hs : i.size = c.n := hsz
  have sr : Src G h c.n (.slice (some ⟨q, oq, none⟩) M.length cx) M.length (c.rows M) := ⟨c.rows_length M, .inr ⟨q, oq, cx, rfl, s⟩⟩
  have hl0 : ∀ {h2 : Hp} {K2 : Nat → Hp → Prop}, wpH P G (Builtin.lenOf (.slice (some ⟨q, oq, none⟩) m cx)) h2 K2 = K2 m h2 := rfl
  have hfc : ∀ {k : Nat}, Builtin.firstCells c.n k (.slice (some ⟨q, oq, none⟩) m cx) = Builtin.firstCells c.n k (.slice (some ⟨q, oq, none⟩) M.length cx) := rfl
  simp only [Builtin.copy_, hb', underlying, program, sizeOf, typeInfo, Sem.bind, pure]
  simp only [wpH, wpH_bind, hu, hi, List.getElem?_toArray, List.getElem?_cons_zero, List.getElem?_cons_succ, hl0, hs]
  rw [hm, hfc, firstCells_src sr]
  rw [storeCells_eq (i := off) (k := 0) (c.rows M).toArray.toList hb (by simp [c.rows_length]; omega) (by simpa using c.rows_one M)]
  rw [putL_eq _ _ _ (by simp [c.rows_length]; omega)]
  simp [c.rows_length, goInt]

/-- append(s, make(S, m)...) that grows. -/
theorem append_made {T I e : TypeId} {κ : IntKind} {n bytes : Nat} (hu : P.underlying T = some (.slice e)) (hI : P.underlying I = some (.int κ)) (k : ElemOk P e n bytes) (hb0 : 0 < bytes) {ty : TypeId} {h : Hp} {base : Option Addr} {len cap m : Nat} {os : List Value}
    (s0 : Src G h n (.slice base len cap) len os) (hc : cap < len + m) (hmax : (2 * (len + m) + 192) * bytes ≤ 281474976710656) (hmax2 : len + m ≤ 1099511627776) {K : Value → Hp → Prop}
    (H : ∀ r cap' zs, h r = none → G r = none → len + m ≤ cap' → (os ++ zs).length = cap' * n → K (.slice (some ⟨r, 0, none⟩) (len + m) cap') (h.set r (.cells (os ++ zs).toArray e (0, 0)))) :
    wpH P G (Builtin.append_ #[T, I] ty #[.slice base len cap, .int .i64 m]) h K := by
  obtain ⟨i, z, hi, rfl, rfl, hz, hzc⟩ := k.get
  have hb' : ∀ (α β : Type) (s : Sem α) (g : α → Sem β), (s >>= g) = s.bind g := fun _ _ _ _ => rfl
  have c1 : ¬ len + m ≤ cap := by omega
  have hol : os.length = len * i.size := s0.1
  have c2 : ¬ (((len + m : Nat) : Int) > IntKind.i64.max ∧ (True ∨ i.bytes = 0)) := by
    rintro ⟨h1, _⟩
    have : IntKind.i64.max = 9223372036854775807 := rfl
    omega
  have c3 : ¬ Builtin.nextslicecap (len + m) cap * i.bytes > 2 ^ 48 := by
    have := Nat.mul_le_mul_right i.bytes (next_le (show cap < len + m from hc))
    omega
  have hmb : m * i.bytes ≤ 281474976710656 := Nat.le_trans (Nat.mul_le_mul_right _ (by omega)) hmax
  have hw : IntKind.i64.wrap (m : Int) = (m : Int) := wrap_in (by omega) (by omega)
  have c4 : ¬ ((m : Int) < 0) := by omega
  have c5 : ¬ ((m : Int) * (i.bytes : Int) > 2 ^ 48) := by
    have := Int.ofNat_le.2 hmb
    rw [Int.natCast_mul] at this
    omega
  simp only [Builtin.append_, hb', underlying, program, sizeOf, typeInfo, Sem.bind, pure, zeroValue, asInt, asIntOf]
  simp only [wpH, wpH_bind, hu, hI, hi, List.getElem?_toArray, List.getElem?_cons_zero, List.getElem?_cons_succ, Bool.not_false, Bool.false_eq_true, if_true, if_false, hw, if_neg c4, if_neg c5, Int.toNat_natCast, if_neg c1]
  rw [if_neg (by simpa using c2)]
  simp only [wpH, wpH_bind, hi]
  rw [if_neg c3]
  have cf : Question.forced (.appendCap (len + m) cap e) = false := rfl
  by_cases hz0 : m * i.size = 0
  · simp only [wpH, wpH_bind, choose, cf, askRoom_eq, hi, hz, firstCells_src s0, newRow, newObj, bind, pure, Bool.false_eq_true, if_false, Question.cut, Bool.not_true, if_pos hz0]
    intro t r hr gr
    have := H r (len + m + t % (2 ^ 63 - (len + m))) (#[] ++ Builtin.zeroCells z.cells (len + m + t % (2 ^ 63 - (len + m)) - (len + m))).toList hr gr (by omega) (by
      simp [Builtin.zeroCells, hzc, hol]
      rw [Nat.add_mul, Nat.add_mul, hz0]
      omega)
    have e1 : ∀ Z : Array Value, os.toArray ++ #[] ++ Z = (os ++ (#[] ++ Z).toList).toArray := fun Z => by apply Array.ext'; simp
    rw [e1]
    exact this
  · simp only [wpH, wpH_bind, choose, cf, askRoom_eq, hi, hz, firstCells_src s0, newRow, newObj, bind, pure, Bool.false_eq_true, if_false, Question.cut, Bool.not_true, if_neg hz0]
    intro t r hr gr
    have := H r (len + m + t % (2 ^ 63 - (len + m))) (Builtin.zeroCells z.cells m ++ Builtin.zeroCells z.cells (len + m + t % (2 ^ 63 - (len + m)) - (len + m))).toList hr gr (by omega) (by
      simp [Builtin.zeroCells, hzc, hol]
      rw [Nat.add_mul, Nat.add_mul]
      omega)
    have e1 : ∀ Y Z : Array Value, os.toArray ++ Y ++ Z = (os ++ (Y ++ Z).toList).toArray := fun Y Z => by apply Array.ext'; simp
    rw [e1]
    exact this
end
end Go.HL

/- Yields: what an iterator tells, to any yield. -/
set_option linter.unusedVariables false
namespace Go.HL
open Go

/-- A yield: Y between two calls, Z behind the one that stopped; c: does it go on? Any piece that it does not own stays. -/
def Yl {α : Type} (P : Program) (enc : α → Array Value) (G : Hp) (y : Value) (Y Z : List α → Hp → Prop) (c : List α → Bool) : Prop :=
  ∀ (L : List α) (m : α) (a q h : Hp), Y L a → Sep [a, q] h → Dis G h →
    opH P G (xCallV y (enc m)) h (fun v h' => ∃ a', v = .bool (c (L ++ [m])) ∧ Sep [a', q] h' ∧ Dis G h' ∧ (if c (L ++ [m]) = true then Y (L ++ [m]) a' else Z (L ++ [m]) a'))

/-- What is told of M behind L. -/
def feed {α : Type} (c : List α → Bool) : List α → List α → List α × Bool
  | L, [] => (L, true)
  | L, m :: M => if c (L ++ [m]) = true then feed c (L ++ [m]) M else (L ++ [m], false)
theorem feed_t {α : Type} {c : List α → Bool} {L M : List α} {m : α} (h : c (L ++ [m]) = true) : feed c L (m :: M) = feed c (L ++ [m]) M := by rw [feed, if_pos h]
theorem feed_f {α : Type} {c : List α → Bool} {L M : List α} {m : α} (h : c (L ++ [m]) = false) : feed c L (m :: M) = (L ++ [m], false) := by rw [feed, if_neg (by simp [h])]
/-- The yield that goes on while fewer than k were told. -/
def lessC {α : Type} (k : Int) (L : List α) : Bool := decide ((L.length : Int) < k)
theorem feed_less {α : Type} {k : Int} : ∀ {M L : List α}, (L.length : Int) < k → feed (lessC k) L M = (L ++ M.take (k.toNat - L.length), decide (((L ++ M).length : Int) < k))
  | [], L, h => by simp [feed, h]
  | m :: M, L, h => by
    have e1 : k.toNat - L.length = (k.toNat - (L ++ [m]).length) + 1 := by rw [List.length_append, List.length_singleton]; omega
    by_cases h2 : ((L ++ [m]).length : Int) < k
    · rw [feed_t (by unfold lessC; exact decide_eq_true h2), feed_less h2, e1, List.take_succ_cons]
      simp
    · rw [feed_f (by unfold lessC; exact decide_eq_false h2)]
      rw [List.length_append, List.length_singleton] at h2
      have e2 : k.toNat - (L ++ [m]).length = 0 := by rw [List.length_append, List.length_singleton]; omega
      rw [e1, e2]
      simp only [List.take_succ_cons, List.take_zero, List.length_append, List.length_cons, Prod.mk.injEq, true_and]
      symm
      apply decide_eq_false
      omega

def Fin {α : Type} (T : List α × Bool) (Y Z : List α → Hp → Prop) (a : Hp) : Prop := if T.2 = true then Y T.1 a else Z T.1 a

/-- Behind the telling: the yield's own piece, and the others. -/
def ToldR {α : Type} (G q : Hp) (Y Z : List α → Hp → Prop) (T : List α × Bool) (h' : Hp) : Prop := ∃ a', Sep [a', q] h' ∧ Dis G h' ∧ Fin T Y Z a'
theorem ToldR.go {α : Type} {G q a h' : Hp} {Y Z : List α → Hp → Prop} {T : List α × Bool} {L : List α} {c : List α → Bool} (s : Sep [a, q] h') (d : Dis G h') (y : Y L a) (e : feed c L [] = T) : ToldR G q Y Z T h' := by
  subst e
  exact ⟨a, s, d, by unfold Fin; rw [feed]; exact y⟩
theorem ToldR.no {α : Type} {G q a h' : Hp} {Y Z : List α → Hp → Prop} {T : List α × Bool} {L M : List α} {m : α} {c : List α → Bool} (s : Sep [a, q] h') (d : Dis G h') (z : Z (L ++ [m]) a) (hc : c (L ++ [m]) = false) (e : feed c L (m :: M) = T) : ToldR G q Y Z T h' := by
  subst e
  exact ⟨a, s, d, by unfold Fin; rw [feed_f hc]; simpa using z⟩

/-- What a gathering yield owns: the row so far, its box, the box of how many at most. -/
def GY {α : Type} (c : Cod α) (e T : TypeId) (most : Int) (lb mb : Nat) (L : List α) (a : Hp) : Prop := ∃ ip v, Slc c e ip v L ∧ Sep [ip, noHp.set lb (.cells #[v] T (0, 0)), noHp.set mb (.cells #[.int .i64 most] 3 (0, 0))] a
def GYb {α : Type} (c : Cod α) (e T : TypeId) (most : Int) (lb mb : Nat) (L : List α) (a : Hp) : Prop := GY c e T most lb mb L a ∧ (L.length : Int) < most

end Go.HL
