/- New slices; whole worlds as owned; the end of a law. -/
import Derived.Test.YtkekdpnlenpmiaaHLk
set_option linter.unusedVariables false
set_option linter.unusedSimpArgs false
namespace Go.HL
open Go
section
variable {P : Program} {G : Hp} {α : Type}

theorem rows_replicate (c : Cod α) (d : α) (n : Nat) (zs : Array Value) (hz : c.enc d = zs.toList) (hn : 0 < c.n) : ((Array.range (n * c.n)).map fun i => zs[i % zs.size]!) = (c.rows (List.replicate n d)).toArray := by
  have hs : zs.size = c.n := by have := c.len d; rw [hz] at this; simpa using this
  apply Array.ext'
  simp only [Array.toList_map, Array.toList_range]
  apply List.ext_getElem?
  intro i
  by_cases hi : i < n * c.n
  · have hdiv : i / c.n < n := (Nat.div_lt_iff_lt_mul hn).2 hi
    have h1 := c.rows_get (L := List.replicate n d) (t := []) (i := i / c.n) (j := i % c.n) (x := d) (by rw [List.getElem?_replicate, if_pos hdiv]) (Nat.mod_lt _ hn)
    rw [List.append_nil, Nat.mul_comm (i / c.n) c.n, Nat.div_add_mod] at h1
    rw [h1, hz]
    have hm : i % c.n < zs.size := by rw [hs]; exact Nat.mod_lt _ hn
    simp [List.getElem?_range hi, hs, hm]
    first | rfl | (rw [List.getElem?_eq_getElem (by simpa using hm)]; rfl) | simp [hm]
  · rw [List.getElem?_eq_none (by simp; omega), List.getElem?_eq_none (by rw [c.rows_length, List.length_replicate]; omega)]

theorem make_eq {T e : TypeId} {bytes : Nat} (c : Cod α) (d : α) (hn : 0 < c.n) (hu : P.underlying T = some (.slice e)) (k : ElemOk P e c.n bytes) (hz : ((P.info? e).bind (·.zero)).map (·.cells.toList) = some (c.enc d)) {n : Nat}
    (hmax : bytes * n ≤ 281474976710656) (hmax2 : n ≤ 1099511627776) {h : Hp} {K : Value → Hp → Prop} :
    wpH P G (Instr.makeSlice T (.int .i64 n) (.int .i64 n)) h K = ∀ x, h x = none → G x = none → K (.slice (some ⟨x, 0, none⟩) n n) (h.set x (.cells (c.rows (List.replicate n d)).toArray e (0, 0))) := by
  obtain ⟨i, z, hi, hsz, rfl, hzz, hzc⟩ := k.get
  rw [hi] at hz
  simp [hzz] at hz
  have hb' : ∀ (α β : Type) (s : Sem α) (g : α → Sem β), (s >>= g) = s.bind g := fun _ _ _ _ => rfl
  have hw : IntKind.i64.wrap (n : Int) = (n : Int) := wrap_in (by omega) (by omega)
  have hbn : ((i.bytes : Int) * (n : Int)) ≤ 281474976710656 := by have := Int.ofNat_le.2 hmax; rw [Int.natCast_mul] at this; exact this
  have t1 : (decide ((n : Int) < 0) || decide ((i.bytes : Int) * (n : Int) > 2 ^ 48)) = false := by
    rw [decide_eq_false (by omega), decide_eq_false (by omega)]; rfl
  simp only [Instr.makeSlice, hb', underlying, program, sizeOf, typeInfo, Sem.bind, pure, zeroValue, asInt, asIntOf, wpH, wpH_bind, hu, hi, hw]
  rw [t1]
  simp only [Bool.false_eq_true, false_or, Int.lt_irrefl, Bool.or_self, decide_false, Bool.false_or]
  have hlt : ¬ ((n : Int) < 0) := by omega
  rw [if_neg (by rw [decide_eq_false hlt]; decide)]
  simp only [wpH_bind, askRoom_eq, wpH, hi, Int.toNat_natCast]
  by_cases h0 : n * i.size = 0
  · rw [if_pos h0]
    have hn0 : n = 0 := by
      rcases Nat.mul_eq_zero.1 h0 with h | h
      · exact h
      · omega
    subst hn0
    have e0 : (Array.range 0).map (fun i => (#[] : Array Value)[i % (#[] : Array Value).size]!) = (c.rows (List.replicate 0 d)).toArray := by apply Array.ext'; simp [Cod.rows]
    simp only [wpH, wpH_bind, newRow, newObj, bind, pure, Nat.zero_mul]
    rw [e0]
  · rw [if_neg h0]
    simp only [wpH, wpH_bind, hi, hzz, newRow, newObj, bind, pure, hsz]
    rw [rows_replicate c d n z.cells hz.symm hn]

/-- All of a world's blocks, but those of the ground. -/
def whole (G : Hp) (w : World) : Hp := fun b => match G b with
  | some _ => none
  | none => w.heap[b]?

theorem whole_in {G : Hp} {w : World} (hg : ∀ b o, G b = some o → w.heap[b]? = some o) : In G (whole G w) w := by
  refine ⟨fun b o e => ?_, fun b o e => ⟨hg b o e, by simp [whole, e]⟩⟩
  unfold whole at e
  split at e
  · cases e
  · exact e

theorem whole_look {G : Hp} {w : World} (hg : ∀ b o, G b = some o → w.heap[b]? = some o) (b : Nat) : look G (whole G w) b = w.heap[b]? := by
  unfold look whole
  cases e : G b with
  | some o => simp only; rw [hg b o e]
  | none =>
    simp only
    cases e2 : w.heap[b]? with
    | some o => rfl
    | none => first | exact e | (simp only; exact e) | rfl

theorem whole_cell {G : Hp} {w : World} (hg : ∀ b o, G b = some o → w.heap[b]? = some o) (a : Addr) : cellIn G (whole G w) a = w.cell? a := by
  unfold cellIn World.cell?
  rw [whole_look hg]
  cases w.heap[a.block]? with
  | none => rfl
  | some o => cases o <;> rfl

/-- A call that leaves all as it was. -/
theorem calls_quiet {f : FuncId} {args : Array Value} {w : World} {G : Hp} {R : Value → Prop} (hg : ∀ b o, G b = some o → w.heap[b]? = some o) (c : HCalls P G f args (whole G w) (fun v h' => R v ∧ h' = whole G w)) :
    Calls P f args w fun e w' => (∃ v, e = .returned v ∧ R v) ∧ Go.RowKit.Below w.heap.size w w' := by
  refine (c w (whole_in hg)).mono ?_
  rintro e w' ⟨v, h', rfl, m, hr, rfl⟩
  refine ⟨⟨v, rfl, hr⟩, m.os, m.tape, m.output, m.size, fun k hk => ?_⟩
  obtain ⟨o, ho⟩ : ∃ o, w.heap[k]? = some o := ⟨_, Array.getElem?_eq_getElem hk⟩
  rw [ho]
  cases e : G k with
  | none => exact m.sub k o (by simp [whole, e, ho])
  | some p =>
    have := (m.frame k o ho (by simp [whole, e])).1
    exact this

theorem cell_le {h h' : Hp} (l : h.le h') {a : Addr} {v : Value} (e : cellIn noHp h a = some v) : cellIn noHp h' a = some v := by
  unfold cellIn look noHp at *
  cases hb : h a.block with
  | none => rw [hb] at e; simp at e
  | some o => rw [l _ _ hb]; rw [hb] at e; exact e

end
end Go.HL
