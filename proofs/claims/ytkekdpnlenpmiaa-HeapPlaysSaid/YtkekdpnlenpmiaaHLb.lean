/- Registers, calls and operations over heaplets. -/
import Derived.Test.YtkekdpnlenpmiaaHLa
namespace Go.HL
open Go

abbrev Rg := Nat → Value

def evalR (r : Rg) : Operand → Value
  | .tmp t => r t
  | .const v => v
  | .global g => .pointer (some ⟨g, 0, none⟩)
  | .func f => .func (.func f) #[] #[]

def upd (r : Rg) (t : Nat) (v : Value) : Rg := fun x => if x = t then v else r x

def putR (n : Nat) (r : Rg) (d : Option Tmp) (v : Value) : Rg := match d with
  | none => r
  | some d => if d < n then upd r d v else r

structure Fit (n : Nat) (a : Act) (r : Rg) : Prop where
  size : a.tmps.size = n
  is : ∀ t, a.tmps.getD t undef = r t
  defers : a.defers = []

theorem Fit.put {n : Nat} {a : Act} {r : Rg} (f : Fit n a r) (d : Option Tmp) (v : Value) : Fit n (a.put d v) (putR n r d v) := by
  cases d with
  | none => exact f
  | some d =>
    refine ⟨by simp [Act.put, f.size], fun t => ?_, f.defers⟩
    simp only [Act.put, putR]
    by_cases hd : d < n
    · rw [if_pos hd]
      unfold upd
      by_cases ht : t = d
      · subst ht; simp [f.size, hd]
      · rw [if_neg ht, ← f.is t]; simp [Array.getElem?_setIfInBounds_ne (Ne.symm ht)]
    · rw [if_neg hd, ← f.is t]
      by_cases ht : d = t
      · subst ht
        have h0 : ¬ d < a.tmps.size := by rw [f.size]; exact hd
        simp [h0]
      · simp [Array.getElem?_setIfInBounds_ne ht]

theorem Fit.eval {n : Nat} {a : Act} {r : Rg} (f : Fit n a r) : a.eval = evalR r := by
  funext x
  cases x with
  | tmp t => exact f.is t
  | const v => rfl
  | global g => rfl
  | func f => rfl

def yieldedR (ops : Array Oper) (r : Rg) (j : Nat) : Option Bool :=
  match (ops[j]?).bind (·.dst) with
  | some d => (match r d with | .bool b => some b | _ => none)
  | none => none

def wantedR (ops : Array Oper) (o : Oper) (r : Rg) : Bool := Region.wanted o (yieldedR ops r)

theorem Fit.yielded {n : Nat} {a : Act} {r : Rg} (f : Fit n a r) (ops : Array Oper) : yielded ops a.tmps = yieldedR ops r := by
  funext j
  unfold Go.yielded yieldedR
  cases (ops[j]?).bind (·.dst) with
  | none => rfl
  | some d =>
    have h := f.is d
    simp only [Option.bind_some]
    by_cases hd : d < a.tmps.size
    · simp only [Array.getD_eq_getD_getElem?, Array.getElem?_eq_getElem hd, Option.getD_some] at h
      rw [Array.getElem?_eq_getElem hd, h]
      cases r d <;> rfl
    · have h0 : a.tmps[d]? = none := Array.getElem?_eq_none (Nat.le_of_not_lt hd)
      rw [h0]
      simp only [Array.getD_eq_getD_getElem?, h0, Option.getD_none] at h
      rw [← h]
      rfl

theorem Fit.wanted {n : Nat} {a : Act} {r : Rg} (f : Fit n a r) (ops : Array Oper) (o : Oper) : Region.wanted o (Go.yielded ops a.tmps) = wantedR ops o r := by
  rw [f.yielded]; rfl

/-- A call over heaplets. -/
def HCalls (P : Program) (G : Hp) (f : FuncId) (args : Array Value) (h : Hp) (R : Value → Hp → Prop) : Prop :=
  ∀ w, In G h w → Calls P f args w fun e w' => ∃ v h', e = .returned v ∧ Mv h w h' w' ∧ R v h'

theorem HCalls.mono {P : Program} {G : Hp} {f : FuncId} {args : Array Value} {h : Hp} {R R' : Value → Hp → Prop} (c : HCalls P G f args h R) (hr : ∀ v h', R v h' → R' v h') :
    HCalls P G f args h R' :=
  fun w i => (c w i).mono fun _ _ ⟨v, h', e1, e2, e3⟩ => ⟨v, h', e1, e2, hr _ _ e3⟩

/-- Less is owned behind the call than the walk left. -/
theorem HCalls.less {P : Program} {G : Hp} {f : FuncId} {args : Array Value} {h : Hp} {R R' : Value → Hp → Prop} (c : HCalls P G f args h R) (hr : ∀ v h', R v h' → ∃ h'', h''.le h' ∧ R' v h'') :
    HCalls P G f args h R' :=
  fun w i => (c w i).mono fun _ _ ⟨v, _, e1, e2, e3⟩ => let ⟨h'', l, e⟩ := hr _ _ e3; ⟨v, h'', e1, e2.less l, e⟩

/-- THE FRAME OF A CALL, one block. -/
theorem HCalls.frame {P : Program} {G : Hp} {f : FuncId} {args : Array Value} {h : Hp} {R : Value → Hp → Prop} {r : Nat} {o : Obj} (c : HCalls P G f args h R) (hr : h r = none) :
    HCalls P G f args (h.set r o) (fun v h' => ∃ h1, h' = h1.set r o ∧ h1 r = none ∧ R v h1) := by
  intro w i
  have l : h.le (h.set r o) := (Hp.le.refl h).set hr
  refine (c w (i.less l)).mono ?_
  rintro e w' ⟨v, h1, e1, e2, e3⟩
  obtain ⟨f1, f2⟩ := e2.frame r o (i.sub r o set_self) hr
  refine ⟨v, h1.set r o, e1, ⟨e2.size, fun b p hb => ?_, fun b p e1' e2' => ?_, e2.os, e2.output, e2.tape⟩, h1, rfl, f2, e3⟩
  · by_cases hbr : b = r
    · subst hbr; rw [set_self] at hb; cases hb; exact f1
    · rw [set_other hbr] at hb; exact e2.sub _ _ hb
  · have hbr : b ≠ r := fun x => by subst x; rw [set_self] at e2'; cases e2'
    rw [set_other hbr] at e2'
    obtain ⟨g1, g2⟩ := e2.frame b p e1' e2'
    exact ⟨g1, by rw [set_other hbr]; exact g2⟩

/-- What an operation yields. -/
def onNext (P : Program) (G : Hp) (K : Value → Hp → Prop) : Next → Hp → Prop
  | .value v, h' => K v h'
  | .skip, h' => K undef h'
  | .enter f args, h' => HCalls P G f args h' K
  | _, _ => False

def opH (P : Program) (G : Hp) (s : Sem Next) (h : Hp) (K : Value → Hp → Prop) : Prop := wpH P G s h (onNext P G K)

theorem onNext_mono {P : Program} {G : Hp} {K K' : Value → Hp → Prop} (hk : ∀ v h, K v h → K' v h) (n : Next) (h : Hp) (H : onNext P G K n h) : onNext P G K' n h := by
  cases n <;> first | exact hk _ _ H | exact HCalls.mono H hk | exact H.elim

theorem opH_mono {P : Program} {G : Hp} {s : Sem Next} {h : Hp} {K K' : Value → Hp → Prop} (hk : ∀ v h, K v h → K' v h) (H : opH P G s h K) : opH P G s h K' :=
  wpH_mono s (onNext_mono hk) H

/-- An operation, carried out in the world. -/
theorem opH_wp {P : Program} {G : Hp} {o : Oper} {a : Act} {h : Hp} {w : World} {K : Value → Hp → Prop} {next : Act → World → Prop} {Q : Exit → Act → World → Prop} (i : In G h w)
    (H : opH P G (execOp a.eval o) h K) (hn : ∀ v h' w', Mv h w h' w' → K v h' → next (a.put o.dst v) w') : o.wp P a w next Q := by
  obtain ⟨n, h', w', e1, e2, e3⟩ := wpH_run _ i H
  unfold Oper.wp
  rw [e1]
  cases n <;> simp only [onNext] at e3 <;> simp only [Oper.upon]
  case value v => exact hn _ _ _ e2 e3
  case skip => exact hn _ _ _ e2 e3
  case enter f args =>
    refine (e3 w' (e2.keeps i)).mono ?_
    rintro e w'' ⟨v, h'', rfl, m2, k⟩
    exact hn _ _ _ (e2.trans m2) k

/-- From an operation's word and a world there is an outcome. -/
theorem opH_some {P : Program} {G : Hp} {s : Sem Next} {h : Hp} {w : World} {K : Value → Hp → Prop} (i : In G h w) (H : opH P G s h K) : ∃ v h' w', Mv h w h' w' ∧ K v h' := by
  obtain ⟨n, h', w', e1, e2, e3⟩ := wpH_run _ i H
  cases n <;> simp only [onNext] at e3
  case value v => exact ⟨v, h', w', e2, e3⟩
  case skip => exact ⟨undef, h', w', e2, e3⟩
  case enter f args =>
    obtain ⟨e, w'', fr, ⟨v, h'', e4, m2, k⟩, _⟩ := e3 w' (e2.keeps i) []
    exact ⟨v, h'', w'', e2.trans m2, k⟩

theorem opH_frame {P : Program} {G : Hp} {s : Sem Next} {h : Hp} {K : Value → Hp → Prop} {r : Nat} {o : Obj} (gr : G r = none) (hr : h r = none) (H : opH P G s h K) :
    opH P G s (h.set r o) (fun v h' => ∃ h1, h' = h1.set r o ∧ h1 r = none ∧ K v h1) := by
  refine wpH_mono s ?_ (wpH_frame gr s hr H)
  rintro n h' ⟨h1, rfl, e1, e2⟩
  cases n <;> simp only [onNext] at e2 ⊢
  case value v => exact ⟨h1, rfl, e1, e2⟩
  case skip => exact ⟨h1, rfl, e1, e2⟩
  case enter f args => exact e2.frame e1

/-! ### A region in the order of its text -/

def opsH (P : Program) (G : Hp) (n : Nat) (ops : Array Oper) : List Oper → Rg → Hp → (Rg → Hp → Prop) → Prop
  | [], r, h, K => K r h
  | o :: rest, r, h, K => if wantedR ops o r = true then opH P G (execOp (evalR r) o) h (fun v h' => opsH P G n ops rest (putR n r o.dst v) h' K) else opsH P G n ops rest (putR n r o.dst undef) h K

theorem opsH_wp {P : Program} {G : Hp} {n : Nat} {ops : Array Oper} {Q : Exit → Act → World → Prop} : ∀ (l : List Oper) (k : Nat) (r : Rg) (h : Hp) (a : Act) (w : World) (K : Rg → Hp → Prop),
    (∀ j, l[j]? = ops[k + j]?) → Fit n a r → In G h w → opsH P G n ops l r h K →
    (∀ r' h' a' w', Fit n a' r' → Mv h w h' w' → K r' h' → Q .normal a' w') → wpOps P ops Q (List.range' k l.length) a w
  | [], k, r, h, a, w, K, _, f, i, H, hq => by
    simp only [List.length_nil, List.range'_zero, wpOps]
    exact hq r h a w f (.refl i) H
  | o :: rest, k, r, h, a, w, K, hl, f, i, H, hq => by
    have ho : ops[k]? = some o := by simpa using (hl 0).symm
    have hl' : ∀ j, rest[j]? = ops[k + 1 + j]? := fun j => by have := hl (j + 1); simpa [Nat.add_assoc, Nat.add_comm 1 j] using this
    simp only [List.length_cons, List.range'_succ]
    rw [wpOps_cons]
    unfold wpOp
    simp only [ho, f.wanted ops o]
    unfold opsH at H
    split
    · rename_i hw
      rw [if_pos hw] at H
      refine .inl (opH_wp i (by rw [f.eval]; exact H) fun v h' w' m k' => ?_)
      exact opsH_wp rest (k + 1) _ h' _ w' K hl' (f.put o.dst v) (m.keeps i) k' fun r2 h2 a2 w2 f2 m2 k2 => hq r2 h2 a2 w2 f2 (m.trans m2) k2
    · rename_i hw
      rw [if_neg hw] at H
      exact opsH_wp rest (k + 1) _ h _ w K hl' (f.put o.dst undef) i H hq

theorem opsH_mono {P : Program} {G : Hp} {n : Nat} {ops : Array Oper} : ∀ (l : List Oper) {r : Rg} {h : Hp} {K K' : Rg → Hp → Prop}, (∀ r h, K r h → K' r h) →
    opsH P G n ops l r h K → opsH P G n ops l r h K'
  | [], _, _, _, _, hk, H => hk _ _ H
  | o :: rest, _, _, _, _, hk, H => by
    unfold opsH at H ⊢
    split at H
    · rename_i e; rw [if_pos e]; exact opH_mono (fun v h => opsH_mono rest hk) H
    · rename_i e; rw [if_neg e]; exact opsH_mono rest hk H

end Go.HL
