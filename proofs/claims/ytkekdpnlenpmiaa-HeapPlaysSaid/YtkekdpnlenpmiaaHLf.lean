/- Code over heaplets; a call entered. -/
import Derived.Test.YtkekdpnlenpmiaaHLe
namespace Go.HL
open Go

/-- What leaves memory alone: its word, over what lay there. -/
def pw (P : Program) (G : Hp) {α : Type} (h0 : Hp) : Sem α → (α → Prop) → Prop
  | .pure a, K => K a
  | .load _ a k, K => ∃ v, cellIn G h0 a = some v ∧ pw P G h0 (k v) K
  | .shape r k, K => ∃ o, look G h0 r = some o ∧ pw P G h0 (k (objShape o)) K
  | .frozen a k, K => ∃ o, look G h0 a.block = some o ∧ pw P G h0 (k (objFrozen o a)) K
  | .getObj r k, K => ∃ o, look G h0 r = some o ∧ isCells o = false ∧ pw P G h0 (k o) K
  | .program k, K => pw P G h0 (k P) K
  | .mark _ k, K => pw P G h0 k K
  | _, _ => False

def onVal (K : Value → Prop) : Next → Prop
  | .value v => K v
  | _ => False

theorem pw_at {P : Program} {G : Hp} {α : Type} (h0 : Hp) (s : Sem α) : ∀ {K : α → Prop}, pw P G h0 s K → ∃ a, wpH P G s h0 (fun b h' => h' = h0 ∧ b = a) ∧ K a := by
  induction s with
  | pure a => intro K H; exact ⟨a, ⟨rfl, rfl⟩, H⟩
  | load m a k ih => intro K H; obtain ⟨v, e, H⟩ := H; obtain ⟨a, h1, h2⟩ := ih v H; exact ⟨a, ⟨v, e, h1⟩, h2⟩
  | shape r k ih => intro K H; obtain ⟨v, e, H⟩ := H; obtain ⟨a, h1, h2⟩ := ih _ H; exact ⟨a, ⟨v, e, h1⟩, h2⟩
  | frozen r k ih => intro K H; obtain ⟨v, e, H⟩ := H; obtain ⟨a, h1, h2⟩ := ih _ H; exact ⟨a, ⟨v, e, h1⟩, h2⟩
  | getObj r k ih => intro K H; obtain ⟨v, e, e2, H⟩ := H; obtain ⟨a, h1, h2⟩ := ih _ H; exact ⟨a, ⟨v, e, e2, h1⟩, h2⟩
  | program k ih => intro K H; obtain ⟨a, h1, h2⟩ := ih _ H; exact ⟨a, h1, h2⟩
  | mark m k ih => intro K H; obtain ⟨a, h1, h2⟩ := ih H; exact ⟨a, h1, h2⟩
  | _ => intro K H; exact H.elim

/-- What leaves memory alone yields a value. -/
def pureW (P : Program) (G h0 : Hp) (s : Sem Next) (h : Hp) (K : Value → Hp → Prop) : Prop := pw P G h0 s (onVal fun v => K v h)

theorem pureW_at {P : Program} {G h0 : Hp} {s : Sem Next} {h : Hp} {K : Value → Hp → Prop} (H : pureW P G h0 s h K) : ∃ v, pureAt P G h0 s v ∧ K v h := by
  obtain ⟨a, h1, h2⟩ := pw_at h0 s H
  cases a <;> simp only [onVal] at h2 <;> first | exact ⟨_, h1, h2⟩ | exact h2.elim

theorem pw_mono {P : Program} {G : Hp} {α : Type} (h0 : Hp) (s : Sem α) : ∀ {K K' : α → Prop}, (∀ a, K a → K' a) → pw P G h0 s K → pw P G h0 s K' := by
  induction s with
  | pure a => intro K K' hk H; exact hk _ H
  | load m a k ih => intro K K' hk H; obtain ⟨v, e, H⟩ := H; exact ⟨v, e, ih v hk H⟩
  | shape r k ih => intro K K' hk H; obtain ⟨v, e, H⟩ := H; exact ⟨v, e, ih _ hk H⟩
  | frozen r k ih => intro K K' hk H; obtain ⟨v, e, H⟩ := H; exact ⟨v, e, ih _ hk H⟩
  | getObj r k ih => intro K K' hk H; obtain ⟨v, e, e2, H⟩ := H; exact ⟨v, e, e2, ih _ hk H⟩
  | program k ih => intro K K' hk H; exact ih _ hk H
  | mark m k ih => intro K K' hk H; exact ih hk H
  | _ => intro K K' hk H; exact H.elim

theorem pureW_mono {P : Program} {G h0 : Hp} {s : Sem Next} {h : Hp} {K K' : Value → Hp → Prop} (hk : ∀ v h, K v h → K' v h) (H : pureW P G h0 s h K) : pureW P G h0 s h K' :=
  pw_mono h0 s (fun a k => by cases a <;> first | exact hk _ _ k | exact k) H

/-- What is told of a region that draws (checked, not trusted): who stands ahead of whom, what kind each operation is of, which effects must keep what was there. -/
structure Hint where
  all : Bool
  B : List Nat
  ko : List Kind
  ks : List Kind
  ns : List Bool
  part : Bool

def hbit (B : List Nat) (j i : Nat) : Bool := (B.getD j 0).testBit i

def pairsOk (ops : Array Oper) (x : Hint) : Bool :=
  (List.range ops.size).all fun j => (List.range j).all fun i => hbit x.B j i ||
    (mayPair (x.ks.getD i .eff) (x.ks.getD j .eff) && (match ops[i]?, ops[j]? with | some oi, some oj => oi.apart ops oj | _, _ => true))

def newsOk (n : Nat) (x : Hint) : Bool :=
  (List.range n).all fun j => x.ns.getD j true == (isEff (x.ko.getD j .pureN) && (List.range n).any fun i => x.ko.getD i .pureN == .pureM && !hbit x.B j i && (x.all || !hbit x.B i j))

def kindsOk (n : Nat) (x : Hint) : Bool :=
  (List.range n).all fun j => x.ks.getD j .eff == (match x.ko.getD j .pureN with
    | .pureM => if (List.range j).any (fun i => hbit x.B j i && isEff (x.ko.getD i .pureN) && !x.ns.getD i true) then .late else .pureM
    | k => k)

def hintOk (ops : Array Oper) (x : Hint) : Bool :=
  bitsOk ops x.B.toArray && Region.noSelect ops && (ops.toList.map (fun o => kindOp o.op) == x.ko) && newsOk ops.size x && kindsOk ops.size x && pairsOk ops x

theorem hint_kop {ops : Array Oper} {x : Hint} (h : ops.toList.map (fun o => kindOp o.op) = x.ko) (i : Nat) : x.ko.getD i .pureN = kop ops i := by
  rw [← h]
  unfold kop
  rw [List.getD_eq_getElem?_getD, List.getElem?_map, Array.getElem?_toList]
  cases ops[i]? <;> rfl

theorem hbit_bit {x : Hint} {j i : Nat} : hbit x.B j i = bit x.B.toArray j i := by
  unfold hbit bit
  simp

theorem hint_spec {ops : Array Oper} {x : Hint} (h : hintOk ops x = true) : regionOk x.all ops x.B.toArray = true ∧
    ∀ i, i < ops.size → x.ks.getD i .eff = kindAt x.all ops x.B.toArray i ∧ x.ns.getD i true = newAt x.all ops x.B.toArray i := by
  simp only [hintOk, Bool.and_eq_true, beq_iff_eq] at h
  obtain ⟨⟨⟨⟨⟨h1, h2⟩, h3⟩, h4⟩, h5⟩, h6⟩ := h
  have hn : ∀ i, i < ops.size → x.ns.getD i true = newAt x.all ops x.B.toArray i := by
    intro i hi
    unfold newsOk at h4
    rw [List.all_eq_true] at h4
    have := h4 i (List.mem_range.2 hi)
    simp only [beq_iff_eq] at this
    rw [this]
    unfold newAt
    simp only [hint_kop h3, hbit_bit]
  have hk : ∀ i, i < ops.size → x.ks.getD i .eff = kindAt x.all ops x.B.toArray i := by
    intro i hi
    unfold kindsOk at h5
    rw [List.all_eq_true] at h5
    have := h5 i (List.mem_range.2 hi)
    simp only [beq_iff_eq] at this
    rw [this]
    unfold kindAt
    simp only [hint_kop h3, hbit_bit]
    have e : ((List.range i).any fun i_1 => bit x.B.toArray i i_1 && isEff (kop ops i_1) && !x.ns.getD i_1 true) = ((List.range i).any fun i_1 => bit x.B.toArray i i_1 && isEff (kop ops i_1) && !newAt x.all ops x.B.toArray i_1) := by
      rw [Bool.eq_iff_iff, List.any_eq_true, List.any_eq_true]
      constructor
      · rintro ⟨y, hy, hb⟩; exact ⟨y, hy, by rw [← hn y (by have := List.mem_range.1 hy; omega)]; exact hb⟩
      · rintro ⟨y, hy, hb⟩; exact ⟨y, hy, by rw [hn y (by have := List.mem_range.1 hy; omega)]; exact hb⟩
    rw [e]
    cases kop ops i <;> rfl
  refine ⟨?_, fun i hi => ⟨hk i hi, hn i hi⟩⟩
  simp only [regionOk, Bool.and_eq_true]
  refine ⟨⟨h1, h2⟩, ?_⟩
  unfold pairsOk at h6
  rw [List.all_eq_true] at h6 ⊢
  intro j hj
  have h7 := h6 j hj
  rw [List.all_eq_true] at h7 ⊢
  intro i hi
  have h8 := h7 i hi
  have hj' := List.mem_range.1 hj
  have hi' := List.mem_range.1 hi
  rw [hk i (by omega), hk j hj', hbit_bit] at h8
  exact h8

section
variable (P : Program) (G : Hp) (n : Nat)

def stepE (x : Hint) (h0 : Hp) (i : Nat) (o : Oper) (r : Rg) (h : Hp) (K : Value → Hp → Prop) : Prop :=
  match x.ks.getD i .eff with
  | .pureN => pureW P noHp noHp (execOp (evalR r) o) h K
  | .pureM => pureW P G h0 (execOp (evalR r) o) h K
  | .late => pureW P G h (execOp (evalR r) o) h K
  | _ => match x.ns.getD i true with
    | true => opH P G (execOp (evalR r) o) h (fun v h' => h0.le h' ∧ K v h')
    | false => opH P G (execOp (evalR r) o) h K

def wantB (v : Value) (want : Bool) : Bool := (match v with | .bool b => some b | _ => none) == some want

def gd (b : Bool) (X : (Value → Hp → Prop) → Prop) (h : Hp) (K : Value → Hp → Prop) : Prop := match b with
  | true => X K
  | false => K undef h

/-- What is a value at once. -/
def dirE (r : Rg) (op : Op) (X : (Value → Hp → Prop) → Prop) (h : Hp) (K : Value → Hp → Prop) : Prop :=
  match op with
  | .move x => K (evalR r x) h
  | .assign x => K (evalR r x) h
  | .makeFunc fn fs cs => K (.func fn (fs.map (evalR r)) (cs.map (evalR r))) h
  | _ => X K

def lexE (x : Hint) (ops : Array Oper) (h0 : Hp) : Nat → List Oper → Rg → Hp → (Rg → Hp → Prop) → Prop
  | _, [], r, h, K => K r h
  | i, o :: rest, r, h, K => match o.guard with
    | none => dirE r o.op (stepE P G x h0 i o r h) h (fun v h' => lexE x ops h0 (i + 1) rest (putR n r o.dst v) h' K)
    | some _ => gd (wantedR ops o r) (dirE r o.op (stepE P G x h0 i o r h) h) h (fun v h' => lexE x ops h0 (i + 1) rest (putR n r o.dst v) h' K)

def opsE (ops : Array Oper) : List Oper → Rg → Hp → (Rg → Hp → Prop) → Prop
  | [], r, h, K => K r h
  | o :: rest, r, h, K => match o.guard with
    | none => dirE r o.op (opH P G (execOp (evalR r) o) h) h (fun v h' => opsE ops rest (putR n r o.dst v) h' K)
    | some _ => gd (wantedR ops o r) (dirE r o.op (opH P G (execOp (evalR r) o) h) h) h (fun v h' => opsE ops rest (putR n r o.dst v) h' K)

def loopN (F : Rg → Hp → (Exit → Rg → Hp → Prop) → Prop) (K : Exit → Rg → Hp → Prop) : Nat → Rg → Hp → Prop
  | 0, _, _ => False
  | m + 1, r, h => F r h (fun e r' h' => match e with
    | .normal => loopN F K m r' h'
    | e => K e r' h')

def loopP (F : Rg → Hp → (Exit → Rg → Hp → Prop) → Prop) (r : Rg) (h : Hp) (K : Exit → Rg → Hp → Prop) : Prop := ∃ m, loopN F K m r h

def cond (v : Value) (A B : Prop) : Prop := match v with
  | .bool true => A
  | .bool false => B
  | _ => False

def thenK (F : Rg → Hp → Prop) (K : Exit → Rg → Hp → Prop) : Exit → Rg → Hp → Prop
  | .normal, r, h => F r h
  | e, r, h => K e r h

def blockK (id : Nat) (K : Exit → Rg → Hp → Prop) : Exit → Rg → Hp → Prop
  | .exit id', r, h => if id' = id then K .normal r h else K (.exit id') r h
  | e, r, h => K e r h

/-- In a scope through which the run goes without a goto. -/
def scopeK (K : Exit → Rg → Hp → Prop) : Exit → Rg → Hp → Prop
  | .goto _, _, _ => False
  | e, r, h => K e r h

def wpC (md : Nat → Hint) : Code → Rg → Hp → (Exit → Rg → Hp → Prop) → Prop
  | .skip, r, h, K => K .normal r h
  | .label _, r, h, K => K .normal r h
  | .region id ops draw, r, h, K => match draw with
    | true => (match hintOk ops (md id) with
      | true => (match (md id).part with
        | true => ∃ h0 : Hp, h0.le h ∧ lexE P G n (md id) ops h0 0 ops.toList r h (K .normal)
        | false => lexE P G n (md id) ops h 0 ops.toList r h (K .normal))
      | false => False)
    | false => opsE P G n ops ops.toList r h (K .normal)
  | .seq a b, r, h, K => wpC md a r h (thenK (fun r h => wpC md b r h K) K)
  | .cond c a b, r, h, K => cond (evalR r c) (wpC md a r h K) (wpC md b r h K)
  | .block id c, r, h, K => wpC md c r h (blockK id K)
  | .loop c, r, h, K => loopP (wpC md c) r h K
  | .scope c, r, h, K => wpC md c r h (scopeK K)
  | .exit id, r, h, K => K (.exit id) r h
  | .goto l, r, h, K => K (.goto l) r h
  | .ret, r, h, K => K .ret r h
  | .rangeFunc .., _, _, _ => False
  | .refuse _, _, _, _ => False

end

section
variable {P : Program} {G : Hp} {n : Nat} {md : Nat → Hint}

theorem stepE_D {x : Hint} {ops : Array Oper} {h0 : Hp} {i : Nat} {o : Oper} {r : Rg} {h : Hp} {K : Value → Hp → Prop} (hk : x.ks.getD i .eff = kindAt x.all ops x.B.toArray i) (hn : x.ns.getD i true = newAt x.all ops x.B.toArray i)
    (H : stepE P G x h0 i o r h K) : stepD P G x.all ops x.B.toArray h0 i o r h K := by
  unfold stepE at H
  unfold stepD
  rw [hk, hn] at H
  split at H
  · rename_i e; simp only [e]; exact pureW_at H
  · rename_i e; simp only [e]; exact pureW_at H
  · rename_i e; simp only [e]; exact pureW_at H
  · rename_i e1 e2 e3
    split at H
    · rename_i e4
      split
      · rename_i e; exact absurd e e1
      · rename_i e; exact absurd e e2
      · rename_i e; exact absurd e e3
      · simp only [e4]; exact H
    · rename_i e4
      split
      · rename_i e; exact absurd e e1
      · rename_i e; exact absurd e e2
      · rename_i e; exact absurd e e3
      · simp only [e4]; exact H

theorem stepD_mono' {x : Hint} {h0 : Hp} {i : Nat} {o : Oper} {r : Rg} {h : Hp} {K K' : Value → Hp → Prop} (hk : ∀ v h, K v h → K' v h) (H : stepE P G x h0 i o r h K) :
    stepE P G x h0 i o r h K' := by
  unfold stepE at *
  split at H
  · exact pureW_mono hk H
  · exact pureW_mono hk H
  · exact pureW_mono hk H
  · split at H
    · exact opH_mono (fun v h k => ⟨k.1, hk _ _ k.2⟩) H
    · exact opH_mono hk H

theorem wanted_none {ops : Array Oper} {o : Oper} {r : Rg} (hg : o.guard = none) : wantedR ops o r = true := by
  unfold wantedR Region.wanted
  rw [hg]

theorem dirE_opH {o : Oper} {r : Rg} {h : Hp} {K : Value → Hp → Prop} (H : dirE r o.op (opH P G (execOp (evalR r) o) h) h K) : opH P G (execOp (evalR r) o) h K := by
  obtain ⟨dst, op, type, pos, after, guard⟩ := o
  cases op <;> exact H

theorem dirE_D {x : Hint} {ops : Array Oper} {h0 : Hp} {i : Nat} {o : Oper} (ho : ops[i]? = some o) {r : Rg} {h : Hp} {K : Value → Hp → Prop} (hk : x.ks.getD i .eff = kindAt x.all ops x.B.toArray i) (hn : x.ns.getD i true = newAt x.all ops x.B.toArray i)
    (H : dirE r o.op (stepE P G x h0 i o r h) h K) : stepD P G x.all ops x.B.toArray h0 i o r h K := by
  have pn : kindOp o.op = .pureN → kindAt x.all ops x.B.toArray i = .pureN := fun e => by
    unfold kindAt kop
    rw [ho]
    simp only [e]
  obtain ⟨dst, op, type, pos, after, guard⟩ := o
  cases op <;> first
    | exact stepE_D hk hn H
    | (unfold stepD
       rw [pn rfl]
       exact ⟨_, ⟨rfl, rfl⟩, H⟩)

theorem dirE_mono {op : Op} {r : Rg} {X : (Value → Hp → Prop) → Prop} {h : Hp} {K K' : Value → Hp → Prop} (hx : X K → X K') (hk : ∀ v h, K v h → K' v h) (H : dirE r op X h K) : dirE r op X h K' := by
  cases op <;> first | exact hk _ _ H | exact hx H

theorem lexE_D {x : Hint} {ops : Array Oper} {h0 : Hp} (hx : ∀ i, i < ops.size → x.ks.getD i .eff = kindAt x.all ops x.B.toArray i ∧ x.ns.getD i true = newAt x.all ops x.B.toArray i) : ∀ (l : List Oper) (i : Nat) {r : Rg} {h : Hp} {K : Rg → Hp → Prop},
    i + l.length = ops.size → (∀ j, l[j]? = ops[i + j]?) → lexE P G n x ops h0 i l r h K → lexD P G n x.all ops x.B.toArray h0 i l r h K
  | [], _, _, _, _, _, _, H => H
  | o :: rest, i, r, h, K, hl, hj, H => by
    simp only [List.length_cons] at hl
    obtain ⟨hk, hn⟩ := hx i (by omega)
    have ho : ops[i]? = some o := by simpa using (hj 0).symm
    have hj' : ∀ j, rest[j]? = ops[i + 1 + j]? := fun j => by have := hj (j + 1); simpa [Nat.add_assoc, Nat.add_comm 1 j] using this
    unfold lexE at H
    unfold lexD
    split at H
    · rename_i hg
      rw [if_pos (wanted_none hg)]
      exact stepD_mono (fun v h k => lexE_D hx rest (i + 1) (by omega) hj' k) (dirE_D ho hk hn H)
    · cases hw : wantedR ops o r with
      | true =>
        rw [hw] at H
        rw [if_pos rfl]
        exact stepD_mono (fun v h k => lexE_D hx rest (i + 1) (by omega) hj' k) (dirE_D ho hk hn H)
      | false =>
        rw [hw] at H
        rw [if_neg (by simp)]
        exact lexE_D hx rest (i + 1) (by omega) hj' H

theorem opsE_H {ops : Array Oper} : ∀ (l : List Oper) {r : Rg} {h : Hp} {K : Rg → Hp → Prop}, opsE P G n ops l r h K → opsH P G n ops l r h K
  | [], _, _, _, H => H
  | o :: rest, r, h, K, H => by
    unfold opsE at H
    unfold opsH
    split at H
    · rename_i hg
      rw [if_pos (wanted_none hg)]
      exact opH_mono (fun v h k => opsE_H rest k) (dirE_opH H)
    · cases hw : wantedR ops o r with
      | true => rw [hw] at H; rw [if_pos rfl]; exact opH_mono (fun v h k => opsE_H rest k) (dirE_opH H)
      | false => rw [hw] at H; rw [if_neg (by simp)]; exact opsE_H rest H

theorem lexE_mono {x : Hint} {ops : Array Oper} {h0 : Hp} : ∀ (l : List Oper) (i : Nat) {r : Rg} {h : Hp} {K K' : Rg → Hp → Prop}, (∀ r h, K r h → K' r h) →
    lexE P G n x ops h0 i l r h K → lexE P G n x ops h0 i l r h K'
  | [], _, _, _, _, _, hk, H => hk _ _ H
  | o :: rest, i, r, h, _, _, hk, H => by
    unfold lexE at H ⊢
    split at H
    · exact dirE_mono (stepD_mono' (fun v h => lexE_mono rest (i + 1) hk)) (fun v h => lexE_mono rest (i + 1) hk) H
    · cases hw : wantedR ops o r with
      | true => simp only [hw, gd] at H ⊢; exact dirE_mono (stepD_mono' (fun v h => lexE_mono rest (i + 1) hk)) (fun v h => lexE_mono rest (i + 1) hk) H
      | false => rw [hw] at H; exact lexE_mono rest (i + 1) hk H

theorem opsE_mono {ops : Array Oper} : ∀ (l : List Oper) {r : Rg} {h : Hp} {K K' : Rg → Hp → Prop}, (∀ r h, K r h → K' r h) → opsE P G n ops l r h K → opsE P G n ops l r h K'
  | [], _, _, _, _, hk, H => hk _ _ H
  | o :: rest, r, h, _, _, hk, H => by
    unfold opsE at H ⊢
    split at H
    · exact dirE_mono (opH_mono (fun v h => opsE_mono rest hk)) (fun v h => opsE_mono rest hk) H
    · cases hw : wantedR ops o r with
      | true => simp only [hw, gd] at H ⊢; exact dirE_mono (opH_mono (fun v h => opsE_mono rest hk)) (fun v h => opsE_mono rest hk) H
      | false => rw [hw] at H; exact opsE_mono rest hk H

/-- What is handed on may be said more weakly. -/
abbrev Mono (F : Rg → Hp → (Exit → Rg → Hp → Prop) → Prop) : Prop := ∀ r h K K', (∀ e r h, K e r h → K' e r h) → F r h K → F r h K'

theorem loopN_mono {F : Rg → Hp → (Exit → Rg → Hp → Prop) → Prop} (hF : Mono F) {K K' : Exit → Rg → Hp → Prop} (hk : ∀ e r h, K e r h → K' e r h) : ∀ (m : Nat) (r : Rg) (h : Hp), loopN F K m r h → loopN F K' m r h
  | 0, _, _, H => H
  | m + 1, r, h, H => hF _ _ _ _ (fun e r' h' k => by
      cases e <;> first | exact loopN_mono hF hk m r' h' k | exact hk _ _ _ k) H

theorem wpC_mono : ∀ (c : Code), Mono (wpC P G n md c)
  | .skip, _, _, _, _, hk, H => hk _ _ _ H
  | .label _, _, _, _, _, hk, H => hk _ _ _ H
  | .region _ ops draw, r, h, K, K', hk, H => by
    unfold wpC at *
    split at H
    · split at H
      · split at H
        · obtain ⟨h0, l, H⟩ := H
          exact ⟨h0, l, lexE_mono _ _ (fun r h => hk _ r h) H⟩
        · exact lexE_mono _ _ (fun r h => hk _ r h) H
      · exact H
    · exact opsE_mono _ (fun r h => hk _ r h) H
  | .seq a b, r, h, K, K', hk, H => by
    unfold wpC at *
    refine wpC_mono a _ _ _ _ (fun e r h k => ?_) H
    cases e <;> first | exact wpC_mono b _ _ _ _ hk k | exact hk _ _ _ k
  | .cond c a b, r, h, K, K', hk, H => by
    unfold wpC cond at *
    split at H
    · exact wpC_mono a _ _ _ _ hk H
    · exact wpC_mono b _ _ _ _ hk H
    · exact H
  | .block id c, r, h, K, K', hk, H => by
    unfold wpC at *
    refine wpC_mono c _ _ _ _ (fun e r h k => ?_) H
    cases e <;> first | exact hk _ _ _ k | skip
    rename_i id'
    simp only [blockK] at k ⊢
    by_cases e : id' = id
    · rw [if_pos e] at k ⊢; exact hk _ _ _ k
    · rw [if_neg e] at k ⊢; exact hk _ _ _ k
  | .loop c, r, h, K, K', hk, H => by
    unfold wpC at *
    obtain ⟨m, H⟩ := H
    exact ⟨m, loopN_mono (wpC_mono c) hk m r h H⟩
  | .scope c, r, h, K, K', hk, H => by
    unfold wpC at *
    refine wpC_mono c _ _ _ _ (fun e r h k => ?_) H
    cases e <;> first | exact hk _ _ _ k | exact k
  | .exit _, _, _, _, _, hk, H => hk _ _ _ H
  | .goto _, _, _, _, _, hk, H => hk _ _ _ H
  | .ret, _, _, _, _, hk, H => hk _ _ _ H
  | .rangeFunc .., _, _, _, _, _, H => H
  | .refuse _, _, _, _, _, _, H => H

/-- The rule of a loop: what holds at each round's head, with a number that falls. -/
theorem loop_rule {F : Rg → Hp → (Exit → Rg → Hp → Prop) → Prop} (hF : Mono F) (I : Nat → Rg → Hp → Prop) {K : Exit → Rg → Hp → Prop}
    (round : ∀ m r h, I m r h → F r h (fun e r' h' => match e with
      | .normal => ∃ m', m' < m ∧ I m' r' h'
      | e => K e r' h')) : ∀ (m : Nat) (r : Rg) (h : Hp), I m r h → loopP F r h K := by
  have key : ∀ N m r h, m ≤ N → I m r h → loopN F K (N + 1) r h := by
    intro N
    induction N with
    | zero =>
      intro m r h hm hi
      refine hF _ _ _ _ (fun e r' h' k => ?_) (round m r h hi)
      cases e <;> first | exact k | skip
      obtain ⟨m', hlt, _⟩ := k
      omega
    | succ N ih =>
      intro m r h hm hi
      refine hF _ _ _ _ (fun e r' h' k => ?_) (round m r h hi)
      cases e <;> first | exact k | skip
      obtain ⟨m', hlt, hi'⟩ := k
      exact ih m' r' h' (by omega) hi'
  exact fun m r h hi => ⟨m + 1, key m m r h (Nat.le_refl _) hi⟩

theorem wp_loop_steps {c : Code} {Q : Exit → Act → World → Prop} (X : Nat → Act → World → Prop) (h0 : ∀ a w, ¬ X 0 a w) (hs : ∀ m a w, X (m + 1) a w → c.wp P (Exit.then (X m) Q) a w) {m : Nat} {a : Act} {w : World} (H : X m a w) :
    (Code.loop c).wp P Q a w := by
  intro b k cs
  have key : ∀ m a w, X m a w → ∃ e a' w', Q e a' w' ∧ Arrives P (lone (b.at a (.code c :: .inLoop c :: k)) cs w) b k cs e a' w' := by
    intro m
    induction m with
    | zero => intro a w H; exact absurd H (h0 a w)
    | succ m ih =>
      intro a w H
      obtain ⟨e, a₁, w₁, hq, harr⟩ := hs m a w H b (.inLoop c :: k) cs
      cases e with
      | normal =>
        obtain ⟨e₂, a₂, w₂, hq₂, harr₂⟩ := ih a₁ w₁ hq
        exact ⟨e₂, a₂, w₂, hq₂, .of_steps (Steps.trans harr (.one step_inLoop)) harr₂⟩
      | exit id => exact ⟨_, a₁, w₁, hq, .pass (x := .inLoop c) rfl (fun _ _ => .inl (by simp)) harr⟩
      | goto l => exact ⟨_, a₁, w₁, hq, .pass (x := .inLoop c) rfl (fun _ _ => .inl (by simp)) harr⟩
      | ret => exact ⟨_, a₁, w₁, hq, .pass (x := .inLoop c) rfl (fun _ _ => .inl (by simp)) harr⟩
      | panic ch => exact ⟨_, a₁, w₁, hq, .pass (x := .inLoop c) rfl (fun _ _ => .inl (by simp)) harr⟩
      | outgrown => exact ⟨_, a₁, w₁, hq, .pass (x := .inLoop c) rfl (fun _ _ => .inl (by simp)) harr⟩
  obtain ⟨e, a', w', hq, harr⟩ := key m a w H
  exact ⟨e, a', w', hq, .of_steps (.one step_loop) harr⟩

/-- DOWN TO THE WORLD. -/
theorem wpC_wp (hm : P.follows .mixedOrders = true) : ∀ (c : Code) {Q : Exit → Act → World → Prop} {K : Exit → Rg → Hp → Prop} {r : Rg} {h : Hp} {a : Act} {w : World}, Fit n a r → In G h w →
    wpC P G n md c r h K → (∀ e r' h' a' w', Fit n a' r' → Mv h w h' w' → K e r' h' → Q e a' w') → c.wp P Q a w
  | .skip, _, _, r, h, a, w, f, i, H, hq => wp_skip (hq _ r h a w f (.refl i) H)
  | .label _, _, _, r, h, a, w, f, i, H, hq => wp_label (hq _ r h a w f (.refl i) H)
  | .exit _, _, _, r, h, a, w, f, i, H, hq => wp_exit (hq _ r h a w f (.refl i) H)
  | .goto _, _, _, r, h, a, w, f, i, H, hq => wp_goto (hq _ r h a w f (.refl i) H)
  | .ret, _, _, r, h, a, w, f, i, H, hq => wp_ret (hq _ r h a w f (.refl i) H)
  | .rangeFunc .., _, _, _, _, _, _, _, _, H, _ => H.elim
  | .refuse _, _, _, _, _, _, _, _, _, H, _ => H.elim
  | .region id ops draw, Q, K, r, h, a, w, f, i, H, hq => by
    unfold wpC at H
    split at H
    · split at H
      · rename_i hok
        obtain ⟨hr, hx⟩ := hint_spec hok
        split at H
        · obtain ⟨h0, l, H⟩ := H
          exact region_draw hm hr f i l (lexE_D hx _ _ (by simp) (by simp) H) (fun r' h' a' w' f' m k => hq _ r' h' a' w' f' m k)
        · exact region_draw hm hr f i (Hp.le.refl h) (lexE_D hx _ _ (by simp) (by simp) H) (fun r' h' a' w' f' m k => hq _ r' h' a' w' f' m k)
      · exact H.elim
    · refine wp_region ?_
      have := opsH_wp (P := P) (G := G) (n := n) (ops := ops) (Q := Q) ops.toList 0 r h a w _ (by simp) f i (opsE_H _ H) (fun r' h' a' w' f' m k => hq _ r' h' a' w' f' m k)
      rw [List.range_eq_range']
      simpa using this
  | .seq x y, Q, K, r, h, a, w, f, i, H, hq => by
    unfold wpC at H
    refine wp_seq (wpC_wp hm x f i H fun e r' h' a' w' f' m k => ?_)
    cases e <;> first
      | exact wpC_wp hm y f' (m.keeps i) k fun e2 r2 h2 a2 w2 f2 m2 k2 => hq _ r2 h2 a2 w2 f2 (m.trans m2) k2
      | exact hq _ r' h' a' w' f' m k
  | .cond c x y, Q, K, r, h, a, w, f, i, H, hq => by
    unfold wpC cond at H
    split at H
    · rename_i e; exact wp_cond_true (by rw [f.eval]; exact e) (wpC_wp hm x f i H hq)
    · rename_i e; exact wp_cond_false (by rw [f.eval]; exact e) (wpC_wp hm y f i H hq)
    · exact H.elim
  | .block id c, Q, K, r, h, a, w, f, i, H, hq => by
    unfold wpC at H
    refine wp_block (wpC_wp hm c f i H fun e r' h' a' w' f' m k => ?_)
    cases e <;> first | exact hq _ r' h' a' w' f' m k | skip
    simp only [blockK] at k
    simp only [Exit.inBlock]
    split at k
    · rename_i e; rw [if_pos e]; exact hq _ r' h' a' w' f' m k
    · rename_i e; rw [if_neg e]; exact hq _ r' h' a' w' f' m k
  | .scope c, Q, K, r, h, a, w, f, i, H, hq => by
    unfold wpC at H
    refine wp_scope_straight (wpC_wp hm c f i H fun e r' h' a' w' f' m k => ?_)
    cases e <;> first | exact hq _ r' h' a' w' f' m k | exact k.elim
  | .loop c, Q, K, r, h, a, w, f, i, H, hq => by
    unfold wpC at H
    obtain ⟨m, H⟩ := H
    refine wp_loop_steps (m := m) (fun m a' w' => ∃ r' h', Fit n a' r' ∧ Mv h w h' w' ∧ loopN (wpC P G n md c) K m r' h') ?_ ?_ ⟨r, h, f, .refl i, H⟩
    · rintro a' w' ⟨r', h', _, _, x⟩; exact x
    · rintro m a' w' ⟨r', h', f', m', x⟩
      refine wpC_wp hm c f' (m'.keeps i) x fun e r2 h2 a2 w2 f2 m2 k2 => ?_
      cases e <;> first
        | exact ⟨r2, h2, f2, m'.trans m2, k2⟩
        | exact hq _ r2 h2 a2 w2 f2 (m'.trans m2) k2

/-! ### What a function hands back -/

theorem sem_pure_bind {α β : Type} (a : α) (f : α → Sem β) : (Sem.pure a).bind f = f a := rfl
theorem sem_bind_pure {α : Type} (s : Sem α) : s.bind .pure = s := by
  induction s with
  | pure a => rfl
  | store m a v k ih => simp only [Sem.bind, ih]
  | freeze a n k ih => simp only [Sem.bind, ih]
  | setObj r o k ih => simp only [Sem.bind, ih]
  | mark m k ih => simp only [Sem.bind, ih]
  | halt h => rfl
  | _ => simp only [Sem.bind]; congr 1; funext x; simp only [*]
theorem sem_bind_assoc {α β γ : Type} (s : Sem α) (f : α → Sem β) (g : β → Sem γ) : (s.bind f).bind g = s.bind (fun a => (f a).bind g) := by
  induction s with
  | pure a => rfl
  | store m a v k ih => simp only [Sem.bind, ih]
  | freeze a n k ih => simp only [Sem.bind, ih]
  | setObj r o k ih => simp only [Sem.bind, ih]
  | mark m k ih => simp only [Sem.bind, ih]
  | halt h => rfl
  | _ => simp only [Sem.bind]; congr 1; funext x; simp only [*]

instance : LawfulMonad Sem := LawfulMonad.mk' Sem (id_map := fun s => sem_bind_pure s) (pure_bind := fun a f => sem_pure_bind a f) (bind_assoc := fun s f g => sem_bind_assoc s f g)

/-- It only reads. -/
inductive Reads {α : Type} : Sem α → Prop
  | pure (a : α) : Reads (.pure a)
  | load (m : Mode) (a : Addr) (k : Value → Sem α) : (∀ v, Reads (k v)) → Reads (.load m a k)
  | program (k : Program → Sem α) : (∀ p, Reads (k p)) → Reads (.program k)
  | halt (h : Halt) : Reads (.halt h)

theorem Reads.bind {α β : Type} {s : Sem α} {f : α → Sem β} (h : Reads s) (hf : ∀ a, Reads (f a)) : Reads (s.bind f) := by
  induction h with
  | pure a => exact hf a
  | load m a k _ ih => exact .load _ _ _ ih
  | program k _ ih => exact .program _ ih
  | halt h => exact .halt _

theorem Reads.run {α : Type} {s : Sem α} (h : Reads s) {w : World} : ∀ {a : α} {w' : World}, s.run P w = .ok a w' → w' = w := by
  induction h with
  | pure a => intro x w' e; cases e; rfl
  | load m a k _ ih =>
    intro x w' e
    unfold Sem.run at e
    split at e
    · exact ih _ e
    · split at e
      · exact ih _ e
      · cases e
  | program k _ ih => intro x w' e; exact ih _ e
  | halt h => intro x w' e; cases e

theorem reads_loadCells {a : Addr} : ∀ (n i : Nat) (acc : Array Value), Reads (loadCellsFrom a i n acc)
  | 0, _, acc => .pure acc
  | n + 1, i, acc => .load _ _ _ fun v => reads_loadCells n (i + 1) (acc.push v)

theorem reads_info (t : TypeId) : Reads (typeInfo t) := .program _ fun p => by
  simp only [sem_pure_bind]
  cases p.info? t with
  | none => exact .halt _
  | some i => exact .pure _

theorem reads_loadVar (t : TypeId) (a : Addr) : Reads (loadVar t a) := by
  unfold loadVar isAgg underlying
  refine Reads.bind (Reads.bind (.program _ fun p => ?_) fun d => ?_) fun b => ?_
  · simp only [sem_pure_bind]
    cases p.underlying t with
    | none => exact .halt _
    | some d => exact .pure _
  · cases d <;> exact .pure _
  · cases b
    · exact .load _ _ _ fun v => .pure v
    · exact Reads.bind (Reads.bind (reads_info t) fun i => .pure _) fun sz => Reads.bind (reads_loadCells sz 0 #[]) fun cs => .pure _

theorem reads_mapM {α β : Type} (f : α → Sem β) (hf : ∀ x, Reads (f x)) : ∀ l : List α, Reads (l.mapM f)
  | [] => .pure _
  | x :: l => by
    rw [List.mapM_cons]
    exact Reads.bind (hf x) fun y => Reads.bind (reads_mapM f hf l) fun ys => .pure _

theorem reads_nil {α : Type} : Reads (runtimePanic (α := α) .nilDeref) := .program _ fun _ => .halt _

theorem reads_results (fn : Func) (tmps : Array Value) : Reads (results fn tmps) := by
  unfold results
  rw [Array.mapM_eq_mapM_toList]
  refine Reads.bind (Reads.bind (reads_mapM _ (fun x => ?_) _) fun l => .pure _) fun vs => ?_
  · cases x with
    | tmp t => exact .pure _
    | cell a t =>
      refine Reads.bind ?_ fun ad => reads_loadVar t ad
      unfold asAddr
      split
      · exact .pure _
      · exact reads_nil
      · exact .halt _
  · exact .pure _

/-- The results, off the registers. -/
def resR (r : Rg) : ResultVar → Sem Value
  | .tmp t => .pure (r t)
  | .cell a t => (asAddr (r a)).bind fun ad => loadVar t ad

def resL (r : Rg) : List ResultVar → List Value → Sem Value
  | [], acc => .pure (match acc with | [v] => v | _ => .tuple acc.reverse.toArray)
  | x :: l, acc => (resR r x).bind fun v => resL r l (v :: acc)

theorem resL_mapM (r : Rg) (f : ResultVar → Sem Value) (hf : ∀ x, f x = resR r x) : ∀ (l : List ResultVar) (acc : List Value),
    resL r l acc = (l.mapM f).bind fun vs => .pure (match acc.reverse ++ vs with | [v] => v | vs => .tuple vs.toArray)
  | [], acc => by
    simp only [resL, List.mapM_nil, pure, Sem.bind, List.append_nil]
    congr 1
    match acc with
    | [] => rfl
    | [v] => rfl
    | a :: b :: c => 
      simp only [List.reverse_cons, List.append_assoc]
      split
      · rename_i h
        have := congrArg List.length h
        simp at this
      · rfl
  | x :: l, acc => by
    have hb : ∀ (α β : Type) (s : Sem α) (g : α → Sem β), (s >>= g) = s.bind g := fun _ _ _ _ => rfl
    simp only [resL, List.mapM_cons, hf, hb, sem_bind_assoc]
    congr 1
    funext v
    rw [resL_mapM r f hf l (v :: acc)]
    simp only [pure, sem_pure_bind, List.reverse_cons, List.append_assoc, List.singleton_append]

theorem results_resL {fn : Func} {n : Nat} {a : Act} {r : Rg} (f : Fit n a r) : results fn a.tmps = resL r fn.results.toList [] := by
  have hb : ∀ (α β : Type) (s : Sem α) (g : α → Sem β), (s >>= g) = s.bind g := fun _ _ _ _ => rfl
  unfold results
  rw [Array.mapM_eq_mapM_toList]
  rw [resL_mapM r (fun
    | .tmp t => pure (a.tmps.getD t undef)
    | .cell b t => do loadVar t (← asAddr (a.tmps.getD b undef))) (fun x => by cases x <;> simp only [f.is] <;> rfl)]
  simp only [hb, Functor.map, sem_bind_assoc]
  congr 1
  funext vs
  simp only [sem_pure_bind, Function.comp, List.reverse_nil, List.nil_append]
  match vs with
  | [] => rfl
  | [v] => rfl
  | a :: b :: c => simp [pure]

def retK (P : Program) (G : Hp) (rs : List ResultVar) (R : Value → Hp → Prop) : Exit → Rg → Hp → Prop
  | .normal, r, h | .ret, r, h => wpH P G (resL r rs []) h R
  | _, _, _ => False

def regs (args : Array Value) : Rg := fun t => args.getD t undef

/-- **A CALL ENTERED.** -/
theorem HCalls.enter (hm : P.follows .mixedOrders = true) {f : FuncId} {fn : Func} {c : Code} {args : Array Value} {h : Hp} {R : Value → Hp → Prop} (hf : P.funcs[f]? = some fn) (hb : fn.body = some c)
    (hn : args.size ≤ fn.ntmps) (H : wpC P G fn.ntmps md c (regs args) h (retK P G fn.results.toList R)) : HCalls P G f args h R := by
  intro w i
  have fit : Fit fn.ntmps { tmps := args ++ Array.replicate (fn.ntmps - args.size) undef, defers := [] } (regs args) := by
    refine ⟨by simp; omega, fun t => ?_, rfl⟩
    simp only [regs, Array.getD_eq_getD_getElem?]
    by_cases ht : t < args.size
    · rw [Array.getElem?_append_left ht]
    · rw [Array.getElem?_append_right (by omega), Array.getElem?_eq_none (xs := args) (by omega)]
      by_cases h2 : t - args.size < fn.ntmps - args.size
      · simp [h2]
      · simp [h2]
  refine calls_of_wp hf hb (wpC_wp hm c fit i H fun e r' h' a' w' f' m k => ?_)
  cases e <;> simp only [retK] at k <;> simp only [bodyPost]
  all_goals
    obtain ⟨v, h2, w2, e1, m2, k2⟩ := wpH_run _ (m.keeps i) k
    rw [← results_resL (fn := fn) f'] at e1
    have := (reads_results fn a'.tmps).run e1
    subst this
    exact ⟨f'.defers, v, e1, v, h2, rfl, m.trans m2, k2⟩

end
end Go.HL
