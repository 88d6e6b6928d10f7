/- A region that draws its order: one walk in the order of the text serves every order. -/
import Derived.Test.YtkekdpnlenpmiaaHLb
namespace Go.HL
open Go

def noHp : Hp := fun _ => none

/-- What an operation that leaves memory alone yields, in a heap of which these blocks are known. -/
def pureAt (P : Program) (G : Hp) (h0 : Hp) (s : Sem Next) (v : Value) : Prop := wpH P G s h0 (fun n h' => h' = h0 ∧ n = .value v)

inductive Kind where
  | pureN | pureM | late | alloc | store | eff
  deriving DecidableEq

def kindOp : Op → Kind
  | .move _ | .assign _ | .pick .. | .nilCheck _ | .unOp .. | .fieldAddr .. | .field .. | .indexAddr .. | .index .. | .build .. | .extract .. | .slice .. | .makeFunc .. => .pureN
  | .binOp op _ _ _ _ => (match op with | .eql | .neq => .pureM | _ => .pureN)
  | .call { callee := .builtin b, .. } => (match b with | .len | .cap => .pureM | .min | .max => .pureN | _ => .eff)
  | .load .. | .lookup .. | .convert .. | .makeInterface .. | .typeAssert .. => .pureM
  | .alloc _ | .box .. | .buildSlice .. | .makeMap _ none => .alloc
  | .store .. => .store
  | _ => .eff

def bit (B : Array Nat) (j i : Nat) : Bool := (B.getD j 0).testBit i

/-- What stands ahead of each operation, by edges and their edges (this list is checked, not trusted). -/
def bitsOk (ops : Array Oper) (B : Array Nat) : Bool :=
  ops.zipIdx.all fun (o, j) =>
    o.after.all (fun e => !Region.binds .any e || decide (e.on < j)) &&
    (let u := o.after.foldl (fun s e => if Region.binds .any e then s ||| 2 ^ e.on ||| B.getD e.on 0 else s) 0
     (B.getD j 0) ||| u == u)

def isEff : Kind → Bool
  | .store | .eff => true
  | _ => false

def kop (ops : Array Oper) (i : Nat) : Kind := match ops[i]? with
  | none => .pureN
  | some o => kindOp o.op

/-- An effect beside which a load may come (all: or behind which one comes): it must leave be what was there when the region began. -/
def newAt (all : Bool) (ops : Array Oper) (B : Array Nat) (j : Nat) : Bool :=
  isEff (kop ops j) && (List.range ops.size).any fun i => kop ops i == .pureM && !bit B j i && (all || !bit B i j)

/-- A load behind another effect of its own region is late: it reads what is there then. -/
def kindAt (all : Bool) (ops : Array Oper) (B : Array Nat) (j : Nat) : Kind :=
  match kop ops j with
  | .pureM => if (List.range j).any (fun i => bit B j i && isEff (kop ops i) && !newAt all ops B i) then .late else .pureM
  | k => k

/-- May i and j (i ahead in the text) come in either order? -/
def mayPair (ki kj : Kind) : Bool :=
  match ki, kj with
  | .pureN, _ | _, .pureN => true
  | .pureM, _ | _, .pureM => true
  | .late, .late => true
  | .late, _ | _, .late => false
  | _, .alloc => true
  | _, _ => false

def regionOk (all : Bool) (ops : Array Oper) (B : Array Nat) : Bool :=
  bitsOk ops B && Region.noSelect ops &&
  (List.range ops.size).all fun j => (List.range j).all fun i => bit B j i ||
    (mayPair (kindAt all ops B i) (kindAt all ops B j) && (match ops[i]?, ops[j]? with | some oi, some oj => oi.apart ops oj | _, _ => true))

section
variable (P : Program) (G : Hp) (n : Nat) (all : Bool) (ops : Array Oper) (B : Array Nat) (h0 : Hp)

def Sat (h : Hp) : Prop := ∃ w, In G h w

/-- One operation, its number i. -/
def stepD (i : Nat) (o : Oper) (r : Rg) (h : Hp) (K : Value → Hp → Prop) : Prop :=
  match kindAt all ops B i with
  | .pureN => ∃ v, pureAt P noHp noHp (execOp (evalR r) o) v ∧ K v h
  | .pureM => ∃ v, pureAt P G h0 (execOp (evalR r) o) v ∧ K v h
  | .late => ∃ v, pureAt P G h (execOp (evalR r) o) v ∧ K v h
  | _ => match newAt all ops B i with
    | true => opH P G (execOp (evalR r) o) h (fun v h' => h0.le h' ∧ K v h')
    | false => opH P G (execOp (evalR r) o) h K

/-- The walk in the order of the text, from number i on. -/
def lexD : Nat → List Oper → Rg → Hp → (Rg → Hp → Prop) → Prop
  | _, [], r, h, K => K r h
  | i, o :: rest, r, h, K =>
    if wantedR ops o r = true then stepD P G all ops B h0 i o r h (fun v h' => lexD (i + 1) rest (putR n r o.dst v) h' K) else lexD (i + 1) rest (putR n r o.dst undef) h K

/-- The same, of states that can be. -/
def stepS (i : Nat) (o : Oper) (r : Rg) (h : Hp) (K : Value → Hp → Prop) : Prop := stepD P G all ops B h0 i o r h (fun v h' => Sat G h' → K v h')

def dOp (i : Nat) (K : Rg → Hp → Prop) (r : Rg) (h : Hp) : Prop :=
  match ops[i]? with
  | none => K r h
  | some o => if wantedR ops o r = true then stepS P G all ops B h0 i o r h (fun v h' => K (putR n r o.dst v) h') else K (putR n r o.dst undef) h

def anyD (K : Rg → Hp → Prop) : Nat → Array Bool → Rg → Hp → Prop
  | 0, listed, r, h => Region.ready .any ops listed = [] ∧ K r h
  | fuel + 1, listed, r, h =>
    (Region.ready .any ops listed = [] → K r h) ∧
    ∀ i ∈ Region.ready .any ops listed, dOp P G n all ops B h0 i (anyD K fuel (listed.setIfInBounds i true)) r h

end

section
variable {P : Program} {G : Hp} {n : Nat} {all : Bool} {ops : Array Oper} {B : Array Nat} {h0 : Hp}

theorem stepD_mono {i : Nat} {o : Oper} {r : Rg} {h : Hp} {K K' : Value → Hp → Prop} (hk : ∀ v h, K v h → K' v h) (H : stepD P G all ops B h0 i o r h K) : stepD P G all ops B h0 i o r h K' := by
  unfold stepD at *
  split at H
  · obtain ⟨v, e, H⟩ := H; exact ⟨v, e, hk _ _ H⟩
  · obtain ⟨v, e, H⟩ := H; exact ⟨v, e, hk _ _ H⟩
  · obtain ⟨v, e, H⟩ := H; exact ⟨v, e, hk _ _ H⟩
  · split at H
    · exact opH_mono (fun v h k => ⟨k.1, hk _ _ k.2⟩) H
    · exact opH_mono hk H

theorem dOp_mono {i : Nat} {r : Rg} {h : Hp} {K K' : Rg → Hp → Prop} (hk : ∀ r h, K r h → K' r h) (H : dOp P G n all ops B h0 i K r h) : dOp P G n all ops B h0 i K' r h := by
  unfold dOp at *
  split
  · rename_i e; simp only [e] at H; exact hk _ _ H
  · rename_i o e
    simp only [e] at H
    split
    · rename_i e2; rw [if_pos e2] at H; exact stepD_mono (fun v h H s => hk _ _ (H s)) H
    · rename_i e2; rw [if_neg e2] at H; exact hk _ _ H

theorem upd_comm (r : Rg) {d e : Nat} (v u : Value) (h : d ≠ e) : upd (upd r d v) e u = upd (upd r e u) d v := by
  funext x
  simp only [upd]
  by_cases h1 : x = d <;> by_cases h2 : x = e <;> simp_all

theorem putR_comm (r : Rg) {x y : Option Tmp} (v u : Value) (h : ∀ d, x = some d → y ≠ some d) : putR n (putR n r x v) y u = putR n (putR n r y u) x v := by
  cases x with
  | none => rfl
  | some d =>
    cases y with
    | none => rfl
    | some e =>
      have hne : d ≠ e := fun he => h d rfl (he ▸ rfl)
      simp only [putR]
      split <;> split <;> first | rfl | exact upd_comm r v u hne

theorem eval_putR {r : Rg} {dst : Option Tmp} {v : Value} {x : Operand} (h : ∀ d, dst = some d → x ≠ .tmp d) : evalR (putR n r dst v) x = evalR r x := by
  cases dst with
  | none => rfl
  | some d =>
    simp only [putR]
    split
    · cases x with
      | tmp t =>
        have hne : t ≠ d := fun e => h d rfl (e ▸ rfl)
        simp [evalR, upd, hne]
      | _ => rfl
    · rfl

theorem mem_looksAt {o : Oper} {d : Nat} (h : Operand.tmp d ∈ o.op.operands) : d ∈ o.looksAt ops :=
  List.mem_append_left _ (List.mem_filterMap.2 ⟨.tmp d, by simpa using h, rfl⟩)

theorem exec_putR (o : Oper) (hs : ∀ cs b, o.op ≠ .select cs b) (r : Rg) (dst : Option Tmp) (v : Value) (h : ∀ d, dst = some d → d ∉ o.looksAt ops) :
    execOp (evalR (putR n r dst v)) o = execOp (evalR r) o :=
  execOp_congr o hs fun _ hx => eval_putR fun d hd hxd => h d hd (mem_looksAt (hxd ▸ hx))

theorem yielded_putR {r : Rg} {dst : Option Tmp} {v : Value} {g : Nat} (h : ∀ d, dst = some d → (ops[g]?).bind (·.dst) ≠ some d) : yieldedR ops (putR n r dst v) g = yieldedR ops r g := by
  cases dst with
  | none => rfl
  | some d =>
    unfold yieldedR
    cases ht : (ops[g]?).bind (·.dst) with
    | none => rfl
    | some t =>
      have hne : t ≠ d := fun e => h d rfl (by rw [ht, e])
      have : putR n r (some d) v t = r t := by
        simp only [putR]
        split
        · simp [upd, hne]
        · rfl
      simp only [this]

theorem wanted_putR (o : Oper) (r : Rg) (dst : Option Tmp) (v : Value) (h : ∀ d, dst = some d → d ∉ o.looksAt ops) : wantedR ops o (putR n r dst v) = wantedR ops o r := by
  unfold wantedR Region.wanted
  cases hg : o.guard with
  | none => rfl
  | some gw =>
    obtain ⟨g, want⟩ := gw
    have : yieldedR ops (putR n r dst v) g = yieldedR ops r g := yielded_putR fun d hd e => h d hd (by simp [Oper.looksAt, hg, e])
    simp only [this]

theorem stepD_putR {j : Nat} {o : Oper} (hs : ∀ cs b, o.op ≠ .select cs b) {r : Rg} {dst : Option Tmp} {v : Value} (hd : ∀ d, dst = some d → d ∉ o.looksAt ops) {h : Hp} {K : Value → Hp → Prop} :
    stepD P G all ops B h0 j o (putR n r dst v) h K ↔ stepD P G all ops B h0 j o r h K := by
  unfold stepD
  rw [exec_putR o hs r dst v hd]

/-- What is yielded by what leaves memory alone is one value. -/
theorem pureAt_one {h : Hp} {s : Sem Next} {v u : Value} {w : World} (i : In G h w) (a : pureAt P G h s v) (b : pureAt P G h s u) : v = u := by
  obtain ⟨n1, h1, w1, e1, _, _, e3⟩ := wpH_run _ i a
  obtain ⟨n2, h2, w2, f1, _, _, f3⟩ := wpH_run _ i b
  rw [e1] at f1
  cases f1
  rw [e3] at f3
  cases f3
  rfl

theorem in_noHp (w : World) : In noHp noHp w := ⟨fun _ _ h => (by simp [noHp] at h), fun _ _ h => (by simp [noHp] at h)⟩

/-- A new block is all that an 'alloc' makes. -/
theorem alloc_form {o : Oper} (hk : kindOp o.op = .alloc) (ρ : Operand → Value) : (∀ h K, ¬ opH P G (execOp ρ o) h K) ∨
    ∃ (ob : Obj) (f : Nat → Value), ∀ h K, opH P G (execOp ρ o) h K ↔ ∀ x, h x = none → G x = none → K (f x) (h.set x ob) := by
  obtain ⟨dst, op, type, pos, after, guard⟩ := o
  cases op <;> simp only [kindOp] at hk <;> try (exact absurd hk (by decide))
  case alloc e =>
    cases hi : P.info? e with
    | none => exact .inl fun h K H => by simp [opH, execOp, Instr.alloc, zeroValue, typeInfo, program, bind, Sem.bind, pure, wpH, hi, stuck] at H
    | some i =>
      cases hz : i.zero with
      | none => exact .inl fun h K H => by simp [opH, execOp, Instr.alloc, zeroValue, typeInfo, program, bind, Sem.bind, pure, wpH, hi, hz, unsupported] at H
      | some z => exact .inr ⟨.cells z.cells e, fun x => .pointer (some ⟨x, 0, none⟩), fun h K => by simp [opH, execOp, Instr.alloc, zeroValue, typeInfo, program, bind, Sem.bind, pure, wpH, hi, hz, newVar, newRow, newObj, onNext]⟩
  case box e x => exact .inr ⟨.cells (ρ x).cells e, fun x => .pointer (some ⟨x, 0, none⟩), fun h K => by simp [opH, execOp, Instr.box, bind, Sem.bind, pure, wpH, newVar, newRow, newObj, onNext]⟩
  case makeMap t r =>
    cases r with
    | some r => cases hk
    | none => exact .inr ⟨.map #[] 0, fun x => .map (some x), fun h K => by simp [opH, execOp, Instr.makeMap, bind, Sem.bind, pure, wpH, newObj, onNext]⟩
  case buildSlice t len parts =>
    cases hu : P.underlying t with
    | none => exact .inl fun h K H => by simp [opH, execOp, Instr.buildSlice, underlying, program, bind, Sem.bind, pure, wpH, hu, stuck] at H
    | some d =>
      cases d
      case slice e =>
        cases hi : P.info? e with
        | none => exact .inl fun h K H => by simp [opH, execOp, Instr.buildSlice, underlying, sizeOf, typeInfo, program, bind, Sem.bind, pure, wpH, hu, hi, stuck] at H
        | some i =>
          by_cases hbig : len * i.size > 2 ^ 24
          · refine .inl fun h K H => ?_
            simp only [opH, execOp, Instr.buildSlice, underlying, sizeOf, typeInfo, program, bind, Sem.bind, pure, wpH, hu, hi, if_pos hbig, unsupported] at H
          · have form : ∀ zero : Array Value, (∀ h K, ¬ wpH P G ((match Instr.fill (fun i_1 => some (i_1 * i.size, i.size)) (Array.map (fun x => zero[x % zero.size]!) (Array.range (len * i.size))) (Array.map (fun x => (x.1, ρ x.2)) parts).toList with
                | some cells => (newRow e cells).bind fun y => Sem.pure (.slice (some y) len len)
                | none => stuck "buildSlice: a part of the wrong size") : Sem Value) h K) ∨
              ∃ (ob : Obj), ∀ h K, wpH P G ((match Instr.fill (fun i_1 => some (i_1 * i.size, i.size)) (Array.map (fun x => zero[x % zero.size]!) (Array.range (len * i.size))) (Array.map (fun x => (x.1, ρ x.2)) parts).toList with
                | some cells => (newRow e cells).bind fun y => Sem.pure (.slice (some y) len len)
                | none => stuck "buildSlice: a part of the wrong size") : Sem Value) h K ↔ ∀ x, h x = none → G x = none → K (.slice (some ⟨x, 0, none⟩) len len) (h.set x ob) := by
              intro zero
              split
              · rename_i cells _
                exact .inr ⟨.cells cells e, fun h K => by simp [newRow, newObj, bind, Sem.bind, pure, wpH]⟩
              · exact .inl fun h K H => H
            have hexec : ∀ h K, opH P G (execOp ρ { dst := dst, op := .buildSlice t len parts, type := type, pos := pos, after := after, guard := guard }) h K ↔
                wpH P G (if len * i.size = 0 then (pure #[] : Sem (Array Value)) else (zeroValue e).bind fun z => pure z.cells) h (fun zero h' => wpH P G ((match Instr.fill (fun i_1 => some (i_1 * i.size, i.size)) (Array.map (fun x => zero[x % zero.size]!) (Array.range (len * i.size))) (Array.map (fun x => (x.1, ρ x.2)) parts).toList with
                | some cells => (newRow e cells).bind fun y => Sem.pure (.slice (some y) len len)
                | none => stuck "buildSlice: a part of the wrong size") : Sem Value) h' (fun v h2 => onNext P G K (.value v) h2)) := by
              intro h K
              simp only [opH, execOp, Instr.buildSlice, underlying, sizeOf, typeInfo, program, bind, pure, wpH, hu, hi, if_neg hbig, wpH_bind]
              by_cases hz : len * i.size = 0
              · simp only [if_pos hz, wpH_bind, wpH]
                constructor
                · intro H; split at H <;> simp_all [wpH, wpH_bind, stuck]
                · intro H; split at H <;> simp_all [wpH, wpH_bind, stuck]
              · simp only [if_neg hz, wpH_bind, wpH]
                refine iff_of_eq (congrArg _ (funext fun z => funext fun h' => propext ?_))
                constructor
                · intro H; split at H <;> simp_all [wpH, wpH_bind, stuck]
                · intro H; split at H <;> simp_all [wpH, wpH_bind, stuck]
            by_cases hz : len * i.size = 0
            · rcases form #[] with hno | ⟨ob, hf⟩
              · refine .inl fun h K H => ?_
                rw [hexec, if_pos hz] at H
                exact hno _ _ H
              · exact .inr ⟨ob, _, fun h K => by rw [hexec, if_pos hz]; exact hf _ _⟩
            · cases hzz : i.zero with
              | none =>
                  refine .inl fun h K H => ?_
                  rw [hexec, if_neg hz] at H
                  simp [zeroValue, typeInfo, program, bind, Sem.bind, pure, wpH, hi, hzz, unsupported] at H
              | some z =>
                have hz2 : ∀ h (K : Array Value → Hp → Prop), wpH P G ((zeroValue e).bind fun z => pure z.cells) h K ↔ K z.cells h := fun h K => by
                  simp [zeroValue, typeInfo, program, bind, Sem.bind, pure, wpH, hi, hzz]
                rcases form z.cells with hno | ⟨ob, hf⟩
                · refine .inl fun h K H => ?_
                  rw [hexec, if_neg hz, hz2] at H
                  exact hno _ _ H
                · exact .inr ⟨ob, _, fun h K => by rw [hexec, if_neg hz, hz2]; exact hf _ _⟩
      all_goals exact .inl fun h K H => by simp [opH, execOp, Instr.buildSlice, underlying, program, bind, Sem.bind, pure, wpH, hu, stuck] at H
  case binOp op _ _ _ _ => cases op <;> simp at hk
  case call c =>
    obtain ⟨ca, args, ts⟩ := c
    cases ca with
    | builtin b => cases b <;> simp at hk
    | _ => simp at hk

theorem Sat.less {h h' : Hp} (s : Sat G h') (l : h.le h') : Sat G h := let ⟨w, i⟩ := s; ⟨w, i.less l⟩

theorem kindAt_kop {j : Nat} {k : Kind} (hk : kindAt all ops B j = k) (h1 : k ≠ .late) : kop ops j = k := by
  unfold kindAt at hk
  cases e : kop ops j <;> simp only [e] at hk <;> first | exact hk | skip
  split at hk
  · exact absurd hk.symm h1
  · exact hk

theorem kindAt_alloc {j : Nat} {o : Oper} (hj : ops[j]? = some o) (k : kindAt all ops B j = .alloc) : kindOp o.op = .alloc := by
  have := kindAt_kop k (by decide)
  unfold kop at this
  rw [hj] at this
  exact this

/-- i and j in the other order. -/
theorem swapD {i j : Nat} {oi oj : Oper} (hi : ops[i]? = some oi) (hj : ops[j]? = some oj) (hsi : ∀ cs b, oi.op ≠ .select cs b) (hsj : ∀ cs b, oj.op ≠ .select cs b)
    (hp : mayPair (kindAt all ops B i) (kindAt all ops B j) = true) (hap : oi.apart ops oj = true) {K : Rg → Hp → Prop} {r : Rg} {h : Hp} (hs : Sat G h) (hs0 : Sat G h0)
    (H : dOp P G n all ops B h0 i (dOp P G n all ops B h0 j K) r h) : dOp P G n all ops B h0 j (dOp P G n all ops B h0 i K) r h := by
  obtain ⟨a1, a2, a3⟩ := Oper.apart_spec hap
  have comm : ∀ v u, putR n (putR n r oi.dst v) oj.dst u = putR n (putR n r oj.dst u) oi.dst v := fun v u => putR_comm r v u a2
  unfold dOp at *
  simp only [hi, hj] at H ⊢
  have w1 : ∀ v, wantedR ops oj (putR n r oi.dst v) = wantedR ops oj r := fun v => wanted_putR oj r oi.dst v a1
  have w2 : ∀ u, wantedR ops oi (putR n r oj.dst u) = wantedR ops oi r := fun u => wanted_putR oi r oj.dst u a3
  simp only [w1, w2] at H ⊢
  have s1 : ∀ v h K, stepD P G all ops B h0 j oj (putR n r oi.dst v) h K ↔ stepD P G all ops B h0 j oj r h K := fun v h K => stepD_putR hsj a1
  have s2 : ∀ u h K, stepD P G all ops B h0 i oi (putR n r oj.dst u) h K ↔ stepD P G all ops B h0 i oi r h K := fun u h K => stepD_putR hsi a3
  unfold stepS at *
  simp only [s1, s2] at H ⊢
  by_cases wi : wantedR ops oi r = true
  case neg =>
    simp only [if_neg wi] at H ⊢
    by_cases wj : wantedR ops oj r = true
    · simp only [if_pos wj] at H ⊢
      exact stepD_mono (fun v h H s => by rw [← comm]; exact H s) H
    · simp only [if_neg wj] at H ⊢
      rw [← comm]; exact H
  simp only [if_pos wi] at H ⊢
  by_cases wj : wantedR ops oj r = true
  case neg =>
    simp only [if_neg wj] at H ⊢
    exact stepD_mono (fun v h H s => by rw [← comm]; exact H s) H
  simp only [if_pos wj] at H ⊢
  simp only [comm] at H
  -- i leaves memory alone
  have pureI : (∃ v, (∀ h' (K' : Value → Hp → Prop), K' v h' → stepD P G all ops B h0 i oi r h' K') ∧
      (Sat G h → stepD P G all ops B h0 j oj r h (fun u h' => Sat G h' → K (putR n (putR n r oj.dst u) oi.dst v) h'))) →
      stepD P G all ops B h0 j oj r h (fun u h' => Sat G h' → stepD P G all ops B h0 i oi r h' (fun v h' => Sat G h' → K (putR n (putR n r oj.dst u) oi.dst v) h')) := by
    rintro ⟨v, hv, H⟩
    exact stepD_mono (fun u h' H s => hv _ _ (fun s => H s)) (H hs)
  -- j leaves memory alone, and is told of memory by what lay there
  have pureJ : (∃ (Gx hx : Hp), Sat Gx hx ∧ ∀ h' K', stepD P G all ops B h0 j oj r h' K' ↔ ∃ v, pureAt P Gx hx (execOp (evalR r) oj) v ∧ K' v h') →
      stepD P G all ops B h0 j oj r h (fun u h' => Sat G h' → stepD P G all ops B h0 i oi r h' (fun v h' => Sat G h' → K (putR n (putR n r oj.dst u) oi.dst v) h')) := by
    rintro ⟨Gx, hx, ⟨wx, hwx⟩, pj⟩
    simp only [pj] at H ⊢
    have some1 : ∃ u, pureAt P Gx hx (execOp (evalR r) oj) u := by
      unfold stepD at H
      split at H
      · obtain ⟨v, _, H⟩ := H; obtain ⟨u, hu, _⟩ := H hs; exact ⟨u, hu⟩
      · obtain ⟨v, _, H⟩ := H; obtain ⟨u, hu, _⟩ := H hs; exact ⟨u, hu⟩
      · obtain ⟨v, _, H⟩ := H; obtain ⟨u, hu, _⟩ := H hs; exact ⟨u, hu⟩
      · obtain ⟨w, hw⟩ := hs
        split at H
        · obtain ⟨v, h1, w1, m1, _, k1⟩ := opH_some hw H
          obtain ⟨u, hu, _⟩ := k1 ⟨w1, m1.keeps hw⟩
          exact ⟨u, hu⟩
        · obtain ⟨v, h1, w1, m1, k1⟩ := opH_some hw H
          obtain ⟨u, hu, _⟩ := k1 ⟨w1, m1.keeps hw⟩
          exact ⟨u, hu⟩
    obtain ⟨u, hu⟩ := some1
    refine ⟨u, hu, fun _ => stepD_mono (fun v h' H s => ?_) H⟩
    obtain ⟨u', hu', k'⟩ := H s
    obtain rfl := pureAt_one hwx hu hu'
    exact k' s
  have pureJN : kindAt all ops B j = .pureN → stepD P G all ops B h0 j oj r h (fun u h' => Sat G h' → stepD P G all ops B h0 i oi r h' (fun v h' => Sat G h' → K (putR n (putR n r oj.dst u) oi.dst v) h')) := fun kj =>
    pureJ ⟨noHp, noHp, ⟨_, in_noHp default⟩, fun h' K' => by unfold stepD; simp only [kj]⟩
  have pureJM : kindAt all ops B j = .pureM → stepD P G all ops B h0 j oj r h (fun u h' => Sat G h' → stepD P G all ops B h0 i oi r h' (fun v h' => Sat G h' → K (putR n (putR n r oj.dst u) oi.dst v) h')) := fun kj =>
    pureJ ⟨G, h0, hs0, fun h' K' => by unfold stepD; simp only [kj]⟩
  -- the kinds
  cases ki : kindAt all ops B i with
  | pureN =>
    apply pureI
    unfold stepD at H
    simp only [ki] at H
    obtain ⟨v, e, H⟩ := H
    exact ⟨v, fun h' K' k => by unfold stepD; simp only [ki]; exact ⟨v, e, k⟩, H⟩
  | pureM =>
    apply pureI
    unfold stepD at H
    simp only [ki] at H
    obtain ⟨v, e, H⟩ := H
    exact ⟨v, fun h' K' k => by unfold stepD; simp only [ki]; exact ⟨v, e, k⟩, H⟩
  | late =>
    have lateI : ∀ h' K', stepD P G all ops B h0 i oi r h' K' ↔ ∃ v, pureAt P G h' (execOp (evalR r) oi) v ∧ K' v h' := fun h' K' => by unfold stepD; simp only [ki]
    cases kj : kindAt all ops B j with
    | pureN => exact pureJN kj
    | pureM => exact pureJM kj
    | late =>
      have lateJ : ∀ h' K', stepD P G all ops B h0 j oj r h' K' ↔ ∃ v, pureAt P G h' (execOp (evalR r) oj) v ∧ K' v h' := fun h' K' => by unfold stepD; simp only [kj]
      simp only [lateI, lateJ] at H ⊢
      obtain ⟨v, e, H⟩ := H
      obtain ⟨u, e2, H⟩ := H hs
      exact ⟨u, e2, fun _ => ⟨v, e, H⟩⟩
    | _ => rw [ki, kj] at hp; exact absurd hp (by simp [mayPair])
  | _ =>
    all_goals
      cases kj : kindAt all ops B j with
      | pureN => exact pureJN kj
      | pureM => exact pureJM kj
      | alloc =>
        have kop := kindAt_alloc hj kj
        have nj : newAt all ops B j = false := by
          unfold newAt
          rw [kindAt_kop kj (by decide)]
          rfl
        have effJ : ∀ h' K', stepD P G all ops B h0 j oj r h' K' ↔ opH P G (execOp (evalR r) oj) h' K' := fun h' K' => by unfold stepD; simp only [kj, nj]
        cases ni : newAt all ops B i with
        | false =>
          have effI : ∀ h' K', stepD P G all ops B h0 i oi r h' K' ↔ opH P G (execOp (evalR r) oi) h' K' := fun h' K' => by unfold stepD; simp only [ki, ni]
          simp only [effI, effJ] at H ⊢
          rcases alloc_form (P := P) (G := G) kop (evalR r) with hno | ⟨ob, f, hform⟩
          · obtain ⟨w, hw⟩ := hs
            obtain ⟨v, h1, w1, m1, k1⟩ := opH_some hw H
            exact absurd (k1 ⟨w1, m1.keeps hw⟩) (hno _ _)
          · rw [hform]
            simp only [hform] at H
            intro x hx gx _
            refine opH_mono (fun v h' H s => ?_) (opH_frame (r := x) (o := ob) gx hx H)
            obtain ⟨h1, rfl, e1, k1⟩ := H
            exact k1 (s.less ((Hp.le.refl h1).set e1)) x e1 gx s
        | true =>
          have effI : ∀ h' K', stepD P G all ops B h0 i oi r h' K' ↔ opH P G (execOp (evalR r) oi) h' (fun v h'' => h0.le h'' ∧ K' v h'') := fun h' K' => by unfold stepD; simp only [ki, ni]
          simp only [effI, effJ] at H ⊢
          rcases alloc_form (P := P) (G := G) kop (evalR r) with hno | ⟨ob, f, hform⟩
          · obtain ⟨w, hw⟩ := hs
            obtain ⟨v, h1, w1, m1, _, k1⟩ := opH_some hw H
            exact absurd (k1 ⟨w1, m1.keeps hw⟩) (hno _ _)
          · rw [hform]
            simp only [hform] at H
            intro x hx gx _
            refine opH_mono (fun v h' H => ?_) (opH_frame (r := x) (o := ob) gx hx H)
            obtain ⟨h1, rfl, e1, l1, k1⟩ := H
            have hx0 : h0 x = none := by
              cases e : h0 x with
              | none => rfl
              | some q => rw [l1 _ _ e] at e1; cases e1
            exact ⟨l1.set hx0, fun s => k1 (s.less ((Hp.le.refl h1).set e1)) x e1 gx s⟩
      | _ => rw [ki, kj] at hp; exact absurd hp (by simp [mayPair])

end
end Go.HL
