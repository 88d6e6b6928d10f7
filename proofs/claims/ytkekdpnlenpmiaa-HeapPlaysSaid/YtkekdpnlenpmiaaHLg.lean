/- The operations' names in a printed walk, and first rules for them. -/
import Derived.Test.YtkekdpnlenpmiaaHLf
namespace Go.HL
open Go

def sv (s : Sem Value) : Sem Next := s.bind fun a => .pure (.value a)
def su (s : Sem Unit) : Sem Next := s.bind fun _ => .pure .skip
def xPick (c a b : Value) : Sem Next := (asBool c).bind fun t => .pure (.value (if t = true then a else b))
def xNil (x : Value) : Sem Next := execOp (fun _ => x) { dst := none, op := .nilCheck (.tmp 0), type := 0, pos := "", after := #[], guard := none }
def xEq (op : BinOp) (T : TypeId) (cx cy : Operand) (x y : Value) : Sem Next := sv ((eqGuard op T cx cy x y).bind fun _ => binOp op T x y)
def xCallV (f : Value) (args : Array Value) : Sem Next := (Deferred.ofValue f args).bind fun d => invoke d.target d.args

section
variable {P : Program} {G : Hp}

theorem opH_sv {s : Sem Value} {h : Hp} {K : Value → Hp → Prop} : opH P G (sv s) h K = wpH P G s h K := propext (wpH_bind s _)
theorem opH_su {s : Sem Unit} {h : Hp} {K : Value → Hp → Prop} : opH P G (su s) h K = wpH P G s h (fun _ h' => K undef h') := propext (wpH_bind s _)

theorem pw_bind {α β : Type} {h0 : Hp} (s : Sem α) (f : α → Sem β) : ∀ {K : β → Prop}, pw P G h0 (s.bind f) K ↔ pw P G h0 s (fun a => pw P G h0 (f a) K) := by
  induction s with
  | pure a => intro K; exact Iff.rfl
  | load m a k ih => intro K; simp only [Sem.bind, pw, ih]
  | shape r k ih => intro K; simp only [Sem.bind, pw, ih]
  | frozen a k ih => intro K; simp only [Sem.bind, pw, ih]
  | getObj r k ih => intro K; simp only [Sem.bind, pw, ih]
  | program k ih => intro K; simp only [Sem.bind, pw, ih]
  | mark m k ih => intro K; simp only [Sem.bind, pw, ih]
  | _ => intro K; exact Iff.rfl

theorem pureW_sv {h0 : Hp} {s : Sem Value} {h : Hp} {K : Value → Hp → Prop} : pureW P G h0 (sv s) h K = pw P G h0 s (fun v => K v h) := propext (pw_bind s _)

theorem opH_pick {t : Bool} {a b : Value} {h : Hp} {K : Value → Hp → Prop} : opH P G (xPick (.bool t) a b) h K = K (if t = true then a else b) h := rfl
theorem pureW_pick {h0 : Hp} {t : Bool} {a b : Value} {h : Hp} {K : Value → Hp → Prop} : pureW P G h0 (xPick (.bool t) a b) h K = K (if t = true then a else b) h := rfl
theorem opH_nil {a : Addr} {h : Hp} {K : Value → Hp → Prop} : opH P G (xNil (.pointer (some a))) h K = K (.pointer (some a)) h := rfl
theorem pureW_nil {h0 : Hp} {a : Addr} {h : Hp} {K : Value → Hp → Prop} : pureW P G h0 (xNil (.pointer (some a))) h K = K (.pointer (some a)) h := rfl

theorem gd_true {v : Value} {b w : Bool} {X : (Value → Hp → Prop) → Prop} {h : Hp} {K : Value → Hp → Prop} (e : v = .bool b) (e2 : b = w) : gd (wantB v w) X h K = X K := by
  subst e e2; cases b <;> rfl
theorem gd_false {v : Value} {b w : Bool} {X : (Value → Hp → Prop) → Prop} {h : Hp} {K : Value → Hp → Prop} (e : v = .bool b) (e2 : b ≠ w) : gd (wantB v w) X h K = K undef h := by
  subst e; cases b <;> cases w <;> first | exact absurd rfl e2 | rfl
end
end Go.HL
namespace Go.HL
open Go
section
variable {P : Program} {G : Hp}

theorem add_mk {b i n : Nat} : (⟨b, i, none⟩ : Addr).add n = ⟨b, i + n, none⟩ := by
  unfold Addr.add
  split
  · rename_i e; subst e; rfl
  · rfl

theorem look_own {h : Hp} {b : Nat} {o : Obj} (e : h b = some o) : look G h b = some o := by simp [look, e]
theorem look_set_self {h : Hp} {b : Nat} {o : Obj} : look G (h.set b o) b = some o := look_own set_self
theorem look_set_other {h : Hp} {b c : Nat} {o : Obj} (e : c ≠ b) : look G (h.set b o) c = look G h c := by simp [look, set_other e]

theorem cell_of {h : Hp} {b i : Nat} {l : List Value} {e : TypeId} {f : Nat × Nat} (hb : look G h b = some (.cells l.toArray e f)) : cellIn G h ⟨b, i, none⟩ = l[i]? := by
  simp [cellIn, hb, objCell]

theorem cell_set_self {h : Hp} {b i : Nat} {l : List Value} {e : TypeId} {f : Nat × Nat} : cellIn G (h.set b (.cells l.toArray e f)) ⟨b, i, none⟩ = l[i]? := cell_of look_set_self
theorem cell_set_other {h : Hp} {b c i : Nat} {o : Obj} (e : c ≠ b) : cellIn G (h.set b o) ⟨c, i, none⟩ = cellIn G h ⟨c, i, none⟩ := by simp [cellIn, look_set_other e]

/-- Cells put into a row from a place on. -/
def putL (l : List Value) (i : Nat) : List Value → List Value
  | [] => l
  | v :: vs => putL (l.set i v) (i + 1) vs

theorem putL_length (vs : List Value) : ∀ (l : List Value) (i : Nat), (putL l i vs).length = l.length := by
  induction vs with
  | nil => intro l i; rfl
  | cons v vs ih => intro l i; simp [putL, ih]

theorem putL_get (vs : List Value) : ∀ (l : List Value) (i j : Nat), i + vs.length ≤ l.length → (putL l i vs)[j]? = if i ≤ j ∧ j < i + vs.length then vs[j - i]? else l[j]? := by
  induction vs with
  | nil => intro l i j h; simp only [putL, List.length_nil]; rw [if_neg (by omega)]
  | cons v vs ih =>
    intro l i j h
    simp only [List.length_cons] at h ⊢
    rw [putL, ih _ _ _ (by simp; omega)]
    by_cases h1 : i + 1 ≤ j ∧ j < i + 1 + vs.length
    · rw [if_pos h1, if_pos (by omega)]
      obtain ⟨k, rfl⟩ : ∃ k, j = i + 1 + k := ⟨j - (i + 1), by omega⟩
      rw [show i + 1 + k - (i + 1) = k by omega, show i + 1 + k - i = k + 1 by omega]
      rfl
    · rw [if_neg h1]
      by_cases h2 : j = i
      · subst h2
        rw [if_pos (by omega)]
        simp
        rw [List.getElem?_set_self (by omega)]
      · rw [if_neg (by omega), List.getElem?_set_ne (by omega)]

theorem putL_eq (vs : List Value) (l : List Value) (i : Nat) (h : i + vs.length ≤ l.length) : putL l i vs = l.take i ++ vs ++ l.drop (i + vs.length) := by
  apply List.ext_getElem?
  intro j
  rw [putL_get _ _ _ _ h]
  by_cases h1 : j < i
  · rw [if_neg (by omega), List.append_assoc, List.getElem?_append_left (by simp; omega), List.getElem?_take_of_lt h1]
  · by_cases h2 : j < i + vs.length
    · rw [if_pos (by omega), List.append_assoc, List.getElem?_append_right (by simp; omega), List.getElem?_append_left (by simp; omega)]
      congr 1; simp; omega
    · rw [if_neg (by omega), List.getElem?_append_right (by simp; omega), List.getElem?_drop]
      congr 1; simp; omega

theorem wpH_storeCells {b : Nat} {e : TypeId} : ∀ (vs : List Value) {h : Hp} {l : List Value} {i k : Nat} {K : Unit → Hp → Prop}, h b = some (.cells l.toArray e (0, 0)) → i + k + vs.length ≤ l.length → (∀ v ∈ vs, oneCell v = true) →
    (K () (h.set b (.cells (putL l (i + k) vs).toArray e (0, 0)))) → wpH P G (storeCells ⟨b, i, none⟩ vs k) h K
  | [], h, l, i, k, K, hb, _, _, H => by
    have : h.set b (.cells l.toArray e (0, 0)) = h := by
      funext x
      simp only [Hp.set]
      split
      · rename_i e2; rw [e2, hb]
      · rfl
    simp only [putL, this] at H
    exact H
  | v :: vs, h, l, i, k, K, hb, hlen, h1, H => by
    unfold storeCells
    simp only [List.length_cons] at hlen
    refine ⟨h1 v (.head _), by rw [add_mk], l.toArray, e, (0, 0), by rw [add_mk]; exact hb, by rw [add_mk]; simp; omega, by simp [objFrozen], ?_⟩
    rw [add_mk]
    simp only [List.setIfInBounds_toArray]
    refine wpH_storeCells (i := i) (k := k + 1) vs (set_self) (by simp; omega) (fun x hx => h1 x (.tail _ hx)) ?_
    rw [set_set]
    exact H

theorem storeAt_form {T : TypeId} {a : Addr} {v : Value} {n : Nat} (hi : (P.info? T).map (·.size) = some n) {h : Hp} {K : Unit → Hp → Prop} :
    wpH P G (Instr.storeAt T (.pointer (some a)) v) h K = (v.cells.size = n ∧ wpH P G (storeCells a v.cells.toList) h K) := by
  apply propext
  have : Instr.storeAt T (.pointer (some a)) v = storeVar T a v := rfl
  rw [this, storeVar_form]
  cases e : P.info? T with
  | none => rw [e] at hi; cases hi
  | some i =>
    rw [e] at hi
    simp at hi
    subst hi
    simp

/-- A store of a row of cells. -/
theorem store_row {T : TypeId} {v : Value} {n : Nat} (hi : (P.info? T).map (·.size) = some n) {b i : Nat} {l : List Value} {e : TypeId} {h : Hp} {K : Unit → Hp → Prop}
    (hb : h b = some (.cells l.toArray e (0, 0))) (hv : v.cells.size = n) (hl : i + n ≤ l.length) (h1 : ∀ x ∈ v.cells.toList, oneCell x = true) :
    K () (h.set b (.cells (putL l i v.cells.toList).toArray e (0, 0))) → wpH P G (Instr.storeAt T (.pointer (some ⟨b, i, none⟩)) v) h K := by
  intro H
  rw [storeAt_form hi]
  exact ⟨hv, wpH_storeCells (i := i) (k := 0) v.cells.toList hb (by simp [hv]; omega) h1 (by simpa using H)⟩

end
end Go.HL
namespace Go.HL
open Go
section
variable {P : Program} {G : Hp} {T : TypeId} {a b : Int} {h : Hp}

theorem bin_add {K : Value → Hp → Prop} : wpH P G (binOp .add T (.int .i64 a) (.int .i64 b)) h K = K (.int .i64 (IntKind.i64.wrap (a + b))) h := rfl
theorem bin_sub {K : Value → Hp → Prop} : wpH P G (binOp .sub T (.int .i64 a) (.int .i64 b)) h K = K (.int .i64 (IntKind.i64.wrap (a - b))) h := rfl
theorem bin_mul {K : Value → Hp → Prop} : wpH P G (binOp .mul T (.int .i64 a) (.int .i64 b)) h K = K (.int .i64 (IntKind.i64.wrap (a * b))) h := rfl
theorem bin_lss {K : Value → Hp → Prop} : wpH P G (binOp .lss T (.int .i64 a) (.int .i64 b)) h K = K (.bool (decide (a < b))) h := rfl
theorem bin_leq {K : Value → Hp → Prop} : wpH P G (binOp .leq T (.int .i64 a) (.int .i64 b)) h K = K (.bool (decide (a ≤ b))) h := rfl
theorem bin_gtr {K : Value → Hp → Prop} : wpH P G (binOp .gtr T (.int .i64 a) (.int .i64 b)) h K = K (.bool (decide (a > b))) h := rfl
theorem bin_geq {K : Value → Hp → Prop} : wpH P G (binOp .geq T (.int .i64 a) (.int .i64 b)) h K = K (.bool (decide (a ≥ b))) h := rfl
theorem bin_quo {K : Value → Hp → Prop} (hb : b ≠ 0) : wpH P G (binOp .quo T (.int .i64 a) (.int .i64 b)) h K = K (.int .i64 (IntKind.i64.wrap (a.tdiv b))) h := by
  show wpH P G (Op.intDiv .quo .i64 a b) h K = _
  unfold Op.intDiv
  rw [if_neg hb]
  rfl
theorem bin_rem {K : Value → Hp → Prop} (hb : b ≠ 0) : wpH P G (binOp .rem T (.int .i64 a) (.int .i64 b)) h K = K (.int .i64 (a.tmod b)) h := by
  show wpH P G (Op.intDiv .rem .i64 a b) h K = _
  unfold Op.intDiv
  rw [if_neg hb]
  rfl
theorem un_not {x : Bool} {K : Value → Hp → Prop} : wpH P G (Op.unary .not (.bool x)) h K = K (.bool !x) h := rfl
theorem un_neg {K : Value → Hp → Prop} : wpH P G (Op.unary .neg (.int .i64 a)) h K = K (.int .i64 (IntKind.i64.wrap (0 - a))) h := rfl
theorem eq_int {cx cy : Operand} {K : Value → Hp → Prop} : opH P G (xEq .eql T cx cy (.int .i64 a) (.int .i64 b)) h K = K (.bool (a == b)) h := rfl
theorem ne_int {cx cy : Operand} {K : Value → Hp → Prop} : opH P G (xEq .neq T cx cy (.int .i64 a) (.int .i64 b)) h K = K (.bool (a != b)) h := rfl
theorem ext0 {x y : Value} {l : List Value} {K : Value → Hp → Prop} {i : Nat} (hx : (x :: y :: l)[i]? = some y) : wpH P G (Instr.extract (.tuple (x :: y :: l).toArray) i) h K = K y h := by
  simp only [Instr.extract]
  simp [hx, wpH, pure]
theorem callV_fn {f : FuncId} {first caps args : Array Value} : xCallV (.func (.func f) first caps) args = callFunc f ((first ++ args) ++ caps) := rfl

variable {h0 : Hp}
theorem bin_addp {K : Value → Prop} : pw P G h0 (binOp .add T (.int .i64 a) (.int .i64 b)) K = K (.int .i64 (IntKind.i64.wrap (a + b))) := rfl
theorem bin_subp {K : Value → Prop} : pw P G h0 (binOp .sub T (.int .i64 a) (.int .i64 b)) K = K (.int .i64 (IntKind.i64.wrap (a - b))) := rfl
theorem bin_mulp {K : Value → Prop} : pw P G h0 (binOp .mul T (.int .i64 a) (.int .i64 b)) K = K (.int .i64 (IntKind.i64.wrap (a * b))) := rfl
theorem bin_lssp {K : Value → Prop} : pw P G h0 (binOp .lss T (.int .i64 a) (.int .i64 b)) K = K (.bool (decide (a < b))) := rfl
theorem bin_leqp {K : Value → Prop} : pw P G h0 (binOp .leq T (.int .i64 a) (.int .i64 b)) K = K (.bool (decide (a ≤ b))) := rfl
theorem bin_gtrp {K : Value → Prop} : pw P G h0 (binOp .gtr T (.int .i64 a) (.int .i64 b)) K = K (.bool (decide (a > b))) := rfl
theorem bin_geqp {K : Value → Prop} : pw P G h0 (binOp .geq T (.int .i64 a) (.int .i64 b)) K = K (.bool (decide (a ≥ b))) := rfl
theorem bin_quop {K : Value → Prop} (hb : b ≠ 0) : pw P G h0 (binOp .quo T (.int .i64 a) (.int .i64 b)) K = K (.int .i64 (IntKind.i64.wrap (a.tdiv b))) := by
  show pw P G h0 (Op.intDiv .quo .i64 a b) K = _
  unfold Op.intDiv
  rw [if_neg hb]
  rfl
theorem bin_remp {K : Value → Prop} (hb : b ≠ 0) : pw P G h0 (binOp .rem T (.int .i64 a) (.int .i64 b)) K = K (.int .i64 (a.tmod b)) := by
  show pw P G h0 (Op.intDiv .rem .i64 a b) K = _
  unfold Op.intDiv
  rw [if_neg hb]
  rfl
theorem un_notp {x : Bool} {K : Value → Prop} : pw P G h0 (Op.unary .not (.bool x)) K = K (.bool !x) := rfl
theorem eq_intp {cx cy : Operand} {K : Value → Hp → Prop} : pureW P G h0 (xEq .eql T cx cy (.int .i64 a) (.int .i64 b)) h K = K (.bool (a == b)) h := rfl
theorem ne_intp {cx cy : Operand} {K : Value → Hp → Prop} : pureW P G h0 (xEq .neq T cx cy (.int .i64 a) (.int .i64 b)) h K = K (.bool (a != b)) h := rfl

/-- An element's address. -/
theorem index_slice {T e : TypeId} {n : Nat} (hu : P.underlying T = some (.slice e)) (hs : (P.info? e).map (·.size) = some n) {ad : Addr} {len cap : Nat} {k : IntKind} {i : Int} {h : Hp} {K : Value → Hp → Prop}
    (h1 : 0 ≤ i) (h2 : i < len) : wpH P G (Instr.indexAt T (.slice (some ad) len cap) (.int k i)) h K = K (.pointer (some (ad.add (i.toNat * n)))) h := by
  cases hi : P.info? e with
  | none => rw [hi] at hs; cases hs
  | some x =>
    rw [hi] at hs; simp at hs; subst hs
    simp [Instr.indexAt, asIntOf, underlying, program, bind, Sem.bind, pure, wpH, hu, sizeOf, typeInfo, hi, h1, h2]
theorem index_slicep {T e : TypeId} {n : Nat} (hu : P.underlying T = some (.slice e)) (hs : (P.info? e).map (·.size) = some n) {ad : Addr} {len cap : Nat} {k : IntKind} {i : Int} {h0 : Hp} {K : Value → Prop}
    (h1 : 0 ≤ i) (h2 : i < len) : pw P G h0 (Instr.indexAt T (.slice (some ad) len cap) (.int k i)) K = K (.pointer (some (ad.add (i.toNat * n)))) := by
  cases hi : P.info? e with
  | none => rw [hi] at hs; cases hs
  | some x =>
    rw [hi] at hs; simp at hs; subst hs
    simp [Instr.indexAt, asIntOf, underlying, program, bind, Sem.bind, pure, pw, hu, sizeOf, typeInfo, hi, h1, h2]

theorem box_new {T : TypeId} {v : Value} {h : Hp} {K : Value → Hp → Prop} : wpH P G (Instr.box T v) h K = ∀ x, h x = none → G x = none → K (.pointer (some ⟨x, 0, none⟩)) (h.set x (.cells v.cells T (0, 0))) := rfl

theorem upd_eq {r : Rg} {t : Nat} {v : Value} : upd r t v t = v := by simp [upd]
theorem upd_ne {r : Rg} {t u : Nat} {v : Value} (e : u ≠ t) : upd r t v u = r u := by simp [upd, e]

/-- Nothing more than what is asked is owned: the walk may end with less. -/
theorem weaken {h h' : Hp} {R : Hp → Prop} (l : h.le h') (H : R h) : ∃ h'', h''.le h' ∧ R h'' := ⟨h, l, H⟩
end
end Go.HL
