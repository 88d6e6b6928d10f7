/- What yields one value, whatever lies in memory; '==' of structs. -/
import Derived.Test.YtkekdpnlenpmiaaHLg
import Derived.Laws.StructEq
namespace Go.HL
open Go

structure Det (P : Program) {α : Type} (s : Sem α) (v : α) : Prop where
  w : ∀ {G h : Hp} {K : α → Hp → Prop}, wpH P G s h K = K v h
  p : ∀ {G h : Hp} {K : α → Prop}, pw P G h s K = K v

/-- One walks as the other. -/
structure Same (P : Program) {α : Type} (s t : Sem α) : Prop where
  w : ∀ {G h : Hp} {K : α → Hp → Prop}, wpH P G s h K = wpH P G t h K
  p : ∀ {G h : Hp} {K : α → Prop}, pw P G h s K = pw P G h t K

section
variable {P : Program}

theorem Det.pure {α : Type} {v : α} : Det P (Sem.pure v) v := ⟨rfl, rfl⟩
theorem Det.bind {α β : Type} {s : Sem α} {f : α → Sem β} {a : α} {b : β} (h1 : Det P s a) (h2 : Det P (f a) b) : Det P (s.bind f) b :=
  ⟨by intro G h K; rw [propext (wpH_bind s f), h1.w, h2.w], by intro G h K; rw [propext (pw_bind s f), h1.p, h2.p]⟩
theorem Det.prog {α : Type} {k : Program → Sem α} {v : α} (h : Det P (k P) v) : Det P (Sem.program k) v := ⟨h.w, h.p⟩
theorem Det.same {α : Type} {s t : Sem α} {v : α} (e : Same P s t) (h : Det P t v) : Det P s v := ⟨by intro G h' K; rw [e.w, h.w], by intro G h' K; rw [e.p, h.p]⟩

theorem equalIn_struct {d : Nat} {t : TypeId} {xs ys : Array Value} {fs : Array Field} (ht : P.underlying t = some (.struct fs)) (hp : P.stoodInHeld t = false) :
    Same P (Op.equalIn (d + 1) t (.agg xs) (.agg ys)) (Op.eqFields d xs ys fs.toList) := by
  have hb : ∀ (α β : Type) (s : Sem α) (g : α → Sem β), (s >>= g) = s.bind g := fun _ _ _ _ => rfl
  constructor
  · intro G h K
    simp only [Op.equalIn, underlying, program, bind, Sem.bind, wpH, ht, pure, hp, Bool.false_eq_true, if_false]
    rw [← Array.forIn_toList]
    generalize fs.toList = l
    refine congrArg (fun s => wpH P G s h K) ?_
    clear ht
    induction l with
    | nil => rfl
    | cons f l ih =>
      rw [List.forIn_cons]
      simp only [hb, Op.eqFields, sem_bind_assoc]
      split
      · simp only [sem_bind_assoc]
        congr 1; funext a; congr 1; funext b; congr 1; funext r
        cases r
        · rfl
        · simp only [Bool.not_true, Bool.false_eq_true, if_false, sem_pure_bind]
          exact ih
      · simp only [sem_pure_bind]
        exact ih
  · intro G h K
    simp only [Op.equalIn, underlying, program, bind, Sem.bind, pw, ht, pure, hp, Bool.false_eq_true, if_false]
    rw [← Array.forIn_toList]
    generalize fs.toList = l
    refine congrArg (fun s => pw P G h s K) ?_
    clear ht
    induction l with
    | nil => rfl
    | cons f l ih =>
      rw [List.forIn_cons]
      simp only [hb, Op.eqFields, sem_bind_assoc]
      split
      · simp only [sem_bind_assoc]
        congr 1; funext a; congr 1; funext b; congr 1; funext r
        cases r
        · rfl
        · simp only [Bool.not_true, Bool.false_eq_true, if_false, sem_pure_bind]
          exact ih
      · simp only [sem_pure_bind]
        exact ih

theorem eqF_nil {d : Nat} {xs ys : Array Value} : Det P (Op.eqFields d xs ys []) true := .pure
theorem eqF_cons {d : Nat} {xs ys : Array Value} {f : Field} {fs : List Field} {a b : Value} {r s : Bool} (hn : f.name ≠ "_") (ha : Det P (part f.type xs f.offset) a) (hb : Det P (part f.type ys f.offset) b)
    (he : Det P (Op.equalIn d f.type a b) r) (hr : Det P (Op.eqFields d xs ys fs) s) : Det P (Op.eqFields d xs ys (f :: fs)) (r && s) := by
  rw [Op.eqFields, if_pos hn]
  refine Det.bind ha (Det.bind hb (Det.bind he ?_))
  cases r
  · exact .pure
  · exact hr

theorem eqD_int {d : Nat} {t : TypeId} {k : IntKind} {a b : Int} (ht : P.underlying t = some (.int k)) : Det P (Op.equalIn (d + 1) t (.int .i64 a) (.int .i64 b)) (a == b) := by
  constructor <;> intros <;> simp [Op.equalIn, underlying, program, bind, Sem.bind, wpH, pw, ht, pure]
theorem eqD_bool {d : Nat} {t : TypeId} {a b : Bool} (ht : P.underlying t = some .bool) : Det P (Op.equalIn (d + 1) t (.bool a) (.bool b)) (a == b) := by
  constructor <;> intros <;> simp [Op.equalIn, underlying, program, bind, Sem.bind, wpH, pw, ht, pure]
theorem eqD_struct {d : Nat} {t : TypeId} {xs ys : Array Value} {fs : Array Field} {r : Bool} (ht : P.underlying t = some (.struct fs)) (hp : P.stoodInHeld t = false) (h : Det P (Op.eqFields d xs ys fs.toList) r) :
    Det P (Op.equalIn (d + 1) t (.agg xs) (.agg ys)) r := h.same (equalIn_struct ht hp)

theorem part_cell {t : TypeId} {cs : Array Value} {off : Nat} {v : Value} {de : TypeDesc} (ht : P.underlying t = some de) (ha : (match de with | .struct _ | .array _ _ => true | _ => false) = false) (hv : cs[off]? = some v) : Det P (part t cs off) v := by
  constructor <;> intros <;> (cases de <;> simp_all [part, isAgg, underlying, program, bind, Sem.bind, wpH, pw, pure])
theorem part_agg {t : TypeId} {cs : Array Value} {off n : Nat} {fs : Array Field} (ht : P.underlying t = some (.struct fs)) (hi : (P.info? t).map (·.size) = some n) : Det P (part t cs off) (.agg (cs.extract off (off + n))) := by
  cases e : P.info? t with
  | none => rw [e] at hi; cases hi
  | some i =>
    rw [e] at hi; simp at hi; subst hi
    constructor <;> intros <;> simp [part, isAgg, underlying, program, bind, Sem.bind, wpH, pw, pure, ht, sizeOf, typeInfo, e]

theorem eq_agg {t : TypeId} {cx cy : Operand} {xs ys : Array Value} {r : Bool} (hm : P.eqGuardType P.depth t = false) (h : Det P (Op.equalIn 10000 t (.agg xs) (.agg ys)) r) {G hh : Hp} {K : Value → Hp → Prop} :
    opH P G (xEq .eql t cx cy (.agg xs) (.agg ys)) hh K = K (.bool r) hh := by
  have e : Det P ((eqGuard .eql t cx cy (.agg xs) (.agg ys)).bind fun _ => binOp .eql t (.agg xs) (.agg ys)) (.bool r) := by
    refine Det.bind (a := ()) ?_ ?_
    · constructor <;> intros <;> simp [eqGuard, program, bind, Sem.bind, wpH, pw, pure, hm]
    · exact Det.bind h .pure
  rw [xEq, opH_sv, e.w]
theorem ne_agg {t : TypeId} {cx cy : Operand} {xs ys : Array Value} {r : Bool} (hm : P.eqGuardType P.depth t = false) (h : Det P (Op.equalIn 10000 t (.agg xs) (.agg ys)) r) {G hh : Hp} {K : Value → Hp → Prop} :
    opH P G (xEq .neq t cx cy (.agg xs) (.agg ys)) hh K = K (.bool (!r)) hh := by
  have e : Det P ((eqGuard .neq t cx cy (.agg xs) (.agg ys)).bind fun _ => binOp .neq t (.agg xs) (.agg ys)) (.bool (!r)) := by
    refine Det.bind (a := ()) ?_ ?_
    · constructor <;> intros <;> simp [eqGuard, program, bind, Sem.bind, wpH, pw, pure, hm]
    · exact Det.bind h .pure
  rw [xEq, opH_sv, e.w]
theorem eq_aggp {t : TypeId} {cx cy : Operand} {xs ys : Array Value} {r : Bool} (hm : P.eqGuardType P.depth t = false) (h : Det P (Op.equalIn 10000 t (.agg xs) (.agg ys)) r) {G hh h1 : Hp} {K : Value → Hp → Prop} :
    pureW P G h1 (xEq .eql t cx cy (.agg xs) (.agg ys)) hh K = K (.bool r) hh := by
  have e : Det P ((eqGuard .eql t cx cy (.agg xs) (.agg ys)).bind fun _ => binOp .eql t (.agg xs) (.agg ys)) (.bool r) := by
    refine Det.bind (a := ()) ?_ ?_
    · constructor <;> intros <;> simp [eqGuard, program, bind, Sem.bind, wpH, pw, pure, hm]
    · exact Det.bind h .pure
  rw [xEq, pureW_sv, e.p]
theorem ne_aggp {t : TypeId} {cx cy : Operand} {xs ys : Array Value} {r : Bool} (hm : P.eqGuardType P.depth t = false) (h : Det P (Op.equalIn 10000 t (.agg xs) (.agg ys)) r) {G hh h1 : Hp} {K : Value → Hp → Prop} :
    pureW P G h1 (xEq .neq t cx cy (.agg xs) (.agg ys)) hh K = K (.bool (!r)) hh := by
  have e : Det P ((eqGuard .neq t cx cy (.agg xs) (.agg ys)).bind fun _ => binOp .neq t (.agg xs) (.agg ys)) (.bool (!r)) := by
    refine Det.bind (a := ()) ?_ ?_
    · constructor <;> intros <;> simp [eqGuard, program, bind, Sem.bind, wpH, pw, pure, hm]
    · exact Det.bind h .pure
  rw [xEq, pureW_sv, e.p]
end
end Go.HL
