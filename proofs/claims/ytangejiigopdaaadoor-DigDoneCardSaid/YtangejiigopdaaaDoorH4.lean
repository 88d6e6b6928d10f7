/- The layer of step rules over owned blocks. -/
import Derived.Test.YtangejiigopdaaaDoorH3
import Derived.Test.YtangejiigopdaaaDoorH2
/- copy into a row of one's own at any place; append of a row that is made; the pieces of a row. -/
set_option linter.unusedVariables false
set_option linter.unusedSimpArgs false
namespace Go.HL
open Go
theorem boxed {G h h1 : Hp} {x : Nat} {o : Obj} (e : h.set x o = h1) (hx : h x = none) (d : Dis G h) (gx : G x = none) : h.le h1 ∧ Dis G h1 ∧ h1 x = some o := by
  subst e
  exact ⟨le_set hx, d.set gx, set_self⟩
theorem setR1 {n d : Nat} {v : Value} {r : Rg} (hd : d < n) : setR n #[d] #[v] r = upd r d v := by
  unfold setR
  simp [putR, hd]
section
variable {P : Program} {G : Hp} {α : Type}

end
end Go.HL

/- Yields: what an iterator tells, to any yield. -/
set_option linter.unusedVariables false
namespace Go.HL
open Go

/-- A yield: Y between two calls, Z behind the one that stopped; c: does it go on? Any piece that it does not own stays. -/
def Yl {α : Type} (P : Program) (enc : α → Array Value) (G : Hp) (y : Value) (Y Z : List α → Hp → Prop) (c : List α → Bool) : Prop :=
  ∀ (L : List α) (m : α) (a q h : Hp), Y L a → Sep [a, q] h → Dis G h →
    opH P G (xCallV y (enc m)) h (fun v h' => ∃ a', v = .bool (c (L ++ [m])) ∧ Sep [a', q] h' ∧ Dis G h' ∧ (if c (L ++ [m]) = true then Y (L ++ [m]) a' else Z (L ++ [m]) a'))

/-- What is told of M behind L. -/
def feed {α : Type} (c : List α → Bool) : List α → List α → List α × Bool
  | L, [] => (L, true)
  | L, m :: M => if c (L ++ [m]) = true then feed c (L ++ [m]) M else (L ++ [m], false)
theorem feed_t {α : Type} {c : List α → Bool} {L M : List α} {m : α} (h : c (L ++ [m]) = true) : feed c L (m :: M) = feed c (L ++ [m]) M := by rw [feed, if_pos h]
theorem feed_f {α : Type} {c : List α → Bool} {L M : List α} {m : α} (h : c (L ++ [m]) = false) : feed c L (m :: M) = (L ++ [m], false) := by rw [feed, if_neg (by simp [h])]
def Fin {α : Type} (T : List α × Bool) (Y Z : List α → Hp → Prop) (a : Hp) : Prop := if T.2 = true then Y T.1 a else Z T.1 a

/-- Behind the telling: the yield's own piece, and the others. -/
def ToldR {α : Type} (G q : Hp) (Y Z : List α → Hp → Prop) (T : List α × Bool) (h' : Hp) : Prop := ∃ a', Sep [a', q] h' ∧ Dis G h' ∧ Fin T Y Z a'
theorem ToldR.go {α : Type} {G q a h' : Hp} {Y Z : List α → Hp → Prop} {T : List α × Bool} {L : List α} {c : List α → Bool} (s : Sep [a, q] h') (d : Dis G h') (y : Y L a) (e : feed c L [] = T) : ToldR G q Y Z T h' := by
  subst e
  exact ⟨a, s, d, by unfold Fin; rw [feed]; exact y⟩
theorem ToldR.no {α : Type} {G q a h' : Hp} {Y Z : List α → Hp → Prop} {T : List α × Bool} {L M : List α} {m : α} {c : List α → Bool} (s : Sep [a, q] h') (d : Dis G h') (z : Z (L ++ [m]) a) (hc : c (L ++ [m]) = false) (e : feed c L (m :: M) = T) : ToldR G q Y Z T h' := by
  subst e
  exact ⟨a, s, d, by unfold Fin; rw [feed_f hc]; simpa using z⟩

end Go.HL

/- Maps whose keys are structs. -/
set_option linter.unusedVariables false
set_option linter.unusedSimpArgs false
set_option linter.unusedSectionVars false
namespace Go.HL
open Go
section
variable {P : Program} {G : Hp} {κ : Type} [BEq κ] [LawfulBEq κ]

def kidx (L : List (κ × Value)) (k : κ) : Option Nat := L.findIdx? fun p => p.1 == k
def kget (L : List (κ × Value)) (k : κ) : Option Value := (kidx L k).bind fun j => (L[j]?).map (·.2)
def kput (L : List (κ × Value)) (k : κ) (v : Value) : List (κ × Value) := match kidx L k with
  | some j => L.set j (k, v)
  | none => L ++ [(k, v)]

theorem kget_nil {k : κ} : kget ([] : List (κ × Value)) k = none := rfl
theorem kget_cons {p : κ × Value} {L : List (κ × Value)} {k : κ} : kget (p :: L) k = if (p.1 == k) = true then some p.2 else kget L k := by
  unfold kget kidx
  rw [List.findIdx?_cons]
  cases h : (p.1 == k) with
  | true => simp
  | false =>
    simp only [Bool.false_eq_true, if_false]
    cases List.findIdx? (fun p => p.1 == k) L <;> simp

theorem kget_put {L : List (κ × Value)} {k q : κ} {v : Value} : kget (kput L k v) q = if (k == q) = true then some v else kget L q := by
  induction L with
  | nil =>
    have e : kput ([] : List (κ × Value)) k v = [(k, v)] := rfl
    rw [e, kget_cons, kget_nil]
  | cons p L ih =>
    have e : kput (p :: L) k v = if (p.1 == k) = true then (k, v) :: L else p :: kput L k v := by
      unfold kput kidx
      rw [List.findIdx?_cons]
      cases h : (p.1 == k) with
      | true => simp
      | false =>
        simp only [Bool.false_eq_true, if_false]
        cases List.findIdx? (fun p => p.1 == k) L <;> simp
    rw [e]
    by_cases h : (p.1 == k) = true
    · rw [if_pos h, kget_cons, kget_cons]
      have := eq_of_beq h
      subst this
      by_cases h2 : (p.1 == q) = true
      · simp only [if_pos h2]
      · simp only [if_neg h2]
    · rw [if_neg h, kget_cons, ih, kget_cons]
      by_cases h2 : (p.1 == q) = true
      · have := eq_of_beq h2
        subst this
        have h3 : ¬ (k == p.1) = true := fun e => h (by rw [eq_of_beq e]; exact beq_self_eq_true _)
        rw [if_pos h2, if_neg h3, if_pos h2]
      · simp only [if_neg h2]

/-- The keys' own operations. -/
structure KeyOk (P : Program) (kt : TypeId) (ke : κ → Value) : Prop where
  str : ∃ fs, P.underlying kt = some (.struct fs)
  eq : ∀ a b, Det P (Op.equal kt (ke a) (ke b)) (a == b)
  chk : ∀ b a, Det P (Instr.checkKey b 10000 kt (ke a)) ()
  bits : ∀ a, Instr.sameBits 10000 (ke a) (ke a) = true

def KMap (ke : κ → Value) (o : Obj) (L : List (κ × Value)) : Prop := ∃ es clock, o = .map es clock ∧ es.toList.map (fun e => (e.key, e.val)) = L.map (fun p => (ke p.1, p.2)) ∧ (es.toList.map (·.born)).Nodup ∧ ∀ b ∈ es.toList.map (·.born), b < clock
theorem KMap.empty {ke : κ → Value} : KMap ke (.map #[] 0) [] := ⟨#[], 0, rfl, rfl, List.nodup_nil, fun _ h => by cases h⟩
theorem borns_push {es : Array MapEntry} {e : MapEntry} {clock : Nat} (h1 : (es.toList.map (·.born)).Nodup) (h2 : ∀ b ∈ es.toList.map (·.born), b < clock) (he : e.born = clock) : ((es.push e).toList.map (·.born)).Nodup ∧ ∀ b ∈ (es.push e).toList.map (·.born), b < clock + 1 := by
  rw [Array.toList_push, List.map_append, List.map_cons, List.map_nil, he]
  refine ⟨List.nodup_append.2 ⟨h1, by simp, fun a ha b hb => ?_⟩, fun b hb => ?_⟩
  · simp at hb
    have := h2 a ha
    omega
  · rcases List.mem_append.1 hb with hb | hb
    · exact Nat.lt_succ_of_lt (h2 b hb)
    · simp at hb; omega
theorem borns_modify {es : Array MapEntry} {i : Nat} {f : MapEntry → MapEntry} (hf : ∀ e, (f e).born = e.born) : (es.modify i f).toList.map (·.born) = es.toList.map (·.born) := by
  apply List.ext_getElem?
  intro q
  simp only [List.getElem?_map, Array.getElem?_toList, Array.getElem?_modify]
  by_cases hq : i = q
  · subst hq
    cases es[i]? <;> simp [hf]
  · simp [hq]

theorem asking {kt : TypeId} {ke : κ → Value} (ok : KeyOk P kt ke) {k : κ} : ∀ (es : List MapEntry) (L : List (κ × Value)) (i : Nat), es.map (fun e => (e.key, e.val)) = L.map (fun p => (ke p.1, p.2)) →
    Det P (Instr.findAsking kt (ke k) es i) ((kidx L k).bind fun j => (L[j]?).map fun p => (i + j, p.2))
  | [], [], i, _ => Det.pure
  | [], _ :: _, i, h => by simp at h
  | _ :: _, [], i, h => by simp at h
  | e :: es, p :: L, i, h => by
    simp only [List.map_cons, List.cons.injEq, Prod.mk.injEq] at h
    obtain ⟨⟨h1, h2⟩, h3⟩ := h
    unfold Instr.findAsking
    rw [h1]
    refine Det.bind (ok.eq k p.1) ?_
    unfold kidx
    rw [List.findIdx?_cons]
    cases hk : (k == p.1) with
    | true =>
      have : (p.1 == k) = true := by rw [eq_of_beq hk]; exact beq_self_eq_true _
      simp only [this, if_true]
      rw [h2]
      simp only [Option.bind_some, List.getElem?_cons_zero, Option.map_some, Nat.add_zero]
      exact Det.pure
    | false =>
      have : (p.1 == k) = false := by
        cases hh : (p.1 == k) with
        | false => rfl
        | true => rw [eq_of_beq hh, beq_self_eq_true] at hk; cases hk
      simp only [this, Bool.false_eq_true, if_false]
      have ih := asking ok (k := k) es L (i + 1) h3
      unfold kidx at ih
      cases hf : List.findIdx? (fun p => p.1 == k) L with
      | none => rw [hf] at ih; simpa using ih
      | some j =>
        rw [hf] at ih
        simp only [Option.map_some, Option.bind_some, List.getElem?_cons_succ] at ih ⊢
        rw [show i + (j + 1) = i + 1 + j by omega]
        exact ih

theorem finding {kt : TypeId} {ke : κ → Value} (ok : KeyOk P kt ke) {k : κ} {es : List MapEntry} {L : List (κ × Value)} (he : es.map (fun e => (e.key, e.val)) = L.map (fun p => (ke p.1, p.2))) :
    Det P (Instr.findKey kt (ke k) es) ((kidx L k).bind fun j => (L[j]?).map fun p => (j, p.2)) := by
  obtain ⟨fs, hs⟩ := ok.str
  have ha := asking ok (k := k) es L 0 he
  unfold Instr.findKey
  refine Det.bind (a := (.struct fs : TypeDesc)) ?_ ?_
  · exact ⟨by intro G h K; unfold underlying; simp only [bind, wpH_bind, program, wpH, hs, pure], by intro G h K; unfold underlying; simp only [bind, pw_bind, program, pw, hs, pure]⟩
  · cases es with
    | nil =>
      cases L with
      | nil => exact Det.pure
      | cons _ _ => simp at he
    | cons e es =>
      show Det P (Instr.findAsking kt (ke k) (e :: es)) _
      simpa using ha

theorem kget_find {L : List (κ × Value)} {k : κ} : kget L k = ((kidx L k).bind fun j => (L[j]?).map fun p => (j, p.2)).map (·.2) := by
  unfold kget
  cases kidx L k with
  | none => rfl
  | some j => cases h : L[j]? <;> simp [h]

section
variable {T kt et : TypeId} {ke : κ → Value} {z : Value} {b : Nat} {o : Obj} {L : List (κ × Value)} {h : Hp} {k : κ}

theorem lookup_key (ok : KeyOk P kt ke) (hT : P.underlying T = some (.map kt et)) (hz : zeroOf P et = some z) (hb : look G h b = some o) (m : KMap ke o L) {K : Value → Hp → Prop} :
    wpH P G (Instr.lookup T (.map (some b)) (ke k) false) h K = K ((kget L k).getD z) h := by
  obtain ⟨es, clock, rfl, he, hnd, hbc⟩ := m
  unfold zeroOf at hz
  cases hi : P.info? et with
  | none => rw [hi] at hz; cases hz
  | some i =>
  rw [hi] at hz
  simp only [Option.bind_some] at hz
  rw [kget_find]
  unfold Instr.lookup underlying getObj
  simp only [bind, wpH_bind, program, wpH, hT, pure, hb, Option.some.injEq, exists_eq_left', isCells, true_and, (ok.chk _ _).w, (finding ok he).w]
  cases ((kidx L k).bind fun j => (L[j]?).map fun p => (j, p.2)) with
  | some q => rfl
  | none => simp [wpH, wpH_bind, zeroValue, typeInfo, program, bind, pure, hi, hz, Sem.bind]
theorem lookup_keyp (ok : KeyOk P kt ke) (hT : P.underlying T = some (.map kt et)) (hz : zeroOf P et = some z) (hb : look G h b = some o) (m : KMap ke o L) {K : Value → Prop} :
    pw P G h (Instr.lookup T (.map (some b)) (ke k) false) K = K ((kget L k).getD z) := by
  obtain ⟨es, clock, rfl, he, hnd, hbc⟩ := m
  unfold zeroOf at hz
  cases hi : P.info? et with
  | none => rw [hi] at hz; cases hz
  | some i =>
  rw [hi] at hz
  simp only [Option.bind_some] at hz
  rw [kget_find]
  unfold Instr.lookup underlying getObj
  simp only [bind, pw_bind, program, pw, hT, pure, hb, Option.some.injEq, exists_eq_left', isCells, true_and, (ok.chk _ _).p, (finding ok he).p]
  cases ((kidx L k).bind fun j => (L[j]?).map fun p => (j, p.2)) with
  | some q => rfl
  | none => simp [pw, pw_bind, zeroValue, typeInfo, program, bind, pure, hi, hz, Sem.bind]
theorem lookup2_keyp (ok : KeyOk P kt ke) (hT : P.underlying T = some (.map kt et)) (hz : zeroOf P et = some z) (hb : look G h b = some o) (m : KMap ke o L) {K : Value → Prop} :
    pw P G h (Instr.lookup T (.map (some b)) (ke k) true) K = K (.tuple #[(kget L k).getD z, .bool (kget L k).isSome]) := by
  obtain ⟨es, clock, rfl, he, hnd, hbc⟩ := m
  unfold zeroOf at hz
  cases hi : P.info? et with
  | none => rw [hi] at hz; cases hz
  | some i =>
  rw [hi] at hz
  simp only [Option.bind_some] at hz
  rw [kget_find]
  unfold Instr.lookup underlying getObj
  simp only [bind, pw_bind, program, pw, hT, pure, hb, Option.some.injEq, exists_eq_left', isCells, true_and, (ok.chk _ _).p, (finding ok he).p]
  cases ((kidx L k).bind fun j => (L[j]?).map fun p => (j, p.2)) with
  | some q => rfl
  | none => simp [pw, pw_bind, zeroValue, typeInfo, program, bind, pure, hi, hz, Sem.bind]

theorem mapput_key (ok : KeyOk P kt ke) (hT : P.underlying T = some (.map kt et)) (hb : h b = some o) (m : KMap ke o L) {v : Value} {K : Unit → Hp → Prop}
    (H : ∀ o', KMap ke o' (kput L k v) → K () (h.set b o')) : wpH P G (Instr.mapUpdate T (.map (some b)) (ke k) v) h K := by
  obtain ⟨es, clock, rfl, he, hnd, hbc⟩ := m
  have hlk : look G h b = some (.map es clock) := by unfold look; rw [hb]
  unfold Instr.mapUpdate underlying getObj
  simp only [bind, wpH_bind, program, wpH, hT, pure, hlk, Option.some.injEq, exists_eq_left', isCells, true_and, (ok.chk _ _).w, (finding ok he).w]
  unfold kput at H
  have hl := congrArg List.length he
  simp only [List.length_map, Array.length_toList] at hl
  cases hm : kidx L k with
  | none =>
    rw [hm] at H
    simp only [Option.bind_none]
    unfold setObj
    refine ⟨⟨_, hb, rfl⟩, H _ ⟨_, _, rfl, ?_, borns_push hnd hbc rfl⟩⟩
    simp [he]
  | some j =>
    rw [hm] at H
    have hj : j < L.length := by
      unfold kidx at hm
      exact (List.findIdx?_eq_some_iff_getElem.1 hm).1
    have hkey : (L[j]).1 = k := by
      unfold kidx at hm
      exact eq_of_beq (List.findIdx?_eq_some_iff_getElem.1 hm).2.1
    have hej : j < es.size := by omega
    have hent : (es[j].key, es[j].val) = (ke (L[j]).1, (L[j]).2) := by
      have := congrArg (fun l => l[j]?) he
      simp only [List.getElem?_map, Array.getElem?_toList, Array.getElem?_eq_getElem hej, List.getElem?_eq_getElem hj, Option.map_some, Option.some.injEq] at this
      exact this
    simp only [List.getElem?_eq_getElem hj, Option.bind_some, Option.map_some]
    have hks : ∀ K : Value → Hp → Prop, wpH P G (Instr.keyThatStays (((es[j]?).map (·.key)).getD (ke k)) (ke k)) h K = K (ke k) h := by
      intro K
      rw [Array.getElem?_eq_getElem hej]
      simp only [Option.map_some, Option.getD_some]
      rw [show es[j].key = ke k by rw [← hkey]; exact (Prod.mk.inj hent).1]
      unfold Instr.keyThatStays
      rw [ok.bits]
      rfl
    simp only [wpH_bind, hks]
    unfold setObj
    refine ⟨⟨_, hb, rfl⟩, H _ ⟨_, _, rfl, ?_, by rw [borns_modify (f := fun e => { e with key := ke k, val := v }) (fun _ => rfl)]; exact hnd, by rw [borns_modify (f := fun e => { e with key := ke k, val := v }) (fun _ => rfl)]; exact hbc⟩⟩
    apply List.ext_getElem?
    intro q
    simp only [List.getElem?_map, Array.getElem?_toList, Array.getElem?_modify, List.getElem?_set]
    have heq := congrArg (fun l => l[q]?) he
    simp only [List.getElem?_map, Array.getElem?_toList] at heq
    by_cases hq : j = q
    · subst hq
      simp [Array.getElem?_eq_getElem hej, hj]
    · simp [hq, heq]
end
end
end Go.HL

/- An entry of a map that is made or found, and stored by its stamp; pieces chosen by their places. -/
set_option linter.unusedVariables false
set_option linter.unusedSimpArgs false
set_option linter.unusedSectionVars false
namespace Go.HL
open Go

/-- Pieces by their places. -/
theorem Sep.sel {L L' : List Hp} {h : Hp} (s : Sep L h) (is : List Nat) (nd : is.Nodup) (e : is.filterMap (fun i => L[i]?) = L') : Sep L' h := by
  subst e
  refine ⟨fun a ha => ?_, ?_⟩
  · obtain ⟨i, _, hi⟩ := List.mem_filterMap.1 ha
    exact s.1 a (List.mem_of_getElem? hi)
  · have key : ∀ (i j : Nat) (a b : Hp), i ≠ j → L[i]? = some a → L[j]? = some b → Apart a b := by
      intro i j a b hij ha hb
      obtain ⟨hi, rfl⟩ := List.getElem?_eq_some_iff.1 ha
      obtain ⟨hj, rfl⟩ := List.getElem?_eq_some_iff.1 hb
      rcases Nat.lt_or_gt_of_ne hij with h1 | h1
      · exact List.pairwise_iff_getElem.1 s.2 i j hi hj h1
      · exact (List.pairwise_iff_getElem.1 s.2 j i hj hi h1).symm
    clear s
    induction is with
    | nil => exact List.Pairwise.nil
    | cons i is ih =>
      rw [List.nodup_cons] at nd
      rw [List.filterMap_cons]
      cases ha : L[i]? with
      | none => exact ih nd.2
      | some a =>
        refine List.Pairwise.cons (fun b hb => ?_) (ih nd.2)
        obtain ⟨j, hj, hbj⟩ := List.mem_filterMap.1 hb
        exact key i j a b (fun e => nd.1 (e ▸ hj)) ha hbj

section
variable {P : Program} {G : Hp} {κ : Type} [BEq κ] [LawfulBEq κ]
variable {T kt et : TypeId} {ke : κ → Value} {z : Value} {b : Nat} {o : Obj} {L : List (κ × Value)} {h : Hp} {k : κ}

/-- A map, and the stamp of a key's entry. -/
def KEntry (ke : κ → Value) (o : Obj) (L : List (κ × Value)) (k : κ) (st : Nat) : Prop := ∃ es clock, o = .map es clock ∧ es.toList.map (fun e => (e.key, e.val)) = L.map (fun p => (ke p.1, p.2)) ∧ (es.toList.map (·.born)).Nodup ∧ (∀ b ∈ es.toList.map (·.born), b < clock) ∧
  ∃ (i : Nat) (e : MapEntry), es[i]? = some e ∧ e.born = st ∧ kidx L k = some i
theorem KEntry.map {st : Nat} (m : KEntry ke o L k st) : KMap ke o L := by
  obtain ⟨es, clock, rfl, h1, h2, h3, _⟩ := m
  exact ⟨es, clock, rfl, h1, h2, h3⟩

theorem kidx_app {v : Value} (hm : kidx L k = none) : kidx (L ++ [(k, v)]) k = some L.length := by
  unfold kidx at *
  rw [List.findIdx?_append, hm]
  simp

theorem mapentry_key (ok : KeyOk P kt ke) (hT : P.underlying T = some (.map kt et)) (hz : zeroOf P et = some z) (hb : h b = some o) (m : KMap ke o L) {K : Value → Hp → Prop}
    (H : ∀ o' st, KEntry ke o' (if (kget L k).isSome = true then L else L ++ [(k, z)]) k st → K (.tuple #[(kget L k).getD z, .int .i64 (st : Nat)]) (h.set b o')) : wpH P G (Instr.mapEntry T (.map (some b)) (ke k)) h K := by
  obtain ⟨es, clock, rfl, he, hnd, hbc⟩ := m
  have hlk : look G h b = some (.map es clock) := by unfold look; rw [hb]
  unfold zeroOf at hz
  cases hi : P.info? et with
  | none => rw [hi] at hz; cases hz
  | some inf =>
  rw [hi] at hz
  simp only [Option.bind_some] at hz
  rw [kget_find] at H
  unfold Instr.mapEntry underlying getObj
  simp only [bind, wpH_bind, program, wpH, hT, pure, hlk, Option.some.injEq, exists_eq_left', isCells, true_and, (ok.chk _ _).w, (finding ok he).w]
  have hl := congrArg List.length he
  simp only [List.length_map, Array.length_toList] at hl
  cases hm : kidx L k with
  | none =>
    rw [hm] at H
    simp only [Option.bind_none]
    simp only [zeroValue, typeInfo, program, bind, pure, wpH, wpH_bind, hi, hz]
    unfold setObj
    refine ⟨⟨_, hb, rfl⟩, H _ clock ⟨_, _, rfl, ?_, (borns_push (e := { key := ke k, val := z, born := clock }) hnd hbc rfl).1, (borns_push (e := { key := ke k, val := z, born := clock }) hnd hbc rfl).2, es.size, { key := ke k, val := z, born := clock }, by simp, rfl, ?_⟩⟩
    · simp [he]
    · simp only [Option.bind_none, Option.map_none, Option.isSome_none, Bool.false_eq_true, if_false]
      rw [kidx_app hm, hl]
  | some j =>
    rw [hm] at H
    have hj : j < L.length := by
      unfold kidx at hm
      exact (List.findIdx?_eq_some_iff_getElem.1 hm).1
    have hkey : (L[j]).1 = k := by
      unfold kidx at hm
      exact eq_of_beq (List.findIdx?_eq_some_iff_getElem.1 hm).2.1
    have hej : j < es.size := by omega
    have hent : (es[j].key, es[j].val) = (ke (L[j]).1, (L[j]).2) := by
      have := congrArg (fun l => l[j]?) he
      simp only [List.getElem?_map, Array.getElem?_toList, Array.getElem?_eq_getElem hej, List.getElem?_eq_getElem hj, Option.map_some, Option.some.injEq] at this
      exact this
    simp only [List.getElem?_eq_getElem hj, Option.bind_some, Option.map_some, Option.isSome_some, if_true, Option.getD_some] at H ⊢
    have hks : ∀ K : Value → Hp → Prop, wpH P G (Instr.keyThatStays (((es[j]?).map (·.key)).getD (ke k)) (ke k)) h K = K (ke k) h := by
      intro K
      rw [Array.getElem?_eq_getElem hej]
      simp only [Option.map_some, Option.getD_some]
      rw [show es[j].key = ke k by rw [← hkey]; exact (Prod.mk.inj hent).1]
      unfold Instr.keyThatStays
      rw [ok.bits]
      rfl
    simp only [wpH_bind, hks]
    unfold setObj
    simp only [wpH, Array.getElem?_eq_getElem hej, Option.map_some, Option.getD_some]
    refine ⟨⟨_, hb, rfl⟩, H _ (es[j].born) ⟨_, _, rfl, ?_, by rw [borns_modify (f := fun e => { e with key := ke k }) (fun _ => rfl)]; exact hnd, by rw [borns_modify (f := fun e => { e with key := ke k }) (fun _ => rfl)]; exact hbc, j, { es[j] with key := ke k }, ?_, rfl, hm⟩⟩
    · apply List.ext_getElem?
      intro q
      simp only [List.getElem?_map, Array.getElem?_toList, Array.getElem?_modify]
      have heq := congrArg (fun l => l[q]?) he
      simp only [List.getElem?_map, Array.getElem?_toList] at heq
      by_cases hq : j = q
      · subst hq
        rw [if_pos rfl, Array.getElem?_eq_getElem hej, List.getElem?_eq_getElem hj]
        simp only [Option.map_some, Option.some.injEq, Prod.mk.injEq]
        exact ⟨by rw [hkey], (Prod.mk.inj hent).2⟩
      · rw [if_neg hq]; exact heq
    · rw [Array.getElem?_modify, if_pos rfl, Array.getElem?_eq_getElem hej]; rfl

theorem entrystore_key {st : Nat} (hb : h b = some o) (m : KEntry ke o L k st) {v : Value} {K : Unit → Hp → Prop}
    (H : ∀ o', KMap ke o' (kput L k v) → K () (h.set b o')) : wpH P G (Instr.entryStore T (.map (some b)) (.int .i64 (st : Nat)) v) h K := by
  obtain ⟨es, clock, rfl, he, hnd, hbc, i, e, hei, hst, hki⟩ := m
  have hlk : look G h b = some (.map es clock) := by unfold look; rw [hb]
  have hil : i < es.size := (Array.getElem?_eq_some_iff.1 hei).1
  have hj : i < L.length := by
    unfold kidx at hki
    exact (List.findIdx?_eq_some_iff_getElem.1 hki).1
  have hkey : (L[i]).1 = k := by
    unfold kidx at hki
    exact eq_of_beq (List.findIdx?_eq_some_iff_getElem.1 hki).2.1
  have hfind : es.findIdx? (fun e => (e.born : Int) == (st : Int)) = some i := by
    rw [Array.findIdx?_eq_some_iff_getElem]
    refine ⟨hil, ?_, fun j hji => ?_⟩
    · rw [(Array.getElem?_eq_some_iff.1 hei).2, hst]; exact beq_self_eq_true _
    · have := List.pairwise_iff_getElem.1 hnd j i (by simp; omega) (by simpa using hil) hji
      simp only [List.getElem_map, Array.getElem_toList] at this
      rw [(Array.getElem?_eq_some_iff.1 hei).2, hst] at this
      simp only [beq_iff_eq]
      omega
  unfold Instr.entryStore getObj asInt
  simp only [bind, wpH_bind, wpH, pure, hlk, Option.some.injEq, exists_eq_left', isCells, true_and]
  show wpH P G (match Array.findIdx? (fun e => (e.born : Int) == (st : Int)) es with | some i => setObj b (.map (es.modify i fun e => { e with val := v }) clock) | none => unsupported (.noEntry "instr/MapEntry.the entry is gone")) h K
  rw [hfind]
  unfold setObj
  unfold kput at H
  rw [hki] at H
  refine ⟨⟨_, hb, rfl⟩, H _ ⟨_, _, rfl, ?_, by rw [borns_modify (f := fun e => { e with val := v }) (fun _ => rfl)]; exact hnd, by rw [borns_modify (f := fun e => { e with val := v }) (fun _ => rfl)]; exact hbc⟩⟩
  apply List.ext_getElem?
  intro q
  simp only [List.getElem?_map, Array.getElem?_toList, Array.getElem?_modify, List.getElem?_set]
  have heq := congrArg (fun l => l[q]?) he
  simp only [List.getElem?_map, Array.getElem?_toList] at heq
  by_cases hq : i = q
  · subst hq
    rw [hei, List.getElem?_eq_getElem hj] at heq
    simp only [Option.map_some, Option.some.injEq, Prod.mk.injEq] at heq
    simp only [if_true, hei, hj, Option.map_some, Option.some.injEq, Prod.mk.injEq, and_true]
    rw [heq.1, hkey]
  · simp [hq, heq]
end
end Go.HL
