/- Whatever order: down to the world. -/
import Derived.Test.YtkekdpnlenpmiaaHLd
namespace Go.HL
open Go

section
variable {P : Program} {G : Hp} {n : Nat} {all : Bool} {ops : Array Oper} {B : Array Nat} {h0 : Hp}

/-- A run that was shown with less known leaves more as it was, too. -/
theorem Mv.more {h0 h : Hp} {w w' : World} (i : In G h w) (l : h0.le h) (m : Mv h0 w h0 w') : Mv h w h w' := by
  refine ⟨m.size, fun b o e => ?_, fun b o e1 e2 => ?_, m.os, m.output, m.tape⟩
  · cases e0 : h0 b with
    | none => exact (m.frame b o (i.sub _ _ e) e0).1
    | some p =>
      have := l _ _ e0
      rw [e] at this
      cases this
      exact m.sub _ _ e0
  · have e0 : h0 b = none := by
      cases e0 : h0 b with
      | none => rfl
      | some p => rw [l _ _ e0] at e2; cases e2
    exact ⟨(m.frame b o e1 e0).1, e2⟩

theorem pure_run {G' : Hp} {h h0 : Hp} {w : World} {s : Sem Next} {v : Value} (i : In G h w) (i0 : In G' h0 w) (l : h0.le h) (p : pureAt P G' h0 s v) : ∃ w', s.run P w = .ok (.value v) w' ∧ Mv h w h w' := by
  obtain ⟨x, h', w', e1, e2, e3, e4⟩ := wpH_run _ i0 p
  subst e3 e4
  exact ⟨w', e1, Mv.more i l e2⟩

theorem noHp_le (h : Hp) : noHp.le h := fun b o e => by simp [noHp] at e

theorem storeVar_form {t : TypeId} {ad : Addr} {v : Value} {h : Hp} {K : Unit → Hp → Prop} :
    wpH P G (storeVar t ad v) h K ↔ ∃ i, P.info? t = some i ∧ v.cells.size = i.size ∧ wpH P G (storeCells ad v.cells.toList) h K := by
  unfold storeVar sizeOf typeInfo
  simp only [bind, wpH_bind, program, wpH]
  cases hi : P.info? t with
  | none => simp [stuck, wpH]
  | some i =>
    simp only [pure, wpH]
    by_cases hc : v.cells.size = i.size
    · simp [hc]
    · simp [hc, stuck, wpH, Sem.bind]

theorem store_form {o : Oper} {r : Rg} {t : TypeId} {a x : Operand} (ho : o.op = .store t a x) {ad : Addr} (ha : evalR r a = .pointer (some ad)) {h : Hp} {K : Value → Hp → Prop} :
    opH P G (execOp (evalR r) o) h K ↔ wpH P G (storeVar t ad (evalR r x)) h (fun _ h' => K undef h') := by
  obtain ⟨dst, op, type, pos, after, guard⟩ := o
  simp only at ho
  subst ho
  simp only [opH, execOp, Instr.storeAt, Instr.sureAddr, ha, bind, pure, wpH_bind, wpH, onNext]

/-- An effect that keeps nothing of what was there has no load beside it. -/
theorem eff_alone {j i' : Nat} (hj : isEff (kop ops j) = true) (hn : newAt all ops B j = false) (hk : kindAt all ops B i' = .pureM) (hb : bitsOk ops B = true) : bit B j i' = true := by
  have hm := kindAt_kop hk (by decide)
  have hlt : i' < ops.size := by
    unfold kop at hm
    cases e : ops[i']? with
    | none => rw [e] at hm; cases hm
    | some oi => exact (Array.getElem?_eq_some_iff.1 e).1
  cases h1 : bit B j i' with
  | true => rfl
  | false =>
    exfalso
    cases h2 : bit B i' j with
    | true =>
      have hlt2 : j < i' := by
        obtain ⟨o, ho⟩ : ∃ o, ops[i']? = some o := ⟨_, Array.getElem?_eq_getElem hlt⟩
        have key : ∀ (m : Nat) (o : Oper), ops[m]? = some o → bit B m j = true → j < m := by
          intro m
          induction m using Nat.strongRecOn with
          | _ m ih =>
            intro o ho hb2
            obtain ⟨g1, g2⟩ := bitsOk_spec hb ho
            obtain ⟨e, he, hbe, h3⟩ := g2 j hb2
            have hem := g1 e he hbe
            rcases h3 with rfl | h3
            · exact hem
            · have hml := (Array.getElem?_eq_some_iff.1 ho).1
              have := ih e.on hem _ (Array.getElem?_eq_getElem (by omega)) h3
              omega
        exact key i' o ho h2
      unfold kindAt at hk
      rw [hm] at hk
      simp only at hk
      split at hk
      · cases hk
      · rename_i hx
        apply hx
        rw [List.any_eq_true]
        exact ⟨j, List.mem_range.2 hlt2, by rw [h2, hj, hn]; rfl⟩
    | false =>
      have : newAt all ops B j = true := by
        unfold newAt
        rw [hj, Bool.true_and, List.any_eq_true]
        exact ⟨i', List.mem_range.2 hlt, by rw [hm, h1, h2]; cases all <;> rfl⟩
      rw [hn] at this
      cases this

/-- As long as a load is still to come, what was there when the region began is there. -/
def Pend (all : Bool) (ops : Array Oper) (B : Array Nat) (h0 : Hp) (listed : Array Bool) (h : Hp) : Prop := (∃ i, listed.getD i true = false ∧ kindAt all ops B i = .pureM) → h0.le h

theorem Pend.take {listed : Array Bool} {h h' : Hp} {j : Nat} (p : Pend all ops B h0 listed h) (l : h0.le h → h0.le h') : Pend all ops B h0 (listed.setIfInBounds j true) h' := by
  rintro ⟨i, hi, hk⟩
  by_cases hji : j = i
  · subst hji
    exfalso
    by_cases hlt : j < listed.size
    · simp [hlt] at hi
    · simp [hlt] at hi
  · rw [getD_set_ne true hji] at hi
    exact l (p ⟨i, hi, hk⟩)

theorem anyD_wp (hok : regionOk all ops B = true) {Q : Exit → Act → World → Prop} {K : Rg → Hp → Prop} : ∀ (fuel : Nat) (listed : Array Bool) (r : Rg) (h : Hp) (a : Act) (w : World),
    Fit n a r → In G h w → Down ops listed → Pend all ops B h0 listed h → anyD P G n all ops B h0 K fuel listed r h →
    (∀ r' h' a' w', Fit n a' r' → Mv h w h' w' → K r' h' → Q .normal a' w') → wpAny P .any ops Q fuel listed a w
  | 0, listed, r, h, a, w, f, i, _, _, H, hq => ⟨H.1, hq r h a w f (.refl i) H.2⟩
  | fuel + 1, listed, r, h, a, w, f, i, d, p, H, hq => by
    have hB := regionOk_bits hok
    refine ⟨fun h1 => hq r h a w f (.refl i) (H.1 h1), fun j hj => ?_⟩
    obtain ⟨hjun, o, ho, hall⟩ := mem_ready.1 hj
    have H1 := H.2 j hj
    unfold dOp at H1
    unfold wpOp
    simp only [ho, f.wanted ops o] at H1 ⊢
    have next : ∀ v h' w', Mv h w h' w' → (h0.le h → h0.le h') → anyD P G n all ops B h0 K fuel (listed.setIfInBounds j true) (putR n r o.dst v) h' → wpAny P .any ops Q fuel (listed.setIfInBounds j true) (a.put o.dst v) w' :=
      fun v h' w' m l k => anyD_wp hok fuel _ _ h' _ w' (f.put o.dst v) (m.keeps i) (d.take hj) (p.take l) k fun r2 h2 a2 w2 f2 m2 k2 => hq r2 h2 a2 w2 f2 (m.trans m2) k2
    split
    · rename_i hw
      rw [if_pos hw] at H1
      refine .inl ?_
      unfold stepS stepD at H1
      split at H1
      · obtain ⟨v, hv, k⟩ := H1
        obtain ⟨w', e, m⟩ := pure_run i (in_noHp w) (noHp_le h) hv
        unfold Oper.wp
        rw [f.eval, e]
        exact next v h w' m id (k ⟨w, i⟩)
      · rename_i hk
        obtain ⟨v, hv, k⟩ := H1
        have l := p ⟨j, hjun, hk⟩
        obtain ⟨w', e, m⟩ := pure_run i (i.less l) l hv
        unfold Oper.wp
        rw [f.eval, e]
        exact next v h w' m id (k ⟨w, i⟩)
      · obtain ⟨v, hv, k⟩ := H1
        obtain ⟨w', e, m⟩ := pure_run i i (Hp.le.refl h) hv
        unfold Oper.wp
        rw [f.eval, e]
        exact next v h w' m id (k ⟨w, i⟩)
      · rename_i n1 n2 n3
        -- does it keep what was there?
        have key : opH P G (execOp (evalR r) o) h (fun v h' => (Sat G h' → anyD P G n all ops B h0 K fuel (listed.setIfInBounds j true) (putR n r o.dst v) h') ∧ (h0.le h → Pend all ops B h0 (listed.setIfInBounds j true) h')) := by
          cases hn : newAt all ops B j with
          | true =>
            simp only [hn] at H1
            exact opH_mono (fun v h' k => ⟨k.2, fun _ _ => k.1⟩) H1
          | false =>
            simp only [hn] at H1
            cases hk : kindAt all ops B j with
            | pureN => exact absurd hk n1
            | pureM => exact absurd hk n2
            | late => exact absurd hk n3
            | alloc =>
              rcases alloc_form (P := P) (G := G) (kindAt_alloc ho hk) (evalR r) with hno | ⟨ob, f, hform⟩
              · exact absurd H1 (hno _ _)
              · rw [hform] at H1 ⊢
                exact fun x hx gx => ⟨H1 x hx gx, fun l _ => l.trans ((Hp.le.refl h).set hx)⟩
            | _ =>
              all_goals
                refine opH_mono (fun v h' k => ⟨k, fun _ => ?_⟩) H1
                rintro ⟨i', hi', hk'⟩
                exfalso
                have hne : j ≠ i' := fun x => by subst x; rw [hk] at hk'; cases hk'
                rw [getD_set_ne true hne] at hi'
                have hb := eff_alone (by rw [kindAt_kop hk (by decide)]; rfl) hn hk' hB
                have := listed_of_bit hB d j i' o ho hall hb
                rw [getD_false_of hi'] at this
                cases this
        refine opH_wp i (K := fun v h' => (Sat G h' → anyD P G n all ops B h0 K fuel (listed.setIfInBounds j true) (putR n r o.dst v) h') ∧ (h0.le h → Pend all ops B h0 (listed.setIfInBounds j true) h')) (by rw [f.eval]; exact key) ?_
        intro v h' w' m kl
        obtain ⟨k, l⟩ := kl
        have pend' : Pend all ops B h0 (listed.setIfInBounds j true) h' := by
          intro hx
          have hle : h0.le h := by
            obtain ⟨i', hi', hk'⟩ := hx
            refine p ⟨i', ?_, hk'⟩
            by_cases hji : j = i'
            · subst hji; exact hjun
            · rw [getD_set_ne true hji] at hi'; exact hi'
          exact l hle hx
        exact anyD_wp hok fuel _ _ h' _ w' (f.put o.dst v) (m.keeps i) (d.take hj) pend' (k ⟨w', m.keeps i⟩) fun r2 h2 a2 w2 f2 m2 k2 => hq r2 h2 a2 w2 f2 (m.trans m2) k2
    · rename_i hw
      rw [if_neg hw] at H1
      exact next undef h w (.refl i) id H1

/-- **A REGION THAT DRAWS, IN THE ORDER OF ITS TEXT.** -/
theorem region_draw (hm : P.follows .mixedOrders = true) (hok : regionOk all ops B = true) {id : Nat} {Q : Exit → Act → World → Prop} {K : Rg → Hp → Prop} {r : Rg} {h : Hp} {a : Act} {w : World}
    (f : Fit n a r) (i : In G h w) (l0 : h0.le h) (H : lexD P G n all ops B h0 0 ops.toList r h K) (hq : ∀ r' h' a' w', Fit n a' r' → Mv h w h' w' → K r' h' → Q .normal a' w') : (Code.region id ops true).wp P Q a w := by
  refine wp_region_any hm ?_
  have i' : In G h { w with drawn := w.drawn + 1 } := ⟨i.sub, i.gnd⟩
  have hs : Sat G h := ⟨_, i⟩
  have hs0 : Sat G h0 := hs.less l0
  refine anyD_wp (h0 := h0) hok ops.size _ r h a _ f i' ?_ ?_ ?_ (fun r' h' a' w' f' m k => hq r' h' a' w' f' ⟨m.size, m.sub, m.frame, m.os, m.output, m.tape⟩ k)
  · intro j o hj hl
    simp [Array.getElem?_replicate] at hl
    split at hl <;> simp at hl
  · exact fun _ => l0
  · have := lex_any hok hs0 ops.toList 0 (Array.replicate ops.size false) r h (by simp) (by simp) (by simp) (fun j hj => by simp [hj]) hs H
    simpa using this

theorem lexD_mono : ∀ (l : List Oper) (k : Nat) {r : Rg} {h : Hp} {K K' : Rg → Hp → Prop}, (∀ r h, K r h → K' r h) → lexD P G n all ops B h0 k l r h K → lexD P G n all ops B h0 k l r h K'
  | [], _, _, _, _, _, hk, H => hk _ _ H
  | o :: rest, k, _, _, _, _, hk, H => by
    unfold lexD at H ⊢
    split at H
    · rename_i e; rw [if_pos e]; exact stepD_mono (fun v h => lexD_mono rest (k + 1) hk) H
    · rename_i e; rw [if_neg e]; exact lexD_mono rest (k + 1) hk H

end
end Go.HL
