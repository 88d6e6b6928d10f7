/- A heap's iterator, gone through. -/
import Derived.Test.YtkekdpnlenpmiaaHA
set_option linter.unusedSimpArgs false
set_option linter.unusedVariables false
namespace Go.Proofs.Ytkekdpnlenpmiaa
open Go Go.HL

theorem HS.hd {h : Hp} {hp : Nat} {Q : List It} {n : Int} {ob : Option Nat} (a : HS h hp Q n ob) : ∃ cs, h hp = some (.cells cs 63 (0, 0)) := by
  obtain ⟨L, ⟨sl, h1, _⟩, _⟩ := a
  exact ⟨_, h1⟩
theorem HS.tl {h : Hp} {hp : Nat} {Q : List It} {n : Int} {b : Nat} (a : HS h hp Q n (some b)) : ∃ cs, h b = some (.cells cs 65 (0, 0)) := by
  obtain ⟨L, ⟨sl, _, cap, t, _, h1, _⟩, _⟩ := a
  exact ⟨_, h1⟩
theorem ne_type {h : Hp} {x y : Nat} {c d : Array Value} {e f : TypeId} (hx : h x = some (.cells c e (0, 0))) (hy : h y = some (.cells d f (0, 0))) (hef : e ≠ f) : x ≠ y := by
  intro q
  rw [q, hy] at hx
  simp only [Option.some.injEq, Obj.cells.injEq] at hx
  exact hef hx.2.1.symm

theorem append_none {G : Hp} {h : Hp} {q : Nat} {x : Value} {K : Value → Hp → Prop} (hq : h q = some (.cells #[] 65 (0, 0))) (s : Src G h itC.n x 0 []) : wpH Try.prog G (Builtin.append_ #[61, 61] 61 #[.slice (some ⟨q, 0, none⟩) 0 0, x]) h K = K (.slice (some ⟨q, 0, none⟩) 0 0) h := by
  rw [append_fit (l := []) un61 (eo65 : ElemOk Try.prog 65 itC.n 24) hq s (by simp) (by simp) (by simp)]
  simp only [putL, set_same hq]

/-- The copy: a heap of one's own with the same things. -/
theorem copy_own {G h : Hp} {q : Nat} {sl : Value} {L : List It} {ob : Option Nat} {K : Value → Hp → Prop} (o : Own itC 65 h sl L ob) (hq : h q = none) (gq : G q = none) (hL : L.length ≤ 100000)
    (H : ∀ b cap ts, h b = none → G b = none → (itC.rows L ++ ts).length = cap * itC.n → ∀ h', h' b = some (.cells (itC.rows L ++ ts).toArray 65 (0, 0)) → (∀ y, y ≠ b → y ≠ q → h' y = h y) → h.le h' → K (.slice (some ⟨b, 0, none⟩) L.length cap) h') :
    wpH Try.prog G (Builtin.append_ #[61, 61] 61 #[.slice (some ⟨q, 0, none⟩) 0 0, sl]) (h.set q (.cells #[] 65 (0, 0))) K := by
  have s : Src G (h.set q (.cells #[] 65 (0, 0))) itC.n sl L.length (itC.rows L) := (o.new hq).src
  cases hLe : L with
  | nil =>
    subst hLe
    rw [append_none set_self s]
    exact H q 0 [] hq gq rfl _ set_self (fun y _ y2 => set_other y2) (le_set hq)
  | cons z M =>
    have o0 : Own itC 65 (h.set q (.cells #[] 65 (0, 0))) (.slice (some ⟨q, 0, none⟩) 0 0) ([] : List It) (some q) := ⟨0, [], rfl, set_self, rfl⟩
    refine append_own itC (L := []) un61 (eo65 : ElemOk Try.prog 65 itC.n 24) (by decide) o0 s (by rw [hLe]; simp) (by simp; omega) (by simp; omega) fun b cap ts hb hlen => ?_
    simp only [List.nil_append, List.length_nil, Nat.zero_add] at hlen ⊢
    rcases hb with hb | ⟨hb, gb⟩
    · cases hb
      refine H q cap ts hq gq hlen _ set_self (fun y _ y2 => by rw [set_other y2, set_other y2]) ?_
      rw [set_set]
      exact le_set hq
    · refine H b cap ts (none_of_set hb) gb hlen _ set_self (fun y y1 y2 => by rw [set_other y1, set_other y2]) ((le_set hq).trans (le_set hb))

theorem seq_spec {G h : Hp} {hp lb mb xb most : Nat} {Q : List It} {n : Int} {ob : Option Nat} (a : HS h hp Q n ob) (hQ : Q.length ≤ 100000) (hm1 : 1 ≤ most) (hx : h xb = some (.cells #[.pointer (some ⟨hp, 0, none⟩)] 24 (0, 0)))
    (hl : h lb = some (.cells #[.slice none 0 0] 44 (0, 0))) (hm : h mb = some (.cells #[.int .i64 most] 3 (0, 0))) :
    HCalls Try.prog G 47 #[.func (.func 43) #[] #[.pointer (some ⟨lb, 0, none⟩), .pointer (some ⟨mb, 0, none⟩)], .pointer (some ⟨xb, 0, none⟩)] h
      (fun _ h' => ∃ sl ob2, h' lb = some (.cells #[sl] 44 (0, 0)) ∧ Own vC 27 h' sl ((Q.take most).map It.v) ob2 ∧ Fr G h h' lb none ob2) := by
  refine HCalls.less (enter47 (by simp) (R := fun _ hf => ∃ sl ob2, hf lb = some (.cells #[sl] 44 (0, 0)) ∧ Own vC 27 hf sl ((Q.take most).map It.v) ob2 ∧ (∀ b, ob2 = some b → h b = none ∧ G b = none) ∧ ∀ y p, y ≠ lb → h y = some p → hf y = some p) ?_) ?_
  rotate_left
  · rintro v hf ⟨sl, ob2, h1, h2, h3, h4⟩
    cases ob2 with
    | none => 
      obtain ⟨rfl, e⟩ := h2
      refine ⟨h.set lb (.cells #[.slice none 0 0] 44 (0, 0)), fun y p hy => ?_, _, none, set_self, ⟨rfl, e⟩, ⟨fun y y1 _ => set_other y1, .inl rfl⟩⟩
      by_cases e2 : y = lb
      · subst e2; rw [set_self] at hy; rw [h1, hy]
      · rw [set_other e2] at hy; exact h4 y p e2 hy
    | some b =>
      obtain ⟨hb, gb⟩ := h3 b rfl
      have nbl : lb ≠ b := ne_of_new hl hb
      obtain ⟨cap, t, rfl, h5, h6⟩ := h2
      refine ⟨(h.set lb (.cells #[.slice (some ⟨b, 0, none⟩) ((Q.take most).map It.v).length cap] 44 (0, 0))).set b (.cells (vC.rows ((Q.take most).map It.v) ++ t).toArray 27 (0, 0)), fun y p hy => ?_, _, some b, by rw [set_other nbl, set_self], ⟨cap, t, rfl, set_self, h6⟩, ⟨fun y y1 y2 => by rw [set_other (fun e => y2 (by rw [e])), set_other y1], .inr ⟨b, rfl, hb, gb⟩⟩⟩
      by_cases e3 : y = b
      · subst e3; rw [set_self] at hy; rw [h5, hy]
      · rw [set_other e3] at hy
        by_cases e2 : y = lb
        · subst e2; rw [set_self] at hy; rw [h1, hy]
        · rw [set_other e2] at hy; exact h4 y p e2 hy
  have cx : ∀ k, cellIn G h ⟨xb, k, none⟩ = _ := fun k => cell_of (look_own hx)
  obtain ⟨L, ⟨sl0, hhd, o⟩, hok, hperm, hsort, hnd, hnn⟩ := a
  have ch : ∀ k, cellIn G h ⟨hp, k, none⟩ = _ := fun k => cell_of (look_own hhd)
  unfold S47
  simp -implicitDefEqProofs (maxSteps := 2000000) (disch := first | with_reducible exact Nat.ne_of_beq_eq_false rfl | omega | rfl | (simp; done)) only [regs1, ne_eq, retK_ret, resL_nil0, opH_sv, ld24, cx, List.getElem?_cons_zero, Option.some.injEq, exists_eq_left', eq24s, HL.cond_false]
  unfold S47_k1
  simp -implicitDefEqProofs (maxSteps := 2000000) (disch := first | with_reducible exact Nat.ne_of_beq_eq_false rfl | omega | rfl | (simp; done)) only [upd_ne, regs1, opH_sv, box_new, pureW_sv, ld24p, cx, List.getElem?_cons_zero, Option.some.injEq, exists_eq_left', pureW_nil, fa63_2p, add_mk, Nat.zero_add, ld3p, ch, List.getElem?_cons_succ, fa63_1p, ld61p, bs61_0_, fa63_0p, Nat.add_zero, ld28p]
  intro q hq gq
  refine copy_own o hq gq (by rw [hperm.length_eq]; exact hQ) fun b cap ts hb gb hlen h2 h2b h2o h2l => ?_
  refine ⟨h2l, ?_⟩
  simp -implicitDefEqProofs (maxSteps := 2000000) (disch := first | with_reducible exact Nat.ne_of_beq_eq_false rfl | omega | rfl | (simp; done)) only [bd63_0_1_2p, cells_agg]
  intro z hz gz
  have nbz : b ≠ z := ne_of_new h2b hz
  have az : HS (h2.set z (.cells #[.func (.func 12) #[] #[], .slice (some ⟨b, 0, none⟩) L.length cap, .int .i64 n] 63 (0, 0))) z Q n (some b) :=
    ⟨L, ⟨_, set_self, cap, ts, rfl, by rw [set_other nbz]; exact h2b, hlen⟩, hok, hperm, hsort, hnd, hnn⟩
  have nz : ∀ y p, h y = some p → y ≠ z := fun y p e => ne_of_new (h2l _ _ e) hz
  have nb : ∀ y p, h y = some p → y ≠ b := fun y p e => ne_of_new e hb
  have keep0 : ∀ y p, h y = some p → (h2.set z (.cells #[.func (.func 12) #[] #[], .slice (some ⟨b, 0, none⟩) L.length cap, .int .i64 n] 63 (0, 0))) y = some p := fun y p e => by rw [set_other (nz y p e)]; exact h2l _ _ e
  refine loop_I (fun m r h3 => ∃ (i : Nat) (sl : Value) (ob2 : Option Nat), m = most - i ∧ i < most ∧ i ≤ Q.length ∧ r 0 = .func (.func 43) #[] #[.pointer (some ⟨lb, 0, none⟩), .pointer (some ⟨mb, 0, none⟩)] ∧ r 3 = .pointer (some ⟨z, 0, none⟩) ∧
     HS h3 z (Q.drop i) n (some b) ∧ h3 lb = some (.cells #[sl] 44 (0, 0)) ∧ Own vC 27 h3 sl ((Q.take i).map It.v) ob2 ∧ (∀ b, ob2 = some b → h b = none ∧ G b = none) ∧ ∀ y p, y ≠ lb → h y = some p → h3 y = some p) ?_
     (m := most) ⟨0, _, none, rfl, hm1, Nat.zero_le _, by simp -implicitDefEqProofs (maxSteps := 2000000) (disch := first | with_reducible exact Nat.ne_of_beq_eq_false rfl | omega | rfl | (simp; done)) only [upd_ne, regs0], by simp -implicitDefEqProofs (maxSteps := 2000000) (disch := first | with_reducible exact Nat.ne_of_beq_eq_false rfl | omega | rfl | (simp; done)) only [upd_eq], az, keep0 _ _ hl, ⟨rfl, rfl⟩, by simp, fun y p _ e => keep0 y p e⟩
  rintro m r h3 ⟨i, sl, ob2, rfl, hi, hiQ, g0, g3, a3, hl3, o3, hn3, k3⟩ X HX
  have nbz' : z ≠ b := nbz.symm
  unfold S47_l2
  simp -implicitDefEqProofs (maxSteps := 2000000) (disch := first | with_reducible exact Nat.ne_of_beq_eq_false rfl | omega | rfl | (simp; done)) only [g3, thenK_ret, blockK_ret, retK_ret, resL_nil0, thenK_normal, opH_sv, opH_su, al27, cf15]
  refine (qpop_spec a3 (by rw [List.length_drop]; omega)).mono ?_
  rintro _ h4 ⟨rfl, a4, f4⟩
  obtain ⟨ca, ha3⟩ := a3.hd
  obtain ⟨cb, hb3⟩ := a3.tl
  have nlz : lb ≠ z := ne_type hl3 ha3 (by decide)
  have nlb : lb ≠ b := ne_type hl3 hb3 (by decide)
  have nob2z : ∀ y, ob2 = some y → y ≠ z := fun y e => by subst e; exact o3.ne ha3 (by decide)
  have nob2b : ∀ y, ob2 = some y → y ≠ b := fun y e => by subst e; exact o3.ne hb3 (by decide)
  have keep4 : ∀ y p, y ≠ lb → h y = some p → h4 y = some p := fun y p e1 e2 => by
    rw [f4.same y (nz y p e2) (fun e => nb y p e2 (by cases e; rfl))]
    exact k3 y p e1 e2
  have hl4 : h4 lb = some (.cells #[sl] 44 (0, 0)) := (f4.same lb nlz (fun e => nlb (by cases e; rfl))).trans hl3
  have o4 : Own vC 27 h4 sl ((Q.take i).map It.v) ob2 := o3.keep fun y e => f4.same y (nob2z y e) (fun e2 => nob2b y e (by cases e2; rfl))
  by_cases hiq : i < Q.length
  · obtain ⟨x, hx⟩ : ∃ x, Q[i]? = some x := ⟨_, List.getElem?_eq_getElem hiq⟩
    obtain ⟨hiQ2, hxe⟩ := List.getElem?_eq_some_iff.1 hx
    have hd : Q.drop i = x :: Q.drop (i + 1) := by rw [List.drop_eq_getElem_cons hiQ2, hxe]
    rw [hd] at a4 ⊢
    simp only [List.tail] at a4
    simp only [pkV]
    simp -implicitDefEqProofs (maxSteps := 2000000) (disch := first | with_reducible exact Nat.ne_of_beq_eq_false rfl | omega | rfl | (simp; done)) only [ex1, un_not, Bool.not_true, pick_f, gd_ff, opH_sv, ld27, add_mk, Nat.add_zero, Nat.zero_add, ex0, st27w, cell_set_self, List.getElem?_cons_zero, Option.some.injEq, List.getElem?_cons_succ, exists_eq_left']
    intro w hw gw
    have hw4 := hw
    have hm5 : (h4.set w (.cells #[.int .i64 x.k, .int .i64 x.m] 27 (0, 0))) mb = some (.cells #[.int .i64 most] 3 (0, 0)) := by
      have : h4 mb = _ := keep4 mb _ (ne_type hm hl (by decide)) hm
      rw [set_other (ne_of_new this hw)]; exact this
    have hl5 : (h4.set w (.cells #[.int .i64 x.k, .int .i64 x.m] 27 (0, 0))) lb = some (.cells #[sl] 44 (0, 0)) := by rw [set_other (ne_of_new hl4 hw)]; exact hl4
    simp -implicitDefEqProofs (maxSteps := 2000000) (disch := first | with_reducible exact Nat.ne_of_beq_eq_false rfl | omega | rfl | (simp; done)) only [g0, callV_fn, cf43]
    refine (yield_spec (k := x.k) (m := x.m) hl5 (o4.new hw) hm5 (by rw [List.length_map, List.length_take]; omega)).mono ?_
    rintro _ h6 ⟨rfl, sl6, ob6, hl6, o6, f6⟩
    have a5 := a4.new (o := .cells #[.int .i64 x.k, .int .i64 x.m] 27 (0, 0)) hw
    obtain ⟨ca5, ha5⟩ := a5.hd
    obtain ⟨cb5, hb5⟩ := a5.tl
    have n6 : ∀ y p, (h4.set w (.cells #[.int .i64 x.k, .int .i64 x.m] 27 (0, 0))) y = some p → (∀ u, ob2 = some u → u ≠ y) → ob6 ≠ some y := by
      intro y p e1 e2 e3
      rcases f6.new with e | ⟨u, e, hu, _⟩
      · exact e2 y (by rw [← e]; exact e3) rfl
      · rw [e3] at e
        cases e
        rw [hu] at e1
        cases e1
    have a6 : HS h6 z (Q.drop (i + 1)) n (some b) := a5.keep (f6.same z nlz.symm (n6 z _ ha5 nob2z)) (fun y e => by cases e; exact f6.same b nlb.symm (n6 b _ hb5 nob2b))
    have hn6 : ∀ u, ob6 = some u → h u = none ∧ G u = none := by
      intro u e
      rcases f6.new with e2 | ⟨u', e2, hu, gu⟩
      · exact hn3 u (by rw [← e2]; exact e)
      · rw [e] at e2
        cases e2
        refine ⟨?_, gu⟩
        cases e3 : h u with
        | none => rfl
        | some p =>
          exfalso
          have hu4 := none_of_set hu
          by_cases e4 : u = lb
          · rw [e4, hl4] at hu4; cases hu4
          · rw [keep4 u p e4 e3] at hu4; cases hu4
    have k6 : ∀ y p, y ≠ lb → h y = some p → h6 y = some p := by
      intro y p e1 e2
      have h5 : (h4.set w (.cells #[.int .i64 x.k, .int .i64 x.m] 27 (0, 0))) y = some p := by rw [set_other (ne_of_new (keep4 y p e1 e2) hw)]; exact keep4 y p e1 e2
      rw [f6.same y e1 (n6 y p h5 (fun u e => fun e3 => by have := (hn3 u e).1; rw [e3, e2] at this; cases this))]
      exact h5
    have hlen6 : ((Q.take i).map It.v).length = i := by rw [List.length_map, List.length_take]; omega
    have hmap : (Q.take i).map It.v ++ [(x.k, x.m)] = (Q.take (i + 1)).map It.v := by rw [List.take_add_one, hx]; simp [It.v]
    rw [hmap] at o6
    rw [hlen6]
    refine cond_bool (fun e => ?_) (fun e => ?_)
    · have he : ¬ i + 1 < most := by simp at e; omega
      refine ⟨sl6, ob6, hl6, ?_, hn6, k6⟩
      rw [show most = i + 1 by omega]
      exact o6
    · have he : i + 1 < most := by simp at e; omega
      exact HX (most - (i + 1)) _ _ (by omega) ⟨i + 1, sl6, ob6, rfl, he, by omega, by simp -implicitDefEqProofs (maxSteps := 2000000) (disch := first | with_reducible exact Nat.ne_of_beq_eq_false rfl | omega | rfl | (simp; done)) only [upd_ne, g0], by simp -implicitDefEqProofs (maxSteps := 2000000) (disch := first | with_reducible exact Nat.ne_of_beq_eq_false rfl | omega | rfl | (simp; done)) only [upd_ne, g3], a6, hl6, o6, hn6, k6⟩
  · obtain rfl : i = Q.length := by omega
    rw [List.drop_of_length_le (by omega)]
    simp only [pkV]
    simp -implicitDefEqProofs (maxSteps := 2000000) (disch := first | with_reducible exact Nat.ne_of_beq_eq_false rfl | omega | rfl | (simp; done)) only [ex1, un_not, Bool.not_false, pick_t, HL.cond_true, gd_tf, ex0, st27w]
    intro w hw gw
    refine ⟨sl, ob2, by rw [set_other (ne_of_new hl4 hw)]; exact hl4, ?_, hn3, fun y p e1 e2 => by rw [set_other (ne_of_new (keep4 y p e1 e2) hw)]; exact keep4 y p e1 e2⟩
    rw [List.take_of_length_le (by omega)] at o4
    rw [List.take_of_length_le (by omega)]
    exact o4.new hw

theorem all_spec {G h : Hp} {hp most : Nat} {Q : List It} {n : Int} {ob : Option Nat} (a : HS h hp Q n ob) (hQ : Q.length ≤ 100000) (hm1 : 1 ≤ most) (hm2 : most ≤ 1000000) :
    HCalls Try.prog G 22 #[.pointer (some ⟨hp, 0, none⟩), .int .i64 most] h (fun v h' => ∃ ob2, Own vC 27 h' v ((Q.take most).map It.v) ob2 ∧ (∀ b, ob2 = some b → h b = none ∧ G b = none) ∧ h.le h' ∧ ∀ y, ob2 ≠ some y → h' y = h y) := by
  refine HCalls.less (enter22 (by simp) (R := fun v hf => ∃ ob2, Own vC 27 hf v ((Q.take most).map It.v) ob2 ∧ (∀ b, ob2 = some b → h b = none ∧ G b = none) ∧ h.le hf) ?_) ?_
  rotate_left
  · rintro v hf ⟨ob2, h2, h3, h4⟩
    cases ob2 with
    | none => exact ⟨h, h4, none, h2, h3, Hp.le.refl h, fun _ _ => rfl⟩
    | some b =>
      obtain ⟨hb, gb⟩ := h3 b rfl
      obtain ⟨cap, t, rfl, h5, h6⟩ := h2
      refine ⟨h.set b _, fun y p hy => ?_, some b, ⟨cap, t, rfl, set_self, h6⟩, h3, le_set hb, fun y y2 => set_other (fun e => y2 (by rw [e]))⟩
      by_cases e3 : y = b
      · subst e3; rw [set_self] at hy; rw [h5, hy]
      · rw [set_other e3] at hy; exact h4 y p hy
  unfold S22
  simp -implicitDefEqProofs (maxSteps := 2000000) (disch := first | with_reducible exact Nat.ne_of_beq_eq_false rfl | omega | rfl | (simp; done)) only [regs1, regs0, retK_ret, resL_tmp, upd_eq, resL_nil1, cf42, opH_sv, box_new, cells_int]
  intro mb hmb gmb
  have h1 := a.new (o := .cells #[.int .i64 most] 3 (0, 0)) hmb
  refine HCalls.mono (P := Try.prog) (R := fun v h' => ∃ xb, v = .func (.func 47) #[] #[.pointer (some ⟨xb, 0, none⟩)] ∧ (h.set mb (.cells #[.int .i64 most] 3 (0, 0))) xb = none ∧ G xb = none ∧ h' = (h.set mb (.cells #[.int .i64 most] 3 (0, 0))).set xb (.cells #[.pointer (some ⟨hp, 0, none⟩)] 24 (0, 0))) ?_ ?_
  · refine enter42 (by simp) ?_
    unfold S42
    simp -implicitDefEqProofs (maxSteps := 2000000) (disch := first | with_reducible exact Nat.ne_of_beq_eq_false rfl | omega | rfl | (simp; done)) only [regs0, retK_ret, resL_tmp, upd_eq, resL_nil1, opH_sv, box_new, cells_ptr]
    intro xb hxb gxb
    exact ⟨xb, rfl, hxb, gxb, rfl⟩
  rintro _ _ ⟨xb, rfl, hxb, gxb, rfl⟩
  have nmx : mb ≠ xb := ne_of_set hxb
  simp -implicitDefEqProofs (maxSteps := 2000000) (disch := first | with_reducible exact Nat.ne_of_beq_eq_false rfl | omega | rfl | (simp; done)) only [eq74s, pick_f, gd_ff, opH_sv, ld3, cell_set_other nmx, cell_set_self, List.getElem?_cons_zero, Option.some.injEq, exists_eq_left', bin_lss, dec_f (show ¬(most : Int) < 1 by omega), HL.cond_false]
  unfold S22_k1
  simp -implicitDefEqProofs (maxSteps := 2000000) (disch := first | with_reducible exact Nat.ne_of_beq_eq_false rfl | omega | rfl | (simp; done)) only [opH_sv, opH_su, pureW_sv, opH_nil, pureW_nil, pick_t, pick_f, pick_tp, pick_fp, gd_tt, gd_ft, gd_tf, gd_ff, box_new, regs0, regs1, regs2, regs3, regs4, regs5, regs6, cells_agg, cells_int, cells_bool, cells_ptr, cells_slice, cells_string, cells_func, cells_nilFunc, cells_map, retK_ret, retK_normal, resL_tmp, resL_cell, resL_nil0, resL_nil1, resL_nil2, resL_nil3, resC_ptr, ex0, ex1, ex2, ex0p, ex1p, ex2p, HL.cond_true, HL.cond_false, thenK_normal, thenK_ret, thenK_exit, blockK_normal, blockK_ret, blockK_exit, scopeK_normal, scopeK_ret, scopeK_exit, wpH_pure, bin_add, bin_sub, bin_mul, bin_lss, bin_leq, bin_gtr, bin_geq, bin_quo, bin_rem, bin_quop, bin_remp, wrap_in, bin_addp, bin_subp, bin_mulp, bin_lssp, bin_leqp, bin_gtrp, bin_geqp, un_not, un_notp, un_neg, eq_int, ne_int, eq_intp, ne_intp, callV_fn, add_mk, upd_eq, upd_ne, cell_set_self, Nat.zero_add, Nat.add_zero, Option.some.injEq, exists_eq_left', List.getElem?_cons_succ, List.getElem?_cons_zero, true_and, and_true, bne_self_eq_false, beq_self_eq_true, Bool.not_true, Bool.not_false, Bool.and_true, Bool.and_self, Bool.and_false, Bool.true_and, List.length_cons, List.length_nil, ne_eq, not_false_eq_true, Nat.reduceAdd, Nat.reduceMul, if_true, if_false, oneCell_int, oneCell_bool, oneCell_ptr, oneCell_slice, oneCell_string, oneCell_func, oneCell_map, Int.toNat_natCast, List.set_cons_zero, List.set_cons_succ, Nat.lt_irrefl, Nat.zero_lt_succ, Nat.succ_lt_succ_iff, fa27_0, fa27_0p, fa27_1, fa27_1p, fa53_0, fa53_0p, fa55_0, fa55_0p, fa55_1, fa55_1p, fa63_0, fa63_0p, fa63_1, fa63_1p, fa63_2, fa63_2p, fa65_0, fa65_0p, fa65_1, fa65_1p, fa70_0, fa70_0p, fa70_1, fa70_1p, fa70_2, fa70_2p, fa72_0, fa72_0p, fa72_1, fa72_1p, ld3, ld3p, ld4, ld4p, ld9, ld9p, ld24, ld24p, ld27, ld27p, ld28, ld28p, ld39, ld39p, ld44, ld44p, ld55, ld55p, ld61, ld61p, ld65, ld65p, ld68, ld68p, ld72, ld72p, st3s, st4s, st9s, st27w, st44s, st55w, st61s, st65w, st68s, st72w, ix22, ix22p, ix31, ix31p, ix36, ix36p, ix44, ix44p, ix50, ix50p, ix61, ix61p, ix68, ix68p, ln9, ln9p, ln22, ln22p, ln31, ln31p, ln36, ln36p, ln44, ln44p, ln50, ln50p, ln61, ln61p, ln68, ln68p, al3, al27, al44, al55, al65, al72, cf10, cf11, cf12, cf13, cf14, cf15, cf16, cf17, cf18, cf19, cf20, cf21, cf22, cf23, cf24, cf25, cf26, cf27, cf28, cf29, cf30, cf31, cf32, cf33, cf34, cf35, cf36, cf37, cf38, cf39, cf40, cf41, cf42, cf43, cf44, cf45, cf46, cf47, bd27_, bd27_p, bd27_0_1, bd27_0_1p, bd53_, bd53_p, bd53_0, bd53_0p, bd63_0, bd63_0p, bd63_0_1_2, bd63_0_1_2p, bd65_, bd65_p, bd65_0_1, bd65_0_1p, bd70_0, bd70_0p, bd72_, bd72_p, bd72_0_1, bd72_0_1p, bd77_0_1, bd77_0_1p, bs61_1_0, bs68_1_0, bs44_1_0, bs61_0_, eq9, eq9p, eq24n, eq24np, eq24s, eq24sp, eq27, eq27p, eq28n, eq28np, eq28s, eq28sp, eq37n, eq37np, eq37s, eq37sp, eq39n, eq39np, eq39s, eq39sp, eq74n, eq74np, eq74s, eq74sp, ne4, ne4p, ne27, ne27p]
  intro lb hlb glb
  have nxl : xb ≠ lb := ne_of_set hlb
  have nml : mb ≠ lb := ne_of_set (none_of_set hlb |> fun h => by rw [set_other (Ne.symm nxl)] at hlb; exact hlb)
  refine (seq_spec (most := most) ((h1.new hxb).new hlb) hQ hm1 (xb := xb) (lb := lb) (mb := mb) (by rw [set_other nxl, set_self]) set_self (by rw [set_other nml, set_other nmx, set_self])).mono ?_
  rintro _ h5 ⟨sl, ob2, h6, h7, f⟩
  have cl : ∀ k, cellIn G h5 ⟨lb, k, none⟩ = _ := fun k => cell_of (look_own h6)
  simp -implicitDefEqProofs (maxSteps := 2000000) (disch := first | with_reducible exact Nat.ne_of_beq_eq_false rfl | omega | rfl | (simp; done)) only [cl, List.getElem?_cons_zero, Option.some.injEq, exists_eq_left']
  have hnew : ∀ b, ob2 = some b → h b = none ∧ G b = none := by
    intro b e
    rcases f.new with e2 | ⟨b', e2, hb, gb⟩
    · rw [e] at e2; cases e2
    · rw [e] at e2; cases e2
      exact ⟨none_of_set (none_of_set (none_of_set hb)), gb⟩
  refine ⟨ob2, h7, hnew, fun y p hy => ?_⟩
  have e1 : y ≠ mb := ne_of_new hy hmb
  have e2 : y ≠ xb := ne_of_new hy (none_of_set hxb)
  have e3 : y ≠ lb := ne_of_new hy (none_of_set (none_of_set hlb))
  rw [f.same y e3 (fun e => by rw [(hnew y e).1] at hy; cases hy), set_other e3, set_other e2, set_other e1]
  exact hy

theorem same_spec {G h : Hp} {u v : Value} {L M : List (Int × Int)} (hL : Sees vC G h u L) (hM : Sees vC G h v M) (hlen : L.length ≤ 100000) :
    HCalls Try.prog G 24 #[u, v] h (fun w h' => w = .bool (decide (L = M)) ∧ h' = h) := by
  refine quietly (enter24 (by simp) ?_)
  obtain ⟨sa, cap, hu⟩ := hL.len
  obtain ⟨sb, cap', hv⟩ := hM.len
  unfold S24
  simp -implicitDefEqProofs (maxSteps := 2000000) (disch := first | with_reducible exact Nat.ne_of_beq_eq_false rfl | omega | rfl | (simp; done)) only [hu, hv, regs0, regs1, retK_ret, resL_tmp, upd_eq, resL_nil1, opH_sv, ln44, ne_int]
  by_cases hlm : L.length = M.length
  · rw [show ((L.length : Int) != (M.length : Int)) = false by simp [hlm]]
    simp -implicitDefEqProofs (maxSteps := 2000000) (disch := first | with_reducible exact Nat.ne_of_beq_eq_false rfl | omega | rfl | (simp; done)) only [HL.cond_false]
    unfold S24_k1
    refine loop_I (fun m r h3 => ∃ (i : Nat), m = L.length - i ∧ i ≤ L.length ∧ r 0 = u ∧ r 1 = v ∧ r 5 = .int .i64 i ∧ h3 = h ∧ L.take i = M.take i) ?_
     (m := L.length) ⟨0, rfl, Nat.zero_le _, by simp -implicitDefEqProofs (maxSteps := 2000000) (disch := first | with_reducible exact Nat.ne_of_beq_eq_false rfl | omega | rfl | (simp; done)) only [upd_ne, regs0, hu], by simp -implicitDefEqProofs (maxSteps := 2000000) (disch := first | with_reducible exact Nat.ne_of_beq_eq_false rfl | omega | rfl | (simp; done)) only [upd_ne, regs1, hv], by simp -implicitDefEqProofs (maxSteps := 2000000) (disch := first | with_reducible exact Nat.ne_of_beq_eq_false rfl | omega | rfl | (simp; done)) only [upd_eq]; rfl, rfl, by simp⟩
    rintro m r h ⟨i, rfl, hi, g0, g1, g5, rfl, htk⟩ X HX
    unfold S24_l3
    simp -implicitDefEqProofs (maxSteps := 2000000) (disch := first | with_reducible exact Nat.ne_of_beq_eq_false rfl | omega | rfl | (simp; done)) only [g0, hu, g5, thenK_exit, blockK_exit, thenK_normal, if_true, opH_sv, ln44, bin_lss]
    refine cond_dec (fun hlt => ?_) (fun hge => ?_)
    · have hlt' : i < L.length := by omega
      obtain ⟨x, hx⟩ : ∃ x, L[i]? = some x := ⟨_, List.getElem?_eq_getElem hlt'⟩
      obtain ⟨y, hy⟩ : ∃ x, M[i]? = some x := ⟨_, List.getElem?_eq_getElem (by omega)⟩
      obtain ⟨b, o, c, e1, e2⟩ := hL.get hx
      obtain ⟨b', o', c', e3, e4⟩ := hM.get hy
      have x0 := e2 0 (by decide)
      have x1 := e2 1 (by decide)
      have y0 := e4 0 (by decide)
      have y1 := e4 1 (by decide)
      simp only [vC, Nat.add_zero, List.getElem?_cons_zero, List.getElem?_cons_succ] at x0 x1 y0 y1
      unfold S24_l3_k4
      simp -implicitDefEqProofs (maxSteps := 2000000) (disch := first | with_reducible exact Nat.ne_of_beq_eq_false rfl | omega | rfl | (simp; done)) only [opH_sv, opH_su, pureW_sv, opH_nil, pureW_nil, pick_t, pick_f, pick_tp, pick_fp, gd_tt, gd_ft, gd_tf, gd_ff, box_new, regs0, regs1, regs2, regs3, regs4, regs5, regs6, cells_agg, cells_int, cells_bool, cells_ptr, cells_slice, cells_string, cells_func, cells_nilFunc, cells_map, retK_ret, retK_normal, resL_tmp, resL_cell, resL_nil0, resL_nil1, resL_nil2, resL_nil3, resC_ptr, ex0, ex1, ex2, ex0p, ex1p, ex2p, HL.cond_true, HL.cond_false, thenK_normal, thenK_ret, thenK_exit, blockK_normal, blockK_ret, blockK_exit, scopeK_normal, scopeK_ret, scopeK_exit, wpH_pure, bin_add, bin_sub, bin_mul, bin_lss, bin_leq, bin_gtr, bin_geq, bin_quo, bin_rem, bin_quop, bin_remp, wrap_in, bin_addp, bin_subp, bin_mulp, bin_lssp, bin_leqp, bin_gtrp, bin_geqp, un_not, un_notp, un_neg, eq_int, ne_int, eq_intp, ne_intp, callV_fn, add_mk, upd_eq, upd_ne, cell_set_self, Nat.zero_add, Nat.add_zero, Option.some.injEq, exists_eq_left', List.getElem?_cons_succ, List.getElem?_cons_zero, true_and, and_true, bne_self_eq_false, beq_self_eq_true, Bool.not_true, Bool.not_false, Bool.and_true, Bool.and_self, Bool.and_false, Bool.true_and, List.length_cons, List.length_nil, ne_eq, not_false_eq_true, Nat.reduceAdd, Nat.reduceMul, if_true, if_false, oneCell_int, oneCell_bool, oneCell_ptr, oneCell_slice, oneCell_string, oneCell_func, oneCell_map, Int.toNat_natCast, List.set_cons_zero, List.set_cons_succ, Nat.lt_irrefl, Nat.zero_lt_succ, Nat.succ_lt_succ_iff, fa27_0, fa27_0p, fa27_1, fa27_1p, fa53_0, fa53_0p, fa55_0, fa55_0p, fa55_1, fa55_1p, fa63_0, fa63_0p, fa63_1, fa63_1p, fa63_2, fa63_2p, fa65_0, fa65_0p, fa65_1, fa65_1p, fa70_0, fa70_0p, fa70_1, fa70_1p, fa70_2, fa70_2p, fa72_0, fa72_0p, fa72_1, fa72_1p, ld3, ld3p, ld4, ld4p, ld9, ld9p, ld24, ld24p, ld27, ld27p, ld28, ld28p, ld39, ld39p, ld44, ld44p, ld55, ld55p, ld61, ld61p, ld65, ld65p, ld68, ld68p, ld72, ld72p, st3s, st4s, st9s, st27w, st44s, st55w, st61s, st65w, st68s, st72w, ix22, ix22p, ix31, ix31p, ix36, ix36p, ix44, ix44p, ix50, ix50p, ix61, ix61p, ix68, ix68p, ln9, ln9p, ln22, ln22p, ln31, ln31p, ln36, ln36p, ln44, ln44p, ln50, ln50p, ln61, ln61p, ln68, ln68p, al3, al27, al44, al55, al65, al72, cf10, cf11, cf12, cf13, cf14, cf15, cf16, cf17, cf18, cf19, cf20, cf21, cf22, cf23, cf24, cf25, cf26, cf27, cf28, cf29, cf30, cf31, cf32, cf33, cf34, cf35, cf36, cf37, cf38, cf39, cf40, cf41, cf42, cf43, cf44, cf45, cf46, cf47, bd27_, bd27_p, bd27_0_1, bd27_0_1p, bd53_, bd53_p, bd53_0, bd53_0p, bd63_0, bd63_0p, bd63_0_1_2, bd63_0_1_2p, bd65_, bd65_p, bd65_0_1, bd65_0_1p, bd70_0, bd70_0p, bd72_, bd72_p, bd72_0_1, bd72_0_1p, bd77_0_1, bd77_0_1p, bs61_1_0, bs68_1_0, bs44_1_0, bs61_0_, eq9, eq9p, eq24n, eq24np, eq24s, eq24sp, eq27, eq27p, eq28n, eq28np, eq28s, eq28sp, eq37n, eq37np, eq37s, eq37sp, eq39n, eq39np, eq39s, eq39sp, eq74n, eq74np, eq74s, eq74sp, ne4, ne4p, ne27, ne27p, g0, g1, g5, e1, e3, ix44p (Int.natCast_nonneg i) hlt, ix44p (Int.natCast_nonneg i) (show (i : Int) < M.length by omega), x0, x1, y0, y1]
      refine cond_bool (fun e => ?_) (fun e => ?_)
      · refine ⟨?_, Hp.le.refl h⟩
        have hne : x ≠ y := by
          rintro rfl
          simp at e
        congr 1
        symm
        apply dec_f
        rintro rfl
        rw [hx] at hy
        cases hy
        exact hne rfl
      · unfold S24_l3_k5
        simp -implicitDefEqProofs (maxSteps := 2000000) (disch := first | with_reducible exact Nat.ne_of_beq_eq_false rfl | omega | rfl | (simp; done)) only [upd_ne, g5, thenK_normal, opH_sv, bin_add, wrap_in]
        have hxy : x = y := by
          obtain ⟨x1, x2⟩ := x
          obtain ⟨y1, y2⟩ := y
          simp at e
          rw [e.1, e.2]
        refine HX (L.length - (i + 1)) _ _ (by omega) ⟨i + 1, rfl, hlt', by simp -implicitDefEqProofs (maxSteps := 2000000) (disch := first | with_reducible exact Nat.ne_of_beq_eq_false rfl | omega | rfl | (simp; done)) only [upd_ne, g0], by simp -implicitDefEqProofs (maxSteps := 2000000) (disch := first | with_reducible exact Nat.ne_of_beq_eq_false rfl | omega | rfl | (simp; done)) only [upd_ne, g1], by simp -implicitDefEqProofs (maxSteps := 2000000) (disch := first | with_reducible exact Nat.ne_of_beq_eq_false rfl | omega | rfl | (simp; done)) only [upd_eq]; rfl, rfl, ?_⟩
        rw [List.take_add_one, List.take_add_one, hx, hy, htk, hxy]
    · obtain rfl : i = L.length := by omega
      show S24_k2 _ _ _ _
      unfold S24_k2
      simp -implicitDefEqProofs (maxSteps := 2000000) (disch := first | with_reducible exact Nat.ne_of_beq_eq_false rfl | omega | rfl | (simp; done)) only [retK_ret, resL_tmp, upd_eq, resL_nil1]
      rw [List.take_of_length_le (Nat.le_refl _), List.take_of_length_le (by omega)] at htk
      exact ⟨by rw [dec_t htk], Hp.le.refl h⟩
  · rw [show ((L.length : Int) != (M.length : Int)) = true by simp; omega]
    simp -implicitDefEqProofs (maxSteps := 2000000) (disch := first | with_reducible exact Nat.ne_of_beq_eq_false rfl | omega | rfl | (simp; done)) only [HL.cond_true]
    exact ⟨by rw [dec_f (fun e => hlm (by rw [e]))], Hp.le.refl h⟩

end Go.Proofs.Ytkekdpnlenpmiaa
