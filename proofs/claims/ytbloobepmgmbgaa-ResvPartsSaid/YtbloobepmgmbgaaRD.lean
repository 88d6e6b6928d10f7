/- The table: a stretch put. -/
import Derived.Test.YtbloobepmgmbgaaRC
set_option linter.unusedSimpArgs false
set_option linter.unusedVariables false
set_option maxRecDepth 100000
namespace Go.Proofs.Ytbloobepmgmbgaa
open Go Go.HL Go.Proofs.Resv

theorem sv_set {raws : List Sv} {c : Nat} {s : Sv} (hc : c < raws.length) : (svC.rows raws).set c (.slice s.1 s.2.1 s.2.2) = svC.rows (raws.set c s) := by
  have := svC.rows_put (t := []) (x := s) hc
  rw [List.append_nil, List.append_nil, show svC.n = 1 from rfl, Nat.mul_one] at this
  exact this

/-- A row of the table turned: a new slice of one's own. -/
theorem tab_store {ty : TypeId} {a io h : Hp} {R : List Hp} {G : Hp} {tp c : Nat} {T : List (List Slot)} {L : List Slot} {v : Value} (t : Tab ty a tp T) (s : HL.Sep (io :: a :: R) h) (d : Dis G h) (o : Slc slotC 35 io v L) (hc : c < T.length) :
    ∃ (rb : Nat) (l : List Value), cellIn G a ⟨tp, 0, none⟩ = some (.slice (some ⟨rb, 0, none⟩) T.length T.length) ∧ h rb = some (.cells l.toArray 32 (0, 0)) ∧ c < l.length ∧
      ∃ a', Tab ty a' tp (T.set c L) ∧ HL.Sep (a' :: R) (h.set rb (.cells (l.set c v).toArray 32 (0, 0))) ∧ Dis G (h.set rb (.cells (l.set c v).toArray 32 (0, 0))) := by
  obtain ⟨rb, raws, pb, st, hl, hr⟩ := t
  have s1 := s.split st
  simp only [List.cons_append, List.nil_append] at s1
  have hrb : h rb = some (.cells (svC.rows raws).toArray 32 (0, 0)) := s1.at 2 rfl set_self
  obtain ⟨sa, cap, rfl, _⟩ := o.len (by decide)
  refine ⟨rb, svC.rows raws, ?_, hrb, by rw [svC.rows_length, show svC.n = 1 from rfl, hl]; omega, ?_⟩
  · rw [cell_of (look_own (st.at 0 rfl set_self))]
    rfl
  have e := sv_set (raws := raws) (c := c) (s := (sa, L.length, cap)) (by omega)
  simp only at e
  rw [e]
  have s2 := (s1.pick 2 rfl rfl).put (o := Obj.cells (svC.rows (raws.set c (sa, L.length, cap))).toArray 32 (0, 0)) set_self
  rw [set_set] at s2
  have s3 := (s2.pick 3 rfl rfl).pick 2 rfl rfl
  obtain ⟨pb', s4, t4⟩ := sep_pack2 s3
  have s5 := ((s4.pick 1 rfl rfl).pick 2 rfl rfl)
  obtain ⟨a', s6, t6⟩ := sep_pack3 s5
  refine ⟨a', ⟨rb, raws.set c (sa, L.length, cap), pb', ?_, by simp [hl], fun i s L' h1 h2 => ?_⟩, s6, d.set (d _ _ hrb)⟩
  · rw [List.length_set]
    exact t6
  · by_cases hi : i = c
    · subst hi
      rw [List.getElem?_set_self (by omega)] at h1 h2
      cases h1
      cases h2
      exact ⟨rfl, o.le (t4.in 0 rfl)⟩
    · rw [List.getElem?_set_ne (Ne.symm hi)] at h1 h2
      obtain ⟨e1, e2⟩ := hr i s L' h1 h2
      exact ⟨e1, e2.le (t4.in 1 rfl)⟩

theorem mn_eq {a b : Int} : (if b < a then b else a) = min a b := by split <;> omega
theorem mx_eq {a b : Int} : (if b > a then b else a) = max a b := by split <;> omega
theorem min_twop {P : Program} {G h : Hp} {a b : Int} {K : Value → Prop} : pw P G h (Builtin.min_ #[3, 3] 3 #[.int .i64 a, .int .i64 b]) K = K (.int .i64 (min a b)) := by rw [← mn_eq]; rfl
theorem max_twop {P : Program} {G h : Hp} {a b : Int} {K : Value → Prop} : pw P G h (Builtin.max_ #[3, 3] 3 #[.int .i64 a, .int .i64 b]) K = K (.int .i64 (max a b)) := by rw [← mx_eq]; rfl
theorem min_two {P : Program} {G h : Hp} {a b : Int} {K : Value → Hp → Prop} : wpH P G (Builtin.min_ #[3, 3] 3 #[.int .i64 a, .int .i64 b]) h K = K (.int .i64 (min a b)) h := by rw [← mn_eq]; rfl
theorem max_two {P : Program} {G h : Hp} {a b : Int} {K : Value → Hp → Prop} : wpH P G (Builtin.max_ #[3, 3] 3 #[.int .i64 a, .int .i64 b]) h K = K (.int .i64 (max a b)) h := by rw [← mx_eq]; rfl

theorem merge_take {r : Int} : ∀ {L : List Slot} {i : Nat} {s : Slot} {f t : Int} {out : List Slot}, L[i]? = some s → mergeL r (L.drop i) f t out = if touchB r f t s = true then mergeL r (L.drop (i + 1)) (min f s.f) (max t s.t) out else mergeL r (L.drop (i + 1)) f t (out ++ [s]) := by
  intro L i s f t out hs
  obtain ⟨hlt, rfl⟩ := List.getElem?_eq_some_iff.1 hs
  rw [List.drop_eq_getElem_cons hlt, mergeL]

theorem ins_rank {out : List Slot} {x : Slot} : insAt out x = out.take (rank out x.f) ++ x :: out.drop (rank out x.f) := by
  unfold insAt rank
  have e := List.takeWhile_append_dropWhile (p := fun s => decide (s.f < x.f)) (l := out)
  have h1 := List.take_left' (l₁ := out.takeWhile fun s => decide (s.f < x.f)) (l₂ := out.dropWhile fun s => decide (s.f < x.f)) rfl
  have h2 := List.drop_left' (l₁ := out.takeWhile fun s => decide (s.f < x.f)) (l₂ := out.dropWhile fun s => decide (s.f < x.f)) rfl
  rw [e] at h1 h2
  rw [h1, h2]

set_option maxHeartbeats 4000000 in
theorem put_walk {G h a : Hp} {R : List Hp} {tp : Nat} {T : List (List Slot)} {L : List Slot} {c r f t : Int} (tb : Tab 68 a tp T) (sp : HL.Sep (a :: R) h) (h0 : 0 ≤ c) (hL : T[c.toNat]? = some L) (g : Resv.Good L) (hlen : L.length ≤ 50000) (hf : 0 ≤ f) (hft : f < t) (ht : t ≤ FV) :
    HCalls Try.prog G 32 #[.pointer (some ⟨tp, 0, none⟩), .int .i64 r, .int .i64 c, .int .i64 f, .int .i64 t] h (fun u h' => u = .tuple #[] ∧ ∃ a', Tab 68 a' tp (T.set c.toNat (Resv.putL L r f t)) ∧ HL.Sep (a' :: R) h' ∧ Dis G h') := by
  have h1 : c < T.length := by have := (List.getElem?_eq_some_iff.1 hL).1; omega
  refine HCalls.assume fun d => enter32 (by simp) ?_
  have da : Dis G a := fun b o e => d _ _ (sp.hd _ _ e)
  obtain ⟨rb, e1, e2⟩ := tb.see (G := G) (Hp.le.refl a)
  obtain ⟨sa, cap, e3, e4⟩ := e2 _ _ hL
  unfold S32
  simp -implicitDefEqProofs (maxSteps := 2000000) (disch := first | with_reducible exact Nat.ne_of_beq_eq_false rfl | exact oneCell_int | exact oneCell_bool | omega | rfl | (simp; done) | fail) only [regs0, regs2, opH_sv, opH_nil, fa68_0, add_mk, Nat.add_zero, ld66, cell_up sp.hd d e1, Option.some.injEq, exists_eq_left', ix66 h0 h1, Nat.mul_one, Nat.zero_add, ld32, cell_up sp.hd d e3, ln32]
  refine loop_I (fun m q h3 => ∃ (i : Nat) (fi ti : Int) (io : Hp) (v : Value) (out : List Slot), m = L.length - i ∧ i ≤ L.length ∧ q 0 = .pointer (some ⟨tp, 0, none⟩) ∧ q 1 = .int .i64 r ∧ q 2 = .int .i64 c ∧ q 3 = .int .i64 fi ∧ q 4 = .int .i64 ti ∧ q 10 = v ∧ q 21 = .slice sa L.length cap ∧ q 22 = .int .i64 L.length ∧ q 23 = .int .i64 i ∧
      Slc slotC 35 io v out ∧ out.length ≤ i ∧ HL.Sep (io :: a :: R) h3 ∧ Dis G h3 ∧ mergeL r (L.drop i) fi ti out = mergeL r L f t []) ?_
    (m := L.length) ⟨0, f, t, noHp, _, [], rfl, Nat.zero_le _, by simp -implicitDefEqProofs (maxSteps := 2000000) (disch := first | with_reducible exact Nat.ne_of_beq_eq_false rfl | exact oneCell_int | exact oneCell_bool | omega | rfl | (simp; done) | fail) only [upd_ne, regs0], by simp -implicitDefEqProofs (maxSteps := 2000000) (disch := first | with_reducible exact Nat.ne_of_beq_eq_false rfl | exact oneCell_int | exact oneCell_bool | omega | rfl | (simp; done) | fail) only [upd_ne, regs1], by simp -implicitDefEqProofs (maxSteps := 2000000) (disch := first | with_reducible exact Nat.ne_of_beq_eq_false rfl | exact oneCell_int | exact oneCell_bool | omega | rfl | (simp; done) | fail) only [upd_ne, regs2], by simp -implicitDefEqProofs (maxSteps := 2000000) (disch := first | with_reducible exact Nat.ne_of_beq_eq_false rfl | exact oneCell_int | exact oneCell_bool | omega | rfl | (simp; done) | fail) only [upd_ne, regs3], by simp -implicitDefEqProofs (maxSteps := 2000000) (disch := first | with_reducible exact Nat.ne_of_beq_eq_false rfl | exact oneCell_int | exact oneCell_bool | omega | rfl | (simp; done) | fail) only [upd_ne, regs4], rfl, by simp -implicitDefEqProofs (maxSteps := 2000000) (disch := first | with_reducible exact Nat.ne_of_beq_eq_false rfl | exact oneCell_int | exact oneCell_bool | omega | rfl | (simp; done) | fail) only [upd_ne, upd_eq], by simp -implicitDefEqProofs (maxSteps := 2000000) (disch := first | with_reducible exact Nat.ne_of_beq_eq_false rfl | exact oneCell_int | exact oneCell_bool | omega | rfl | (simp; done) | fail) only [upd_ne, upd_eq], by simp -implicitDefEqProofs (maxSteps := 2000000) (disch := first | with_reducible exact Nat.ne_of_beq_eq_false rfl | exact oneCell_int | exact oneCell_bool | omega | rfl | (simp; done) | fail) only [upd_eq] <;> rfl, by simp -implicitDefEqProofs (maxSteps := 2000000) (disch := first | with_reducible exact Nat.ne_of_beq_eq_false rfl | exact oneCell_int | exact oneCell_bool | omega | rfl | (simp; done) | fail) only [upd_ne, upd_eq]; exact Slc.nil, Nat.zero_le _, sp.none, d, rfl⟩
  rintro m q h3 ⟨i, fi, ti, io, v, out, rfl, hi, q0, q1, q2, q3, q4, q10, q21, q22, q23, o, ho, s3, d3, hm⟩ X HX
  have l3 := s3.in 1 rfl
  unfold S32_l2
  simp -implicitDefEqProofs (maxSteps := 2000000) (disch := first | with_reducible exact Nat.ne_of_beq_eq_false rfl | exact oneCell_int | exact oneCell_bool | omega | rfl | (simp; done) | fail) only [q23, q22, thenK_exit, blockK_exit, thenK_normal, scopeK_exit, if_true, opH_sv, bin_lss]
  refine cond_dec (fun hlt => ?_) (fun hge => ?_)
  · obtain ⟨s, hs⟩ : ∃ s, L[i]? = some s := ⟨_, List.getElem?_eq_getElem (by omega)⟩
    obtain ⟨b, of, rfl, z0, z1, z2⟩ := Sees.slot (e4.up l3 d3) hs
    unfold S32_l2_k3
    simp -implicitDefEqProofs (maxSteps := 2000000) (disch := first | with_reducible exact Nat.ne_of_beq_eq_false rfl | exact oneCell_int | exact oneCell_bool | omega | rfl | (simp; done) | fail) only [upd_ne, q21, q23, pureW_sv, opH_sv, opH_su, al35, fa35_1p, add_mk, Nat.zero_add, ld3p, fa35_0p, Nat.add_zero, fa35_2, ld3, ix32 (Int.natCast_nonneg i) hlt, Int.toNat_natCast, ld35, z0, Option.some.injEq, z1, z2, exists_eq_left', st35w, cell_set_self, List.getElem?_cons_succ, List.getElem?_cons_zero]
    intro x hx gx
    simp -implicitDefEqProofs (maxSteps := 2000000) (disch := first | with_reducible exact Nat.ne_of_beq_eq_false rfl | exact oneCell_int | exact oneCell_bool | omega | rfl | (simp; done) | fail) only [q1, eq_int]
    generalize eh : Hp.set h3 x _ = h4
    obtain ⟨l4, d4, b4⟩ := boxed eh hx d3 gx
    have s4 : HL.Sep (io :: a :: R) h4 := by rw [← eh]; exact s3.past hx
    have cx : ∀ j, cellIn G h4 ⟨x, j, none⟩ = _ := fun j => cell_of (look_own b4)
    have k5 : ∀ (K0 : Exit → Rg → Hp → Prop) (q' : Rg), (∀ k, k ≤ 11 → q' k = q k) → q' 21 = q 21 → q' 22 = q 22 → q' 23 = q 23 → q' 12 = .pointer (some ⟨x, 0, none⟩) → touchB r fi ti s = false → S32_l2_k5 G (thenK X K0) q' h4 := by
      intro K0 q' hq q'21 q'22 q'23 q'12 htb
      unfold S32_l2_k5
      simp -implicitDefEqProofs (maxSteps := 2000000) (disch := first | with_reducible exact Nat.ne_of_beq_eq_false rfl | exact oneCell_int | exact oneCell_bool | omega | rfl | (simp; done) | fail) only [q'12, opH_sv, ld35, add_mk, Nat.add_zero, cx, List.getElem?_cons_zero, Option.some.injEq, Nat.zero_add, List.getElem?_cons_succ, bs32_1_0, exists_eq_left']
      intro y hy gy
      generalize ey : Hp.set h4 y _ = h5
      obtain ⟨l5, d5, b5⟩ := boxed ey hy d4 gy
      have s5 : HL.Sep (io :: a :: R) h5 := by rw [← ey]; exact s4.past hy
      rw [hq 10 (by decide), q10]
      refine append_piece slotC (by decide) un32 eoslot (by decide) (by decide) (M := [s]) s5 d5 o (Sees.row (c := slotC) (L := [s]) b5 rfl (Nat.le_refl _)) (by simp; omega) fun v' a' h' o' s' d' => ?_
      unfold S32_l2_k4
      simp -implicitDefEqProofs (maxSteps := 2000000) (disch := first | with_reducible exact Nat.ne_of_beq_eq_false rfl | exact oneCell_int | exact oneCell_bool | omega | rfl | (simp; done) | fail) only [upd_ne, q'23, q23, thenK_normal, opH_sv, bin_add, wrap_in]
      refine HX (L.length - (i + 1)) _ _ (by omega) ⟨i + 1, fi, ti, a', v', out ++ [s], rfl, by omega, by simp -implicitDefEqProofs (maxSteps := 2000000) (disch := first | with_reducible exact Nat.ne_of_beq_eq_false rfl | exact oneCell_int | exact oneCell_bool | omega | rfl | (simp; done) | fail) only [upd_ne, hq 0 (by decide), q0], by simp -implicitDefEqProofs (maxSteps := 2000000) (disch := first | with_reducible exact Nat.ne_of_beq_eq_false rfl | exact oneCell_int | exact oneCell_bool | omega | rfl | (simp; done) | fail) only [upd_ne, hq 1 (by decide), q1], by simp -implicitDefEqProofs (maxSteps := 2000000) (disch := first | with_reducible exact Nat.ne_of_beq_eq_false rfl | exact oneCell_int | exact oneCell_bool | omega | rfl | (simp; done) | fail) only [upd_ne, hq 2 (by decide), q2], by simp -implicitDefEqProofs (maxSteps := 2000000) (disch := first | with_reducible exact Nat.ne_of_beq_eq_false rfl | exact oneCell_int | exact oneCell_bool | omega | rfl | (simp; done) | fail) only [upd_ne, hq 3 (by decide), q3], by simp -implicitDefEqProofs (maxSteps := 2000000) (disch := first | with_reducible exact Nat.ne_of_beq_eq_false rfl | exact oneCell_int | exact oneCell_bool | omega | rfl | (simp; done) | fail) only [upd_ne, hq 4 (by decide), q4], by simp -implicitDefEqProofs (maxSteps := 2000000) (disch := first | with_reducible exact Nat.ne_of_beq_eq_false rfl | exact oneCell_int | exact oneCell_bool | omega | rfl | (simp; done) | fail) only [upd_ne, upd_eq], by simp -implicitDefEqProofs (maxSteps := 2000000) (disch := first | with_reducible exact Nat.ne_of_beq_eq_false rfl | exact oneCell_int | exact oneCell_bool | omega | rfl | (simp; done) | fail) only [upd_ne, q'21, q21], by simp -implicitDefEqProofs (maxSteps := 2000000) (disch := first | with_reducible exact Nat.ne_of_beq_eq_false rfl | exact oneCell_int | exact oneCell_bool | omega | rfl | (simp; done) | fail) only [upd_ne, q'22, q22], by simp -implicitDefEqProofs (maxSteps := 2000000) (disch := first | with_reducible exact Nat.ne_of_beq_eq_false rfl | exact oneCell_int | exact oneCell_bool | omega | rfl | (simp; done) | fail) only [upd_eq] <;> rfl, o', by simp; omega, s', d', ?_⟩
      rw [← hm, merge_take hs, if_neg (by rw [htb]; decide)]
    cases hb : (s.r == r) with
    | false =>
      simp -implicitDefEqProofs (maxSteps := 2000000) (disch := first | with_reducible exact Nat.ne_of_beq_eq_false rfl | exact oneCell_int | exact oneCell_bool | omega | rfl | (simp; done) | fail) only [pick_f, HL.cond_false, gd_ft]
      exact k5 _ _ (fun k hk => by simp (disch := omega) only [upd_ne]) (by simp -implicitDefEqProofs (maxSteps := 2000000) (disch := first | with_reducible exact Nat.ne_of_beq_eq_false rfl | exact oneCell_int | exact oneCell_bool | omega | rfl | (simp; done) | fail) only [upd_ne]) (by simp -implicitDefEqProofs (maxSteps := 2000000) (disch := first | with_reducible exact Nat.ne_of_beq_eq_false rfl | exact oneCell_int | exact oneCell_bool | omega | rfl | (simp; done) | fail) only [upd_ne]) (by simp -implicitDefEqProofs (maxSteps := 2000000) (disch := first | with_reducible exact Nat.ne_of_beq_eq_false rfl | exact oneCell_int | exact oneCell_bool | omega | rfl | (simp; done) | fail) only [upd_ne]) (by simp -implicitDefEqProofs (maxSteps := 2000000) (disch := first | with_reducible exact Nat.ne_of_beq_eq_false rfl | exact oneCell_int | exact oneCell_bool | omega | rfl | (simp; done) | fail) only [upd_ne, upd_eq]) (by unfold touchB; rw [hb]; rfl)
    | true =>
    simp -implicitDefEqProofs (maxSteps := 2000000) (disch := first | with_reducible exact Nat.ne_of_beq_eq_false rfl | exact oneCell_int | exact oneCell_bool | omega | rfl | (simp; done) | fail) only [q4, pick_t, gd_tt, opH_sv, fa35_0, add_mk, Nat.add_zero, ld3, cx, List.getElem?_cons_zero, Option.some.injEq, exists_eq_left', bin_leq]
    by_cases hb2 : s.f ≤ ti
    rotate_left
    · simp -implicitDefEqProofs (maxSteps := 2000000) (disch := first | with_reducible exact Nat.ne_of_beq_eq_false rfl | exact oneCell_int | exact oneCell_bool | omega | rfl | (simp; done) | fail) only [decide_eq_false hb2, pick_f, HL.cond_false, gd_ft]
      exact k5 _ _ (fun k hk => by simp (disch := omega) only [upd_ne]) (by simp -implicitDefEqProofs (maxSteps := 2000000) (disch := first | with_reducible exact Nat.ne_of_beq_eq_false rfl | exact oneCell_int | exact oneCell_bool | omega | rfl | (simp; done) | fail) only [upd_ne]) (by simp -implicitDefEqProofs (maxSteps := 2000000) (disch := first | with_reducible exact Nat.ne_of_beq_eq_false rfl | exact oneCell_int | exact oneCell_bool | omega | rfl | (simp; done) | fail) only [upd_ne]) (by simp -implicitDefEqProofs (maxSteps := 2000000) (disch := first | with_reducible exact Nat.ne_of_beq_eq_false rfl | exact oneCell_int | exact oneCell_bool | omega | rfl | (simp; done) | fail) only [upd_ne]) (by simp -implicitDefEqProofs (maxSteps := 2000000) (disch := first | with_reducible exact Nat.ne_of_beq_eq_false rfl | exact oneCell_int | exact oneCell_bool | omega | rfl | (simp; done) | fail) only [upd_ne, upd_eq]) (by unfold touchB; rw [decide_eq_false hb2]; simp)
    simp -implicitDefEqProofs (maxSteps := 2000000) (disch := first | with_reducible exact Nat.ne_of_beq_eq_false rfl | exact oneCell_int | exact oneCell_bool | omega | rfl | (simp; done) | fail) only [decide_eq_true hb2, q3, pick_t, gd_tt, opH_sv, fa35_1, add_mk, Nat.zero_add, ld3, cx, List.getElem?_cons_succ, List.getElem?_cons_zero, Option.some.injEq, exists_eq_left', bin_leq]
    refine cond_dec (fun hb3 => ?_) (fun hb3 => ?_)
    rotate_left
    · exact k5 _ _ (fun k hk => by simp (disch := omega) only [upd_ne]) (by simp -implicitDefEqProofs (maxSteps := 2000000) (disch := first | with_reducible exact Nat.ne_of_beq_eq_false rfl | exact oneCell_int | exact oneCell_bool | omega | rfl | (simp; done) | fail) only [upd_ne]) (by simp -implicitDefEqProofs (maxSteps := 2000000) (disch := first | with_reducible exact Nat.ne_of_beq_eq_false rfl | exact oneCell_int | exact oneCell_bool | omega | rfl | (simp; done) | fail) only [upd_ne]) (by simp -implicitDefEqProofs (maxSteps := 2000000) (disch := first | with_reducible exact Nat.ne_of_beq_eq_false rfl | exact oneCell_int | exact oneCell_bool | omega | rfl | (simp; done) | fail) only [upd_ne]) (by simp -implicitDefEqProofs (maxSteps := 2000000) (disch := first | with_reducible exact Nat.ne_of_beq_eq_false rfl | exact oneCell_int | exact oneCell_bool | omega | rfl | (simp; done) | fail) only [upd_ne, upd_eq]) (by unfold touchB; rw [decide_eq_false hb3]; simp)
    simp -implicitDefEqProofs (maxSteps := 2000000) (disch := first | with_reducible exact Nat.ne_of_beq_eq_false rfl | exact oneCell_int | exact oneCell_bool | omega | rfl | (simp; done) | fail) only [max_twop, min_twop]
    unfold S32_l2_k4
    simp -implicitDefEqProofs (maxSteps := 2000000) (disch := first | with_reducible exact Nat.ne_of_beq_eq_false rfl | exact oneCell_int | exact oneCell_bool | omega | rfl | (simp; done) | fail) only [upd_ne, q23, thenK_normal, opH_sv, bin_add, wrap_in]
    refine HX (L.length - (i + 1)) _ _ (by omega) ⟨i + 1, min fi s.f, max ti s.t, io, v, out, rfl, by omega, by simp -implicitDefEqProofs (maxSteps := 2000000) (disch := first | with_reducible exact Nat.ne_of_beq_eq_false rfl | exact oneCell_int | exact oneCell_bool | omega | rfl | (simp; done) | fail) only [upd_ne, q0], by simp -implicitDefEqProofs (maxSteps := 2000000) (disch := first | with_reducible exact Nat.ne_of_beq_eq_false rfl | exact oneCell_int | exact oneCell_bool | omega | rfl | (simp; done) | fail) only [upd_ne, q1], by simp -implicitDefEqProofs (maxSteps := 2000000) (disch := first | with_reducible exact Nat.ne_of_beq_eq_false rfl | exact oneCell_int | exact oneCell_bool | omega | rfl | (simp; done) | fail) only [upd_ne, q2], by simp -implicitDefEqProofs (maxSteps := 2000000) (disch := first | with_reducible exact Nat.ne_of_beq_eq_false rfl | exact oneCell_int | exact oneCell_bool | omega | rfl | (simp; done) | fail) only [upd_ne, upd_eq], by simp -implicitDefEqProofs (maxSteps := 2000000) (disch := first | with_reducible exact Nat.ne_of_beq_eq_false rfl | exact oneCell_int | exact oneCell_bool | omega | rfl | (simp; done) | fail) only [upd_ne, upd_eq], by simp -implicitDefEqProofs (maxSteps := 2000000) (disch := first | with_reducible exact Nat.ne_of_beq_eq_false rfl | exact oneCell_int | exact oneCell_bool | omega | rfl | (simp; done) | fail) only [upd_ne, q10], by simp -implicitDefEqProofs (maxSteps := 2000000) (disch := first | with_reducible exact Nat.ne_of_beq_eq_false rfl | exact oneCell_int | exact oneCell_bool | omega | rfl | (simp; done) | fail) only [upd_ne, q21], by simp -implicitDefEqProofs (maxSteps := 2000000) (disch := first | with_reducible exact Nat.ne_of_beq_eq_false rfl | exact oneCell_int | exact oneCell_bool | omega | rfl | (simp; done) | fail) only [upd_ne, q22], by simp -implicitDefEqProofs (maxSteps := 2000000) (disch := first | with_reducible exact Nat.ne_of_beq_eq_false rfl | exact oneCell_int | exact oneCell_bool | omega | rfl | (simp; done) | fail) only [upd_eq] <;> rfl, o, by omega, s4, d4, ?_⟩
    rw [← hm, merge_take hs, if_pos (by unfold touchB; rw [hb, decide_eq_true hb2, decide_eq_true hb3]; rfl)]
  -- the end
  obtain rfl : i = L.length := by omega
  rw [List.drop_of_length_le (Nat.le_refl _), mergeL] at hm
  obtain ⟨f', t', em, m1, m2, m3, m4, m5⟩ := merge_spec (r := r) (f := f) (t := t) (out := []) g.apart (fun s hs => (g.ok s hs).2.1) hft
  rw [← hm] at em
  simp only [Prod.mk.injEq, List.nil_append] at em
  obtain ⟨rfl, rfl, eo⟩ := em
  have ep : Resv.putL L r f t = insAt out ⟨fi, ti, r⟩ := by unfold Resv.putL; rw [← hm]
  have hmem : ∀ s ∈ out, s ∈ L := fun s hs => by rw [eo] at hs; exact (List.mem_filter.1 hs).1
  have hsort : out.Pairwise fun a b => a.f ≤ b.f := by
    rw [eo]
    exact (sorted_of g.apart fun s hs => (g.ok s hs).2.1).filter _
  have hfi : 0 ≤ fi := by
    rcases m3 with rfl | ⟨s, hs, _, rfl⟩
    · exact hf
    · exact (g.ok s hs).1
  try simp -implicitDefEqProofs (maxSteps := 2000000) (disch := first | with_reducible exact Nat.ne_of_beq_eq_false rfl | exact oneCell_int | exact oneCell_bool | omega | rfl | (simp; done) | fail) only [opH_sv, opH_su, pureW_sv, opH_nil, pureW_nil, pick_t, pick_f, pick_tp, pick_fp, gd_tt, gd_ft, gd_tf, gd_ff, box_new, regs0, regs1, regs2, regs3, regs4, regs5, regs6, cells_agg, cells_int, cells_bool, cells_ptr, cells_slice, cells_string, cells_func, cells_nilFunc, cells_map, retK_ret, retK_normal, resL_tmp, resL_cell, resL_nil0, resL_nil1, resL_nil2, resL_nil3, resC_ptr, ex0, ex1, ex2, ex0p, ex1p, ex2p, HL.cond_true, HL.cond_false, thenK_normal, thenK_ret, thenK_exit, blockK_normal, blockK_ret, blockK_exit, scopeK_normal, scopeK_ret, scopeK_exit, wpH_pure, bin_add, bin_sub, bin_mul, bin_lss, bin_leq, bin_gtr, bin_geq, bin_quo, bin_rem, bin_quop, bin_remp, wrap_in, bin_addp, bin_subp, bin_mulp, bin_lssp, bin_leqp, bin_gtrp, bin_geqp, un_not, un_notp, un_neg, eq_int, ne_int, eq_intp, ne_intp, callV_fn, add_mk, upd_eq, upd_ne, cell_set_self, Nat.zero_add, Nat.add_zero, Option.some.injEq, exists_eq_left', List.getElem?_cons_succ, List.getElem?_cons_zero, true_and, and_true, bne_self_eq_false, beq_self_eq_true, Bool.not_true, Bool.not_false, Bool.and_true, Bool.and_self, Bool.and_false, Bool.true_and, List.length_cons, List.length_nil, ne_eq, not_false_eq_true, Nat.reduceAdd, Nat.reduceMul, if_true, if_false, oneCell_int, oneCell_bool, oneCell_ptr, oneCell_slice, oneCell_string, oneCell_func, oneCell_map, Int.toNat_natCast, List.set_cons_zero, List.set_cons_succ, Nat.lt_irrefl, Nat.zero_lt_succ, Nat.succ_lt_succ_iff, fa30_0, fa30_0p, fa30_1, fa30_1p, fa30_2, fa30_2p, fa35_0, fa35_0p, fa35_1, fa35_1p, fa35_2, fa35_2p, fa51_0, fa51_0p, fa51_1, fa51_1p, fa51_2, fa51_2p, fa51_3, fa51_3p, fa51_4, fa51_4p, fa51_5, fa51_5p, fa68_0, fa68_0p, fa76_0, fa76_0p, fa88_0, fa88_0p, fa88_1, fa88_1p, fa88_2, fa88_2p, fa90_0, fa90_0p, fa90_1, fa90_1p, ld3, ld3p, ld22, ld22p, ld23, ld23p, ld30, ld30p, ld32, ld32p, ld35, ld35p, ld39, ld39p, ld51, ld51p, ld58, ld58p, ld66, ld66p, st3s, st30w, st32s, st35w, st39s, st51w, st58w, st88w, st90w, ix22, ix22p, ix32, ix32p, ix39, ix39p, ix46, ix46p, ix64, ix64p, ix66, ix66p, ix78, ix78p, ix81, ix81p, ln22, ln22p, ln32, ln32p, ln39, ln39p, ln46, ln46p, ln64, ln64p, ln66, ln66p, ln78, ln78p, ln81, ln81p, al30, al35, al39, al56, al58, cf12, cf13, cf14, cf15, cf16, cf17, cf18, cf19, cf20, cf21, cf22, cf23, cf24, cf25, cf26, cf27, cf28, cf29, cf30, cf31, cf32, cf33, cf34, cf35, cf36, cf37, cf38, cf39, cf40, cf41, cf42, cf43, cf44, cf45, cf46, cf47, cf48, cf49, cf50, cf51, cf52, cf53, cf54, cf55, cf56, cf57, cf58, cf60, cf61, cf62, cf63, cf64, bd30_0_1_2, bd30_0_1_2p, bd30_1, bd30_1p, bd30_1_2, bd30_1_2p, bd35_0, bd35_0p, bd35_0_1_2, bd35_0_1_2p, bd58_0_1, bd58_0_1p, bd68_0, bd68_0p, bd76_0, bd76_0p, bd88_0_1_2, bd88_0_1_2p, bd90_0_1, bd90_0_1p, bs22_1_0, bs32_1_0, bs39_1_0, bs78_1_0, bs81_1_0, eq4, eq4p, eq23n, eq23np, eq23s, eq23sp, eq37n, eq37np, eq37s, eq37sp, ne4, ne4p, ne23n, ne23np, ne23s, ne23sp, ne35, ne35p]
  unfold S32_k1
  simp -implicitDefEqProofs (maxSteps := 2000000) (disch := first | with_reducible exact Nat.ne_of_beq_eq_false rfl | exact oneCell_int | exact oneCell_bool | omega | rfl | (simp; done) | fail) only [upd_ne, q10, q3, retK_normal, resL_nil0, true_and, opH_su, pureW_sv, cf52, opH_sv, cf50]
  refine (search_spec (n := fi) (o.sees (by decide) (s3.in 0 rfl)) (by omega) hsort (fun s hs => have k := g.ok s (hmem s hs); ⟨k.1, Int.le_trans (Int.le_of_lt k.2.1) k.2.2.1⟩) hfi (by omega)).mono ?_
  rintro _ _ ⟨⟨bb, rfl⟩, rfl⟩
  simp -implicitDefEqProofs (maxSteps := 2000000) (disch := first | with_reducible exact Nat.ne_of_beq_eq_false rfl | exact oneCell_int | exact oneCell_bool | omega | rfl | (simp; done) | fail) only [ex1, ex0]
  refine ⟨a, l3, ?_⟩
  simp -implicitDefEqProofs (maxSteps := 2000000) (disch := first | with_reducible exact Nat.ne_of_beq_eq_false rfl | exact oneCell_int | exact oneCell_bool | omega | rfl | (simp; done) | fail) only [q0, q4, q1, q2, bd35_0_1_2p, bs32_1_0, pureW_nil, fa68_0p, add_mk, Nat.add_zero, ld66p, e1, Option.some.injEq, exists_eq_left', ix66p, Nat.zero_add]
  intro x hx gx
  generalize ex : Hp.set _ x _ = h5
  obtain ⟨l5, d5, b5⟩ := boxed ex hx d3 gx
  have s5 : HL.Sep (io :: a :: R) h5 := by rw [← ex]; exact s3.past hx
  refine (insert_spec (x := ⟨fi, ti, r⟩) s5 d5 o b5 ((s3.in 0 rfl).none hx) rank_le (by omega)).mono ?_
  rintro v6 h6 ⟨io6, o6, s6, d6⟩
  rw [show out.take (rank out fi) ++ ⟨fi, ti, r⟩ :: out.drop (rank out fi) = Resv.putL L r f t by rw [ep, ins_rank]] at o6
  refine ⟨s6.in 1 rfl, ?_⟩
  obtain ⟨rb', l, e1', hrb, hcl, a', t', s7, d7⟩ := tab_store (c := c.toNat) tb s6 d6 o6 (by omega)
  rw [e1] at e1'
  obtain rfl : rb = rb' := by simpa using e1'
  obtain ⟨sa6, cap6, rfl, _⟩ := o6.len (by decide)
  rw [Nat.mul_one, store1_eq sz32 rfl hrb hcl]
  exact ⟨a', t', s7, d7⟩

end Go.Proofs.Ytbloobepmgmbgaa
