/- The reference: a stretch put. -/
import Derived.Test.YtbloobepmgmbgaaRRa
import Derived.Test.YtbloobepmgmbgaaRE
set_option linter.unusedSimpArgs false
set_option linter.unusedVariables false
set_option maxRecDepth 100000
namespace Go.Proofs.Ytbloobepmgmbgaa
open Go Go.HL Go.Proofs.Resv

theorem rank_is {L : List Slot} {v : Int} {k : Nat} (h : ∀ s ∈ L.take k, s.f < v) (hk : k ≤ L.length) (h2 : ∀ s, L[k]? = some s → ¬ s.f < v) : rank L v = k := by
  unfold rank
  have e := List.take_append_drop k L
  conv => lhs; rw [← e]
  rw [List.takeWhile_append_of_pos (fun s hs => by simpa using h s hs), List.length_append, List.length_take, Nat.min_eq_left hk]
  cases hd : L.drop k with
  | nil => simp
  | cons s M =>
    have hs : L[k]? = some s := by
      have := congrArg (fun l => l[0]?) hd
      simpa [List.getElem?_drop] using this
    rw [List.takeWhile_cons, if_neg (by simpa using h2 s hs)]
    simp

theorem slc_from {G a h : Hp} {v : Value} {L : List Slot} (o : Slc slotC 35 a v L) (l : a.le h) {k : Nat} (hk : k ≤ L.length) {K : Value → Hp → Prop} (H : ∀ v', Sees slotC G h v' (L.drop k) → K v' h) : wpH Try.prog G (Instr.sliceAt 32 v (some (.int .i64 k)) none none) h K := by
  by_cases hL : L = []
  · subst hL
    obtain rfl : k = 0 := by simpa using hk
    obtain ⟨ob, o'⟩ := id o
    cases ob with
    | none =>
      obtain ⟨rfl, _⟩ := o'
      rw [show ((0 : Nat) : Int) = 0 from rfl, slice_from0 un32 sz35]
      exact H _ ⟨none, 0, rfl, Nat.le_refl _, .inl rfl⟩
    | some b =>
      obtain ⟨cap, t, rfl, hb, hl⟩ := o'
      rw [show ([] : List Slot).length = 0 from rfl, slice_from un32 sz35 (Int.natCast_nonneg _) (Int.natCast_nonneg _) (Nat.zero_le _)]
      exact H _ ⟨_, _, rfl, Nat.zero_le _, .inl rfl⟩
  · exact sees_from (c := slotC) (j := (k : Int)) un32 sz35 (o.sees (by decide) l) hL (Int.natCast_nonneg _) (by omega) H

set_option maxHeartbeats 4000000 in
theorem rput_walk {G h a : Hp} {R : List Hp} {tp : Nat} {T : List (List Slot)} {L : List Slot} {c r f t : Int} (tb : Tab 76 a tp T) (sp : HL.Sep (a :: R) h) (h0 : 0 ≤ c) (hL : T[c.toNat]? = some L) (g : Resv.Good L) (hlen : L.length ≤ 50000) (hf : 0 ≤ f) (hft : f < t) (ht : t ≤ FV) :
    HCalls Try.prog G 57 #[.pointer (some ⟨tp, 0, none⟩), .int .i64 r, .int .i64 c, .int .i64 f, .int .i64 t] h (fun u h' => u = .tuple #[] ∧ ∃ a', Tab 76 a' tp (T.set c.toNat (Resv.putL L r f t)) ∧ HL.Sep (a' :: R) h' ∧ Dis G h') := by
  have h1 : c < T.length := by have := (List.getElem?_eq_some_iff.1 hL).1; omega
  refine HCalls.assume fun d => enter57 (by simp) ?_
  have da : Dis G a := fun b o e => d _ _ (sp.hd _ _ e)
  obtain ⟨rb, e1, e2⟩ := tb.see (G := G) (Hp.le.refl a)
  obtain ⟨sa, cap, e3, e4⟩ := e2 _ _ hL
  unfold S57
  simp -implicitDefEqProofs (maxSteps := 2000000) (disch := first | with_reducible exact Nat.ne_of_beq_eq_false rfl | exact oneCell_int | exact oneCell_bool | omega | rfl | (simp; done) | fail) only [regs3, regs4, regs1, opH_su, opH_sv, al35, bd35_0_1_2, st35w]
  intro xb hxb gxb
  generalize eh : Hp.set h xb _ = hb
  obtain ⟨lb, db, bb⟩ := boxed eh hxb d gxb
  have sb : HL.Sep (noHp :: noHp.set xb (slotO ⟨f, t, r⟩) :: a :: R) hb := by rw [← eh]; exact (sp.new hxb).none
  clear eh
  refine loop_I (fun m q h3 => ∃ (i : Nat) (fi ti : Int) (io : Hp) (v : Value) (out : List Slot), m = L.length - i ∧ i ≤ L.length ∧ q 0 = .pointer (some ⟨tp, 0, none⟩) ∧ q 1 = .int .i64 r ∧ q 2 = .int .i64 c ∧ q 10 = .pointer (some ⟨xb, 0, none⟩) ∧ q 11 = v ∧ q 12 = .int .i64 i ∧
      Slc slotC 35 io v out ∧ out.length ≤ i ∧ HL.Sep (io :: noHp.set xb (slotO ⟨fi, ti, r⟩) :: a :: R) h3 ∧ Dis G h3 ∧ mergeL r (L.drop i) fi ti out = mergeL r L f t []) ?_
    (m := L.length) ⟨0, f, t, noHp, _, [], rfl, Nat.zero_le _, by simp -implicitDefEqProofs (maxSteps := 2000000) (disch := first | with_reducible exact Nat.ne_of_beq_eq_false rfl | exact oneCell_int | exact oneCell_bool | omega | rfl | (simp; done) | fail) only [upd_ne, regs0], by simp -implicitDefEqProofs (maxSteps := 2000000) (disch := first | with_reducible exact Nat.ne_of_beq_eq_false rfl | exact oneCell_int | exact oneCell_bool | omega | rfl | (simp; done) | fail) only [upd_ne, regs1], by simp -implicitDefEqProofs (maxSteps := 2000000) (disch := first | with_reducible exact Nat.ne_of_beq_eq_false rfl | exact oneCell_int | exact oneCell_bool | omega | rfl | (simp; done) | fail) only [upd_ne, regs2], by simp -implicitDefEqProofs (maxSteps := 2000000) (disch := first | with_reducible exact Nat.ne_of_beq_eq_false rfl | exact oneCell_int | exact oneCell_bool | omega | rfl | (simp; done) | fail) only [upd_ne, upd_eq], rfl, by simp -implicitDefEqProofs (maxSteps := 2000000) (disch := first | with_reducible exact Nat.ne_of_beq_eq_false rfl | exact oneCell_int | exact oneCell_bool | omega | rfl | (simp; done) | fail) only [upd_eq] <;> rfl, by simp -implicitDefEqProofs (maxSteps := 2000000) (disch := first | with_reducible exact Nat.ne_of_beq_eq_false rfl | exact oneCell_int | exact oneCell_bool | omega | rfl | (simp; done) | fail) only [upd_ne, upd_eq]; exact Slc.nil, Nat.zero_le _, sb, db, rfl⟩
  clear lb db bb sb hb
  rintro m q h3 ⟨i, fi, ti, io, v, out, rfl, hi, q0, q1, q2, q10, q11, q12, o, ho, s3, d3, hm⟩ X HX
  have l3 := s3.in 2 rfl
  have bx3 : h3 xb = some (slotO ⟨fi, ti, r⟩) := s3.at 1 rfl set_self
  unfold S57_l5
  simp -implicitDefEqProofs (maxSteps := 2000000) (disch := first | with_reducible exact Nat.ne_of_beq_eq_false rfl | exact oneCell_int | exact oneCell_bool | omega | rfl | (simp; done) | fail) only [q0, q2, q12, thenK_exit, blockK_exit, thenK_normal, if_true, opH_sv, opH_nil, fa76_0, add_mk, Nat.add_zero, ld66, cell_up l3 d3 e1, Option.some.injEq, exists_eq_left', ix66 h0 h1, Nat.mul_one, Nat.zero_add, ld32, cell_up l3 d3 e3, ln32, bin_lss]
  refine cond_dec (fun hlt => ?_) (fun hge => ?_)
  · obtain ⟨s, hs⟩ : ∃ s, L[i]? = some s := ⟨_, List.getElem?_eq_getElem (by omega)⟩
    obtain ⟨b, of, rfl, z0, z1, z2⟩ := Sees.slot (e4.up l3 d3) hs
    unfold S57_l5_k6
    simp -implicitDefEqProofs (maxSteps := 2000000) (disch := first | with_reducible exact Nat.ne_of_beq_eq_false rfl | exact oneCell_int | exact oneCell_bool | omega | rfl | (simp; done) | fail) only [upd_ne, q0, q2, q12, opH_su, opH_sv, al35, fa35_1, add_mk, Nat.zero_add, ld3, fa35_0, Nat.add_zero, fa35_2, opH_nil, fa76_0, ld66, cell_up l3 d3 e1, Option.some.injEq, exists_eq_left', ix66 h0 h1, Nat.mul_one, ld32, cell_up l3 d3 e3, ix32 (Int.natCast_nonneg i) hlt, Int.toNat_natCast, ld35, z0, z1, z2, st35w, cell_set_self, List.getElem?_cons_succ, List.getElem?_cons_zero]
    intro y hy gy
    simp -implicitDefEqProofs (maxSteps := 2000000) (disch := first | with_reducible exact Nat.ne_of_beq_eq_false rfl | exact oneCell_int | exact oneCell_bool | omega | rfl | (simp; done) | fail) only [q1, eq_int]
    generalize eh : Hp.set h3 y _ = h4
    obtain ⟨l4, d4, b4⟩ := boxed eh hy d3 gy
    have s4 : HL.Sep (io :: noHp.set xb (slotO ⟨fi, ti, r⟩) :: a :: R) h4 := by rw [← eh]; exact s3.past hy
    have cy : ∀ j, cellIn G h4 ⟨y, j, none⟩ = _ := fun j => cell_of (look_own b4)
    have bx4 : h4 xb = some (slotO ⟨fi, ti, r⟩) := s4.at 1 rfl set_self
    have cb : ∀ j, cellIn G h4 ⟨xb, j, none⟩ = _ := fun j => cell_of (look_own bx4)
    have k8 : ∀ (K0 : Exit → Rg → Hp → Prop) (q' : Rg), (∀ k, k ≤ 12 → q' k = q k) → q' 13 = .pointer (some ⟨y, 0, none⟩) → touchB r fi ti s = false → S57_l5_k8 G (thenK X K0) q' h4 := by
      intro K0 q' hq q'13 htb
      unfold S57_l5_k8
      simp -implicitDefEqProofs (maxSteps := 2000000) (disch := first | with_reducible exact Nat.ne_of_beq_eq_false rfl | exact oneCell_int | exact oneCell_bool | omega | rfl | (simp; done) | fail) only [q'13, opH_sv, ld35, add_mk, Nat.add_zero, cy, List.getElem?_cons_zero, Option.some.injEq, Nat.zero_add, List.getElem?_cons_succ, bs32_1_0, exists_eq_left']
      intro z hz gz
      generalize ez : Hp.set h4 z _ = h5
      obtain ⟨l5, d5, b5⟩ := boxed ez hz d4 gz
      have s5 : HL.Sep (io :: noHp.set xb (slotO ⟨fi, ti, r⟩) :: a :: R) h5 := by rw [← ez]; exact s4.past hz
      rw [hq 11 (by decide), q11]
      refine append_piece slotC (by decide) un32 eoslot (by decide) (by decide) (M := [s]) s5 d5 o (Sees.row (c := slotC) (L := [s]) b5 rfl (Nat.le_refl _)) (by simp; omega) fun v' a' h' o' s' d' => ?_
      unfold S57_l5_k7
      simp -implicitDefEqProofs (maxSteps := 2000000) (disch := first | with_reducible exact Nat.ne_of_beq_eq_false rfl | exact oneCell_int | exact oneCell_bool | omega | rfl | (simp; done) | fail) only [upd_ne, hq 12 (by decide), q12, thenK_normal, opH_sv, bin_add, wrap_in]
      refine HX (L.length - (i + 1)) _ _ (by omega) ⟨i + 1, fi, ti, a', v', out ++ [s], rfl, by omega, by simp -implicitDefEqProofs (maxSteps := 2000000) (disch := first | with_reducible exact Nat.ne_of_beq_eq_false rfl | exact oneCell_int | exact oneCell_bool | omega | rfl | (simp; done) | fail) only [upd_ne, hq 0 (by decide), q0], by simp -implicitDefEqProofs (maxSteps := 2000000) (disch := first | with_reducible exact Nat.ne_of_beq_eq_false rfl | exact oneCell_int | exact oneCell_bool | omega | rfl | (simp; done) | fail) only [upd_ne, hq 1 (by decide), q1], by simp -implicitDefEqProofs (maxSteps := 2000000) (disch := first | with_reducible exact Nat.ne_of_beq_eq_false rfl | exact oneCell_int | exact oneCell_bool | omega | rfl | (simp; done) | fail) only [upd_ne, hq 2 (by decide), q2], by simp -implicitDefEqProofs (maxSteps := 2000000) (disch := first | with_reducible exact Nat.ne_of_beq_eq_false rfl | exact oneCell_int | exact oneCell_bool | omega | rfl | (simp; done) | fail) only [upd_ne, hq 10 (by decide), q10], by simp -implicitDefEqProofs (maxSteps := 2000000) (disch := first | with_reducible exact Nat.ne_of_beq_eq_false rfl | exact oneCell_int | exact oneCell_bool | omega | rfl | (simp; done) | fail) only [upd_ne, upd_eq], by simp -implicitDefEqProofs (maxSteps := 2000000) (disch := first | with_reducible exact Nat.ne_of_beq_eq_false rfl | exact oneCell_int | exact oneCell_bool | omega | rfl | (simp; done) | fail) only [upd_eq] <;> rfl, o', by simp; omega, s', d', ?_⟩
      rw [← hm, merge_take hs, if_neg (by rw [htb]; decide)]
    cases hb : (s.r == r) with
    | false =>
      simp -implicitDefEqProofs (maxSteps := 2000000) (disch := first | with_reducible exact Nat.ne_of_beq_eq_false rfl | exact oneCell_int | exact oneCell_bool | omega | rfl | (simp; done) | fail) only [pick_f, HL.cond_false, gd_ft]
      exact k8 _ _ (fun k hk => by simp (disch := omega) only [upd_ne]) (by simp -implicitDefEqProofs (maxSteps := 2000000) (disch := first | with_reducible exact Nat.ne_of_beq_eq_false rfl | exact oneCell_int | exact oneCell_bool | omega | rfl | (simp; done) | fail) only [upd_ne, upd_eq]) (by unfold touchB; rw [hb]; rfl)
    | true =>
    simp -implicitDefEqProofs (maxSteps := 2000000) (disch := first | with_reducible exact Nat.ne_of_beq_eq_false rfl | exact oneCell_int | exact oneCell_bool | omega | rfl | (simp; done) | fail) only [q10, fa35_1, add_mk, Nat.zero_add, ld3, fa35_0, Nat.add_zero, pick_t, gd_tt, opH_sv, cy, List.getElem?_cons_zero, Option.some.injEq, cb, List.getElem?_cons_succ, exists_eq_left', bin_leq]
    by_cases hb2 : s.f ≤ ti
    rotate_left
    · simp -implicitDefEqProofs (maxSteps := 2000000) (disch := first | with_reducible exact Nat.ne_of_beq_eq_false rfl | exact oneCell_int | exact oneCell_bool | omega | rfl | (simp; done) | fail) only [decide_eq_false hb2, pick_f, HL.cond_false, gd_ft]
      exact k8 _ _ (fun k hk => by simp (disch := omega) only [upd_ne]) (by simp -implicitDefEqProofs (maxSteps := 2000000) (disch := first | with_reducible exact Nat.ne_of_beq_eq_false rfl | exact oneCell_int | exact oneCell_bool | omega | rfl | (simp; done) | fail) only [upd_ne, upd_eq]) (by unfold touchB; rw [decide_eq_false hb2]; simp)
    simp -implicitDefEqProofs (maxSteps := 2000000) (disch := first | with_reducible exact Nat.ne_of_beq_eq_false rfl | exact oneCell_int | exact oneCell_bool | omega | rfl | (simp; done) | fail) only [decide_eq_true hb2, pick_t, gd_tt, opH_sv, fa35_1, add_mk, Nat.zero_add, ld3, fa35_0, Nat.add_zero, cb, List.getElem?_cons_zero, Option.some.injEq, cy, List.getElem?_cons_succ, exists_eq_left', bin_leq]
    refine cond_dec (fun hb3 => ?_) (fun hb3 => ?_)
    rotate_left
    · exact k8 _ _ (fun k hk => by simp (disch := omega) only [upd_ne]) (by simp -implicitDefEqProofs (maxSteps := 2000000) (disch := first | with_reducible exact Nat.ne_of_beq_eq_false rfl | exact oneCell_int | exact oneCell_bool | omega | rfl | (simp; done) | fail) only [upd_ne, upd_eq]) (by unfold touchB; rw [decide_eq_false hb3]; simp)
    simp -implicitDefEqProofs (maxSteps := 2000000) (disch := first | with_reducible exact Nat.ne_of_beq_eq_false rfl | exact oneCell_int | exact oneCell_bool | omega | rfl | (simp; done) | fail) only [min_two]
    rw [store1_eq sz3 rfl bx4 (by simp)]
    generalize e5 : Hp.set h4 xb _ = h5
    have b5 := set_is e5
    have c5 : ∀ j, cellIn G h5 ⟨xb, j, none⟩ = _ := fun j => cell_of (look_own b5)
    have y5 : ∀ j, cellIn G h5 ⟨y, j, none⟩ = _ := fun j => cell_of (look_own (by rw [set_is_ne e5 (fun e => by rw [e] at hy; rw [bx3] at hy; cases hy)]; exact b4))
    simp -implicitDefEqProofs (maxSteps := 2000000) (disch := first | with_reducible exact Nat.ne_of_beq_eq_false rfl | exact oneCell_int | exact oneCell_bool | omega | rfl | (simp; done) | fail) only [c5, List.set_cons_zero, List.getElem?_cons_succ, List.getElem?_cons_zero, Option.some.injEq, y5, exists_eq_left', max_two]
    rw [store1_eq sz3 rfl b5 (by simp)]
    unfold S57_l5_k7
    simp -implicitDefEqProofs (maxSteps := 2000000) (disch := first | with_reducible exact Nat.ne_of_beq_eq_false rfl | exact oneCell_int | exact oneCell_bool | omega | rfl | (simp; done) | fail) only [upd_ne, q12, List.set_cons_zero, List.set_cons_succ, thenK_normal, opH_sv, bin_add, wrap_in]
    have s6 := ((s4.pick 1 rfl rfl).put (o := slotO ⟨min fi s.f, max ti s.t, r⟩) set_self)
    rw [set_set] at s6
    refine HX (L.length - (i + 1)) _ _ (by omega) ⟨i + 1, min fi s.f, max ti s.t, io, v, out, rfl, by omega, by simp -implicitDefEqProofs (maxSteps := 2000000) (disch := first | with_reducible exact Nat.ne_of_beq_eq_false rfl | exact oneCell_int | exact oneCell_bool | omega | rfl | (simp; done) | fail) only [upd_ne, q0], by simp -implicitDefEqProofs (maxSteps := 2000000) (disch := first | with_reducible exact Nat.ne_of_beq_eq_false rfl | exact oneCell_int | exact oneCell_bool | omega | rfl | (simp; done) | fail) only [upd_ne, q1], by simp -implicitDefEqProofs (maxSteps := 2000000) (disch := first | with_reducible exact Nat.ne_of_beq_eq_false rfl | exact oneCell_int | exact oneCell_bool | omega | rfl | (simp; done) | fail) only [upd_ne, q2], by simp -implicitDefEqProofs (maxSteps := 2000000) (disch := first | with_reducible exact Nat.ne_of_beq_eq_false rfl | exact oneCell_int | exact oneCell_bool | omega | rfl | (simp; done) | fail) only [upd_ne, q10], by simp -implicitDefEqProofs (maxSteps := 2000000) (disch := first | with_reducible exact Nat.ne_of_beq_eq_false rfl | exact oneCell_int | exact oneCell_bool | omega | rfl | (simp; done) | fail) only [upd_ne, q11], by simp -implicitDefEqProofs (maxSteps := 2000000) (disch := first | with_reducible exact Nat.ne_of_beq_eq_false rfl | exact oneCell_int | exact oneCell_bool | omega | rfl | (simp; done) | fail) only [upd_eq] <;> rfl, o, by omega, ?_, ?_, ?_⟩
    · rw [← e5, set_set]
      exact s6.pick 1 rfl rfl
    · rw [← e5, set_set]
      exact d4.set (d4 _ _ bx4)
    · rw [← hm, merge_take hs, if_pos (by unfold touchB; rw [hb, decide_eq_true hb2, decide_eq_true hb3]; rfl)]
  -- the end
  obtain rfl : i = L.length := by omega
  rw [List.drop_of_length_le (Nat.le_refl _), mergeL] at hm
  obtain ⟨f', t', em, m1, m2, m3, m4, m5⟩ := merge_spec (r := r) (f := f) (t := t) (out := []) g.apart (fun s hs => (g.ok s hs).2.1) hft
  rw [← hm] at em
  simp only [Prod.mk.injEq, List.nil_append] at em
  obtain ⟨rfl, rfl, eo⟩ := em
  have ep : Resv.putL L r f t = insAt out ⟨fi, ti, r⟩ := by unfold Resv.putL; rw [← hm]
  clear HX m1 m2 m3 m4 m5 hm
  try simp -implicitDefEqProofs (maxSteps := 2000000) (disch := first | with_reducible exact Nat.ne_of_beq_eq_false rfl | exact oneCell_int | exact oneCell_bool | omega | rfl | (simp; done) | fail) only [opH_sv, opH_su, pureW_sv, opH_nil, pureW_nil, pick_t, pick_f, pick_tp, pick_fp, gd_tt, gd_ft, gd_tf, gd_ff, box_new, regs0, regs1, regs2, regs3, regs4, regs5, regs6, cells_agg, cells_int, cells_bool, cells_ptr, cells_slice, cells_string, cells_func, cells_nilFunc, cells_map, retK_ret, retK_normal, resL_tmp, resL_cell, resL_nil0, resL_nil1, resL_nil2, resL_nil3, resC_ptr, ex0, ex1, ex2, ex0p, ex1p, ex2p, HL.cond_true, HL.cond_false, thenK_normal, thenK_ret, thenK_exit, blockK_normal, blockK_ret, blockK_exit, scopeK_normal, scopeK_ret, scopeK_exit, wpH_pure, bin_add, bin_sub, bin_mul, bin_lss, bin_leq, bin_gtr, bin_geq, bin_quo, bin_rem, bin_quop, bin_remp, wrap_in, bin_addp, bin_subp, bin_mulp, bin_lssp, bin_leqp, bin_gtrp, bin_geqp, un_not, un_notp, un_neg, eq_int, ne_int, eq_intp, ne_intp, callV_fn, add_mk, upd_eq, upd_ne, cell_set_self, Nat.zero_add, Nat.add_zero, Option.some.injEq, exists_eq_left', List.getElem?_cons_succ, List.getElem?_cons_zero, true_and, and_true, bne_self_eq_false, beq_self_eq_true, Bool.not_true, Bool.not_false, Bool.and_true, Bool.and_self, Bool.and_false, Bool.true_and, List.length_cons, List.length_nil, ne_eq, not_false_eq_true, Nat.reduceAdd, Nat.reduceMul, if_true, if_false, oneCell_int, oneCell_bool, oneCell_ptr, oneCell_slice, oneCell_string, oneCell_func, oneCell_map, Int.toNat_natCast, List.set_cons_zero, List.set_cons_succ, Nat.lt_irrefl, Nat.zero_lt_succ, Nat.succ_lt_succ_iff, fa30_0, fa30_0p, fa30_1, fa30_1p, fa30_2, fa30_2p, fa35_0, fa35_0p, fa35_1, fa35_1p, fa35_2, fa35_2p, fa51_0, fa51_0p, fa51_1, fa51_1p, fa51_2, fa51_2p, fa51_3, fa51_3p, fa51_4, fa51_4p, fa51_5, fa51_5p, fa68_0, fa68_0p, fa76_0, fa76_0p, fa88_0, fa88_0p, fa88_1, fa88_1p, fa88_2, fa88_2p, fa90_0, fa90_0p, fa90_1, fa90_1p, ld3, ld3p, ld22, ld22p, ld23, ld23p, ld30, ld30p, ld32, ld32p, ld35, ld35p, ld39, ld39p, ld51, ld51p, ld58, ld58p, ld66, ld66p, st3s, st30w, st32s, st35w, st39s, st51w, st58w, st88w, st90w, ix22, ix22p, ix32, ix32p, ix39, ix39p, ix46, ix46p, ix64, ix64p, ix66, ix66p, ix78, ix78p, ix81, ix81p, ln22, ln22p, ln32, ln32p, ln39, ln39p, ln46, ln46p, ln64, ln64p, ln66, ln66p, ln78, ln78p, ln81, ln81p, al30, al35, al39, al56, al58, cf12, cf13, cf14, cf15, cf16, cf17, cf18, cf19, cf20, cf21, cf22, cf23, cf24, cf25, cf26, cf27, cf28, cf29, cf30, cf31, cf32, cf33, cf34, cf35, cf36, cf37, cf38, cf39, cf40, cf41, cf42, cf43, cf44, cf45, cf46, cf47, cf48, cf49, cf50, cf51, cf52, cf53, cf54, cf55, cf56, cf57, cf58, cf60, cf61, cf62, cf63, cf64, bd30_0_1_2, bd30_0_1_2p, bd30_1, bd30_1p, bd30_1_2, bd30_1_2p, bd35_0, bd35_0p, bd35_0_1_2, bd35_0_1_2p, bd58_0_1, bd58_0_1p, bd68_0, bd68_0p, bd76_0, bd76_0p, bd88_0_1_2, bd88_0_1_2p, bd90_0_1, bd90_0_1p, bs22_1_0, bs32_1_0, bs39_1_0, bs78_1_0, bs81_1_0, eq4, eq4p, eq23n, eq23np, eq23s, eq23sp, eq37n, eq37np, eq37s, eq37sp, ne4, ne4p, ne23n, ne23np, ne23s, ne23sp, ne35, ne35p]
  unfold S57_k1
  obtain ⟨oa, ocap, rfl, _⟩ := o.len (by decide)
  have cb : ∀ j, cellIn G h3 ⟨xb, j, none⟩ = _ := fun j => cell_of (look_own bx3)
  refine loop_I (fun m q' h4 => ∃ k : Nat, m = out.length - k ∧ k ≤ out.length ∧ (∀ j, j ≤ 13 → q' j = q j) ∧ q' 14 = .int .i64 k ∧ h4 = h3 ∧ ∀ s ∈ out.take k, s.f < fi) ?_
    (m := out.length) ⟨0, rfl, Nat.zero_le _, (fun j hj => by simp (disch := omega) only [upd_ne]), by simp -implicitDefEqProofs (maxSteps := 2000000) (disch := first | with_reducible exact Nat.ne_of_beq_eq_false rfl | exact oneCell_int | exact oneCell_bool | omega | rfl | (simp; done) | fail) only [upd_eq] <;> rfl, rfl, (fun s hs => by simp at hs)⟩
  rintro m q' h4 ⟨k, rfl, hk, hq, q14, rfl, hlow⟩ X HX
  unfold S57_l3
  have fin : ∀ r1 : Rg, (∀ j, j ≤ 13 → r1 j = q j) → r1 14 = .int .i64 k → rank out fi = k → S57_k2 G (retK Try.prog G [] fun u h' => u = .tuple #[] ∧ ∃ a', Tab 76 a' tp (T.set c.toNat (Resv.putL L r f t)) ∧ HL.Sep (a' :: R) h' ∧ Dis G h') r1 h4 := by
    intro r1 hr r14 hrk
    unfold S57_k2
    have so := o.sees (G := G) (by decide) (s3.in 0 rfl)
    simp -implicitDefEqProofs (maxSteps := 2000000) (disch := first | with_reducible exact Nat.ne_of_beq_eq_false rfl | exact oneCell_int | exact oneCell_bool | omega | rfl | (simp; done) | fail) only [hr 11 (by decide), q11, r14, retK_normal, resL_nil0, true_and, opH_su, opH_sv]
    refine sees_to (c := slotC) (L := out) (j := (k : Int)) un32 sz35 so (Int.natCast_nonneg _) (by omega) fun v3 t3 => ?_
    rw [Int.toNat_natCast] at t3
    refine append_piece slotC (by decide) un32 eoslot (by decide) (by decide) (L := []) (M := out.take k) s3.none d3 Slc.nil t3 (by simp; omega) fun v5 a5 h5 o5 s5 d5 => ?_
    have bx5 : h5 xb = some (slotO ⟨fi, ti, r⟩) := s5.at 2 rfl set_self
    have c5 : ∀ j, cellIn G h5 ⟨xb, j, none⟩ = _ := fun j => cell_of (look_own bx5)
    simp -implicitDefEqProofs (maxSteps := 2000000) (disch := first | with_reducible exact Nat.ne_of_beq_eq_false rfl | exact oneCell_int | exact oneCell_bool | omega | rfl | (simp; done) | fail) only [hr 10 (by decide), q10, ld35, add_mk, Nat.add_zero, c5, List.getElem?_cons_zero, Option.some.injEq, Nat.zero_add, List.getElem?_cons_succ, bs32_1_0, exists_eq_left']
    intro z hz gz
    generalize ez : Hp.set h5 z _ = h6
    obtain ⟨l6, d6, b6⟩ := boxed ez hz d5 gz
    have s6 := s5.past (o := slotO ⟨fi, ti, r⟩) hz
    rw [ez] at s6
    rw [List.nil_append] at o5
    refine append_piece slotC (by decide) un32 eoslot (by decide) (by decide) (M := [⟨fi, ti, r⟩]) s6 d6 o5 (Sees.row (c := slotC) (L := [⟨fi, ti, r⟩]) b6 rfl (Nat.le_refl _)) (by simp; omega) fun v7 a7 h7 o7 s7 d7 => ?_
    refine slc_from o (s7.in 1 rfl) hk fun v8 t8 => ?_
    refine append_piece slotC (by decide) un32 eoslot (by decide) (by decide) (M := out.drop k) s7 d7 o7 t8 (by simp; omega) fun v9 a9 h9 o9 s9 d9 => ?_
    rw [show out.take k ++ [⟨fi, ti, r⟩] ++ out.drop k = Resv.putL L r f t by rw [ep, ins_rank, hrk, List.append_assoc]; rfl] at o9
    have s10 := ((s9.pick 1 rfl rfl).drop.pick 1 rfl rfl).drop
    obtain ⟨rb', l, e1', hrb, hcl, a', t', s11, d11⟩ := tab_store (c := c.toNat) tb s10 d9 o9 (by omega)
    rw [e1] at e1'
    obtain rfl : rb = rb' := by simpa using e1'
    simp -implicitDefEqProofs (maxSteps := 2000000) (disch := first | with_reducible exact Nat.ne_of_beq_eq_false rfl | exact oneCell_int | exact oneCell_bool | omega | rfl | (simp; done) | fail) only [hr 0 (by decide), q0, hr 2 (by decide), q2, opH_nil, fa76_0, add_mk, Nat.add_zero, ld66, cell_up (s9.in 3 rfl) d9 e1, Option.some.injEq, exists_eq_left', ix66 h0 h1, Nat.mul_one, Nat.zero_add]
    obtain ⟨sa6, cap6, rfl, _⟩ := o9.len (by decide)
    rw [store1_eq sz32 rfl hrb hcl]
    exact ⟨a', t', s11, d11⟩
  simp -implicitDefEqProofs (maxSteps := 2000000) (disch := first | with_reducible exact Nat.ne_of_beq_eq_false rfl | exact oneCell_int | exact oneCell_bool | omega | rfl | (simp; done) | fail) only [hq 11 (by decide), q11, q14, thenK_exit, blockK_exit, thenK_normal, if_true, pureW_sv, ln32p, bin_lssp]
  by_cases hlt : (k : Int) < out.length
  · obtain ⟨s, hs⟩ : ∃ s, out[k]? = some s := ⟨_, List.getElem?_eq_getElem (by omega)⟩
    obtain ⟨b, of, rfl, z0, z1, z2⟩ := Sees.slot (o.sees (G := G) (by decide) (s3.in 0 rfl)) hs
    simp -implicitDefEqProofs (maxSteps := 2000000) (disch := first | with_reducible exact Nat.ne_of_beq_eq_false rfl | exact oneCell_int | exact oneCell_bool | omega | rfl | (simp; done) | fail) only [decide_eq_true hlt, hq 10 (by decide), q10, pick_tp, gd_tt, pureW_sv, fa35_0p, add_mk, Nat.add_zero, ld3p, cb, List.getElem?_cons_zero, Option.some.injEq, exists_eq_left', ix32p, Int.toNat_natCast, z0, bin_lssp]
    refine cond_dec (fun h5 => ?_) (fun h5 => ?_)
    · unfold S57_l3_k4
      simp -implicitDefEqProofs (maxSteps := 2000000) (disch := first | with_reducible exact Nat.ne_of_beq_eq_false rfl | exact oneCell_int | exact oneCell_bool | omega | rfl | (simp; done) | fail) only [upd_ne, q14, thenK_normal, opH_sv, bin_add, wrap_in]
      refine HX (out.length - (k + 1)) _ _ (by omega) ⟨k + 1, rfl, by omega, (fun j hj => by simp (disch := omega) only [upd_ne, hq]), by simp -implicitDefEqProofs (maxSteps := 2000000) (disch := first | with_reducible exact Nat.ne_of_beq_eq_false rfl | exact oneCell_int | exact oneCell_bool | omega | rfl | (simp; done) | fail) only [upd_eq] <;> rfl, rfl, fun s' hs' => ?_⟩
      rw [List.take_add_one, hs] at hs'
      rcases List.mem_append.1 hs' with h6 | h6
      · exact hlow s' h6
      · simp at h6
        subst h6
        exact h5
    · try simp -implicitDefEqProofs (maxSteps := 2000000) (disch := first | with_reducible exact Nat.ne_of_beq_eq_false rfl | exact oneCell_int | exact oneCell_bool | omega | rfl | (simp; done) | fail) only [opH_sv, opH_su, pureW_sv, opH_nil, pureW_nil, pick_t, pick_f, pick_tp, pick_fp, gd_tt, gd_ft, gd_tf, gd_ff, box_new, regs0, regs1, regs2, regs3, regs4, regs5, regs6, cells_agg, cells_int, cells_bool, cells_ptr, cells_slice, cells_string, cells_func, cells_nilFunc, cells_map, retK_ret, retK_normal, resL_tmp, resL_cell, resL_nil0, resL_nil1, resL_nil2, resL_nil3, resC_ptr, ex0, ex1, ex2, ex0p, ex1p, ex2p, HL.cond_true, HL.cond_false, thenK_normal, thenK_ret, thenK_exit, blockK_normal, blockK_ret, blockK_exit, scopeK_normal, scopeK_ret, scopeK_exit, wpH_pure, bin_add, bin_sub, bin_mul, bin_lss, bin_leq, bin_gtr, bin_geq, bin_quo, bin_rem, bin_quop, bin_remp, wrap_in, bin_addp, bin_subp, bin_mulp, bin_lssp, bin_leqp, bin_gtrp, bin_geqp, un_not, un_notp, un_neg, eq_int, ne_int, eq_intp, ne_intp, callV_fn, add_mk, upd_eq, upd_ne, cell_set_self, Nat.zero_add, Nat.add_zero, Option.some.injEq, exists_eq_left', List.getElem?_cons_succ, List.getElem?_cons_zero, true_and, and_true, bne_self_eq_false, beq_self_eq_true, Bool.not_true, Bool.not_false, Bool.and_true, Bool.and_self, Bool.and_false, Bool.true_and, List.length_cons, List.length_nil, ne_eq, not_false_eq_true, Nat.reduceAdd, Nat.reduceMul, if_true, if_false, oneCell_int, oneCell_bool, oneCell_ptr, oneCell_slice, oneCell_string, oneCell_func, oneCell_map, Int.toNat_natCast, List.set_cons_zero, List.set_cons_succ, Nat.lt_irrefl, Nat.zero_lt_succ, Nat.succ_lt_succ_iff, fa30_0, fa30_0p, fa30_1, fa30_1p, fa30_2, fa30_2p, fa35_0, fa35_0p, fa35_1, fa35_1p, fa35_2, fa35_2p, fa51_0, fa51_0p, fa51_1, fa51_1p, fa51_2, fa51_2p, fa51_3, fa51_3p, fa51_4, fa51_4p, fa51_5, fa51_5p, fa68_0, fa68_0p, fa76_0, fa76_0p, fa88_0, fa88_0p, fa88_1, fa88_1p, fa88_2, fa88_2p, fa90_0, fa90_0p, fa90_1, fa90_1p, ld3, ld3p, ld22, ld22p, ld23, ld23p, ld30, ld30p, ld32, ld32p, ld35, ld35p, ld39, ld39p, ld51, ld51p, ld58, ld58p, ld66, ld66p, st3s, st30w, st32s, st35w, st39s, st51w, st58w, st88w, st90w, ix22, ix22p, ix32, ix32p, ix39, ix39p, ix46, ix46p, ix64, ix64p, ix66, ix66p, ix78, ix78p, ix81, ix81p, ln22, ln22p, ln32, ln32p, ln39, ln39p, ln46, ln46p, ln64, ln64p, ln66, ln66p, ln78, ln78p, ln81, ln81p, al30, al35, al39, al56, al58, cf12, cf13, cf14, cf15, cf16, cf17, cf18, cf19, cf20, cf21, cf22, cf23, cf24, cf25, cf26, cf27, cf28, cf29, cf30, cf31, cf32, cf33, cf34, cf35, cf36, cf37, cf38, cf39, cf40, cf41, cf42, cf43, cf44, cf45, cf46, cf47, cf48, cf49, cf50, cf51, cf52, cf53, cf54, cf55, cf56, cf57, cf58, cf60, cf61, cf62, cf63, cf64, bd30_0_1_2, bd30_0_1_2p, bd30_1, bd30_1p, bd30_1_2, bd30_1_2p, bd35_0, bd35_0p, bd35_0_1_2, bd35_0_1_2p, bd58_0_1, bd58_0_1p, bd68_0, bd68_0p, bd76_0, bd76_0p, bd88_0_1_2, bd88_0_1_2p, bd90_0_1, bd90_0_1p, bs22_1_0, bs32_1_0, bs39_1_0, bs78_1_0, bs81_1_0, eq4, eq4p, eq23n, eq23np, eq23s, eq23sp, eq37n, eq37np, eq37s, eq37sp, ne4, ne4p, ne23n, ne23np, ne23s, ne23sp, ne35, ne35p]
      exact fin _ (fun j hj => by simp (disch := omega) only [upd_ne, hq]) (by simp -implicitDefEqProofs (maxSteps := 2000000) (disch := first | with_reducible exact Nat.ne_of_beq_eq_false rfl | exact oneCell_int | exact oneCell_bool | omega | rfl | (simp; done) | fail) only [upd_ne, q14]) (rank_is hlow hk fun s' hs' => by rw [hs] at hs'; cases hs'; exact h5)
  · simp -implicitDefEqProofs (maxSteps := 2000000) (disch := first | with_reducible exact Nat.ne_of_beq_eq_false rfl | exact oneCell_int | exact oneCell_bool | omega | rfl | (simp; done) | fail) only [decide_eq_false hlt, pick_fp, HL.cond_false, gd_ft]
    exact fin _ (fun j hj => by simp (disch := omega) only [upd_ne, hq]) (by simp -implicitDefEqProofs (maxSteps := 2000000) (disch := first | with_reducible exact Nat.ne_of_beq_eq_false rfl | exact oneCell_int | exact oneCell_bool | omega | rfl | (simp; done) | fail) only [upd_ne, q14]) (rank_is hlow hk fun s' hs' => by rw [List.getElem?_eq_none (by omega)] at hs'; cases hs')

end Go.Proofs.Ytbloobepmgmbgaa
