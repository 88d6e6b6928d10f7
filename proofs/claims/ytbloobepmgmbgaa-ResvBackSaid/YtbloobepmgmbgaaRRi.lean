/- Slots kept in an array; a robot that had nothing: the walk. -/
import Derived.Test.YtbloobepmgmbgaaRRh
set_option linter.unusedSimpArgs false
set_option linter.unusedVariables false
set_option maxRecDepth 100000
namespace Go.Proofs.Ytbloobepmgmbgaa
open Go Go.HL Go.Proofs.Resv

theorem una6 : Try.prog.underlying 56 = some (.array 6 32) := by kernel_rfl
theorem ixw {G h : Hp} {wb : Nat} {i : Int} {K : Value → Hp → Prop} (h1 : 0 ≤ i) (h2 : i < 6) : wpH Try.prog G (Instr.indexAt 56 (.pointer (some ⟨wb, 0, none⟩)) (.int .i64 i)) h K = K (.pointer (some ⟨wb, i.toNat, none⟩)) h := by
  rw [index_arr una6 sz32 h1 h2, add_mk, Nat.mul_one, Nat.zero_add]
theorem ixwp {G h : Hp} {wb : Nat} {i : Int} {K : Value → Prop} (h1 : 0 ≤ i) (h2 : i < 6) : pw Try.prog G h (Instr.indexAt 56 (.pointer (some ⟨wb, 0, none⟩)) (.int .i64 i)) K = K (.pointer (some ⟨wb, i.toNat, none⟩)) := by
  rw [index_arrp una6 sz32 h1 h2, add_mk, Nat.mul_one, Nat.zero_add]

/-- Six rows kept. -/
def Was (a : Hp) (wb : Nat) (W : Tb) : Prop := ∃ raws pb, HL.Sep [noHp.set wb (.cells (svC.rows raws).toArray 56 (0, 0)), pb] a ∧ Rows pb raws W
theorem Was.get {G a h : Hp} {wb c : Nat} {W : Tb} {L : List Slot} (t : Was a wb W) (l : a.le h) (hc : W[c]? = some L) : ∃ sa cap, cellIn G h ⟨wb, c, none⟩ = some (.slice sa L.length cap) ∧ Sees slotC G h (.slice sa L.length cap) L := by
  obtain ⟨raws, pb, s, hl, hr⟩ := t
  have hlt : c < raws.length := by rw [hl]; exact (List.getElem?_eq_some_iff.1 hc).1
  obtain ⟨e1, o⟩ := hr c _ L (List.getElem?_eq_getElem hlt) hc
  refine ⟨raws[c].1, raws[c].2.2, ?_, o.sees (by decide) ((s.in 1 rfl).trans l)⟩
  rw [sv_get (l _ _ (s.at 0 rfl set_self)) (List.getElem?_eq_getElem hlt), e1]

theorem was_store {a io h : Hp} {R : List Hp} {G : Hp} {wb c : Nat} {W : Tb} {L : List Slot} {v : Value} (t : Was a wb W) (s : HL.Sep (io :: a :: R) h) (d : Dis G h) (o : Slc slotC 35 io v L) (hc : c < W.length) :
    ∃ (l : List Value), h wb = some (.cells l.toArray 56 (0, 0)) ∧ c < l.length ∧
      ∃ a', Was a' wb (W.set c L) ∧ HL.Sep (a' :: R) (h.set wb (.cells (l.set c v).toArray 56 (0, 0))) ∧ Dis G (h.set wb (.cells (l.set c v).toArray 56 (0, 0))) := by
  obtain ⟨raws, pb, st, hl, hr⟩ := t
  have s1 := s.split st
  simp only [List.cons_append, List.nil_append] at s1
  have hrb : h wb = some (.cells (svC.rows raws).toArray 56 (0, 0)) := s1.at 1 rfl set_self
  obtain ⟨sa, cap, rfl, _⟩ := o.len (by decide)
  refine ⟨svC.rows raws, hrb, by rw [svC.rows_length, show svC.n = 1 from rfl, hl]; omega, ?_⟩
  have e := sv_set (raws := raws) (c := c) (s := (sa, L.length, cap)) (by omega)
  simp only at e
  rw [e]
  have s2 := (s1.pick 1 rfl rfl).put (o := Obj.cells (svC.rows (raws.set c (sa, L.length, cap))).toArray 56 (0, 0)) set_self
  rw [set_set] at s2
  have s3 := (s2.pick 2 rfl rfl).pick 2 rfl rfl
  obtain ⟨pb', s4, t4⟩ := sep_pack2 s3
  have s5 := s4.pick 1 rfl rfl
  obtain ⟨a', s6, t6⟩ := sep_pack2 s5
  refine ⟨a', ⟨raws.set c (sa, L.length, cap), pb', t6, by simp [hl], fun i s L' h1 h2 => ?_⟩, s6, d.set (d _ _ hrb)⟩
  by_cases hi : i = c
  · subst hi
    rw [List.getElem?_set_self (by omega)] at h1 h2
    cases h1
    cases h2
    exact ⟨rfl, o.le (t4.in 0 rfl)⟩
  · rw [List.getElem?_set_ne (Ne.symm hi)] at h1 h2
    obtain ⟨e1, e2⟩ := hr i s L' h1 h2
    exact ⟨e1, e2.le (t4.in 1 rfl)⟩

theorem was_new {wb : Nat} {T : Tb} : Was (noHp.set wb (.cells #[(.slice none 0 0), (.slice none 0 0), (.slice none 0 0), (.slice none 0 0), (.slice none 0 0), (.slice none 0 0)] 56 (0, 0))) wb (T.take 0 ++ List.replicate (6 - 0) []) := by
  refine ⟨List.replicate 6 (none, 0, 0), noHp, ⟨fun a ha => ?_, ?_⟩, by simp, fun i s L h1 h2 => ?_⟩
  · simp only [List.mem_cons, List.not_mem_nil, or_false] at ha
    rcases ha with rfl | rfl
    · exact Hp.le.refl _
    · intro _ _ e; cases e
  · refine List.pairwise_cons.2 ⟨fun c hc y => ?_, List.pairwise_singleton _ _⟩
    simp at hc
    subst hc
    exact .inr rfl
  · rw [List.take_zero, List.nil_append] at h2
    rw [List.getElem?_replicate] at h1 h2
    split at h1
    · rename_i hi
      rw [if_pos hi] at h2
      cases h1
      cases h2
      exact ⟨rfl, Slc.nil⟩
    · cases h1
theorem was_step {T : Tb} {c : Nat} (hT : c < T.length) (hc : c < 6) : (T.take c ++ List.replicate (6 - c) []).set c (rowT T c) = T.take (c + 1) ++ List.replicate (6 - (c + 1)) [] := by
  have e1 := rowT_get (T := T) (c := c) (by omega) (by omega)
  rw [Int.toNat_natCast] at e1
  rw [List.set_append_right _ _ (by simp; omega), List.length_take, Nat.min_eq_left (by omega), Nat.sub_self, show 6 - c = (6 - (c + 1)) + 1 by omega, List.replicate_succ, List.set_cons_zero, List.take_add_one, e1]
  simp

theorem put_has {r : Int} {T : Tb} {w : Want} (hr : 0 ≤ r) (g : GoodT T) (hv : validW T.length w = true) (hf : freeW T r w = true) (c r' x : Int) : has (rowT (putW r T w) c) r' x ↔ has (rowT T c) r' x ∨ (r' = r ∧ c = w.c ∧ w.f ≤ x ∧ x < w.t) := by
  obtain ⟨⟨c0, c1⟩, f0, f1, f2⟩ := valid_iff.1 hv
  unfold putW
  rw [rowT_set c0 c1]
  split
  · rename_i e
    subst e
    rw [(put_spec (rowT_good g _) f0 f1 f2 hr hf).2.1]
    constructor
    · rintro (h | ⟨h1, h2⟩)
      · exact .inl h
      · exact .inr ⟨h1, rfl, h2⟩
    · rintro (h | ⟨h1, _, h2⟩)
      · exact .inl h
      · exact .inr ⟨h1, h2⟩
  · rename_i e
    constructor
    · exact .inl
    · rintro (h | h)
      · exact h
      · exact absurd h.2.1 e

theorem some_few : ∀ (T : Tb), ∃ b, Few T b
  | [] => ⟨0, fun L h => by cases h⟩
  | L :: T => by
    obtain ⟨b, h⟩ := some_few T
    refine ⟨max b L.length, fun M hM => ?_⟩
    rcases List.mem_cons.1 hM with rfl | h1
    · exact Nat.le_max_right _ _
    · exact Nat.le_trans (h M h1) (Nat.le_max_left _ _)
theorem puts_has {r : Int} (hr : 0 ≤ r) : ∀ {l : List Want} {T : Tb}, GoodT T → l.all (validW T.length) = true → l.all (freeW T r) = true → ∀ c r' x, has (rowT (putsT r T l) c) r' x ↔ has (rowT T c) r' x ∨ (r' = r ∧ ∃ w ∈ l, c = w.c ∧ w.f ≤ x ∧ x < w.t) := by
  intro l
  induction l with
  | nil => intro T g _ _ c r' x; simp [putsT]
  | cons w l ih =>
    intro T g hv hf c r' x
    rw [List.all_cons, Bool.and_eq_true] at hv hf
    obtain ⟨b, fb⟩ := some_few T
    obtain ⟨g1, _, k1⟩ := putW_inv hr g fb hv.1 hf.1
    have e1 : (l.all (freeW (putW r T w) r)) = l.all (freeW T r) := by congr 1; funext u; exact k1 u
    have := ih (T := putW r T w) g1 (by rw [putW_len]; exact hv.2) (by rw [e1]; exact hf.2) c r' x
    show has (rowT (putsT r (putW r T w) l) c) r' x ↔ _
    rw [this, put_has hr g hv.1 hf.1]
    constructor
    · rintro ((h | ⟨h1, h2⟩) | ⟨h1, u, h2, h3⟩)
      · exact .inl h
      · exact .inr ⟨h1, w, .head _, h2⟩
      · exact .inr ⟨h1, u, .tail _ h2, h3⟩
    · rintro (h | ⟨h1, u, h2, h3⟩)
      · exact .inl (.inl h)
      · rcases List.mem_cons.1 h2 with rfl | h2
        · exact .inl (.inr ⟨h1, h3⟩)
        · exact .inr ⟨h1, u, h2, h3⟩

theorem claim_others {T : Tb} {r : Int} {l : List Want} (g : GoodT T) {c r' x : Int} (hne : r' ≠ r) : has (rowT (claimT T r l).2 c) r' x ↔ has (rowT T c) r' x := by
  unfold claimT
  split
  · rfl
  · rename_i hr
    split
    · rename_i hv
      split
      · rename_i hf
        show has (rowT (putsT r T l) c) r' x ↔ _
        rw [puts_has (by omega) g hv hf]
        constructor
        · rintro (h | h)
          · exact h
          · exact absurd h.1 hne
        · exact .inl
      · rfl
    · rfl

theorem has_lt {L : List Slot} (g : Resv.Good L) {r x : Int} (h : has L r x) : x < FV ∧ 0 ≤ x := by
  obtain ⟨s, hs, _, h1, h2⟩ := h
  have ok := g.ok s hs
  exact ⟨Int.lt_of_lt_of_le h2 ok.2.2.1, Int.le_trans ok.1 h1⟩

theorem back_law {T : Tb} {r : Int} {l : List Want} {b : Nat} (g : GoodT T) (f : Few T b) (c : Int) : rowT (cutT (fun x => x == r) FV (claimT (cutT (fun x => x == r) FV T) r l).2) c = rowT (cutT (fun x => x == r) FV T) c := by
  obtain ⟨g1, f1⟩ := cutT_inv (p := fun x => x == r) (u := FV) g f
  generalize hT1 : cutT (fun x => x == r) FV T = T1 at g1 f1 ⊢
  obtain ⟨g2, f2, _⟩ := claim_inv (r := r) (l := l) g1 f1
  obtain ⟨g3, _⟩ := cutT_inv (p := fun x => x == r) (u := FV) g2 f2
  refine good_ext (rowT_good g3 c) (rowT_good g1 c) fun r' x => ?_
  rw [cutT_row, (cut_spec (rowT_good g2 c)).2]
  by_cases hr : r' = r
  · subst hr
    constructor
    · rintro ⟨h1, h2⟩
      have := has_lt (rowT_good g2 c) h1
      have := h2 (by simp)
      omega
    · intro h1
      rw [← hT1, cutT_row, (cut_spec (rowT_good g c)).2] at h1
      have := has_lt (rowT_good g c) h1.1
      have := h1.2 (by simp)
      omega
  · rw [claim_others g1 hr]
    constructor
    · exact fun h => h.1
    · exact fun h => ⟨h, fun e => absurd (by simpa using e) hr⟩

def late : Int := 2199023255552
def bkK (G : Hp) : Exit → Rg → Hp → Prop := retK Try.prog G [.tmp 4] fun u _ => u = .bool true

set_option maxHeartbeats 4000000 in
theorem back_rest {G h0 a0 : Hp} {R : List Hp} {tp b : Nat} {T0 : Tb} {r : Rg} {v : Value} {l : List Want} (hv : GSees wantC G v l) (hl : l.length ≤ 60) (q1 : r 1 = v) (q5 : r 5 = .pointer (some ⟨tp, 0, none⟩)) (t0 : Tab 68 a0 tp T0) (s0 : HL.Sep (a0 :: R) h0) (g0 : GoodT T0) (f0 : Few T0 b) (hb : b ≤ 40000) (l0 : T0.length = 6) : S10_k2 G (bkK G) r h0 := by
  unfold S10_k2
  simp -implicitDefEqProofs (maxSteps := 2000000) (disch := first | with_reducible exact Nat.ne_of_beq_eq_false rfl | exact oneCell_int | exact oneCell_bool | omega | rfl | (simp; done) | fail) only [q5, opH_sv, al56, cf28]
  refine (clear_spec (r := 2199023255552) t0 s0 f0 (by omega) (by omega)).mono ?_
  rintro _ h1 ⟨rfl, a, t1, s3, d3⟩
  have law := fun c => back_law (r := 2199023255552) (l := l) g0 f0 c
  obtain ⟨g, f⟩ := cutT_inv (p := fun x => x == (2199023255552 : Int)) (u := FV) g0 f0
  have lT : (cutT (fun x => x == (2199023255552 : Int)) FV T0).length = 6 := cutT_len.trans l0
  clear t0 s0 g0 f0 l0
  generalize cutT (fun x => x == (2199023255552 : Int)) FV T0 = T at *
  try simp -implicitDefEqProofs (maxSteps := 2000000) (disch := first | with_reducible exact Nat.ne_of_beq_eq_false rfl | exact oneCell_int | exact oneCell_bool | omega | rfl | (simp; done) | fail) only [opH_sv, opH_su, pureW_sv, opH_nil, pureW_nil, pick_t, pick_f, pick_tp, pick_fp, gd_tt, gd_ft, gd_tf, gd_ff, box_new, regs0, regs1, regs2, regs3, regs4, regs5, regs6, cells_agg, cells_int, cells_bool, cells_ptr, cells_slice, cells_string, cells_func, cells_nilFunc, cells_map, retK_ret, retK_normal, resL_tmp, resL_cell, resL_nil0, resL_nil1, resL_nil2, resL_nil3, resC_ptr, ex0, ex1, ex2, ex0p, ex1p, ex2p, HL.cond_true, HL.cond_false, thenK_normal, thenK_ret, thenK_exit, blockK_normal, blockK_ret, blockK_exit, scopeK_normal, scopeK_ret, scopeK_exit, wpH_pure, bin_add, bin_sub, bin_mul, bin_lss, bin_leq, bin_gtr, bin_geq, bin_quo, bin_rem, bin_quop, bin_remp, wrap_in, bin_addp, bin_subp, bin_mulp, bin_lssp, bin_leqp, bin_gtrp, bin_geqp, un_not, un_notp, un_neg, eq_int, ne_int, eq_intp, ne_intp, callV_fn, add_mk, upd_eq, upd_ne, cell_set_self, Nat.zero_add, Nat.add_zero, Option.some.injEq, exists_eq_left', List.getElem?_cons_succ, List.getElem?_cons_zero, true_and, and_true, bne_self_eq_false, beq_self_eq_true, Bool.not_true, Bool.not_false, Bool.and_true, Bool.and_self, Bool.and_false, Bool.true_and, List.length_cons, List.length_nil, ne_eq, not_false_eq_true, Nat.reduceAdd, Nat.reduceMul, if_true, if_false, oneCell_int, oneCell_bool, oneCell_ptr, oneCell_slice, oneCell_string, oneCell_func, oneCell_map, Int.toNat_natCast, List.set_cons_zero, List.set_cons_succ, Nat.lt_irrefl, Nat.zero_lt_succ, Nat.succ_lt_succ_iff, fa30_0, fa30_0p, fa30_1, fa30_1p, fa30_2, fa30_2p, fa35_0, fa35_0p, fa35_1, fa35_1p, fa35_2, fa35_2p, fa51_0, fa51_0p, fa51_1, fa51_1p, fa51_2, fa51_2p, fa51_3, fa51_3p, fa51_4, fa51_4p, fa51_5, fa51_5p, fa68_0, fa68_0p, fa76_0, fa76_0p, fa88_0, fa88_0p, fa88_1, fa88_1p, fa88_2, fa88_2p, fa90_0, fa90_0p, fa90_1, fa90_1p, ld3, ld3p, ld22, ld22p, ld23, ld23p, ld30, ld30p, ld32, ld32p, ld35, ld35p, ld39, ld39p, ld51, ld51p, ld58, ld58p, ld66, ld66p, st3s, st30w, st32s, st35w, st39s, st51w, st58w, st88w, st90w, ix22, ix22p, ix32, ix32p, ix39, ix39p, ix46, ix46p, ix64, ix64p, ix66, ix66p, ix78, ix78p, ix81, ix81p, ln22, ln22p, ln32, ln32p, ln39, ln39p, ln46, ln46p, ln64, ln64p, ln66, ln66p, ln78, ln78p, ln81, ln81p, al30, al35, al39, al56, al58, cf12, cf13, cf14, cf15, cf16, cf17, cf18, cf19, cf20, cf21, cf22, cf23, cf24, cf25, cf26, cf27, cf28, cf29, cf30, cf31, cf32, cf33, cf34, cf35, cf36, cf37, cf38, cf39, cf40, cf41, cf42, cf43, cf44, cf45, cf46, cf47, cf48, cf49, cf50, cf51, cf52, cf53, cf54, cf55, cf56, cf57, cf58, cf60, cf61, cf62, cf63, cf64, bd30_0_1_2, bd30_0_1_2p, bd30_1, bd30_1p, bd30_1_2, bd30_1_2p, bd35_0, bd35_0p, bd35_0_1_2, bd35_0_1_2p, bd58_0_1, bd58_0_1p, bd68_0, bd68_0p, bd76_0, bd76_0p, bd88_0_1_2, bd88_0_1_2p, bd90_0_1, bd90_0_1p, bs22_1_0, bs32_1_0, bs39_1_0, bs78_1_0, bs81_1_0, eq4, eq4p, eq23n, eq23np, eq23s, eq23sp, eq37n, eq37np, eq37s, eq37sp, ne4, ne4p, ne23n, ne23np, ne23s, ne23sp, ne35, ne35p]
  have fin : ∀ (wb : Nat) (wa : Hp) (r1 : Rg) (h3 : Hp), r1 5 = .pointer (some ⟨tp, 0, none⟩) → r1 9 = .pointer (some ⟨wb, 0, none⟩) → r1 1 = v → Was wa wb T → HL.Sep (wa :: a :: R) h3 → Dis G h3 → S10_k3 G (bkK G) r1 h3 := by
    clear q1 q5 s3 d3
    intro wb wa r1 h3 q5 q9 q1 tw s3 d3
    unfold S10_k3
    simp -implicitDefEqProofs (maxSteps := 2000000) (disch := first | with_reducible exact Nat.ne_of_beq_eq_false rfl | exact oneCell_int | exact oneCell_bool | omega | rfl | (simp; done) | fail) only [q1, q5, cf28, cf15, opH_sv]
    refine append_piece wantC (by decide) un22 eowant (by decide) (by decide) (M := l) s3.none d3 Slc.nil (hv h3 d3) (by simp; omega) fun v2 im h4 o4 s4 d4 => ?_
    rw [List.nil_append] at o4
    refine (claim_spec (r := 2199023255552) (l := l) t1 (s4.pick 2 rfl rfl) (o4.sees (G := G) (by decide) (Hp.le.refl im)) g f (by omega)).mono ?_
    rintro _ h5 ⟨rfl, a5, t5, s5, d5⟩
    obtain ⟨g5, f5, l5⟩ := claim_inv (r := 2199023255552) (l := l) g f
    refine (clear_spec (r := 2199023255552) t5 s5 f5 (by omega) (by omega)).mono ?_
    rintro _ h6 ⟨rfl, a6, t6, s6, d6⟩
    obtain ⟨g6, f6⟩ := cutT_inv (p := fun x => x == (2199023255552 : Int)) (u := FV) g5 f5
    generalize cutT (fun x => x == (2199023255552 : Int)) FV (claimT T 2199023255552 l).2 = T6 at *
    generalize hKK : bkK G = KK
    refine loop_I (fun m q h3 => ∃ c : Nat, m = 6 - c ∧ c ≤ 6 ∧ q 5 = .pointer (some ⟨tp, 0, none⟩) ∧ q 9 = .pointer (some ⟨wb, 0, none⟩) ∧ q 11 = .int .i64 c ∧ HL.Sep (a6 :: im :: wa :: R) h3 ∧ Dis G h3) ?_
      (m := 6) ⟨0, rfl, Nat.zero_le _, by simp -implicitDefEqProofs (maxSteps := 2000000) (disch := first | with_reducible exact Nat.ne_of_beq_eq_false rfl | exact oneCell_int | exact oneCell_bool | omega | rfl | (simp; done) | fail) only [upd_ne, q5], by simp -implicitDefEqProofs (maxSteps := 2000000) (disch := first | with_reducible exact Nat.ne_of_beq_eq_false rfl | exact oneCell_int | exact oneCell_bool | omega | rfl | (simp; done) | fail) only [upd_ne, q9], by simp -implicitDefEqProofs (maxSteps := 2000000) (disch := first | with_reducible exact Nat.ne_of_beq_eq_false rfl | exact oneCell_int | exact oneCell_bool | omega | rfl | (simp; done) | fail) only [upd_eq] <;> rfl, s6, d6⟩
    clear q1 q5 q9 s3 d3 s4 d4 s5 d5 s6 d6
    rintro m q h3 ⟨c, rfl, hc, q5, q9, q11, s3, d3⟩ X HX
    unfold S10_l5
    simp -implicitDefEqProofs (maxSteps := 2000000) (disch := first | with_reducible exact Nat.ne_of_beq_eq_false rfl | exact oneCell_int | exact oneCell_bool | omega | rfl | (simp; done) | fail) only [q11, thenK_exit, blockK_exit, thenK_normal, if_true, opH_sv, bin_lss]
    refine cond_dec (fun hlt => ?_) (fun hge => ?_)
    rotate_left
    · try simp -implicitDefEqProofs (maxSteps := 2000000) (disch := first | with_reducible exact Nat.ne_of_beq_eq_false rfl | exact oneCell_int | exact oneCell_bool | omega | rfl | (simp; done) | fail) only [opH_sv, opH_su, pureW_sv, opH_nil, pureW_nil, pick_t, pick_f, pick_tp, pick_fp, gd_tt, gd_ft, gd_tf, gd_ff, box_new, regs0, regs1, regs2, regs3, regs4, regs5, regs6, cells_agg, cells_int, cells_bool, cells_ptr, cells_slice, cells_string, cells_func, cells_nilFunc, cells_map, retK_ret, retK_normal, resL_tmp, resL_cell, resL_nil0, resL_nil1, resL_nil2, resL_nil3, resC_ptr, ex0, ex1, ex2, ex0p, ex1p, ex2p, HL.cond_true, HL.cond_false, thenK_normal, thenK_ret, thenK_exit, blockK_normal, blockK_ret, blockK_exit, scopeK_normal, scopeK_ret, scopeK_exit, wpH_pure, bin_add, bin_sub, bin_mul, bin_lss, bin_leq, bin_gtr, bin_geq, bin_quo, bin_rem, bin_quop, bin_remp, wrap_in, bin_addp, bin_subp, bin_mulp, bin_lssp, bin_leqp, bin_gtrp, bin_geqp, un_not, un_notp, un_neg, eq_int, ne_int, eq_intp, ne_intp, callV_fn, add_mk, upd_eq, upd_ne, cell_set_self, Nat.zero_add, Nat.add_zero, Option.some.injEq, exists_eq_left', List.getElem?_cons_succ, List.getElem?_cons_zero, true_and, and_true, bne_self_eq_false, beq_self_eq_true, Bool.not_true, Bool.not_false, Bool.and_true, Bool.and_self, Bool.and_false, Bool.true_and, List.length_cons, List.length_nil, ne_eq, not_false_eq_true, Nat.reduceAdd, Nat.reduceMul, if_true, if_false, oneCell_int, oneCell_bool, oneCell_ptr, oneCell_slice, oneCell_string, oneCell_func, oneCell_map, Int.toNat_natCast, List.set_cons_zero, List.set_cons_succ, Nat.lt_irrefl, Nat.zero_lt_succ, Nat.succ_lt_succ_iff, fa30_0, fa30_0p, fa30_1, fa30_1p, fa30_2, fa30_2p, fa35_0, fa35_0p, fa35_1, fa35_1p, fa35_2, fa35_2p, fa51_0, fa51_0p, fa51_1, fa51_1p, fa51_2, fa51_2p, fa51_3, fa51_3p, fa51_4, fa51_4p, fa51_5, fa51_5p, fa68_0, fa68_0p, fa76_0, fa76_0p, fa88_0, fa88_0p, fa88_1, fa88_1p, fa88_2, fa88_2p, fa90_0, fa90_0p, fa90_1, fa90_1p, ld3, ld3p, ld22, ld22p, ld23, ld23p, ld30, ld30p, ld32, ld32p, ld35, ld35p, ld39, ld39p, ld51, ld51p, ld58, ld58p, ld66, ld66p, st3s, st30w, st32s, st35w, st39s, st51w, st58w, st88w, st90w, ix22, ix22p, ix32, ix32p, ix39, ix39p, ix46, ix46p, ix64, ix64p, ix66, ix66p, ix78, ix78p, ix81, ix81p, ln22, ln22p, ln32, ln32p, ln39, ln39p, ln46, ln46p, ln64, ln64p, ln66, ln66p, ln78, ln78p, ln81, ln81p, al30, al35, al39, al56, al58, cf12, cf13, cf14, cf15, cf16, cf17, cf18, cf19, cf20, cf21, cf22, cf23, cf24, cf25, cf26, cf27, cf28, cf29, cf30, cf31, cf32, cf33, cf34, cf35, cf36, cf37, cf38, cf39, cf40, cf41, cf42, cf43, cf44, cf45, cf46, cf47, cf48, cf49, cf50, cf51, cf52, cf53, cf54, cf55, cf56, cf57, cf58, cf60, cf61, cf62, cf63, cf64, bd30_0_1_2, bd30_0_1_2p, bd30_1, bd30_1p, bd30_1_2, bd30_1_2p, bd35_0, bd35_0p, bd35_0_1_2, bd35_0_1_2p, bd58_0_1, bd58_0_1p, bd68_0, bd68_0p, bd76_0, bd76_0p, bd88_0_1_2, bd88_0_1_2p, bd90_0_1, bd90_0_1p, bs22_1_0, bs32_1_0, bs39_1_0, bs78_1_0, bs81_1_0, eq4, eq4p, eq23n, eq23np, eq23s, eq23sp, eq37n, eq37np, eq37s, eq37sp, ne4, ne4p, ne23n, ne23np, ne23s, ne23sp, ne35, ne35p]
      unfold S10_k4
      simp -implicitDefEqProofs (maxSteps := 2000000) (disch := first | with_reducible exact Nat.ne_of_beq_eq_false rfl | exact oneCell_int | exact oneCell_bool | omega | rfl | (simp; done) | fail) only [cf13]
      refine awake_spec.mono ?_
      rintro _ _ ⟨rfl, rfl⟩
      rw [← hKK]
      unfold bkK
      simp -implicitDefEqProofs (maxSteps := 2000000) (disch := first | with_reducible exact Nat.ne_of_beq_eq_false rfl | exact oneCell_int | exact oneCell_bool | omega | rfl | (simp; done) | fail) only [retK_ret, resL_tmp, upd_eq, resL_nil1]
    have hc6 : (c : Int) < 6 := hlt
    unfold S10_l5_k6
    simp -implicitDefEqProofs (maxSteps := 2000000) (disch := first | with_reducible exact Nat.ne_of_beq_eq_false rfl | exact oneCell_int | exact oneCell_bool | omega | rfl | (simp; done) | fail) only [upd_ne, q5, q11, thenK_ret, blockK_ret, pureW_sv, cf19, cf16]
    refine (slots_spec (c := (c : Int)) (t6.see (s3.in 0 rfl)) (fun L hL => Nat.le_trans (f6 L hL) (by omega))).mono ?_
    rintro v4 h4 ⟨io, o4, s4, d4⟩
    rw [rowAt_eq, law] at o4
    have l4 : h3.le h4 := s4.in 1 rfl
    refine ⟨l4, ?_⟩
    have hg := rowT_get (T := T) (c := (c : Int)) (Int.natCast_nonneg c) (by omega)
    rw [Int.toNat_natCast] at hg
    obtain ⟨sw, cw, e7, v7⟩ := tw.get (G := G) (s3.in 2 rfl) hg
    simp -implicitDefEqProofs (maxSteps := 2000000) (disch := first | with_reducible exact Nat.ne_of_beq_eq_false rfl | exact oneCell_int | exact oneCell_bool | omega | rfl | (simp; done) | fail) only [q9, ixwp (Int.natCast_nonneg c) hc6, Int.toNat_natCast, ld32p, e7, Option.some.injEq, exists_eq_left']
    have hlen := rowT_few f (c : Int)
    refine (sameslots_spec (o4.sees (by decide) (s4.in 0 rfl)) (v7.up l4 d4) (by omega)).mono ?_
    rintro _ h4 ⟨rfl, rfl⟩
    try simp -implicitDefEqProofs (maxSteps := 2000000) (disch := first | with_reducible exact Nat.ne_of_beq_eq_false rfl | exact oneCell_int | exact oneCell_bool | omega | rfl | (simp; done) | fail) only [decide_true, un_notp, Bool.not_true, HL.cond_false]
    unfold S10_l5_k7
    simp -implicitDefEqProofs (maxSteps := 2000000) (disch := first | with_reducible exact Nat.ne_of_beq_eq_false rfl | exact oneCell_int | exact oneCell_bool | omega | rfl | (simp; done) | fail) only [upd_ne, q11, thenK_normal, opH_sv, bin_add, wrap_in]
    have s8 : HL.Sep (a6 :: im :: wa :: R) h4 := by
      have := HL.Sep.split s4 s3
      rw [List.append_nil] at this
      exact this.drop
    exact HX (6 - (c + 1)) _ _ (by omega) ⟨c + 1, rfl, by omega, by simp -implicitDefEqProofs (maxSteps := 2000000) (disch := first | with_reducible exact Nat.ne_of_beq_eq_false rfl | exact oneCell_int | exact oneCell_bool | omega | rfl | (simp; done) | fail) only [upd_ne, q5], by simp -implicitDefEqProofs (maxSteps := 2000000) (disch := first | with_reducible exact Nat.ne_of_beq_eq_false rfl | exact oneCell_int | exact oneCell_bool | omega | rfl | (simp; done) | fail) only [upd_ne, q9], by simp -implicitDefEqProofs (maxSteps := 2000000) (disch := first | with_reducible exact Nat.ne_of_beq_eq_false rfl | exact oneCell_int | exact oneCell_bool | omega | rfl | (simp; done) | fail) only [upd_eq] <;> rfl, s8, d4⟩
  intro wb hwb gwb
  refine loop_I (fun m q h3 => ∃ (c : Nat) (wa : Hp), m = 6 - c ∧ c ≤ 6 ∧ q 5 = .pointer (some ⟨tp, 0, none⟩) ∧ q 9 = .pointer (some ⟨wb, 0, none⟩) ∧ q 10 = .int .i64 c ∧ q 1 = v ∧ Was wa wb (T.take c ++ List.replicate (6 - c) []) ∧ HL.Sep (wa :: a :: R) h3 ∧ Dis G h3) ?_
    (m := 6) ⟨0, _, rfl, Nat.zero_le _, by simp -implicitDefEqProofs (maxSteps := 2000000) (disch := first | with_reducible exact Nat.ne_of_beq_eq_false rfl | exact oneCell_int | exact oneCell_bool | omega | rfl | (simp; done) | fail) only [upd_ne, q5], by simp -implicitDefEqProofs (maxSteps := 2000000) (disch := first | with_reducible exact Nat.ne_of_beq_eq_false rfl | exact oneCell_int | exact oneCell_bool | omega | rfl | (simp; done) | fail) only [upd_ne, upd_eq], by simp -implicitDefEqProofs (maxSteps := 2000000) (disch := first | with_reducible exact Nat.ne_of_beq_eq_false rfl | exact oneCell_int | exact oneCell_bool | omega | rfl | (simp; done) | fail) only [upd_eq] <;> rfl, by simp -implicitDefEqProofs (maxSteps := 2000000) (disch := first | with_reducible exact Nat.ne_of_beq_eq_false rfl | exact oneCell_int | exact oneCell_bool | omega | rfl | (simp; done) | fail) only [upd_ne, q1], was_new, s3.new hwb, d3.set gwb⟩
  clear s3 d3 hwb gwb
  rintro m q h3 ⟨c, wa, rfl, hc, q5, q9, q10, p1, tw, s3, d3⟩ X HX
  unfold S10_l8
  simp -implicitDefEqProofs (maxSteps := 2000000) (disch := first | with_reducible exact Nat.ne_of_beq_eq_false rfl | exact oneCell_int | exact oneCell_bool | omega | rfl | (simp; done) | fail) only [q10, thenK_exit, blockK_exit, thenK_normal, if_true, opH_sv, bin_lss]
  refine cond_dec (fun hlt => ?_) (fun hge => ?_)
  rotate_left
  · obtain rfl : c = 6 := by omega
    rw [show T.take 6 = T from List.take_of_length_le (by omega), show (List.replicate (6 - 6) [] : Tb) = [] from rfl, List.append_nil] at tw
    try simp -implicitDefEqProofs (maxSteps := 2000000) (disch := first | with_reducible exact Nat.ne_of_beq_eq_false rfl | exact oneCell_int | exact oneCell_bool | omega | rfl | (simp; done) | fail) only [opH_sv, opH_su, pureW_sv, opH_nil, pureW_nil, pick_t, pick_f, pick_tp, pick_fp, gd_tt, gd_ft, gd_tf, gd_ff, box_new, regs0, regs1, regs2, regs3, regs4, regs5, regs6, cells_agg, cells_int, cells_bool, cells_ptr, cells_slice, cells_string, cells_func, cells_nilFunc, cells_map, retK_ret, retK_normal, resL_tmp, resL_cell, resL_nil0, resL_nil1, resL_nil2, resL_nil3, resC_ptr, ex0, ex1, ex2, ex0p, ex1p, ex2p, HL.cond_true, HL.cond_false, thenK_normal, thenK_ret, thenK_exit, blockK_normal, blockK_ret, blockK_exit, scopeK_normal, scopeK_ret, scopeK_exit, wpH_pure, bin_add, bin_sub, bin_mul, bin_lss, bin_leq, bin_gtr, bin_geq, bin_quo, bin_rem, bin_quop, bin_remp, wrap_in, bin_addp, bin_subp, bin_mulp, bin_lssp, bin_leqp, bin_gtrp, bin_geqp, un_not, un_notp, un_neg, eq_int, ne_int, eq_intp, ne_intp, callV_fn, add_mk, upd_eq, upd_ne, cell_set_self, Nat.zero_add, Nat.add_zero, Option.some.injEq, exists_eq_left', List.getElem?_cons_succ, List.getElem?_cons_zero, true_and, and_true, bne_self_eq_false, beq_self_eq_true, Bool.not_true, Bool.not_false, Bool.and_true, Bool.and_self, Bool.and_false, Bool.true_and, List.length_cons, List.length_nil, ne_eq, not_false_eq_true, Nat.reduceAdd, Nat.reduceMul, if_true, if_false, oneCell_int, oneCell_bool, oneCell_ptr, oneCell_slice, oneCell_string, oneCell_func, oneCell_map, Int.toNat_natCast, List.set_cons_zero, List.set_cons_succ, Nat.lt_irrefl, Nat.zero_lt_succ, Nat.succ_lt_succ_iff, fa30_0, fa30_0p, fa30_1, fa30_1p, fa30_2, fa30_2p, fa35_0, fa35_0p, fa35_1, fa35_1p, fa35_2, fa35_2p, fa51_0, fa51_0p, fa51_1, fa51_1p, fa51_2, fa51_2p, fa51_3, fa51_3p, fa51_4, fa51_4p, fa51_5, fa51_5p, fa68_0, fa68_0p, fa76_0, fa76_0p, fa88_0, fa88_0p, fa88_1, fa88_1p, fa88_2, fa88_2p, fa90_0, fa90_0p, fa90_1, fa90_1p, ld3, ld3p, ld22, ld22p, ld23, ld23p, ld30, ld30p, ld32, ld32p, ld35, ld35p, ld39, ld39p, ld51, ld51p, ld58, ld58p, ld66, ld66p, st3s, st30w, st32s, st35w, st39s, st51w, st58w, st88w, st90w, ix22, ix22p, ix32, ix32p, ix39, ix39p, ix46, ix46p, ix64, ix64p, ix66, ix66p, ix78, ix78p, ix81, ix81p, ln22, ln22p, ln32, ln32p, ln39, ln39p, ln46, ln46p, ln64, ln64p, ln66, ln66p, ln78, ln78p, ln81, ln81p, al30, al35, al39, al56, al58, cf12, cf13, cf14, cf15, cf16, cf17, cf18, cf19, cf20, cf21, cf22, cf23, cf24, cf25, cf26, cf27, cf28, cf29, cf30, cf31, cf32, cf33, cf34, cf35, cf36, cf37, cf38, cf39, cf40, cf41, cf42, cf43, cf44, cf45, cf46, cf47, cf48, cf49, cf50, cf51, cf52, cf53, cf54, cf55, cf56, cf57, cf58, cf60, cf61, cf62, cf63, cf64, bd30_0_1_2, bd30_0_1_2p, bd30_1, bd30_1p, bd30_1_2, bd30_1_2p, bd35_0, bd35_0p, bd35_0_1_2, bd35_0_1_2p, bd58_0_1, bd58_0_1p, bd68_0, bd68_0p, bd76_0, bd76_0p, bd88_0_1_2, bd88_0_1_2p, bd90_0_1, bd90_0_1p, bs22_1_0, bs32_1_0, bs39_1_0, bs78_1_0, bs81_1_0, eq4, eq4p, eq23n, eq23np, eq23s, eq23sp, eq37n, eq37np, eq37s, eq37sp, ne4, ne4p, ne23n, ne23np, ne23s, ne23sp, ne35, ne35p]
    exact fin wb wa _ _ (by simp -implicitDefEqProofs (maxSteps := 2000000) (disch := first | with_reducible exact Nat.ne_of_beq_eq_false rfl | exact oneCell_int | exact oneCell_bool | omega | rfl | (simp; done) | fail) only [upd_ne, q5]) (by simp -implicitDefEqProofs (maxSteps := 2000000) (disch := first | with_reducible exact Nat.ne_of_beq_eq_false rfl | exact oneCell_int | exact oneCell_bool | omega | rfl | (simp; done) | fail) only [upd_ne, q9]) (by simp -implicitDefEqProofs (maxSteps := 2000000) (disch := first | with_reducible exact Nat.ne_of_beq_eq_false rfl | exact oneCell_int | exact oneCell_bool | omega | rfl | (simp; done) | fail) only [upd_ne, p1]) tw s3 d3
  unfold S10_l8_k9
  simp -implicitDefEqProofs (maxSteps := 2000000) (disch := first | with_reducible exact Nat.ne_of_beq_eq_false rfl | exact oneCell_int | exact oneCell_bool | omega | rfl | (simp; done) | fail) only [upd_ne, q5, q10, opH_su, opH_sv, cf16]
  refine (slots_spec (t1.see (s3.in 1 rfl)) (fun L hL => Nat.le_trans (f L hL) (by omega))).mono ?_
  rintro v4 h4 ⟨io, o4, s4, d4⟩
  have s5 : HL.Sep (io :: wa :: a :: R) h4 := by
    have := HL.Sep.split s4 s3
    rwa [List.append_nil] at this
  rw [rowAt_eq] at o4
  obtain ⟨l, hb4, hcl, wa', tw', s6, d6⟩ := was_store (c := c) tw s5 d4 o4 (by simp; omega)
  have ew : (T.take c ++ List.replicate (6 - c) []).set c (rowT T c) = T.take (c + 1) ++ List.replicate (6 - (c + 1)) [] := was_step (by omega) (by omega)
  rw [ew] at tw'
  have hc6 : (c : Int) < 6 := hlt
  simp -implicitDefEqProofs (maxSteps := 2000000) (disch := first | with_reducible exact Nat.ne_of_beq_eq_false rfl | exact oneCell_int | exact oneCell_bool | omega | rfl | (simp; done) | fail) only [q9, ixw (Int.natCast_nonneg c) hc6, Int.toNat_natCast]
  obtain ⟨sa4, cap4, rfl, _⟩ := o4.len (by decide)
  rw [store1_eq sz32 rfl hb4 hcl]
  unfold S10_l8_k10
  simp -implicitDefEqProofs (maxSteps := 2000000) (disch := first | with_reducible exact Nat.ne_of_beq_eq_false rfl | exact oneCell_int | exact oneCell_bool | omega | rfl | (simp; done) | fail) only [upd_ne, q10, thenK_normal, opH_sv, bin_add, wrap_in]
  exact HX (6 - (c + 1)) _ _ (by omega) ⟨c + 1, wa', rfl, by omega, by simp -implicitDefEqProofs (maxSteps := 2000000) (disch := first | with_reducible exact Nat.ne_of_beq_eq_false rfl | exact oneCell_int | exact oneCell_bool | omega | rfl | (simp; done) | fail) only [upd_ne, q5], by simp -implicitDefEqProofs (maxSteps := 2000000) (disch := first | with_reducible exact Nat.ne_of_beq_eq_false rfl | exact oneCell_int | exact oneCell_bool | omega | rfl | (simp; done) | fail) only [upd_ne, q9], by simp -implicitDefEqProofs (maxSteps := 2000000) (disch := first | with_reducible exact Nat.ne_of_beq_eq_false rfl | exact oneCell_int | exact oneCell_bool | omega | rfl | (simp; done) | fail) only [upd_eq] <;> rfl, by simp -implicitDefEqProofs (maxSteps := 2000000) (disch := first | with_reducible exact Nat.ne_of_beq_eq_false rfl | exact oneCell_int | exact oneCell_bool | omega | rfl | (simp; done) | fail) only [upd_ne, p1], tw', s6, d6⟩

set_option maxHeartbeats 4000000 in
theorem back_walk {G : Hp} {w v : Value} {l : List Rop} {L : List Want} (hv : GSees opC G w l) (hl : ∀ x ∈ l, ∃ ws, OpOk G x ws) (hw : GSees wantC G v L) : HCalls Try.prog G 10 #[w, v] noHp (fun u _ => u = .bool true) := by
  refine HCalls.assume fun d0 => enter10 (by simp) ?_
  unfold S10
  obtain ⟨sa, cap, rfl⟩ := (hv noHp d0).len
  obtain ⟨sb, cap2, ev⟩ := (hw noHp d0).len
  simp -implicitDefEqProofs (maxSteps := 2000000) (disch := first | with_reducible exact Nat.ne_of_beq_eq_false rfl | exact oneCell_int | exact oneCell_bool | omega | rfl | (simp; done) | fail) only [regs1, retK_ret, resL_tmp, upd_eq, resL_nil1, opH_sv, cf12]
  refine (new_spec (n := 6) (by decide) (by decide)).mono ?_
  rintro _ h1 ⟨a, tp, rfl, t1, s1, d1⟩
  simp -implicitDefEqProofs (maxSteps := 2000000) (disch := first | with_reducible exact Nat.ne_of_beq_eq_false rfl | exact oneCell_int | exact oneCell_bool | omega | rfl | (simp; done) | fail) only [ev, ex1, eq_int, beq_self_eq_true, pick_t, gd_tt, ne_int, bne_self_eq_false, pick_f, gd_ff, ex0, ne23s, cf13, eq23s, opH_sv, ln22, bin_gtr]
  refine cond_dec (fun hbig => ?_) (fun hsm => ?_)
  · try simp -implicitDefEqProofs (maxSteps := 2000000) (disch := first | with_reducible exact Nat.ne_of_beq_eq_false rfl | exact oneCell_int | exact oneCell_bool | omega | rfl | (simp; done) | fail) only [opH_sv, opH_su, pureW_sv, opH_nil, pureW_nil, pick_t, pick_f, pick_tp, pick_fp, gd_tt, gd_ft, gd_tf, gd_ff, box_new, regs0, regs1, regs2, regs3, regs4, regs5, regs6, cells_agg, cells_int, cells_bool, cells_ptr, cells_slice, cells_string, cells_func, cells_nilFunc, cells_map, retK_ret, retK_normal, resL_tmp, resL_cell, resL_nil0, resL_nil1, resL_nil2, resL_nil3, resC_ptr, ex0, ex1, ex2, ex0p, ex1p, ex2p, HL.cond_true, HL.cond_false, thenK_normal, thenK_ret, thenK_exit, blockK_normal, blockK_ret, blockK_exit, scopeK_normal, scopeK_ret, scopeK_exit, wpH_pure, bin_add, bin_sub, bin_mul, bin_lss, bin_leq, bin_gtr, bin_geq, bin_quo, bin_rem, bin_quop, bin_remp, wrap_in, bin_addp, bin_subp, bin_mulp, bin_lssp, bin_leqp, bin_gtrp, bin_geqp, un_not, un_notp, un_neg, eq_int, ne_int, eq_intp, ne_intp, callV_fn, add_mk, upd_eq, upd_ne, cell_set_self, Nat.zero_add, Nat.add_zero, Option.some.injEq, exists_eq_left', List.getElem?_cons_succ, List.getElem?_cons_zero, true_and, and_true, bne_self_eq_false, beq_self_eq_true, Bool.not_true, Bool.not_false, Bool.and_true, Bool.and_self, Bool.and_false, Bool.true_and, List.length_cons, List.length_nil, ne_eq, not_false_eq_true, Nat.reduceAdd, Nat.reduceMul, if_true, if_false, oneCell_int, oneCell_bool, oneCell_ptr, oneCell_slice, oneCell_string, oneCell_func, oneCell_map, Int.toNat_natCast, List.set_cons_zero, List.set_cons_succ, Nat.lt_irrefl, Nat.zero_lt_succ, Nat.succ_lt_succ_iff, fa30_0, fa30_0p, fa30_1, fa30_1p, fa30_2, fa30_2p, fa35_0, fa35_0p, fa35_1, fa35_1p, fa35_2, fa35_2p, fa51_0, fa51_0p, fa51_1, fa51_1p, fa51_2, fa51_2p, fa51_3, fa51_3p, fa51_4, fa51_4p, fa51_5, fa51_5p, fa68_0, fa68_0p, fa76_0, fa76_0p, fa88_0, fa88_0p, fa88_1, fa88_1p, fa88_2, fa88_2p, fa90_0, fa90_0p, fa90_1, fa90_1p, ld3, ld3p, ld22, ld22p, ld23, ld23p, ld30, ld30p, ld32, ld32p, ld35, ld35p, ld39, ld39p, ld51, ld51p, ld58, ld58p, ld66, ld66p, st3s, st30w, st32s, st35w, st39s, st51w, st58w, st88w, st90w, ix22, ix22p, ix32, ix32p, ix39, ix39p, ix46, ix46p, ix64, ix64p, ix66, ix66p, ix78, ix78p, ix81, ix81p, ln22, ln22p, ln32, ln32p, ln39, ln39p, ln46, ln46p, ln64, ln64p, ln66, ln66p, ln78, ln78p, ln81, ln81p, al30, al35, al39, al56, al58, cf12, cf13, cf14, cf15, cf16, cf17, cf18, cf19, cf20, cf21, cf22, cf23, cf24, cf25, cf26, cf27, cf28, cf29, cf30, cf31, cf32, cf33, cf34, cf35, cf36, cf37, cf38, cf39, cf40, cf41, cf42, cf43, cf44, cf45, cf46, cf47, cf48, cf49, cf50, cf51, cf52, cf53, cf54, cf55, cf56, cf57, cf58, cf60, cf61, cf62, cf63, cf64, bd30_0_1_2, bd30_0_1_2p, bd30_1, bd30_1p, bd30_1_2, bd30_1_2p, bd35_0, bd35_0p, bd35_0_1_2, bd35_0_1_2p, bd58_0_1, bd58_0_1p, bd68_0, bd68_0p, bd76_0, bd76_0p, bd88_0_1_2, bd88_0_1_2p, bd90_0_1, bd90_0_1p, bs22_1_0, bs32_1_0, bs39_1_0, bs78_1_0, bs81_1_0, eq4, eq4p, eq23n, eq23np, eq23s, eq23sp, eq37n, eq37np, eq37s, eq37sp, ne4, ne4p, ne23n, ne23np, ne23s, ne23sp, ne35, ne35p]
    refine awake_spec.mono ?_
    rintro _ _ ⟨rfl, rfl⟩
    try simp -implicitDefEqProofs (maxSteps := 2000000) (disch := first | with_reducible exact Nat.ne_of_beq_eq_false rfl | exact oneCell_int | exact oneCell_bool | omega | rfl | (simp; done) | fail) only []
  rw [← ev]
  unfold S10_k1
  simp -implicitDefEqProofs (maxSteps := 2000000) (disch := first | with_reducible exact Nat.ne_of_beq_eq_false rfl | exact oneCell_int | exact oneCell_bool | omega | rfl | (simp; done) | fail) only [cf23]
  refine (rnew_spec (n := 6) (by decide) (by decide)).mono ?_
  rintro _ h2 ⟨a2, tp2, rfl, t2, s2, d2⟩
  have s3 : HL.Sep [a, a2] h2 := ((HL.Sep.split s2 s1).take 2 rfl).swap
  try simp -implicitDefEqProofs (maxSteps := 2000000) (disch := first | with_reducible exact Nat.ne_of_beq_eq_false rfl | exact oneCell_int | exact oneCell_bool | omega | rfl | (simp; done) | fail) only [opH_sv, opH_su, pureW_sv, opH_nil, pureW_nil, pick_t, pick_f, pick_tp, pick_fp, gd_tt, gd_ft, gd_tf, gd_ff, box_new, regs0, regs1, regs2, regs3, regs4, regs5, regs6, cells_agg, cells_int, cells_bool, cells_ptr, cells_slice, cells_string, cells_func, cells_nilFunc, cells_map, retK_ret, retK_normal, resL_tmp, resL_cell, resL_nil0, resL_nil1, resL_nil2, resL_nil3, resC_ptr, ex0, ex1, ex2, ex0p, ex1p, ex2p, HL.cond_true, HL.cond_false, thenK_normal, thenK_ret, thenK_exit, blockK_normal, blockK_ret, blockK_exit, scopeK_normal, scopeK_ret, scopeK_exit, wpH_pure, bin_add, bin_sub, bin_mul, bin_lss, bin_leq, bin_gtr, bin_geq, bin_quo, bin_rem, bin_quop, bin_remp, wrap_in, bin_addp, bin_subp, bin_mulp, bin_lssp, bin_leqp, bin_gtrp, bin_geqp, un_not, un_notp, un_neg, eq_int, ne_int, eq_intp, ne_intp, callV_fn, add_mk, upd_eq, upd_ne, cell_set_self, Nat.zero_add, Nat.add_zero, Option.some.injEq, exists_eq_left', List.getElem?_cons_succ, List.getElem?_cons_zero, true_and, and_true, bne_self_eq_false, beq_self_eq_true, Bool.not_true, Bool.not_false, Bool.and_true, Bool.and_self, Bool.and_false, Bool.true_and, List.length_cons, List.length_nil, ne_eq, not_false_eq_true, Nat.reduceAdd, Nat.reduceMul, if_true, if_false, oneCell_int, oneCell_bool, oneCell_ptr, oneCell_slice, oneCell_string, oneCell_func, oneCell_map, Int.toNat_natCast, List.set_cons_zero, List.set_cons_succ, Nat.lt_irrefl, Nat.zero_lt_succ, Nat.succ_lt_succ_iff, fa30_0, fa30_0p, fa30_1, fa30_1p, fa30_2, fa30_2p, fa35_0, fa35_0p, fa35_1, fa35_1p, fa35_2, fa35_2p, fa51_0, fa51_0p, fa51_1, fa51_1p, fa51_2, fa51_2p, fa51_3, fa51_3p, fa51_4, fa51_4p, fa51_5, fa51_5p, fa68_0, fa68_0p, fa76_0, fa76_0p, fa88_0, fa88_0p, fa88_1, fa88_1p, fa88_2, fa88_2p, fa90_0, fa90_0p, fa90_1, fa90_1p, ld3, ld3p, ld22, ld22p, ld23, ld23p, ld30, ld30p, ld32, ld32p, ld35, ld35p, ld39, ld39p, ld51, ld51p, ld58, ld58p, ld66, ld66p, st3s, st30w, st32s, st35w, st39s, st51w, st58w, st88w, st90w, ix22, ix22p, ix32, ix32p, ix39, ix39p, ix46, ix46p, ix64, ix64p, ix66, ix66p, ix78, ix78p, ix81, ix81p, ln22, ln22p, ln32, ln32p, ln39, ln39p, ln46, ln46p, ln64, ln64p, ln66, ln66p, ln78, ln78p, ln81, ln81p, al30, al35, al39, al56, al58, cf12, cf13, cf14, cf15, cf16, cf17, cf18, cf19, cf20, cf21, cf22, cf23, cf24, cf25, cf26, cf27, cf28, cf29, cf30, cf31, cf32, cf33, cf34, cf35, cf36, cf37, cf38, cf39, cf40, cf41, cf42, cf43, cf44, cf45, cf46, cf47, cf48, cf49, cf50, cf51, cf52, cf53, cf54, cf55, cf56, cf57, cf58, cf60, cf61, cf62, cf63, cf64, bd30_0_1_2, bd30_0_1_2p, bd30_1, bd30_1p, bd30_1_2, bd30_1_2p, bd35_0, bd35_0p, bd35_0_1_2, bd35_0_1_2p, bd58_0_1, bd58_0_1p, bd68_0, bd68_0p, bd76_0, bd76_0p, bd88_0_1_2, bd88_0_1_2p, bd90_0_1, bd90_0_1p, bs22_1_0, bs32_1_0, bs39_1_0, bs78_1_0, bs81_1_0, eq4, eq4p, eq23n, eq23np, eq23s, eq23sp, eq37n, eq37np, eq37s, eq37sp, ne4, ne4p, ne23n, ne23np, ne23s, ne23sp, ne35, ne35p]
  have fin : ∀ (T : Tb) (a a2 : Hp) (r1 : Rg) (h3 : Hp), r1 0 = .slice sa l.length cap → r1 5 = .pointer (some ⟨tp, 0, none⟩) → r1 1 = v → Tab 68 a tp T → HL.Sep [a, a2] h3 → Dis G h3 → GoodT T → Few T (30 * 61) → T.length = 6 → S10_k2 G (bkK G) r1 h3 := fun T a a2 r1 h3 _ k3 k1 t s d g f l => back_rest hw (by omega) k1 k3 t s g f (by decide) l
  unfold bkK at fin
  generalize hKK : retK Try.prog G _ _ = KK at fin ⊢
  refine loop_I (fun m q h3 => ∃ (i : Nat) (a a2 : Hp) (T : Tb), m = 30 - i ∧ i ≤ 30 ∧ q 0 = .slice sa l.length cap ∧ q 8 = .int .i64 i ∧ q 5 = .pointer (some ⟨tp, 0, none⟩) ∧ q 7 = .pointer (some ⟨tp2, 0, none⟩) ∧ q 1 = v ∧ Tab 68 a tp T ∧ Tab 76 a2 tp2 T ∧ HL.Sep [a, a2] h3 ∧ Dis G h3 ∧ GoodT T ∧ Few T (i * 61) ∧ T.length = 6) ?_
    (m := 30) ⟨0, a, a2, _, rfl, Nat.zero_le _, by simp -implicitDefEqProofs (maxSteps := 2000000) (disch := first | with_reducible exact Nat.ne_of_beq_eq_false rfl | exact oneCell_int | exact oneCell_bool | omega | rfl | (simp; done) | fail) only [upd_ne, regs0], by simp -implicitDefEqProofs (maxSteps := 2000000) (disch := first | with_reducible exact Nat.ne_of_beq_eq_false rfl | exact oneCell_int | exact oneCell_bool | omega | rfl | (simp; done) | fail) only [upd_eq] <;> rfl, by simp -implicitDefEqProofs (maxSteps := 2000000) (disch := first | with_reducible exact Nat.ne_of_beq_eq_false rfl | exact oneCell_int | exact oneCell_bool | omega | rfl | (simp; done) | fail) only [upd_ne, upd_eq], by simp -implicitDefEqProofs (maxSteps := 2000000) (disch := first | with_reducible exact Nat.ne_of_beq_eq_false rfl | exact oneCell_int | exact oneCell_bool | omega | rfl | (simp; done) | fail) only [upd_ne, upd_eq], by simp -implicitDefEqProofs (maxSteps := 2000000) (disch := first | with_reducible exact Nat.ne_of_beq_eq_false rfl | exact oneCell_int | exact oneCell_bool | omega | rfl | (simp; done) | fail) only [upd_ne, regs1], t1, t2, s3, d2, goodT_rep, fewT_rep, List.length_replicate⟩
  clear t1 t2 s3 d2
  rintro m q h3 ⟨i, a, a2, T, rfl, hi, q0, q8, q5, q7, p1, t1, t2, s3, d3, gT, fT, lT⟩ X HX
  have f61 : Few T (30 * 61) := few_le fT (Nat.mul_le_mul_right 61 hi)
  unfold S10_l11
  simp -implicitDefEqProofs (maxSteps := 2000000) (disch := first | with_reducible exact Nat.ne_of_beq_eq_false rfl | exact oneCell_int | exact oneCell_bool | omega | rfl | (simp; done) | fail) only [q0, q8, thenK_exit, blockK_exit, thenK_normal, if_true, opH_sv, ln46, bin_lss]
  by_cases hlt : (i : Int) < l.length
  · simp -implicitDefEqProofs (maxSteps := 2000000) (disch := first | with_reducible exact Nat.ne_of_beq_eq_false rfl | exact oneCell_int | exact oneCell_bool | omega | rfl | (simp; done) | fail) only [decide_eq_true hlt, pick_t, gd_tt, opH_sv, bin_lss]
    refine cond_dec (fun h50 => ?_) (fun h50 => ?_)
    · obtain ⟨x, hx⟩ : ∃ x, l[i]? = some x := ⟨_, List.getElem?_eq_getElem (by omega)⟩
      obtain ⟨ws, ok⟩ := hl x (List.mem_of_getElem? hx)
      obtain ⟨ob, oo, rfl, z0, z1, z2, z3, z4, z5⟩ := Sees.op (hv h3 d3) hx
      have eln := ok.1
      unfold S10_l11_k12
      simp -implicitDefEqProofs (maxSteps := 2000000) (disch := first | with_reducible exact Nat.ne_of_beq_eq_false rfl | exact oneCell_int | exact oneCell_bool | omega | rfl | (simp; done) | fail) only [upd_ne, q0, q8, thenK_ret, blockK_ret, cf13, opH_sv, ix46 (Int.natCast_nonneg i) hlt, Int.toNat_natCast, add_mk, fa51_5, ld22, z5, Option.some.injEq, exists_eq_left', ln22, bin_gtr]
      refine cond_dec (fun hbig => ?_) (fun hsm => ?_)
      · try simp -implicitDefEqProofs (maxSteps := 2000000) (disch := first | with_reducible exact Nat.ne_of_beq_eq_false rfl | exact oneCell_int | exact oneCell_bool | omega | rfl | (simp; done) | fail) only [opH_sv, opH_su, pureW_sv, opH_nil, pureW_nil, pick_t, pick_f, pick_tp, pick_fp, gd_tt, gd_ft, gd_tf, gd_ff, box_new, regs0, regs1, regs2, regs3, regs4, regs5, regs6, cells_agg, cells_int, cells_bool, cells_ptr, cells_slice, cells_string, cells_func, cells_nilFunc, cells_map, retK_ret, retK_normal, resL_tmp, resL_cell, resL_nil0, resL_nil1, resL_nil2, resL_nil3, resC_ptr, ex0, ex1, ex2, ex0p, ex1p, ex2p, HL.cond_true, HL.cond_false, thenK_normal, thenK_ret, thenK_exit, blockK_normal, blockK_ret, blockK_exit, scopeK_normal, scopeK_ret, scopeK_exit, wpH_pure, bin_add, bin_sub, bin_mul, bin_lss, bin_leq, bin_gtr, bin_geq, bin_quo, bin_rem, bin_quop, bin_remp, wrap_in, bin_addp, bin_subp, bin_mulp, bin_lssp, bin_leqp, bin_gtrp, bin_geqp, un_not, un_notp, un_neg, eq_int, ne_int, eq_intp, ne_intp, callV_fn, add_mk, upd_eq, upd_ne, cell_set_self, Nat.zero_add, Nat.add_zero, Option.some.injEq, exists_eq_left', List.getElem?_cons_succ, List.getElem?_cons_zero, true_and, and_true, bne_self_eq_false, beq_self_eq_true, Bool.not_true, Bool.not_false, Bool.and_true, Bool.and_self, Bool.and_false, Bool.true_and, List.length_cons, List.length_nil, ne_eq, not_false_eq_true, Nat.reduceAdd, Nat.reduceMul, if_true, if_false, oneCell_int, oneCell_bool, oneCell_ptr, oneCell_slice, oneCell_string, oneCell_func, oneCell_map, Int.toNat_natCast, List.set_cons_zero, List.set_cons_succ, Nat.lt_irrefl, Nat.zero_lt_succ, Nat.succ_lt_succ_iff, fa30_0, fa30_0p, fa30_1, fa30_1p, fa30_2, fa30_2p, fa35_0, fa35_0p, fa35_1, fa35_1p, fa35_2, fa35_2p, fa51_0, fa51_0p, fa51_1, fa51_1p, fa51_2, fa51_2p, fa51_3, fa51_3p, fa51_4, fa51_4p, fa51_5, fa51_5p, fa68_0, fa68_0p, fa76_0, fa76_0p, fa88_0, fa88_0p, fa88_1, fa88_1p, fa88_2, fa88_2p, fa90_0, fa90_0p, fa90_1, fa90_1p, ld3, ld3p, ld22, ld22p, ld23, ld23p, ld30, ld30p, ld32, ld32p, ld35, ld35p, ld39, ld39p, ld51, ld51p, ld58, ld58p, ld66, ld66p, st3s, st30w, st32s, st35w, st39s, st51w, st58w, st88w, st90w, ix22, ix22p, ix32, ix32p, ix39, ix39p, ix46, ix46p, ix64, ix64p, ix66, ix66p, ix78, ix78p, ix81, ix81p, ln22, ln22p, ln32, ln32p, ln39, ln39p, ln46, ln46p, ln64, ln64p, ln66, ln66p, ln78, ln78p, ln81, ln81p, al30, al35, al39, al56, al58, cf12, cf13, cf14, cf15, cf16, cf17, cf18, cf19, cf20, cf21, cf22, cf23, cf24, cf25, cf26, cf27, cf28, cf29, cf30, cf31, cf32, cf33, cf34, cf35, cf36, cf37, cf38, cf39, cf40, cf41, cf42, cf43, cf44, cf45, cf46, cf47, cf48, cf49, cf50, cf51, cf52, cf53, cf54, cf55, cf56, cf57, cf58, cf60, cf61, cf62, cf63, cf64, bd30_0_1_2, bd30_0_1_2p, bd30_1, bd30_1p, bd30_1_2, bd30_1_2p, bd35_0, bd35_0p, bd35_0_1_2, bd35_0_1_2p, bd58_0_1, bd58_0_1p, bd68_0, bd68_0p, bd76_0, bd76_0p, bd88_0_1_2, bd88_0_1_2p, bd90_0_1, bd90_0_1p, bs22_1_0, bs32_1_0, bs39_1_0, bs78_1_0, bs81_1_0, eq4, eq4p, eq23n, eq23np, eq23s, eq23sp, eq37n, eq37np, eq37s, eq37sp, ne4, ne4p, ne23n, ne23np, ne23s, ne23sp, ne35, ne35p]
        refine awake_spec.mono ?_
        rintro _ _ ⟨rfl, rfl⟩
        rw [← hKK]
        try simp -implicitDefEqProofs (maxSteps := 2000000) (disch := first | with_reducible exact Nat.ne_of_beq_eq_false rfl | exact oneCell_int | exact oneCell_bool | omega | rfl | (simp; done) | fail) only [retK_ret, resL_tmp, upd_eq, resL_nil1]
      unfold S10_l11_k14
      simp -implicitDefEqProofs (maxSteps := 2000000) (disch := first | with_reducible exact Nat.ne_of_beq_eq_false rfl | exact oneCell_int | exact oneCell_bool | omega | rfl | (simp; done) | fail) only [upd_ne, q0, q8, q5, q7, cf24, opH_sv, ix46 (Int.natCast_nonneg i) hlt, Int.toNat_natCast, add_mk, ld51, Nat.add_zero, z0, Option.some.injEq, z1, z2, z3, z4, z5, exists_eq_left']
      refine (do_spec (b := i * 61) t1 t2 s3 ok gT fT (by omega) (by omega)).mono ?_
      rintro _ h4 ⟨rfl, a', a2', t1', t2', s4, d4⟩
      obtain ⟨g', f', l'⟩ := opT_inv (o := x) (ws := ws) gT fT
      unfold S10_l11_k13
      simp -implicitDefEqProofs (maxSteps := 2000000) (disch := first | with_reducible exact Nat.ne_of_beq_eq_false rfl | exact oneCell_int | exact oneCell_bool | omega | rfl | (simp; done) | fail) only [upd_ne, q8, thenK_normal, opH_sv, bin_add, wrap_in]
      exact HX (30 - (i + 1)) _ _ (by omega) ⟨i + 1, a', a2', opT T x ws, rfl, by omega, by simp -implicitDefEqProofs (maxSteps := 2000000) (disch := first | with_reducible exact Nat.ne_of_beq_eq_false rfl | exact oneCell_int | exact oneCell_bool | omega | rfl | (simp; done) | fail) only [upd_ne, q0], by simp -implicitDefEqProofs (maxSteps := 2000000) (disch := first | with_reducible exact Nat.ne_of_beq_eq_false rfl | exact oneCell_int | exact oneCell_bool | omega | rfl | (simp; done) | fail) only [upd_eq] <;> rfl, by simp -implicitDefEqProofs (maxSteps := 2000000) (disch := first | with_reducible exact Nat.ne_of_beq_eq_false rfl | exact oneCell_int | exact oneCell_bool | omega | rfl | (simp; done) | fail) only [upd_ne, q5], by simp -implicitDefEqProofs (maxSteps := 2000000) (disch := first | with_reducible exact Nat.ne_of_beq_eq_false rfl | exact oneCell_int | exact oneCell_bool | omega | rfl | (simp; done) | fail) only [upd_ne, q7], by simp -implicitDefEqProofs (maxSteps := 2000000) (disch := first | with_reducible exact Nat.ne_of_beq_eq_false rfl | exact oneCell_int | exact oneCell_bool | omega | rfl | (simp; done) | fail) only [upd_ne, p1], t1', t2', s4, d4, g', few_le f' (by omega), l'.trans lT⟩
    · try simp -implicitDefEqProofs (maxSteps := 2000000) (disch := first | with_reducible exact Nat.ne_of_beq_eq_false rfl | exact oneCell_int | exact oneCell_bool | omega | rfl | (simp; done) | fail) only [opH_sv, opH_su, pureW_sv, opH_nil, pureW_nil, pick_t, pick_f, pick_tp, pick_fp, gd_tt, gd_ft, gd_tf, gd_ff, box_new, regs0, regs1, regs2, regs3, regs4, regs5, regs6, cells_agg, cells_int, cells_bool, cells_ptr, cells_slice, cells_string, cells_func, cells_nilFunc, cells_map, retK_ret, retK_normal, resL_tmp, resL_cell, resL_nil0, resL_nil1, resL_nil2, resL_nil3, resC_ptr, ex0, ex1, ex2, ex0p, ex1p, ex2p, HL.cond_true, HL.cond_false, thenK_normal, thenK_ret, thenK_exit, blockK_normal, blockK_ret, blockK_exit, scopeK_normal, scopeK_ret, scopeK_exit, wpH_pure, bin_add, bin_sub, bin_mul, bin_lss, bin_leq, bin_gtr, bin_geq, bin_quo, bin_rem, bin_quop, bin_remp, wrap_in, bin_addp, bin_subp, bin_mulp, bin_lssp, bin_leqp, bin_gtrp, bin_geqp, un_not, un_notp, un_neg, eq_int, ne_int, eq_intp, ne_intp, callV_fn, add_mk, upd_eq, upd_ne, cell_set_self, Nat.zero_add, Nat.add_zero, Option.some.injEq, exists_eq_left', List.getElem?_cons_succ, List.getElem?_cons_zero, true_and, and_true, bne_self_eq_false, beq_self_eq_true, Bool.not_true, Bool.not_false, Bool.and_true, Bool.and_self, Bool.and_false, Bool.true_and, List.length_cons, List.length_nil, ne_eq, not_false_eq_true, Nat.reduceAdd, Nat.reduceMul, if_true, if_false, oneCell_int, oneCell_bool, oneCell_ptr, oneCell_slice, oneCell_string, oneCell_func, oneCell_map, Int.toNat_natCast, List.set_cons_zero, List.set_cons_succ, Nat.lt_irrefl, Nat.zero_lt_succ, Nat.succ_lt_succ_iff, fa30_0, fa30_0p, fa30_1, fa30_1p, fa30_2, fa30_2p, fa35_0, fa35_0p, fa35_1, fa35_1p, fa35_2, fa35_2p, fa51_0, fa51_0p, fa51_1, fa51_1p, fa51_2, fa51_2p, fa51_3, fa51_3p, fa51_4, fa51_4p, fa51_5, fa51_5p, fa68_0, fa68_0p, fa76_0, fa76_0p, fa88_0, fa88_0p, fa88_1, fa88_1p, fa88_2, fa88_2p, fa90_0, fa90_0p, fa90_1, fa90_1p, ld3, ld3p, ld22, ld22p, ld23, ld23p, ld30, ld30p, ld32, ld32p, ld35, ld35p, ld39, ld39p, ld51, ld51p, ld58, ld58p, ld66, ld66p, st3s, st30w, st32s, st35w, st39s, st51w, st58w, st88w, st90w, ix22, ix22p, ix32, ix32p, ix39, ix39p, ix46, ix46p, ix64, ix64p, ix66, ix66p, ix78, ix78p, ix81, ix81p, ln22, ln22p, ln32, ln32p, ln39, ln39p, ln46, ln46p, ln64, ln64p, ln66, ln66p, ln78, ln78p, ln81, ln81p, al30, al35, al39, al56, al58, cf12, cf13, cf14, cf15, cf16, cf17, cf18, cf19, cf20, cf21, cf22, cf23, cf24, cf25, cf26, cf27, cf28, cf29, cf30, cf31, cf32, cf33, cf34, cf35, cf36, cf37, cf38, cf39, cf40, cf41, cf42, cf43, cf44, cf45, cf46, cf47, cf48, cf49, cf50, cf51, cf52, cf53, cf54, cf55, cf56, cf57, cf58, cf60, cf61, cf62, cf63, cf64, bd30_0_1_2, bd30_0_1_2p, bd30_1, bd30_1p, bd30_1_2, bd30_1_2p, bd35_0, bd35_0p, bd35_0_1_2, bd35_0_1_2p, bd58_0_1, bd58_0_1p, bd68_0, bd68_0p, bd76_0, bd76_0p, bd88_0_1_2, bd88_0_1_2p, bd90_0_1, bd90_0_1p, bs22_1_0, bs32_1_0, bs39_1_0, bs78_1_0, bs81_1_0, eq4, eq4p, eq23n, eq23np, eq23s, eq23sp, eq37n, eq37np, eq37s, eq37sp, ne4, ne4p, ne23n, ne23np, ne23s, ne23sp, ne35, ne35p]
      exact fin T a a2 _ _ (by simp -implicitDefEqProofs (maxSteps := 2000000) (disch := first | with_reducible exact Nat.ne_of_beq_eq_false rfl | exact oneCell_int | exact oneCell_bool | omega | rfl | (simp; done) | fail) only [upd_ne, q0]) (by simp -implicitDefEqProofs (maxSteps := 2000000) (disch := first | with_reducible exact Nat.ne_of_beq_eq_false rfl | exact oneCell_int | exact oneCell_bool | omega | rfl | (simp; done) | fail) only [upd_ne, q5]) (by simp -implicitDefEqProofs (maxSteps := 2000000) (disch := first | with_reducible exact Nat.ne_of_beq_eq_false rfl | exact oneCell_int | exact oneCell_bool | omega | rfl | (simp; done) | fail) only [upd_ne, p1]) t1 s3 d3 gT f61 lT
  · simp -implicitDefEqProofs (maxSteps := 2000000) (disch := first | with_reducible exact Nat.ne_of_beq_eq_false rfl | exact oneCell_int | exact oneCell_bool | omega | rfl | (simp; done) | fail) only [decide_eq_false hlt, pick_f, HL.cond_false, gd_ft]
    exact fin T a a2 _ _ (by simp -implicitDefEqProofs (maxSteps := 2000000) (disch := first | with_reducible exact Nat.ne_of_beq_eq_false rfl | exact oneCell_int | exact oneCell_bool | omega | rfl | (simp; done) | fail) only [upd_ne, q0]) (by simp -implicitDefEqProofs (maxSteps := 2000000) (disch := first | with_reducible exact Nat.ne_of_beq_eq_false rfl | exact oneCell_int | exact oneCell_bool | omega | rfl | (simp; done) | fail) only [upd_ne, q5]) (by simp -implicitDefEqProofs (maxSteps := 2000000) (disch := first | with_reducible exact Nat.ne_of_beq_eq_false rfl | exact oneCell_int | exact oneCell_bool | omega | rfl | (simp; done) | fail) only [upd_ne, p1]) t1 s3 d3 gT f61 lT

end Go.Proofs.Ytbloobepmgmbgaa
