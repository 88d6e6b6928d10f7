/- Texts of the proof, one behind the other. -/
import Derived.Test.YtnpdploihlgcgaaDoorM3
import Derived.Test.YtnpdploihlgcgaaDoorM1
section
/- The robots of a grid: their cells. -/
set_option linter.unusedSimpArgs false
set_option linter.unusedVariables false
set_option maxRecDepth 100000
namespace Go.Proofs.YtnpdploihlgcgaaDoor
open Go Go.HL

def f2 (w k : Nat) (f : Nat → Nat → Int) (T : List Cell) (x y : Nat) : Int := if ((x : Int), (y : Int)) ∈ T then -2 else f1 w k f x y

theorem f2_open {w k : Nat} {f : Nat → Nat → Int} {T : List Cell} (hT : ∀ c ∈ T, fAt f c ≠ -1) (x y : Nat) : f2 w k f T x y = -1 ↔ f x y = -1 := by
  unfold f2
  split
  · rename_i h
    have := hT _ h
    simp only [fAt, Int.toNat_natCast] at this
    constructor
    · intro e; omega
    · intro e; exact absurd e this
  · exact f1_open x y

theorem f2_snoc {w k : Nat} {f : Nat → Nat → Int} {T : List Cell} {c : Cell} (h1 : 0 ≤ c.1) (h2 : 0 ≤ c.2) : f2 w k f (T ++ [c]) = fun p q => if p = c.1.toNat ∧ q = c.2.toNat then -2 else f2 w k f T p q := by
  funext p q
  unfold f2
  by_cases hpq : p = c.1.toNat ∧ q = c.2.toNat
  · have e : ((p : Int), (q : Int)) = c := by rw [hpq.1, hpq.2, Int.toNat_of_nonneg h1, Int.toNat_of_nonneg h2]
    rw [if_pos hpq, e, if_pos (by simp)]
  · have e : ((p : Int), (q : Int)) ≠ c := fun e => hpq (by rw [← e]; simp)
    rw [if_neg hpq]
    by_cases hm : ((p : Int), (q : Int)) ∈ T
    · rw [if_pos (by simp [hm]), if_pos hm]
    · rw [if_neg (by simp [hm, e]), if_neg hm]

theorem GO.other {h : Hp} {gp kb w k : Nat} {f : Nat → Nat → Int} (g : GO h gp kb w k f) {b : Nat} {cs : Array Value} {e : TypeId} {o : Obj} (hb : h b = some (.cells cs e (0, 0))) (h1 : e ≠ 86) (h2 : e ≠ 3) : GO (h.set b o) gp kb w k f := by
  have n1 : gp ≠ b := fun q => by have := g.hd; rw [q, hb] at this; simp at this; exact h1 this.2
  have n2 : kb ≠ b := fun q => by have := g.row; rw [q, hb] at this; simp at this; exact h2 this.2
  exact ⟨by rw [set_other n1]; exact g.hd, by rw [set_other n2]; exact g.row, g.w1, g.w2, g.k1, g.k2⟩
theorem MK.other {h : Hp} {mb w k : Nat} {f : Nat → Nat → Bool} (g : MK h mb w k f) {b : Nat} {cs : Array Value} {e : TypeId} {o : Obj} (hb : h b = some (.cells cs e (0, 0))) (h1 : e ≠ 4) : MK (h.set b o) mb w k f := by
  unfold MK at *
  have n1 : mb ≠ b := fun q => by rw [q, hb] at g; simp at g; exact h1 g.2
  rw [set_other n1]; exact g
theorem MK.le {a h : Hp} {mb w k : Nat} {f : Nat → Nat → Bool} (g : MK a mb w k f) (l : a.le h) : MK h mb w k f := l _ _ g

set_option maxHeartbeats 2000000 in
theorem robots_in {G : Hp} {gp kb mb w k : Nat} {f : Nat → Nat → Int} {KK : Exit → Rg → Hp → Prop} {cs T0 : List Cell} {cb : Nat} {p : Pose} (r : Rg) (h : Hp) (hcs : cs = cellsP p) (hin : ∀ c ∈ cs, inW w k c = true)
    (hc : h cb = some (.cells #[.int .i64 p.x, .int .i64 p.y, .int .i64 (east p).1, .int .i64 (east p).2] 28 (0, 0))) (g0 : r 0 = .pointer (some ⟨gp, 0, none⟩)) (g7 : r 7 = .slice (some ⟨mb, 0, none⟩) (w * k) (w * k)) (g91 : r 91 = .slice (some ⟨cb, 0, none⟩) 2 2) (g92 : r 92 = .int .i64 2) (g93 : r 93 = .int .i64 0)
    (go : GO h gp kb w k (f2 w k f T0)) (mk : MK h mb w k (seenT T0)) (d : Dis G h) (hnd0 : T0.Nodup)
    (H1 : (∀ c ∈ cs, fAt (f1 w k f) c ≤ 0) → (T0 ++ cs).Nodup → ∀ (r' : Rg) h', r' 0 = r 0 → r' 7 = r 7 → r' 79 = r 79 → r' 80 = r 80 → r' 81 = r 81 → GO h' gp kb w k (f2 w k f (T0 ++ cs)) → MK h' mb w k (seenT (T0 ++ cs)) → Dis G h' → KK (.exit 4) r' h')
    (H2 : ¬ ((∀ c ∈ cs, fAt (f1 w k f) c ≤ 0) ∧ (T0 ++ cs).Nodup) → ∀ (r' : Rg) h', r' 4 = .bool false → Dis G h' → KK .ret r' h') : loopP (S73_l4_l8 G) r h KK := by
  have hlen : cs.length = 2 := by rw [hcs]; rfl
  refine loop_I (fun m r2 h3 => ∃ j : Nat, m = 2 - j ∧ j ≤ 2 ∧ r2 0 = r 0 ∧ r2 7 = r 7 ∧ r2 79 = r 79 ∧ r2 80 = r 80 ∧ r2 81 = r 81 ∧ r2 91 = r 91 ∧ r2 92 = r 92 ∧ r2 93 = .int .i64 j ∧ (∀ c ∈ cs.take j, fAt (f1 w k f) c ≤ 0) ∧ (T0 ++ cs.take j).Nodup ∧
     GO h3 gp kb w k (f2 w k f (T0 ++ cs.take j)) ∧ MK h3 mb w k (seenT (T0 ++ cs.take j)) ∧ h3 cb = some (.cells #[.int .i64 p.x, .int .i64 p.y, .int .i64 (east p).1, .int .i64 (east p).2] 28 (0, 0)) ∧ Dis G h3) ?_
    (m := 2) ⟨0, rfl, Nat.zero_le _, rfl, rfl, rfl, rfl, rfl, rfl, rfl, by rw [g93]; rfl, by simp, by simpa using hnd0, by simpa using go, by simpa using mk, hc, d⟩
  rintro m r2 h3 ⟨j, rfl, hj, q0, q7, q79, q80, q81, q91, q92, q93, hok, hnd, go, mk, hc3, d3⟩ X HX
  rw [g0] at q0
  rw [g7] at q7
  rw [g91] at q91
  rw [g92] at q92
  unfold S73_l4_l8
  simp -implicitDefEqProofs only [q93, q92, thenK_exit, opH_sv, bin_lss]
  refine cond_dec (fun hlt => ?_) (fun hge => ?_)
  rotate_left
  · obtain rfl : j = 2 := by omega
    rw [List.take_of_length_le (by omega)] at hok hnd go mk
    exact H1 hok hnd _ _ (by simp -implicitDefEqProofs (disch := first | with_reducible exact Nat.ne_of_beq_eq_false rfl | omega) only [upd_ne, q0, g0]) (by simp -implicitDefEqProofs (disch := first | with_reducible exact Nat.ne_of_beq_eq_false rfl | omega) only [upd_ne, q7, g7]) (by simp -implicitDefEqProofs (disch := first | with_reducible exact Nat.ne_of_beq_eq_false rfl | omega) only [upd_ne, q79]) (by simp -implicitDefEqProofs (disch := first | with_reducible exact Nat.ne_of_beq_eq_false rfl | omega) only [upd_ne, q80]) (by simp -implicitDefEqProofs (disch := first | with_reducible exact Nat.ne_of_beq_eq_false rfl | omega) only [upd_ne, q81]) go mk d3
  have hlt' : j < 2 := by omega
  obtain ⟨y, hy⟩ : ∃ x, cs[j]? = some x := ⟨_, List.getElem?_eq_getElem (by omega)⟩
  have hym : y ∈ cs := List.mem_of_getElem? hy
  have sv : Sees cellC G h3 (.slice (some ⟨cb, 0, none⟩) cs.length 2) cs := by rw [hcs]; exact Sees.row hc3 rfl (Nat.le_refl _)
  obtain ⟨b, ofs, eb, z0, z1⟩ := Sees.cell sv hy
  cases eb
  rw [Nat.zero_add] at z0 z1
  unfold S73_l4_l8_k9
  simp -implicitDefEqProofs (disch := first | with_reducible exact Nat.ne_of_beq_eq_false rfl | omega) only [upd_ne, q91, q93, thenK_ret, opH_sv, cf37, opH_su, al28, ld28, add_mk, Nat.add_zero, Nat.zero_add, ix22 (Int.natCast_nonneg j) (show (j : Int) < (2 : Nat) by omega), Int.toNat_natCast, z0, Option.some.injEq, z1, exists_eq_left', st28w, cell_set_self, List.getElem?_cons_zero, List.getElem?_cons_succ]
  intro t ht gt
  have go4 : GO (h3.set t (.cells #[.int .i64 y.1, .int .i64 y.2] 28 (0, 0))) gp kb w k (f2 w k f (T0 ++ cs.take j)) := go.le (le_set ht)
  have mk4 : MK (h3.set t (.cells #[.int .i64 y.1, .int .i64 y.2] 28 (0, 0))) mb w k (seenT (T0 ++ cs.take j)) := mk.le (le_set ht)
  have hc4 := le_set (o := .cells #[.int .i64 y.1, .int .i64 y.2] 28 (0, 0)) ht _ _ hc3
  have d4 := d3.set (o := .cells #[.int .i64 y.1, .int .i64 y.2] 28 (0, 0)) gt
  try simp -implicitDefEqProofs only [q0]
  generalize h3.set t (.cells #[.int .i64 y.1, .int .i64 y.2] 28 (0, 0)) = h4 at *
  refine (num_spec (c := y) (go4.gs (G := G))).mono ?_
  rintro _ h4 ⟨rfl, rfl⟩
  have hc' := hin y hym
  obtain ⟨hn, hx, hyk, hlt2⟩ := numI_nat hc'
  obtain ⟨a1, a2, a3, a4⟩ := inW_iff.1 hc'
  have hxy : ((y.1.toNat : Int), (y.2.toNat : Int)) = y := by rw [Int.toNat_of_nonneg a1, Int.toNat_of_nonneg a3]
  have mg := mk_get (G := G) mk4 (Hp.le.refl _) hx hyk
  rw [show seenT (T0 ++ cs.take j) y.1.toNat y.2.toNat = decide (y ∈ T0 ++ cs.take j) by unfold seenT; rw [hxy]] at mg
  have kn : cellIn G h4 ⟨kb, y.2.toNat * w + y.1.toNat, none⟩ = some (.int .i64 (f2 w k f (T0 ++ cs.take j) y.1.toNat y.2.toNat)) := by
    rw [cell_of (look_own go4.row)]
    exact rows_one_get icC rfl rfl (gridL_get hx hyk)
  have cg4 : ∀ j, cellIn G h4 ⟨gp, j, none⟩ = _ := fun j => cell_of (look_own go4.hd)
  have g5 := go4.put (v := -2) hx hyk
  have m5 := mk4.put (v := true) hx hyk
  rw [hn]
  generalize hnn : y.2.toNat * w + y.1.toNat = n at hn hlt2 mg kn g5 m5
  have htk : T0 ++ cs.take (j + 1) = (T0 ++ cs.take j) ++ [y] := by rw [take_get hy, List.append_assoc]
  have bad : y ∈ T0 ++ cs.take j ∨ fAt (f1 w k f) y > 0 → ¬ ((∀ c ∈ cs, fAt (f1 w k f) c ≤ 0) ∧ (T0 ++ cs).Nodup) := by
    rintro (hm | hp) ⟨h1, h2⟩
    · refine not_nodup (L := T0 ++ cs) (i := T0.length + j) (x := y) (by rw [List.getElem?_append_right (by omega), Nat.add_sub_cancel_left]; exact hy) ?_ h2
      rw [List.take_append, List.take_of_length_le (by omega), Nat.add_sub_cancel_left]
      exact hm
    · have := h1 y hym; omega
  try simp -implicitDefEqProofs only [q7, ix101n hlt2, ld4, mg, Option.some.injEq, exists_eq_left']
  by_cases hmem : y ∈ T0 ++ cs.take j
  · try simp -implicitDefEqProofs only [decide_eq_true hmem, pick_t, HL.cond_true, gd_tf]
    exact H2 (bad (.inl hmem)) _ _ (by simp -implicitDefEqProofs only [upd_eq]) d4
  have hf2 : f2 w k f (T0 ++ cs.take j) y.1.toNat y.2.toNat = fAt (f1 w k f) y := by
    unfold f2
    rw [hxy, if_neg hmem]
    rfl
  rw [hf2] at kn
  try simp -implicitDefEqProofs only [decide_eq_false hmem, pick_f, gd_ff, opH_sv, opH_nil, fa86_2, add_mk, Nat.zero_add, ld57, cg4, List.getElem?_cons_succ, List.getElem?_cons_zero, Option.some.injEq, exists_eq_left', ix57n hlt2, ld3, kn, bin_gtr]
  by_cases hpos : fAt (f1 w k f) y > 0
  · try simp -implicitDefEqProofs only [decide_eq_true hpos, HL.cond_true]
    exact H2 (bad (.inr hpos)) _ _ (by simp -implicitDefEqProofs only [upd_eq]) d4
  try simp -implicitDefEqProofs (disch := first | with_reducible exact Nat.ne_of_beq_eq_false rfl | omega) only [decide_eq_false hpos, HL.cond_false]
  unfold S73_l4_l8_k11
  try simp -implicitDefEqProofs (disch := first | with_reducible exact Nat.ne_of_beq_eq_false rfl | omega) only [upd_ne, q7, upd_eq, opH_su, opH_sv, ix101n hlt2]
  rw [store1_eq sz4 rfl mk4 (by rw [bcC.rows_length, gridL_length]; simp [bcC]; exact hlt2)]
  have go6 := go4.other (o := .cells ((bcC.rows (gridL w k (seenT (T0 ++ cs.take j)))).set n (.bool true)).toArray 4 (0, 0)) mk4 (by decide) (by decide)
  have hc6 : (h4.set mb (.cells ((bcC.rows (gridL w k (seenT (T0 ++ cs.take j)))).set n (.bool true)).toArray 4 (0, 0))) cb = _ := (set_other (fun q => by unfold MK at mk4; rw [← q, hc4] at mk4; simp at mk4)).trans hc4
  have d6 : Dis G (h4.set mb (.cells ((bcC.rows (gridL w k (seenT (T0 ++ cs.take j)))).set n (.bool true)).toArray 4 (0, 0))) := d4.set (d4 _ _ mk4)
  generalize h4.set mb (.cells ((bcC.rows (gridL w k (seenT (T0 ++ cs.take j)))).set n (.bool true)).toArray 4 (0, 0)) = h6 at *
  have cg6 : ∀ j, cellIn G h6 ⟨gp, j, none⟩ = _ := fun j => cell_of (look_own go6.hd)
  try simp -implicitDefEqProofs (disch := first | with_reducible exact Nat.ne_of_beq_eq_false rfl | omega) only [q0, opH_nil, fa86_2, add_mk, Nat.zero_add, ld57, cg6, List.getElem?_cons_succ, List.getElem?_cons_zero, Option.some.injEq, exists_eq_left', ix57n hlt2]
  rw [store1_eq sz3 rfl go6.row (by rw [icC.rows_length, gridL_length]; simp [icC]; exact hlt2)]
  have go7 := go6.put (v := -2) hx hyk
  rw [hnn, ← f2_snoc a1 a3, ← htk] at go7
  have mk7 := m5.other (o := .cells ((icC.rows (gridL w k (f2 w k f (T0 ++ cs.take j)))).set n (.int .i64 (-2))).toArray 3 (0, 0)) go6.row (by decide)
  rw [← seen_snoc a1 a3, ← htk] at mk7
  have nkc : cb ≠ kb := fun q => by have := go6.row; rw [← q, hc6] at this; simp at this
  unfold S73_l4_l8_k10
  simp -implicitDefEqProofs (disch := first | with_reducible exact Nat.ne_of_beq_eq_false rfl | omega) only [upd_ne, q93, thenK_normal, opH_sv, bin_add, wrap_in]
  refine HX (2 - (j + 1)) _ _ (by omega) ⟨j + 1, rfl, hlt', by simp -implicitDefEqProofs (disch := first | with_reducible exact Nat.ne_of_beq_eq_false rfl | omega) only [upd_ne, q0, g0], by simp -implicitDefEqProofs (disch := first | with_reducible exact Nat.ne_of_beq_eq_false rfl | omega) only [upd_ne, q7, g7], by simp -implicitDefEqProofs (disch := first | with_reducible exact Nat.ne_of_beq_eq_false rfl | omega) only [upd_ne, q79], by simp -implicitDefEqProofs (disch := first | with_reducible exact Nat.ne_of_beq_eq_false rfl | omega) only [upd_ne, q80], by simp -implicitDefEqProofs (disch := first | with_reducible exact Nat.ne_of_beq_eq_false rfl | omega) only [upd_ne, q81], by simp -implicitDefEqProofs (disch := first | with_reducible exact Nat.ne_of_beq_eq_false rfl | omega) only [upd_ne, q91, g91], by simp -implicitDefEqProofs (disch := first | with_reducible exact Nat.ne_of_beq_eq_false rfl | omega) only [upd_ne, q92, g92], by simp -implicitDefEqProofs (disch := first | with_reducible exact Nat.ne_of_beq_eq_false rfl | omega) only [upd_eq] <;> rfl, ?_, ?_, go7, mk7, (set_other nkc).trans hc6, d6.set (d6 _ _ go6.row)⟩
  · rw [take_get hy]
    intro c hc
    rcases List.mem_append.1 hc with q | q
    · exact hok c q
    · simp at q; rw [q]; omega
  · rw [htk]
    exact List.nodup_append.2 ⟨hnd, by simp, fun a ha b hb => by simp at hb; subst hb; exact fun e => hmem (e ▸ ha)⟩

structure RobotsOk (w k : Nat) (f : Nat → Nat → Int) (ro : List Pose) : Prop where
  r8 : ro.length ≤ 8
  plain : ∀ x y, x < w → y < k → keepB w k f x y = false → f x y ≤ 0
  fit : ∀ p ∈ ro, fitsW w k f p = true
  low : ∀ c ∈ ro.flatMap cellsP, fAt (f1 w k f) c ≤ 0
  once : (ro.flatMap cellsP).Nodup

theorem fits_cells {w k : Nat} {f : Nat → Nat → Int} {p : Pose} (h : fitsW w k f p = true) : ∀ c ∈ cellsP p, inW w k c = true ∧ fAt f c ≠ -1 := by
  unfold fitsW openW at h
  simp only [Bool.and_eq_true] at h
  intro c hc
  unfold cellsP at hc
  simp only [List.mem_cons, List.not_mem_nil, or_false] at hc
  rcases hc with rfl | rfl
  · exact ⟨h.1.1, by have := h.1.2; simpa using this⟩
  · exact ⟨h.2.1, by have := h.2.2; simpa using this⟩

def RobR (w k gp kb : Nat) (f : Nat → Nat → Int) (ro : List Pose) (u : Value) (h' : Hp) : Prop :=
  (RobotsOk w k f ro ∧ u = .bool true ∧ GO h' gp kb w k (f2 w k f (ro.flatMap cellsP))) ∨ (¬ RobotsOk w k f ro ∧ u = .bool false)

set_option maxHeartbeats 2000000 in
theorem robots_spec {G h : Hp} {gp kb w k : Nat} {f : Nat → Nat → Int} {ro : List Pose} {rv : Value} (go : GO h gp kb w k f) (st : Steps G) (sv : GSees poseC G rv ro) (hp : ∀ p ∈ ro, PB p) :
    HCalls Tryd.prog G 73 #[.pointer (some ⟨gp, 0, none⟩), rv] h (RobR w k gp kb f ro) := by
  refine HCalls.assume fun d => enter73 (by simp) ?_
  obtain ⟨sa, cap, hrv⟩ := (sv h d).len
  have hm2 : w * k ≤ 16 * 16 := Nat.mul_le_mul go.w2 go.k2
  unfold S73
  simp -implicitDefEqProofs only [hrv, regs1, retK_ret, resL_tmp, upd_eq, resL_nil1, opH_sv, ln23, bin_gtr]
  by_cases h8 : ro.length ≤ 8
  rotate_left
  · try simp -implicitDefEqProofs only [show decide ((ro.length : Int) > 8) = true from decide_eq_true (by omega), HL.cond_true]
    exact .inr ⟨fun q => h8 q.r8, rfl⟩
  try simp -implicitDefEqProofs only [show decide ((ro.length : Int) > 8) = false from decide_eq_false (by omega), HL.cond_false]
  unfold S73_k1
  have cg : ∀ j, cellIn G h ⟨gp, j, none⟩ = _ := fun j => cell_of (look_own go.hd)
  try simp -implicitDefEqProofs (maxSteps := 2000000) (disch := first | with_reducible exact Nat.ne_of_beq_eq_false rfl | exact oneCell_int | exact oneCell_bool | omega | rfl | (simp; done) | fail) only [upd_ne, regs0, opH_sv, opH_nil, fa86_2, add_mk, Nat.zero_add, ld57, cg, List.getElem?_cons_succ, List.getElem?_cons_zero, Option.some.injEq, exists_eq_left', ln57]
  refine robots1 st _ h (by simp -implicitDefEqProofs (maxSteps := 2000000) (disch := first | with_reducible exact Nat.ne_of_beq_eq_false rfl | exact oneCell_int | exact oneCell_bool | omega | rfl | (simp; done) | fail) only [upd_ne, regs0]) (by simp -implicitDefEqProofs (maxSteps := 2000000) (disch := first | with_reducible exact Nat.ne_of_beq_eq_false rfl | exact oneCell_int | exact oneCell_bool | omega | rfl | (simp; done) | fail) only [upd_ne, upd_eq]) (by simp -implicitDefEqProofs (maxSteps := 2000000) (disch := first | with_reducible exact Nat.ne_of_beq_eq_false rfl | exact oneCell_int | exact oneCell_bool | omega | rfl | (simp; done) | fail) only [upd_eq]) go d (fun hpl r2 h2 q0 q1 go2 d2 => ?_) (fun ⟨x, y, hx, hy, hk, hpos⟩ r2 h2 q4 d2 => ?_)
  rotate_left
  · simp -implicitDefEqProofs (disch := first | with_reducible exact Nat.ne_of_beq_eq_false rfl | omega) only [blockK_ret, thenK_ret, retK_ret, resL_tmp, q4, resL_nil1]
    exact .inr ⟨fun q => by have := q.plain x y hx hy hk; omega, rfl⟩
  simp only [blockK_exit, if_true, thenK_normal]
  have q0' : r2 0 = .pointer (some ⟨gp, 0, none⟩) := q0.trans (by simp -implicitDefEqProofs (disch := first | with_reducible exact Nat.ne_of_beq_eq_false rfl | omega) only [upd_ne, regs0])
  have q1' : r2 1 = rv := q1.trans (by simp -implicitDefEqProofs (disch := first | with_reducible exact Nat.ne_of_beq_eq_false rfl | omega) only [upd_ne, regs1, hrv])
  have cg2 : ∀ j, cellIn G h2 ⟨gp, j, none⟩ = _ := fun j => cell_of (look_own go2.hd)
  unfold S73_k2
  try simp -implicitDefEqProofs (disch := first | with_reducible exact Nat.ne_of_beq_eq_false rfl | omega) only [q0', opH_sv, opH_nil, fa86_2, add_mk, Nat.zero_add, ld57, cg2, List.getElem?_cons_succ, List.getElem?_cons_zero, Option.some.injEq, exists_eq_left', ln57]
  rw [make_eq bcC false (by decide) un101 eobool (by kernel_rfl) (by omega) (by omega)]
  intro mb hmb gmb
  have go3 : GO (h2.set mb (.cells (bcC.rows (List.replicate (w * k) false)).toArray 4 (0, 0))) gp kb w k (f2 w k f []) := (go2.le (le_set hmb)).congr fun x y _ _ => by simp [f2]
  have mk3 : MK (h2.set mb (.cells (bcC.rows (List.replicate (w * k) false)).toArray 4 (0, 0))) mb w k (seenT []) := by unfold MK; rw [set_self, seen_nil, gridL_const]
  have d3 := d2.set (o := .cells (bcC.rows (List.replicate (w * k) false)).toArray 4 (0, 0)) gmb
  generalize h2.set mb (.cells (bcC.rows (List.replicate (w * k) false)).toArray 4 (0, 0)) = h3 at *
  try simp -implicitDefEqProofs (disch := first | with_reducible exact Nat.ne_of_beq_eq_false rfl | omega) only [q1', hrv, ln23]
  have no : ¬ RobotsOk w k f ro → ∀ hh, RobR w k gp kb f ro (.bool false) hh := fun q hh => .inr ⟨q, rfl⟩
  refine loop_I (fun m r4 h4 => ∃ i : Nat, m = ro.length - i ∧ i ≤ ro.length ∧ r4 0 = .pointer (some ⟨gp, 0, none⟩) ∧ r4 7 = .slice (some ⟨mb, 0, none⟩) (w * k) (w * k) ∧ r4 79 = rv ∧ r4 80 = .int .i64 ro.length ∧ r4 81 = .int .i64 i ∧
     (∀ p ∈ ro.take i, fitsW w k f p = true) ∧ (∀ c ∈ (ro.take i).flatMap cellsP, fAt (f1 w k f) c ≤ 0) ∧ ((ro.take i).flatMap cellsP).Nodup ∧
     GO h4 gp kb w k (f2 w k f ((ro.take i).flatMap cellsP)) ∧ MK h4 mb w k (seenT ((ro.take i).flatMap cellsP)) ∧ Dis G h4) ?_
    (m := ro.length) ⟨0, rfl, Nat.zero_le _, by simp -implicitDefEqProofs (disch := first | with_reducible exact Nat.ne_of_beq_eq_false rfl | omega) only [upd_ne, q0'], by simp -implicitDefEqProofs (disch := first | with_reducible exact Nat.ne_of_beq_eq_false rfl | omega) only [upd_ne, upd_eq], by simp -implicitDefEqProofs (disch := first | with_reducible exact Nat.ne_of_beq_eq_false rfl | omega) only [upd_ne, upd_eq, hrv], by simp -implicitDefEqProofs (disch := first | with_reducible exact Nat.ne_of_beq_eq_false rfl | omega) only [upd_ne, upd_eq], by simp -implicitDefEqProofs only [upd_eq] <;> rfl, by simp, by simp, by simp, by simpa using go3, by simpa using mk3, d3⟩
  rintro m r4 h4 ⟨i, rfl, hi, k0, k7, k79, k80, k81, hfit, hlow, hnd, go4, mk4, d4⟩ X HX
  unfold S73_l4
  simp -implicitDefEqProofs only [k81, k80, thenK_exit, blockK_exit, thenK_normal, if_true, opH_sv, bin_lss]
  refine cond_dec (fun hlt => ?_) (fun hge => ?_)
  rotate_left
  · obtain rfl : i = ro.length := by omega
    rw [List.take_of_length_le (Nat.le_refl _)] at hfit hlow hnd go4
    try simp -implicitDefEqProofs (disch := first | with_reducible exact Nat.ne_of_beq_eq_false rfl | omega) only [opH_sv, opH_su, pureW_sv, opH_nil, pureW_nil, pick_t, pick_f, pick_tp, pick_fp, gd_tt, gd_ft, gd_tf, gd_ff, box_new, regs0, regs1, regs2, regs3, regs4, regs5, regs6, cells_agg, cells_int, cells_bool, cells_ptr, cells_slice, cells_string, cells_func, cells_nilFunc, cells_map, retK_ret, retK_normal, resL_tmp, resL_cell, resL_nil0, resL_nil1, resL_nil2, resL_nil3, resC_ptr, ex0, ex1, ex2, ex0p, ex1p, ex2p, HL.cond_true, HL.cond_false, thenK_normal, thenK_ret, thenK_exit, blockK_normal, blockK_ret, blockK_exit, scopeK_normal, scopeK_ret, scopeK_exit, wpH_pure, bin_add, bin_sub, bin_mul, bin_lss, bin_leq, bin_gtr, bin_geq, bin_quo, bin_rem, bin_quop, bin_remp, wrap_in, bin_addp, bin_subp, bin_mulp, bin_lssp, bin_leqp, bin_gtrp, bin_geqp, un_not, un_notp, un_neg, eq_int, ne_int, eq_intp, ne_intp, callV_fn, add_mk, upd_eq, upd_ne, cell_set_self, Nat.zero_add, Nat.add_zero, Option.some.injEq, exists_eq_left', List.getElem?_cons_succ, List.getElem?_cons_zero, true_and, and_true, bne_self_eq_false, beq_self_eq_true, Bool.not_true, Bool.not_false, Bool.and_true, Bool.and_self, Bool.and_false, Bool.true_and, List.length_cons, List.length_nil, ne_eq, not_false_eq_true, Nat.reduceAdd, Nat.reduceMul, if_true, if_false, oneCell_int, oneCell_bool, oneCell_ptr, oneCell_slice, oneCell_string, oneCell_func, oneCell_map, Int.toNat_natCast, List.set_cons_zero, List.set_cons_succ, Nat.lt_irrefl, Nat.zero_lt_succ, Nat.succ_lt_succ_iff, fa26_0, fa26_0p, fa26_1, fa26_1p, fa26_10, fa26_10p, fa26_11, fa26_11p, fa26_12, fa26_12p, fa26_13, fa26_13p, fa26_14, fa26_14p, fa26_2, fa26_2p, fa26_3, fa26_3p, fa26_4, fa26_4p, fa26_5, fa26_5p, fa26_6, fa26_6p, fa26_7, fa26_7p, fa26_8, fa26_8p, fa26_9, fa26_9p, fa28_0, fa28_0p, fa28_1, fa28_1p, fa30_0, fa30_0p, fa30_1, fa30_1p, fa46_0, fa46_0p, fa46_1, fa46_1p, fa46_2, fa46_2p, fa46_3, fa46_3p, fa46_4, fa46_4p, fa46_5, fa46_5p, fa46_6, fa46_6p, fa86_0, fa86_0p, fa86_1, fa86_1p, fa86_2, fa86_2p, fa95_0, fa95_0p, fa95_1, fa95_1p, ld3, ld3p, ld4, ld4p, ld22, ld22p, ld23, ld23p, ld24, ld24p, ld26, ld26p, ld28, ld28p, ld30, ld30p, ld31, ld31p, ld46, ld46p, ld47, ld47p, ld52, ld52p, ld55, ld55p, ld57, ld57p, ld95, ld95p, st3s, st4s, st22s, st23s, st24s, st26w, st28w, st30w, st46w, st47s, st55s, st95w, ix22, ix22p, ix23, ix23p, ix24, ix24p, ix47, ix47p, ix56, ix56p, ix57, ix57p, ix101, ix101p, ln22, ln22p, ln23, ln23p, ln24, ln24p, ln47, ln47p, ln56, ln56p, ln57, ln57p, al22, al26, al28, al30, al46, al47, al95, cf14, cf15, cf16, cf17, cf18, cf19, cf20, cf21, cf22, cf23, cf24, cf25, cf26, cf27, cf28, cf29, cf30, cf31, cf32, cf33, cf34, cf35, cf36, cf37, cf38, cf39, cf40, cf41, cf42, cf43, cf44, cf45, cf46, cf47, cf48, cf49, cf50, cf51, cf52, cf53, cf54, cf55, cf56, cf57, cf58, cf59, cf60, cf61, cf62, cf63, cf64, cf65, cf66, cf67, cf68, cf69, cf70, cf71, cf72, cf73, cf74, cf75, cf76, cf77, cf78, cf79, cf80, bd26_0_1_2_7_8_9_10_11_12_13_14, bd26_0_1_2_7_8_9_10_11_12_13_14p, bd28_0, bd28_0p, bd28_0_1, bd28_0_1p, bd30_, bd30_p, bd30_0_1, bd30_0_1p, bd30_0, bd30_0p, bd46_0_1_2_3_4, bd46_0_1_2_3_4p, bd46_0_3_4, bd46_0_3_4p, bd86_0_1_2, bd86_0_1_2p, bd87_0_1_2_3, bd87_0_1_2_3p, bd95_0_1, bd95_0_1p, bs22_2_0_1, bs47_1_0, bs22_1_0, bs57_6_0_1_2_3_4_5, bs24_1_0, bs22_4_0_1_2_3, bs56_11_0_1_2_3_4_5_6_7_8_9_10, bs57_11_0_1_2_3_4_5_6_7_8_9_10, eq4, eq4p, eq28, eq28p, eq30, eq30p, eq31n, eq31np, eq31s, eq31sp, eq46, eq46p, eq50n, eq50np, eq50s, eq50sp, eq67n, eq67np, eq67s, eq67sp, ne4, ne4p, ne28, ne28p, ne30, ne30p, ne31n, ne31np, ne31s, ne31sp, ne46, ne46p]
    unfold S73_k3
    simp -implicitDefEqProofs (disch := first | with_reducible exact Nat.ne_of_beq_eq_false rfl | omega) only [retK_ret, resL_tmp, upd_eq, resL_nil1]
    exact .inl ⟨⟨h8, hpl, hfit, hlow, hnd⟩, rfl, go4⟩
  have hlt' : i < ro.length := by omega
  obtain ⟨y, hy⟩ : ∃ x, ro[i]? = some x := ⟨_, List.getElem?_eq_getElem hlt'⟩
  have hym : y ∈ ro := List.mem_of_getElem? hy
  have sv4 := sv h4 d4
  rw [hrv] at sv4
  obtain ⟨b, ofs, eb, z0, z1, z2⟩ := Sees.pose sv4 hy
  subst eb
  unfold S73_l4_k5
  simp -implicitDefEqProofs (disch := first | with_reducible exact Nat.ne_of_beq_eq_false rfl | omega) only [upd_ne, k79, hrv, k81, thenK_ret, blockK_ret, retK_ret, resL_tmp, upd_eq, resL_nil1, opH_sv, cf23, opH_su, al30, ld30, add_mk, Nat.add_zero, Nat.zero_add, ix23 (Int.natCast_nonneg i) hlt, Int.toNat_natCast, z0, Option.some.injEq, z1, z2, exists_eq_left', st30w, cell_set_self, List.getElem?_cons_zero, List.getElem?_cons_succ]
  intro t ht gt
  try rw [st30w]
  have go5 : GO (h4.set t (.cells #[.int .i64 y.x, .int .i64 y.y, .bool y.d] 30 (0, 0))) gp kb w k (f2 w k f ((ro.take i).flatMap cellsP)) := go4.le (le_set ht)
  have mk5 : MK (h4.set t (.cells #[.int .i64 y.x, .int .i64 y.y, .bool y.d] 30 (0, 0))) mb w k (seenT ((ro.take i).flatMap cellsP)) := mk4.le (le_set ht)
  have bt : (h4.set t (.cells #[.int .i64 y.x, .int .i64 y.y, .bool y.d] 30 (0, 0))) t = some (.cells #[.int .i64 y.x, .int .i64 y.y, .bool y.d] 30 (0, 0)) := set_self
  have d5 := d4.set (o := .cells #[.int .i64 y.x, .int .i64 y.y, .bool y.d] 30 (0, 0)) gt
  generalize h4.set t (.cells #[.int .i64 y.x, .int .i64 y.y, .bool y.d] 30 (0, 0)) = h5 at *
  have ct : ∀ j, cellIn G h5 ⟨t, j, none⟩ = _ := fun j => cell_of (look_own bt)
  try simp -implicitDefEqProofs (disch := first | with_reducible exact Nat.ne_of_beq_eq_false rfl | omega) only [k0]
  refine (fits_spec (p := y) (go5.gs (G := G)) st (hp y hym)).mono ?_
  rintro _ h5 ⟨rfl, rfl⟩
  have hop : ∀ c ∈ (ro.take i).flatMap cellsP, fAt f c ≠ -1 := by
    intro c hc
    obtain ⟨p, hp1, hp2⟩ := List.mem_flatMap.1 hc
    exact (fits_cells (hfit p hp1) c hp2).2
  rw [fitsW_congr (f' := f) (fun x y _ _ => f2_open hop x y)]
  cases hf : fitsW w k f y with
  | false =>
    try simp -implicitDefEqProofs (maxSteps := 2000000) (disch := first | with_reducible exact Nat.ne_of_beq_eq_false rfl | exact oneCell_int | exact oneCell_bool | omega | rfl | (simp; done) | fail) only [un_not, Bool.not_false, HL.cond_true]
    exact no (fun q => by have := q.fit y hym; rw [hf] at this; cases this) _
  | true =>
  try simp -implicitDefEqProofs (maxSteps := 2000000) (disch := first | with_reducible exact Nat.ne_of_beq_eq_false rfl | exact oneCell_int | exact oneCell_bool | omega | rfl | (simp; done) | fail) only [un_not, Bool.not_true, HL.cond_false]
  unfold S73_l4_k7
  try simp -implicitDefEqProofs (maxSteps := 2000000) (disch := first | with_reducible exact Nat.ne_of_beq_eq_false rfl | exact oneCell_int | exact oneCell_bool | omega | rfl | (simp; done) | fail) only [upd_ne, upd_eq, k0, opH_sv, cf21, ld30, add_mk, Nat.add_zero, ct, List.getElem?_cons_zero, Option.some.injEq, Nat.zero_add, List.getElem?_cons_succ, exists_eq_left']
  refine (cells_spec (p := y) st (hp y hym)).mono ?_
  rintro _ _ ⟨cb, rfl, hcb, gcb, rfl⟩
  have go6 : GO (h5.set cb (.cells #[.int .i64 y.x, .int .i64 y.y, .int .i64 (east y).1, .int .i64 (east y).2] 28 (0, 0))) gp kb w k (f2 w k f ((ro.take i).flatMap cellsP)) := go5.le (le_set hcb)
  have mk6 : MK (h5.set cb (.cells #[.int .i64 y.x, .int .i64 y.y, .int .i64 (east y).1, .int .i64 (east y).2] 28 (0, 0))) mb w k (seenT ((ro.take i).flatMap cellsP)) := mk5.le (le_set hcb)
  have hcs : (h5.set cb (.cells #[.int .i64 y.x, .int .i64 y.y, .int .i64 (east y).1, .int .i64 (east y).2] 28 (0, 0))) cb = _ := set_self
  have d6 := d5.set (o := .cells #[.int .i64 y.x, .int .i64 y.y, .int .i64 (east y).1, .int .i64 (east y).2] 28 (0, 0)) gcb
  generalize h5.set cb (.cells #[.int .i64 y.x, .int .i64 y.y, .int .i64 (east y).1, .int .i64 (east y).2] 28 (0, 0)) = h6 at *
  try simp -implicitDefEqProofs (disch := first | with_reducible exact Nat.ne_of_beq_eq_false rfl | omega) only [ln22]
  have htk : (ro.take (i + 1)).flatMap cellsP = (ro.take i).flatMap cellsP ++ cellsP y := by rw [take_get hy, List.flatMap_append]; simp
  refine robots_in (cs := cellsP y) (p := y) _ h6 rfl (fun c hc => (fits_cells hf c hc).1) hcs (by simp -implicitDefEqProofs (disch := first | with_reducible exact Nat.ne_of_beq_eq_false rfl | omega) only [upd_ne, k0]) (by simp -implicitDefEqProofs (disch := first | with_reducible exact Nat.ne_of_beq_eq_false rfl | omega) only [upd_ne, k7]) (by simp -implicitDefEqProofs (disch := first | with_reducible exact Nat.ne_of_beq_eq_false rfl | omega) only [upd_ne, upd_eq]) (by simp -implicitDefEqProofs (disch := first | with_reducible exact Nat.ne_of_beq_eq_false rfl | omega) only [upd_ne, upd_eq] <;> rfl) (by simp -implicitDefEqProofs (disch := first | with_reducible exact Nat.ne_of_beq_eq_false rfl | omega) only [upd_eq]) go6 mk6 d6 hnd (fun hlw hnd2 r7 h7 j0 j7 j79 j80 j81 go7 mk7 d7 => ?_) (fun hbad r7 h7 j4 d7 => ?_)
  · simp only [blockK_exit, if_true, blockK_normal, thenK_normal]
    unfold S73_l4_k6
    have j81' : r7 81 = .int .i64 i := j81.trans (by simp -implicitDefEqProofs (disch := first | with_reducible exact Nat.ne_of_beq_eq_false rfl | omega) only [upd_ne, k81])
    simp -implicitDefEqProofs (disch := first | with_reducible exact Nat.ne_of_beq_eq_false rfl | omega) only [j81', thenK_normal, opH_sv, bin_add, wrap_in]
    refine HX (ro.length - (i + 1)) _ _ (by omega) ⟨i + 1, rfl, hlt', by simp -implicitDefEqProofs (disch := first | with_reducible exact Nat.ne_of_beq_eq_false rfl | omega) only [upd_ne, j0, k0], by simp -implicitDefEqProofs (disch := first | with_reducible exact Nat.ne_of_beq_eq_false rfl | omega) only [upd_ne, j7, k7], by simp -implicitDefEqProofs (disch := first | with_reducible exact Nat.ne_of_beq_eq_false rfl | omega) only [upd_ne, j79, k79], by simp -implicitDefEqProofs (disch := first | with_reducible exact Nat.ne_of_beq_eq_false rfl | omega) only [upd_ne, j80, k80], by simp -implicitDefEqProofs (disch := first | with_reducible exact Nat.ne_of_beq_eq_false rfl | omega) only [upd_eq] <;> rfl, ?_, ?_, ?_, ?_, ?_, d7⟩
    · rw [take_get hy]
      intro c hc
      rcases List.mem_append.1 hc with q | q
      · exact hfit c q
      · simp at q; rw [q]; exact hf
    · rw [htk]
      intro c hc
      rcases List.mem_append.1 hc with q | q
      · exact hlow c q
      · exact hlw c q
    · rw [htk]; exact hnd2
    · rw [htk]; exact go7
    · rw [htk]; exact mk7
  · simp -implicitDefEqProofs only [blockK_ret, thenK_ret, retK_ret, resL_tmp, j4, resL_nil1]
    refine no (fun q => hbad ⟨fun c hc => q.low c (List.mem_flatMap.2 ⟨y, hym, hc⟩), ?_⟩) _
    have hsub : ((ro.take (i + 1)).flatMap cellsP).Nodup := by
      have e : ro.flatMap cellsP = (ro.take (i + 1)).flatMap cellsP ++ (ro.drop (i + 1)).flatMap cellsP := by rw [← List.flatMap_append, List.take_append_drop]
      have := q.once
      rw [e] at this
      exact (List.nodup_append.1 this).1
    rwa [htk] at hsub

end Go.Proofs.YtnpdploihlgcgaaDoor
end

section
/- The stacks of a grid. -/
set_option linter.unusedSimpArgs false
set_option linter.unusedVariables false
set_option maxRecDepth 100000
namespace Go.Proofs.YtnpdploihlgcgaaDoor
open Go Go.HL

theorem un102 : Tryd.prog.underlying 102 = some (.map 3 3) := by kernel_rfl
theorem un3 : Tryd.prog.underlying 3 = some (.int .i64) := by kernel_rfl
theorem zero3 : zeroOf Tryd.prog 3 = some (.int .i64 0) := by kernel_rfl
theorem mm102 {G h : Hp} {K : Value → Hp → Prop} : wpH Tryd.prog G (Instr.makeMap 102 none) h K = ∀ r, h r = none → G r = none → K (.map (some r)) (h.set r (.map #[] 0)) := by kernel_rfl

/-- The stacks, seen whatever is owned beside them. -/
def GStk (G : Hp) (v : Value) (st : List (Cell × List Int)) : Prop := ∃ raw : List Raw, GSees rawC G v raw ∧ raw.length = st.length ∧
  ∀ (i : Nat) (r : Raw) (s : Cell × List Int), raw[i]? = some r → st[i]? = some s → (r.x, r.y) = s.1 ∧ r.n = s.2.length ∧ GSees icC G (.slice r.a s.2.length r.c) s.2

theorem GStk.len {G : Hp} {v : Value} {st : List (Cell × List Int)} (g : GStk G v st) {h : Hp} (d : Dis G h) : ∃ sa cap, v = .slice sa st.length cap := by
  obtain ⟨raw, h1, h2, _⟩ := g
  obtain ⟨sa, cap, e⟩ := (h1 h d).len
  exact ⟨sa, cap, by rw [e, h2]⟩
theorem GStk.get {G : Hp} {sa : Option Addr} {n cap : Nat} {st : List (Cell × List Int)} (g : GStk G (.slice sa n cap) st) {h : Hp} (d : Dis G h) {i : Nat} {s : Cell × List Int} (hs : st[i]? = some s) :
    ∃ b o a c, sa = some ⟨b, o, none⟩ ∧ cellIn G h ⟨b, o + i * 3, none⟩ = some (.int .i64 s.1.1) ∧ cellIn G h ⟨b, o + i * 3 + 1, none⟩ = some (.int .i64 s.1.2) ∧ cellIn G h ⟨b, o + i * 3 + 2, none⟩ = some (.slice a s.2.length c) ∧ GSees icC G (.slice a s.2.length c) s.2 := by
  obtain ⟨raw, h1, hl, h2⟩ := g
  have hi : i < raw.length := by rw [hl]; exact (List.getElem?_eq_some_iff.1 hs).1
  have hr : raw[i]? = some raw[i] := List.getElem?_eq_getElem hi
  obtain ⟨k1, k2, k3⟩ := h2 i _ s hr hs
  obtain ⟨b, o, c, e1, e2⟩ := (h1 h d).get hr
  simp only [Value.slice.injEq] at e1
  have z0 := e2 0 (by decide)
  have z1 := e2 1 (by decide)
  have z2 := e2 2 (by decide)
  simp only [rawC, Nat.add_zero, List.getElem?_cons_zero, List.getElem?_cons_succ] at z0 z1 z2
  refine ⟨b, o, _, _, e1.1, ?_, ?_, ?_, k3⟩
  · rw [z0, ← k1]
  · rw [z1, ← k1]
  · rw [z2, k2]

theorem GO.past {h : Hp} {gp kb w k : Nat} {f : Nat → Nat → Int} (g : GO h gp kb w k f) {b : Nat} {p o : Obj} (hb : h b = some p) (hp : isCells p = false) : GO (h.set b o) gp kb w k f := by
  have n1 : gp ≠ b := fun q => by have := g.hd; rw [q, hb] at this; cases this; cases hp
  have n2 : kb ≠ b := fun q => by have := g.row; rw [q, hb] at this; cases this; cases hp
  exact ⟨by rw [set_other n1]; exact g.hd, by rw [set_other n2]; exact g.row, g.w1, g.w2, g.k1, g.k2⟩
theorem MK.past {h : Hp} {mb w k : Nat} {f : Nat → Nat → Bool} (g : MK h mb w k f) {b : Nat} {p o : Obj} (hb : h b = some p) (hp : isCells p = false) : MK (h.set b o) mb w k f := by
  unfold MK at *
  have n1 : mb ≠ b := fun q => by rw [q, hb] at g; cases g; cases hp
  rw [set_other n1]; exact g

/-- Some of the numbers, each told once, by a map. -/
structure NM (h : Hp) (mp : Nat) (B : List Int) : Prop where
  ex : ∃ o L, h mp = some o ∧ MapO o L ∧ L.map (·.1) = B ∧ ∀ p ∈ L, p.2 = .int .i64 1

theorem mget_in {L : List (Int × Value)} (h : ∀ p ∈ L, p.2 = .int .i64 1) {b : Int} : (mget L b).getD (.int .i64 0) = .int .i64 (if b ∈ L.map (·.1) then 1 else 0) := by
  induction L with
  | nil => rfl
  | cons p L ih =>
    rw [mget_cons]
    by_cases e : p.1 = b
    · rw [if_pos e, if_pos (by rw [List.map_cons, e]; exact .head _)]
      exact h p (.head _)
    · rw [if_neg e, ih fun q hq => h q (.tail _ hq)]
      congr 1
      simp only [List.map_cons, List.mem_cons]
      by_cases hm : b ∈ L.map (·.1)
      · simp [hm]
      · have e2 : ¬ b = p.1 := fun q => e q.symm
        simp [hm, e2]

theorem NM.put {G h : Hp} {mp : Nat} {B : List Int} (n : NM h mp B) {b : Int} (hb : b ∉ B) {K : Unit → Hp → Prop} (H : ∀ o', NM (h.set mp o') mp (B ++ [b]) → K () (h.set mp o')) :
    wpH Tryd.prog G (Instr.mapUpdate 102 (.map (some mp)) (.int .i64 b) (.int .i64 1)) h K := by
  obtain ⟨o, L, h1, h2, h3, h4⟩ := n
  refine mapput_int un102 un3 h1 h2 fun o' m' => H o' ⟨o', _, set_self, m', ?_, ?_⟩
  · rw [mput_keys, h3, if_neg hb]
  · have : midx L b = none := by
      unfold midx
      rw [List.findIdx?_eq_none_iff]
      intro p hp
      have : p.1 ≠ b := fun e => hb (by rw [← h3, ← e]; exact List.mem_map_of_mem (f := (·.1)) hp)
      simpa using this
    unfold mput
    rw [this]
    intro p hp
    rcases List.mem_append.1 hp with q | q
    · exact h4 p q
    · simp at q; rw [q]

set_option maxHeartbeats 2000000 in
theorem stacks_in {G : Hp} {gp kb mb mp w k : Nat} {f : Nat → Nat → Int} {mf : Nat → Nat → Bool} {KK : Exit → Rg → Hp → Prop} {L B0 : List Int} {v : Value} (r : Rg) (h : Hp) (sv : GSees icC G v L) (hL : L.length ≤ 100000) (hB0 : B0.length ≤ 512)
    (g8 : r 8 = .map (some mp)) (g54 : r 54 = v) (g55 : r 55 = .int .i64 L.length) (g56 : r 56 = .int .i64 0)
    (go : GO h gp kb w k f) (mk : MK h mb w k mf) (nm : NM h mp B0) (d : Dis G h) (hnd0 : B0.Nodup)
    (H1 : (∀ b ∈ L, withinB b 1 1000000000 = true) → (B0 ++ L).Nodup → (B0 ++ L).length ≤ 512 → ∀ (r' : Rg) h', r' 0 = r 0 → r' 2 = r 2 → r' 7 = r 7 → r' 8 = r 8 → r' 20 = r 20 → r' 21 = r 21 → r' 22 = r 22 → GO h' gp kb w k f → MK h' mb w k mf → NM h' mp (B0 ++ L) → Dis G h' → KK (.exit 2) r' h')
    (H2 : ¬ ((∀ b ∈ L, withinB b 1 1000000000 = true) ∧ (B0 ++ L).Nodup ∧ (B0 ++ L).length ≤ 512) → ∀ (r' : Rg) h', r' 6 = .bool false → Dis G h' → KK .ret r' h') : loopP (S74_l2_l6 G) r h KK := by
  obtain ⟨sa, cap, hve⟩ := (sv h d).len
  refine loop_I (fun m r2 h3 => ∃ j : Nat, m = L.length - j ∧ j ≤ L.length ∧ r2 0 = r 0 ∧ r2 2 = r 2 ∧ r2 7 = r 7 ∧ r2 8 = r 8 ∧ r2 20 = r 20 ∧ r2 21 = r 21 ∧ r2 22 = r 22 ∧ r2 54 = r 54 ∧ r2 55 = r 55 ∧ r2 56 = .int .i64 j ∧ (∀ b ∈ L.take j, withinB b 1 1000000000 = true) ∧ (B0 ++ L.take j).Nodup ∧ (B0 ++ L.take j).length ≤ 512 ∧
     GO h3 gp kb w k f ∧ MK h3 mb w k mf ∧ NM h3 mp (B0 ++ L.take j) ∧ Dis G h3) ?_
    (m := L.length) ⟨0, rfl, Nat.zero_le _, rfl, rfl, rfl, rfl, rfl, rfl, rfl, rfl, rfl, by rw [g56]; rfl, by simp, by simpa using hnd0, by simpa using hB0, go, mk, by simpa using nm, d⟩
  rintro m r2 h3 ⟨j, rfl, hj, q0, q2, q7, q8, q20, q21, q22, q54, q55, q56, hok, hnd, hle, go, mk, nm, d3⟩ X HX
  rw [g8] at q8
  rw [g54, hve] at q54
  rw [g55] at q55
  unfold S74_l2_l6
  simp -implicitDefEqProofs only [q56, q55, thenK_exit, opH_sv, bin_lss]
  refine cond_dec (fun hlt => ?_) (fun hge => ?_)
  rotate_left
  · obtain rfl : j = L.length := by omega
    rw [List.take_of_length_le (Nat.le_refl _)] at hok hnd hle nm
    exact H1 hok hnd hle _ _ (by simp -implicitDefEqProofs (disch := first | with_reducible exact Nat.ne_of_beq_eq_false rfl | omega) only [upd_ne, q0]) (by simp -implicitDefEqProofs (disch := first | with_reducible exact Nat.ne_of_beq_eq_false rfl | omega) only [upd_ne, q2]) (by simp -implicitDefEqProofs (disch := first | with_reducible exact Nat.ne_of_beq_eq_false rfl | omega) only [upd_ne, q7]) (by simp -implicitDefEqProofs (disch := first | with_reducible exact Nat.ne_of_beq_eq_false rfl | omega) only [upd_ne, q8, g8]) (by simp -implicitDefEqProofs (disch := first | with_reducible exact Nat.ne_of_beq_eq_false rfl | omega) only [upd_ne, q20]) (by simp -implicitDefEqProofs (disch := first | with_reducible exact Nat.ne_of_beq_eq_false rfl | omega) only [upd_ne, q21]) (by simp -implicitDefEqProofs (disch := first | with_reducible exact Nat.ne_of_beq_eq_false rfl | omega) only [upd_ne, q22]) go mk nm d3
  have hlt' : j < L.length := by omega
  obtain ⟨y, hy⟩ : ∃ x, L[j]? = some x := ⟨_, List.getElem?_eq_getElem hlt'⟩
  have hym : y ∈ L := List.mem_of_getElem? hy
  have sv3 := sv h3 d3
  rw [hve] at sv3
  obtain ⟨b, ofs, eb, z0⟩ := Sees.int sv3 hy
  subst eb
  have htk : B0 ++ L.take (j + 1) = (B0 ++ L.take j) ++ [y] := by rw [take_get hy, List.append_assoc]
  have hpre : ∀ {P : Prop}, (((B0 ++ L.take (j + 1)).Nodup ∧ (B0 ++ L.take (j + 1)).length ≤ 512 → P) → ((B0 ++ L).Nodup ∧ (B0 ++ L).length ≤ 512 → P)) := by
    intro P h q
    have e : B0 ++ L = (B0 ++ L.take (j + 1)) ++ L.drop (j + 1) := by rw [List.append_assoc, List.take_append_drop]
    rw [e] at q
    refine h ⟨(List.nodup_append.1 q.1).1, ?_⟩
    have := q.2
    rw [List.length_append] at this; omega
  obtain ⟨o, ML, n1, n2, n3, n4⟩ := id nm.ex
  have nlk : HL.look G h3 mp = some o := look_own n1
  unfold S74_l2_l6_k7
  simp -implicitDefEqProofs (disch := first | with_reducible exact Nat.ne_of_beq_eq_false rfl | omega) only [upd_ne, q54, q56, thenK_ret, opH_sv, cf57, ix57 (Int.natCast_nonneg j) hlt, Int.toNat_natCast, Nat.mul_one, add_mk, ld3, z0, Option.some.injEq, exists_eq_left']
  refine (within_spec (n := y) (a := 1) (b := 1000000000)).mono ?_
  rintro _ h3 ⟨rfl, rfl⟩
  cases hw : withinB y 1 1000000000 with
  | false =>
    try simp -implicitDefEqProofs only [un_not, Bool.not_false, pick_t, HL.cond_true, gd_tf]
    exact H2 (fun q => by have := q.1 y hym; rw [hw] at this; cases this) _ _ (by simp -implicitDefEqProofs only [upd_eq]) d3
  | true =>
  try simp -implicitDefEqProofs only [q8, un_not, Bool.not_true, pick_f, gd_ff, opH_sv, lookup_int un102 un3 zero3 nlk n2, mget_in n4, n3, bin_gtr]
  by_cases hm : y ∈ B0 ++ L.take j
  · try simp -implicitDefEqProofs only [if_pos hm, show decide ((1 : Int) > 0) = true from rfl, pick_t, HL.cond_true, gd_tf]
    refine H2 (fun q => hpre (P := False) (fun ⟨q1, _⟩ => ?_) q.2) _ _ (by simp -implicitDefEqProofs only [upd_eq]) d3
    rw [htk] at q1
    exact (List.nodup_append.1 q1).2.2 y hm y (by simp) rfl
  try simp -implicitDefEqProofs only [if_neg hm, show decide ((0 : Int) > 0) = false from rfl, pick_f, gd_ff, opH_sv, maplen_eq un102 nlk n2, eq_int]
  have hll : ML.length = (B0 ++ L.take j).length := by rw [← n3, List.length_map]
  by_cases h512 : (B0 ++ L.take j).length = 512
  · try simp -implicitDefEqProofs only [hll, h512, show (((512 : Nat) : Int) == 512) = true from rfl, HL.cond_true]
    refine H2 (fun q => hpre (P := False) (fun ⟨_, q1⟩ => ?_) q.2) _ _ (by simp -implicitDefEqProofs only [upd_eq]) d3
    rw [htk, List.length_append, h512] at q1
    simp at q1
  have e512 : (((B0 ++ L.take j).length : Int) == 512) = false := by
    have : ((B0 ++ L.take j).length : Int) ≠ 512 := by omega
    simpa using this
  try simp -implicitDefEqProofs (disch := first | with_reducible exact Nat.ne_of_beq_eq_false rfl | omega) only [hll, e512, HL.cond_false]
  unfold S74_l2_l6_k9
  try simp -implicitDefEqProofs (maxSteps := 2000000) (disch := first | with_reducible exact Nat.ne_of_beq_eq_false rfl | exact oneCell_int | exact oneCell_bool | omega | rfl | (simp; done) | fail) only [upd_ne, q8, upd_eq, opH_su]
  refine NM.put nm hm fun o' nm' => ?_
  unfold S74_l2_l6_k8
  try simp -implicitDefEqProofs (disch := first | with_reducible exact Nat.ne_of_beq_eq_false rfl | omega) only [upd_ne, q56, thenK_normal, opH_sv, bin_add, wrap_in]
  refine HX (L.length - (j + 1)) _ _ (by omega) ⟨j + 1, rfl, hlt', by simp -implicitDefEqProofs (disch := first | with_reducible exact Nat.ne_of_beq_eq_false rfl | omega) only [upd_ne, q0], by simp -implicitDefEqProofs (disch := first | with_reducible exact Nat.ne_of_beq_eq_false rfl | omega) only [upd_ne, q2], by simp -implicitDefEqProofs (disch := first | with_reducible exact Nat.ne_of_beq_eq_false rfl | omega) only [upd_ne, q7], by simp -implicitDefEqProofs (disch := first | with_reducible exact Nat.ne_of_beq_eq_false rfl | omega) only [upd_ne, q8, g8], by simp -implicitDefEqProofs (disch := first | with_reducible exact Nat.ne_of_beq_eq_false rfl | omega) only [upd_ne, q20], by simp -implicitDefEqProofs (disch := first | with_reducible exact Nat.ne_of_beq_eq_false rfl | omega) only [upd_ne, q21], by simp -implicitDefEqProofs (disch := first | with_reducible exact Nat.ne_of_beq_eq_false rfl | omega) only [upd_ne, q22], by simp -implicitDefEqProofs (disch := first | with_reducible exact Nat.ne_of_beq_eq_false rfl | omega) only [upd_ne, q54, g54, hve], by simp -implicitDefEqProofs (disch := first | with_reducible exact Nat.ne_of_beq_eq_false rfl | omega) only [upd_ne, q55, g55], by simp -implicitDefEqProofs (disch := first | with_reducible exact Nat.ne_of_beq_eq_false rfl | omega) only [upd_eq] <;> rfl, ?_, ?_, ?_, go.past n1 n2.cells, mk.past n1 n2.cells, by rw [htk]; exact nm', d3.set (d3 _ _ n1)⟩
  · rw [take_get hy]
    intro c hc
    rcases List.mem_append.1 hc with q | q
    · exact hok c q
    · simp at q; rw [q]; exact hw
  · rw [htk]
    exact List.nodup_append.2 ⟨hnd, by simp, fun a ha b hb => by simp at hb; subst hb; exact fun e => hm (e ▸ ha)⟩
  · rw [htk, List.length_append]
    simp only [List.length_cons, List.length_nil]
    omega

structure StacksOk (w k : Nat) (f : Nat → Nat → Int) (ht : Int) (st : List (Cell × List Int)) : Prop where
  each : ∀ s ∈ st, inW w k s.1 = true ∧ fAt f s.1 = 0 ∧ (s.2.length : Int) ≤ ht
  apart : (st.map Prod.fst).Nodup
  nums : ∀ b ∈ st.flatMap Prod.snd, withinB b 1 1000000000 = true
  once : (st.flatMap Prod.snd).Nodup
  most : (st.flatMap Prod.snd).length ≤ 512

def StR (w k gp kb : Nat) (f : Nat → Nat → Int) (ht : Int) (st : List (Cell × List Int)) (u : Value) (h' : Hp) : Prop :=
  (StacksOk w k f ht st ∧ u = .bool true ∧ GO h' gp kb w k f) ∨ (¬ StacksOk w k f ht st ∧ u = .bool false)

set_option maxHeartbeats 2000000 in
theorem stacks_spec {G h : Hp} {gp kb w k : Nat} {f : Nat → Nat → Int} {ht : Int} {st : List (Cell × List Int)} {sv : Value} (go : GO h gp kb w k f) (gs : GStk G sv st) (hht : ht ≤ 8) (hsl : st.length ≤ 100000000000000) :
    HCalls Tryd.prog G 74 #[.pointer (some ⟨gp, 0, none⟩), sv, .int .i64 ht] h (StR w k gp kb f ht st) := by
  refine HCalls.assume fun d => enter74 (by simp) ?_
  obtain ⟨sa, cap, hsv⟩ := gs.len d
  have hm2 : w * k ≤ 16 * 16 := Nat.mul_le_mul go.w2 go.k2
  have cg : ∀ j, cellIn G h ⟨gp, j, none⟩ = _ := fun j => cell_of (look_own go.hd)
  unfold S74
  simp -implicitDefEqProofs only [hsv, regs0, regs1, opH_sv, ln24, opH_nil, fa86_2, add_mk, Nat.zero_add, ld57, cg, List.getElem?_cons_succ, List.getElem?_cons_zero, Option.some.injEq, exists_eq_left', ln57]
  rw [make_eq bcC false (by decide) un101 eobool (by kernel_rfl) (by omega) (by omega)]
  intro mb hmb gmb
  have go1 : GO (h.set mb (.cells (bcC.rows (List.replicate (w * k) false)).toArray 4 (0, 0))) gp kb w k f := go.le (le_set hmb)
  have mk1 : MK (h.set mb (.cells (bcC.rows (List.replicate (w * k) false)).toArray 4 (0, 0))) mb w k (seenT []) := by unfold MK; rw [set_self, seen_nil, gridL_const]
  have d1 := d.set (o := .cells (bcC.rows (List.replicate (w * k) false)).toArray 4 (0, 0)) gmb
  generalize h.set mb (.cells (bcC.rows (List.replicate (w * k) false)).toArray 4 (0, 0)) = h1 at *
  try simp -implicitDefEqProofs only [mm102]
  intro mp hmp gmp
  have go2 : GO (h1.set mp (.map #[] 0)) gp kb w k f := go1.le (le_set hmp)
  have mk2 : MK (h1.set mp (.map #[] 0)) mb w k (seenT []) := mk1.le (le_set hmp)
  have nm2 : NM (h1.set mp (.map #[] 0)) mp [] := ⟨_, [], set_self, ⟨#[], 0, rfl, rfl⟩, rfl, fun p hp => by cases hp⟩
  have d2 := d1.set (o := .map #[] 0) gmp
  generalize h1.set mp (.map #[] 0) = h2 at *
  try simp -implicitDefEqProofs only [opH_sv, opH_su, pureW_sv, opH_nil, pureW_nil, pick_t, pick_f, pick_tp, pick_fp, gd_tt, gd_ft, gd_tf, gd_ff, box_new, regs0, regs1, regs2, regs3, regs4, regs5, regs6, cells_agg, cells_int, cells_bool, cells_ptr, cells_slice, cells_string, cells_func, cells_nilFunc, cells_map, retK_ret, retK_normal, resL_tmp, resL_cell, resL_nil0, resL_nil1, resL_nil2, resL_nil3, resC_ptr, ex0, ex1, ex2, ex0p, ex1p, ex2p, HL.cond_true, HL.cond_false, thenK_normal, thenK_ret, thenK_exit, blockK_normal, blockK_ret, blockK_exit, scopeK_normal, scopeK_ret, scopeK_exit, wpH_pure, bin_add, bin_sub, bin_mul, bin_lss, bin_leq, bin_gtr, bin_geq, bin_quo, bin_rem, bin_quop, bin_remp, wrap_in, bin_addp, bin_subp, bin_mulp, bin_lssp, bin_leqp, bin_gtrp, bin_geqp, un_not, un_notp, un_neg, eq_int, ne_int, eq_intp, ne_intp, callV_fn, add_mk, upd_eq, upd_ne, cell_set_self, Nat.zero_add, Nat.add_zero, Option.some.injEq, exists_eq_left', List.getElem?_cons_succ, List.getElem?_cons_zero, true_and, and_true, bne_self_eq_false, beq_self_eq_true, Bool.not_true, Bool.not_false, Bool.and_true, Bool.and_self, Bool.and_false, Bool.true_and, List.length_cons, List.length_nil, ne_eq, not_false_eq_true, Nat.reduceAdd, Nat.reduceMul, if_true, if_false, oneCell_int, oneCell_bool, oneCell_ptr, oneCell_slice, oneCell_string, oneCell_func, oneCell_map, Int.toNat_natCast, List.set_cons_zero, List.set_cons_succ, Nat.lt_irrefl, Nat.zero_lt_succ, Nat.succ_lt_succ_iff, fa26_0, fa26_0p, fa26_1, fa26_1p, fa26_10, fa26_10p, fa26_11, fa26_11p, fa26_12, fa26_12p, fa26_13, fa26_13p, fa26_14, fa26_14p, fa26_2, fa26_2p, fa26_3, fa26_3p, fa26_4, fa26_4p, fa26_5, fa26_5p, fa26_6, fa26_6p, fa26_7, fa26_7p, fa26_8, fa26_8p, fa26_9, fa26_9p, fa28_0, fa28_0p, fa28_1, fa28_1p, fa30_0, fa30_0p, fa30_1, fa30_1p, fa46_0, fa46_0p, fa46_1, fa46_1p, fa46_2, fa46_2p, fa46_3, fa46_3p, fa46_4, fa46_4p, fa46_5, fa46_5p, fa46_6, fa46_6p, fa86_0, fa86_0p, fa86_1, fa86_1p, fa86_2, fa86_2p, fa95_0, fa95_0p, fa95_1, fa95_1p, ld3, ld3p, ld4, ld4p, ld22, ld22p, ld23, ld23p, ld24, ld24p, ld26, ld26p, ld28, ld28p, ld30, ld30p, ld31, ld31p, ld46, ld46p, ld47, ld47p, ld52, ld52p, ld55, ld55p, ld57, ld57p, ld95, ld95p, st3s, st4s, st22s, st23s, st24s, st26w, st28w, st30w, st46w, st47s, st55s, st95w, ix22, ix22p, ix23, ix23p, ix24, ix24p, ix47, ix47p, ix56, ix56p, ix57, ix57p, ix101, ix101p, ln22, ln22p, ln23, ln23p, ln24, ln24p, ln47, ln47p, ln56, ln56p, ln57, ln57p, al22, al26, al28, al30, al46, al47, al95, cf14, cf15, cf16, cf17, cf18, cf19, cf20, cf21, cf22, cf23, cf24, cf25, cf26, cf27, cf28, cf29, cf30, cf31, cf32, cf33, cf34, cf35, cf36, cf37, cf38, cf39, cf40, cf41, cf42, cf43, cf44, cf45, cf46, cf47, cf48, cf49, cf50, cf51, cf52, cf53, cf54, cf55, cf56, cf57, cf58, cf59, cf60, cf61, cf62, cf63, cf64, cf65, cf66, cf67, cf68, cf69, cf70, cf71, cf72, cf73, cf74, cf75, cf76, cf77, cf78, cf79, cf80, bd26_0_1_2_7_8_9_10_11_12_13_14, bd26_0_1_2_7_8_9_10_11_12_13_14p, bd28_0, bd28_0p, bd28_0_1, bd28_0_1p, bd30_, bd30_p, bd30_0_1, bd30_0_1p, bd30_0, bd30_0p, bd46_0_1_2_3_4, bd46_0_1_2_3_4p, bd46_0_3_4, bd46_0_3_4p, bd86_0_1_2, bd86_0_1_2p, bd87_0_1_2_3, bd87_0_1_2_3p, bd95_0_1, bd95_0_1p, bs22_2_0_1, bs47_1_0, bs22_1_0, bs57_6_0_1_2_3_4_5, bs24_1_0, bs22_4_0_1_2_3, bs56_11_0_1_2_3_4_5_6_7_8_9_10, bs57_11_0_1_2_3_4_5_6_7_8_9_10, eq4, eq4p, eq28, eq28p, eq30, eq30p, eq31n, eq31np, eq31s, eq31sp, eq46, eq46p, eq50n, eq50np, eq50s, eq50sp, eq67n, eq67np, eq67s, eq67sp, ne4, ne4p, ne28, ne28p, ne30, ne30p, ne31n, ne31np, ne31s, ne31sp, ne46, ne46p]
  have no : ¬ StacksOk w k f ht st → ∀ hh, StR w k gp kb f ht st (.bool false) hh := fun q hh => .inr ⟨q, rfl⟩
  refine loop_I (fun m r4 h4 => ∃ i : Nat, m = st.length - i ∧ i ≤ st.length ∧ r4 0 = .pointer (some ⟨gp, 0, none⟩) ∧ r4 2 = .int .i64 ht ∧ r4 7 = .slice (some ⟨mb, 0, none⟩) (w * k) (w * k) ∧ r4 8 = .map (some mp) ∧ r4 20 = sv ∧ r4 21 = .int .i64 st.length ∧ r4 22 = .int .i64 i ∧
     (∀ s ∈ st.take i, inW w k s.1 = true ∧ fAt f s.1 = 0 ∧ (s.2.length : Int) ≤ ht) ∧ ((st.take i).map Prod.fst).Nodup ∧ (∀ b ∈ (st.take i).flatMap Prod.snd, withinB b 1 1000000000 = true) ∧ ((st.take i).flatMap Prod.snd).Nodup ∧ ((st.take i).flatMap Prod.snd).length ≤ 512 ∧
     GO h4 gp kb w k f ∧ MK h4 mb w k (seenT ((st.take i).map Prod.fst)) ∧ NM h4 mp ((st.take i).flatMap Prod.snd) ∧ Dis G h4) ?_
    (m := st.length) ⟨0, rfl, Nat.zero_le _, by simp -implicitDefEqProofs (disch := first | with_reducible exact Nat.ne_of_beq_eq_false rfl | omega) only [upd_ne, regs0], by simp -implicitDefEqProofs (disch := first | with_reducible exact Nat.ne_of_beq_eq_false rfl | omega) only [upd_ne, regs2], by simp -implicitDefEqProofs (disch := first | with_reducible exact Nat.ne_of_beq_eq_false rfl | omega) only [upd_ne, upd_eq], by simp -implicitDefEqProofs (disch := first | with_reducible exact Nat.ne_of_beq_eq_false rfl | omega) only [upd_ne, upd_eq], by simp -implicitDefEqProofs (disch := first | with_reducible exact Nat.ne_of_beq_eq_false rfl | omega) only [upd_ne, upd_eq, hsv], by simp -implicitDefEqProofs (disch := first | with_reducible exact Nat.ne_of_beq_eq_false rfl | omega) only [upd_ne, upd_eq], by simp -implicitDefEqProofs only [upd_eq] <;> rfl, by simp, by simp, by simp, by simp, by simp, go2, by simpa using mk2, by simpa using nm2, d2⟩
  rintro m r4 h4 ⟨i, rfl, hi, k0, k2, k7, k8, k20, k21, k22, hea, hap, hnu, hon, hmo, go4, mk4, nm4, d4⟩ X HX
  unfold S74_l2
  simp -implicitDefEqProofs only [k22, k21, thenK_exit, blockK_exit, thenK_normal, if_true, opH_sv, bin_lss]
  refine cond_dec (fun hlt => ?_) (fun hge => ?_)
  rotate_left
  · obtain rfl : i = st.length := by omega
    rw [List.take_of_length_le (Nat.le_refl _)] at hea hap hnu hon hmo
    try simp -implicitDefEqProofs only [opH_sv, opH_su, pureW_sv, opH_nil, pureW_nil, pick_t, pick_f, pick_tp, pick_fp, gd_tt, gd_ft, gd_tf, gd_ff, box_new, regs0, regs1, regs2, regs3, regs4, regs5, regs6, cells_agg, cells_int, cells_bool, cells_ptr, cells_slice, cells_string, cells_func, cells_nilFunc, cells_map, retK_ret, retK_normal, resL_tmp, resL_cell, resL_nil0, resL_nil1, resL_nil2, resL_nil3, resC_ptr, ex0, ex1, ex2, ex0p, ex1p, ex2p, HL.cond_true, HL.cond_false, thenK_normal, thenK_ret, thenK_exit, blockK_normal, blockK_ret, blockK_exit, scopeK_normal, scopeK_ret, scopeK_exit, wpH_pure, bin_add, bin_sub, bin_mul, bin_lss, bin_leq, bin_gtr, bin_geq, bin_quo, bin_rem, bin_quop, bin_remp, wrap_in, bin_addp, bin_subp, bin_mulp, bin_lssp, bin_leqp, bin_gtrp, bin_geqp, un_not, un_notp, un_neg, eq_int, ne_int, eq_intp, ne_intp, callV_fn, add_mk, upd_eq, upd_ne, cell_set_self, Nat.zero_add, Nat.add_zero, Option.some.injEq, exists_eq_left', List.getElem?_cons_succ, List.getElem?_cons_zero, true_and, and_true, bne_self_eq_false, beq_self_eq_true, Bool.not_true, Bool.not_false, Bool.and_true, Bool.and_self, Bool.and_false, Bool.true_and, List.length_cons, List.length_nil, ne_eq, not_false_eq_true, Nat.reduceAdd, Nat.reduceMul, if_true, if_false, oneCell_int, oneCell_bool, oneCell_ptr, oneCell_slice, oneCell_string, oneCell_func, oneCell_map, Int.toNat_natCast, List.set_cons_zero, List.set_cons_succ, Nat.lt_irrefl, Nat.zero_lt_succ, Nat.succ_lt_succ_iff, fa26_0, fa26_0p, fa26_1, fa26_1p, fa26_10, fa26_10p, fa26_11, fa26_11p, fa26_12, fa26_12p, fa26_13, fa26_13p, fa26_14, fa26_14p, fa26_2, fa26_2p, fa26_3, fa26_3p, fa26_4, fa26_4p, fa26_5, fa26_5p, fa26_6, fa26_6p, fa26_7, fa26_7p, fa26_8, fa26_8p, fa26_9, fa26_9p, fa28_0, fa28_0p, fa28_1, fa28_1p, fa30_0, fa30_0p, fa30_1, fa30_1p, fa46_0, fa46_0p, fa46_1, fa46_1p, fa46_2, fa46_2p, fa46_3, fa46_3p, fa46_4, fa46_4p, fa46_5, fa46_5p, fa46_6, fa46_6p, fa86_0, fa86_0p, fa86_1, fa86_1p, fa86_2, fa86_2p, fa95_0, fa95_0p, fa95_1, fa95_1p, ld3, ld3p, ld4, ld4p, ld22, ld22p, ld23, ld23p, ld24, ld24p, ld26, ld26p, ld28, ld28p, ld30, ld30p, ld31, ld31p, ld46, ld46p, ld47, ld47p, ld52, ld52p, ld55, ld55p, ld57, ld57p, ld95, ld95p, st3s, st4s, st22s, st23s, st24s, st26w, st28w, st30w, st46w, st47s, st55s, st95w, ix22, ix22p, ix23, ix23p, ix24, ix24p, ix47, ix47p, ix56, ix56p, ix57, ix57p, ix101, ix101p, ln22, ln22p, ln23, ln23p, ln24, ln24p, ln47, ln47p, ln56, ln56p, ln57, ln57p, al22, al26, al28, al30, al46, al47, al95, cf14, cf15, cf16, cf17, cf18, cf19, cf20, cf21, cf22, cf23, cf24, cf25, cf26, cf27, cf28, cf29, cf30, cf31, cf32, cf33, cf34, cf35, cf36, cf37, cf38, cf39, cf40, cf41, cf42, cf43, cf44, cf45, cf46, cf47, cf48, cf49, cf50, cf51, cf52, cf53, cf54, cf55, cf56, cf57, cf58, cf59, cf60, cf61, cf62, cf63, cf64, cf65, cf66, cf67, cf68, cf69, cf70, cf71, cf72, cf73, cf74, cf75, cf76, cf77, cf78, cf79, cf80, bd26_0_1_2_7_8_9_10_11_12_13_14, bd26_0_1_2_7_8_9_10_11_12_13_14p, bd28_0, bd28_0p, bd28_0_1, bd28_0_1p, bd30_, bd30_p, bd30_0_1, bd30_0_1p, bd30_0, bd30_0p, bd46_0_1_2_3_4, bd46_0_1_2_3_4p, bd46_0_3_4, bd46_0_3_4p, bd86_0_1_2, bd86_0_1_2p, bd87_0_1_2_3, bd87_0_1_2_3p, bd95_0_1, bd95_0_1p, bs22_2_0_1, bs47_1_0, bs22_1_0, bs57_6_0_1_2_3_4_5, bs24_1_0, bs22_4_0_1_2_3, bs56_11_0_1_2_3_4_5_6_7_8_9_10, bs57_11_0_1_2_3_4_5_6_7_8_9_10, eq4, eq4p, eq28, eq28p, eq30, eq30p, eq31n, eq31np, eq31s, eq31sp, eq46, eq46p, eq50n, eq50np, eq50s, eq50sp, eq67n, eq67np, eq67s, eq67sp, ne4, ne4p, ne28, ne28p, ne30, ne30p, ne31n, ne31np, ne31s, ne31sp, ne46, ne46p]
    unfold S74_k1
    simp -implicitDefEqProofs only [retK_ret, resL_tmp, upd_eq, resL_nil1]
    exact .inl ⟨⟨hea, hap, hnu, hon, hmo⟩, rfl, go4⟩
  have hlt' : i < st.length := by omega
  obtain ⟨y, hy⟩ : ∃ x, st[i]? = some x := ⟨_, List.getElem?_eq_getElem hlt'⟩
  have hym : y ∈ st := List.mem_of_getElem? hy
  have gs4 := gs
  rw [hsv] at gs4
  obtain ⟨b, ofs, a, c, eb, z0, z1, z2, z3⟩ := gs4.get d4 hy
  subst eb
  unfold S74_l2_k3
  simp -implicitDefEqProofs (disch := first | with_reducible exact Nat.ne_of_beq_eq_false rfl | omega) only [upd_ne, k20, hsv, k22, thenK_ret, blockK_ret, retK_ret, resL_tmp, upd_eq, resL_nil1, opH_sv, cf35, opH_su, al95, fa95_0, add_mk, Nat.add_zero, ld28, Nat.zero_add, ix24 (Int.natCast_nonneg i) hlt, Int.toNat_natCast, ld95, z0, Option.some.injEq, z1, z2, exists_eq_left', st95w, cell_set_self, List.getElem?_cons_zero, List.getElem?_cons_succ]
  intro t ht' gt
  try rw [st95w]
  have go5 : GO (h4.set t (.cells #[.int .i64 y.1.1, .int .i64 y.1.2, .slice a y.2.length c] 95 (0, 0))) gp kb w k f := go4.le (le_set ht')
  have mk5 : MK (h4.set t (.cells #[.int .i64 y.1.1, .int .i64 y.1.2, .slice a y.2.length c] 95 (0, 0))) mb w k (seenT ((st.take i).map Prod.fst)) := mk4.le (le_set ht')
  have nm5 : NM (h4.set t (.cells #[.int .i64 y.1.1, .int .i64 y.1.2, .slice a y.2.length c] 95 (0, 0))) mp ((st.take i).flatMap Prod.snd) := by
    obtain ⟨o, L, n1, n2⟩ := nm4
    exact ⟨o, L, le_set ht' _ _ n1, n2⟩
  have bt : (h4.set t (.cells #[.int .i64 y.1.1, .int .i64 y.1.2, .slice a y.2.length c] 95 (0, 0))) t = some (.cells #[.int .i64 y.1.1, .int .i64 y.1.2, .slice a y.2.length c] 95 (0, 0)) := set_self
  have d5 := d4.set (o := .cells #[.int .i64 y.1.1, .int .i64 y.1.2, .slice a y.2.length c] 95 (0, 0)) gt
  generalize h4.set t (.cells #[.int .i64 y.1.1, .int .i64 y.1.2, .slice a y.2.length c] 95 (0, 0)) = h5 at *
  have ct : ∀ j, cellIn G h5 ⟨t, j, none⟩ = _ := fun j => cell_of (look_own bt)
  try simp -implicitDefEqProofs only [k0]
  refine (stacked_spec (c := y.1) (go5.gs (G := G))).mono ?_
  rintro _ h5 ⟨rfl, rfl⟩
  cases hst : (inW w k y.1 && (fAt f y.1 == 0)) with
  | false =>
    try simp -implicitDefEqProofs only [un_not, Bool.not_false, pick_t, HL.cond_true, gd_tf]
    refine no (fun q => ?_) _
    obtain ⟨q1, q2, _⟩ := q.each y hym
    rw [q1, q2] at hst
    cases hst
  | true =>
  have hst' := hst
  simp only [Bool.and_eq_true, beq_iff_eq] at hst'
  obtain ⟨hc', hf0⟩ := hst'
  try simp -implicitDefEqProofs only [k7, un_not, Bool.not_true, pick_f, gd_ff, opH_sv, cf37, fa95_0, add_mk, Nat.add_zero, ld28, Nat.zero_add, ct, List.getElem?_cons_zero, Option.some.injEq, List.getElem?_cons_succ, exists_eq_left']
  refine (num_spec (c := y.1) (go5.gs (G := G))).mono ?_
  rintro _ h5 ⟨rfl, rfl⟩
  obtain ⟨hn, hx, hyk, hlt2⟩ := numI_nat hc'
  obtain ⟨a1, a2, a3, a4⟩ := inW_iff.1 hc'
  have hxy : ((y.1.1.toNat : Int), (y.1.2.toNat : Int)) = y.1 := by rw [Int.toNat_of_nonneg a1, Int.toNat_of_nonneg a3]
  have mg := mk_get (G := G) mk5 (Hp.le.refl _) hx hyk
  rw [show seenT ((st.take i).map Prod.fst) y.1.1.toNat y.1.2.toNat = decide (y.1 ∈ (st.take i).map Prod.fst) by unfold seenT; rw [hxy]] at mg
  have m6 := mk5.put (v := true) hx hyk
  have hn0 := hn
  rw [hn]
  generalize hnn : y.1.2.toNat * w + y.1.1.toNat = n at hn hlt2 mg m6
  try simp -implicitDefEqProofs only [ix101n hlt2, ld4, mg, Option.some.injEq, exists_eq_left']
  by_cases hmem : y.1 ∈ (st.take i).map Prod.fst
  · try simp -implicitDefEqProofs only [decide_eq_true hmem, pick_t, HL.cond_true, gd_tf]
    refine no (fun q => not_nodup (L := st.map Prod.fst) (i := i) (x := y.1) (by rw [List.getElem?_map, hy]; rfl) ?_ q.apart) _
    rw [← List.map_take]; exact hmem
  try simp -implicitDefEqProofs only [decide_eq_false hmem, k2, pick_f, gd_ff, opH_sv, fa95_1, add_mk, Nat.zero_add, ld57, ct, List.getElem?_cons_succ, List.getElem?_cons_zero, Option.some.injEq, exists_eq_left', ln57, bin_gtr]
  by_cases hlen : (y.2.length : Int) ≤ ht
  rotate_left
  · try simp -implicitDefEqProofs only [show decide ((y.2.length : Int) > ht) = true from decide_eq_true (by omega), HL.cond_true]
    exact no (fun q => hlen (q.each y hym).2.2) _
  try simp -implicitDefEqProofs (disch := first | with_reducible exact Nat.ne_of_beq_eq_false rfl | omega) only [show decide ((y.2.length : Int) > ht) = false from decide_eq_false (by omega), HL.cond_false]
  unfold S74_l2_k5
  try simp -implicitDefEqProofs (disch := first | with_reducible exact Nat.ne_of_beq_eq_false rfl | omega) only [upd_ne, upd_eq, k0, opH_sv, fa95_1, add_mk, Nat.zero_add, ld57, opH_su, cf37, fa95_0, Nat.add_zero, ld28, ct, List.getElem?_cons_zero, Option.some.injEq, List.getElem?_cons_succ, exists_eq_left']
  refine (num_spec (c := y.1) (go5.gs (G := G))).mono ?_
  rintro _ h5 ⟨rfl, rfl⟩
  rw [hn]
  try simp -implicitDefEqProofs (disch := first | with_reducible exact Nat.ne_of_beq_eq_false rfl | omega) only [k7, ix101n hlt2]
  rw [store1_eq sz4 rfl mk5 (by rw [bcC.rows_length, gridL_length]; simp [bcC]; exact hlt2)]
  have go6 := go5.other (o := .cells ((bcC.rows (gridL w k (seenT ((st.take i).map Prod.fst)))).set n (.bool true)).toArray 4 (0, 0)) mk5 (by decide) (by decide)
  have nm6 : NM (h5.set mb (.cells ((bcC.rows (gridL w k (seenT ((st.take i).map Prod.fst)))).set n (.bool true)).toArray 4 (0, 0))) mp ((st.take i).flatMap Prod.snd) := by
    obtain ⟨o, L, n1, n2, n3⟩ := nm5
    exact ⟨o, L, by rw [set_other (fun q => by unfold MK at mk5; rw [← q, n1] at mk5; cases mk5; exact absurd n2.cells (by simp [isCells]))]; exact n1, n2, n3⟩
  have bt6 : (h5.set mb (.cells ((bcC.rows (gridL w k (seenT ((st.take i).map Prod.fst)))).set n (.bool true)).toArray 4 (0, 0))) t = _ := (set_other (fun q => by unfold MK at mk5; rw [← q, bt] at mk5; simp at mk5)).trans bt
  have d6 : Dis G (h5.set mb (.cells ((bcC.rows (gridL w k (seenT ((st.take i).map Prod.fst)))).set n (.bool true)).toArray 4 (0, 0))) := d5.set (d5 _ _ mk5)
  generalize h5.set mb (.cells ((bcC.rows (gridL w k (seenT ((st.take i).map Prod.fst)))).set n (.bool true)).toArray 4 (0, 0)) = h6 at *
  have ct6 : ∀ j, cellIn G h6 ⟨t, j, none⟩ = _ := fun j => cell_of (look_own bt6)
  try simp -implicitDefEqProofs (disch := first | with_reducible exact Nat.ne_of_beq_eq_false rfl | omega) only [ct6, List.getElem?_cons_succ, List.getElem?_cons_zero, Option.some.injEq, exists_eq_left', ln57]
  have mk7 : MK h6 mb w k (seenT ((st.take (i + 1)).map Prod.fst)) := by
    rw [take_get hy, List.map_append, List.map_singleton, seen_snoc a1 a3]
    exact m6
  have hft : (st.take (i + 1)).flatMap Prod.snd = (st.take i).flatMap Prod.snd ++ y.2 := by rw [take_get hy, List.flatMap_append]; simp
  refine stacks_in (L := y.2) (B0 := (st.take i).flatMap Prod.snd) _ h6 z3 (by omega) hmo (by simp -implicitDefEqProofs (disch := first | with_reducible exact Nat.ne_of_beq_eq_false rfl | omega) only [upd_ne, k8]) (by simp -implicitDefEqProofs (disch := first | with_reducible exact Nat.ne_of_beq_eq_false rfl | omega) only [upd_ne, upd_eq]) (by simp -implicitDefEqProofs (disch := first | with_reducible exact Nat.ne_of_beq_eq_false rfl | omega) only [upd_ne, upd_eq]) (by simp -implicitDefEqProofs (disch := first | with_reducible exact Nat.ne_of_beq_eq_false rfl | omega) only [upd_eq]) go6 mk7 nm6 d6 hon (fun hw2 hnd2 hl2 r7 h7 j0 j2 j7 j8 j20 j21 j22 go7 mk8 nm8 d7 => ?_) (fun hbad r7 h7 j6 d7 => ?_)
  · simp only [blockK_exit, if_true, blockK_normal, thenK_normal]
    unfold S74_l2_k4
    have j22' : r7 22 = .int .i64 i := j22.trans (by simp -implicitDefEqProofs (disch := first | with_reducible exact Nat.ne_of_beq_eq_false rfl | omega) only [upd_ne, k22])
    simp -implicitDefEqProofs (disch := first | with_reducible exact Nat.ne_of_beq_eq_false rfl | omega) only [j22', thenK_normal, opH_sv, bin_add, wrap_in]
    refine HX (st.length - (i + 1)) _ _ (by omega) ⟨i + 1, rfl, hlt', by simp -implicitDefEqProofs (disch := first | with_reducible exact Nat.ne_of_beq_eq_false rfl | omega) only [upd_ne, j0, k0], by simp -implicitDefEqProofs (disch := first | with_reducible exact Nat.ne_of_beq_eq_false rfl | omega) only [upd_ne, j2, k2], by simp -implicitDefEqProofs (disch := first | with_reducible exact Nat.ne_of_beq_eq_false rfl | omega) only [upd_ne, j7, k7], by simp -implicitDefEqProofs (disch := first | with_reducible exact Nat.ne_of_beq_eq_false rfl | omega) only [upd_ne, j8, k8], by simp -implicitDefEqProofs (disch := first | with_reducible exact Nat.ne_of_beq_eq_false rfl | omega) only [upd_ne, j20, k20], by simp -implicitDefEqProofs (disch := first | with_reducible exact Nat.ne_of_beq_eq_false rfl | omega) only [upd_ne, j21, k21], by simp -implicitDefEqProofs (disch := first | with_reducible exact Nat.ne_of_beq_eq_false rfl | omega) only [upd_eq] <;> rfl, ?_, ?_, ?_, ?_, ?_, go7, mk8, by rw [hft]; exact nm8, d7⟩
    · rw [take_get hy]
      intro s hs
      rcases List.mem_append.1 hs with q | q
      · exact hea s q
      · simp at q; rw [q]; exact ⟨hc', hf0, hlen⟩
    · rw [take_get hy, List.map_append]
      exact List.nodup_append.2 ⟨hap, by simp, fun p hp q hq => by simp at hq; subst hq; exact fun e => hmem (e ▸ hp)⟩
    · rw [hft]
      intro c hc
      rcases List.mem_append.1 hc with q | q
      · exact hnu c q
      · exact hw2 c q
    · rw [hft]; exact hnd2
    · rw [hft]; exact hl2
  · simp -implicitDefEqProofs only [blockK_ret, thenK_ret, retK_ret, resL_tmp, j6, resL_nil1]
    have e : st.flatMap Prod.snd = ((st.take i).flatMap Prod.snd ++ y.2) ++ (st.drop (i + 1)).flatMap Prod.snd := by rw [← hft, ← List.flatMap_append, List.take_append_drop]
    refine no (fun q => hbad ⟨fun c hc => q.nums c (List.mem_flatMap.2 ⟨y, hym, hc⟩), ?_, ?_⟩) _
    · have := q.once
      rw [e] at this
      exact (List.nodup_append.1 this).1
    · have := q.most
      rw [e, List.length_append] at this
      omega

end Go.Proofs.YtnpdploihlgcgaaDoor
end

section
/- The program's grid of a config. -/
set_option linter.unusedSimpArgs false
set_option linter.unusedVariables false
set_option maxRecDepth 100000
namespace Go.Proofs.YtnpdploihlgcgaaDoor
open Go Go.HL

def wC (C : Conf) : Nat := C.w.toNat
def kC (C : Conf) : Nat := C.h.toNat
def f0C (C : Conf) : Nat → Nat → Int := kd (C.bl ++ C.po) C.bl.length
def f3C (C : Conf) : Nat → Nat → Int := f2 (wC C) (kC C) (f0C C) (C.ro.flatMap cellsP)

structure MadeOk (C : Conf) : Prop where
  six : ∀ n ∈ [C.un, C.ac, C.sp, C.tu, C.ho, C.re], withinB n 1 1000 = true
  ht : withinB C.ht 1 8 = true
  qu : withinB C.qu 1 16 = true
  bu : withinB C.bu 1 1048576 = true
  laid : LaidOk C
  rob : RobotsOk (wC C) (kC C) (f0C C) C.ro
  sta : StacksOk (wC C) (kC C) (f3C C) C.ht C.st

def MadeR (G h : Hp) (C : Conf) (u : Value) (h' : Hp) : Prop := h.le h' ∧ Dis G h' ∧
  ((MadeOk C ∧ ∃ ga gp kb, u = .pointer (some ⟨gp, 0, none⟩) ∧ GO ga gp kb (wC C) (kC C) (f3C C) ∧ Sep [ga, h] h') ∨ (¬ MadeOk C ∧ u = .pointer none))

theorem CA.gstk {G h h0 a : Hp} {C : Conf} {ab : Option Addr} {cb : Nat} {ap : Option Addr} {cp : Nat} {ar : Option Addr} {cr : Nat} {az : Option Addr} {cs : Nat} (ca : CA G h0 C ab cb ap cp ar cr az cs) (s : Sep [a, h0] h) (d : Dis G h) : GStk (under G h a) (.slice az C.st.length cs) C.st := by
  obtain ⟨raw, h1, h2⟩ := ca.st
  refine ⟨raw, h1.gnd s d, ?_, fun i r t hr ht => ?_⟩
  · obtain ⟨sa, c, e⟩ := h1.len
    simp only [Value.slice.injEq] at e
    exact e.2.1.symm
  · obtain ⟨k1, k2, k3⟩ := h2 i r t hr ht
    exact ⟨k1, k2, k3.gnd s d⟩

set_option maxHeartbeats 2000000 in
theorem made_spec {G h : Hp} {v : Value} {C : Conf} (hv : CV G h v C) (st : Steps G) (hp : ∀ p ∈ C.ro, PB p) (hsl : C.st.length ≤ 100000000000000) : HCalls Tryd.prog G 49 #[v] h (MadeR G h C) := by
  obtain ⟨ab, cb, ap, cp, ar, cr, az, cs, rfl, ca⟩ := hv
  refine HCalls.assume fun d => enter49 (by simp) ?_
  unfold S49
  simp -implicitDefEqProofs only [regs0, opH_sv, box_new, cells_agg, fa26_13, add_mk, Nat.zero_add, ld3, fa26_11, fa26_10, fa26_9, fa26_8, fa26_7, cell_set_self, List.getElem?_cons_succ, List.getElem?_cons_zero, Option.some.injEq, exists_eq_left', bs57_6_0_1_2_3_4_5, ln57]
  intro x hx gx
  generalize e1 : Hp.set h x _ = h1
  obtain ⟨l1, d1, b1⟩ := boxed e1 hx d gx
  have cx : ∀ j, cellIn G h1 ⟨x, j, none⟩ = _ := fun j => cell_of (look_own b1)
  try simp -implicitDefEqProofs only [opH_sv, opH_su, pureW_sv, opH_nil, pureW_nil, pick_t, pick_f, pick_tp, pick_fp, gd_tt, gd_ft, gd_tf, gd_ff, box_new, regs0, regs1, regs2, regs3, regs4, regs5, regs6, cells_agg, cells_int, cells_bool, cells_ptr, cells_slice, cells_string, cells_func, cells_nilFunc, cells_map, retK_ret, retK_normal, resL_tmp, resL_cell, resL_nil0, resL_nil1, resL_nil2, resL_nil3, resC_ptr, ex0, ex1, ex2, ex0p, ex1p, ex2p, HL.cond_true, HL.cond_false, thenK_normal, thenK_ret, thenK_exit, blockK_normal, blockK_ret, blockK_exit, scopeK_normal, scopeK_ret, scopeK_exit, wpH_pure, bin_add, bin_sub, bin_mul, bin_lss, bin_leq, bin_gtr, bin_geq, bin_quo, bin_rem, bin_quop, bin_remp, wrap_in, bin_addp, bin_subp, bin_mulp, bin_lssp, bin_leqp, bin_gtrp, bin_geqp, un_not, un_notp, un_neg, eq_int, ne_int, eq_intp, ne_intp, callV_fn, add_mk, upd_eq, upd_ne, cell_set_self, Nat.zero_add, Nat.add_zero, Option.some.injEq, exists_eq_left', List.getElem?_cons_succ, List.getElem?_cons_zero, true_and, and_true, bne_self_eq_false, beq_self_eq_true, Bool.not_true, Bool.not_false, Bool.and_true, Bool.and_self, Bool.and_false, Bool.true_and, List.length_cons, List.length_nil, ne_eq, not_false_eq_true, Nat.reduceAdd, Nat.reduceMul, if_true, if_false, oneCell_int, oneCell_bool, oneCell_ptr, oneCell_slice, oneCell_string, oneCell_func, oneCell_map, Int.toNat_natCast, List.set_cons_zero, List.set_cons_succ, Nat.lt_irrefl, Nat.zero_lt_succ, Nat.succ_lt_succ_iff, fa26_0, fa26_0p, fa26_1, fa26_1p, fa26_10, fa26_10p, fa26_11, fa26_11p, fa26_12, fa26_12p, fa26_13, fa26_13p, fa26_14, fa26_14p, fa26_2, fa26_2p, fa26_3, fa26_3p, fa26_4, fa26_4p, fa26_5, fa26_5p, fa26_6, fa26_6p, fa26_7, fa26_7p, fa26_8, fa26_8p, fa26_9, fa26_9p, fa28_0, fa28_0p, fa28_1, fa28_1p, fa30_0, fa30_0p, fa30_1, fa30_1p, fa46_0, fa46_0p, fa46_1, fa46_1p, fa46_2, fa46_2p, fa46_3, fa46_3p, fa46_4, fa46_4p, fa46_5, fa46_5p, fa46_6, fa46_6p, fa86_0, fa86_0p, fa86_1, fa86_1p, fa86_2, fa86_2p, fa95_0, fa95_0p, fa95_1, fa95_1p, ld3, ld3p, ld4, ld4p, ld22, ld22p, ld23, ld23p, ld24, ld24p, ld26, ld26p, ld28, ld28p, ld30, ld30p, ld31, ld31p, ld46, ld46p, ld47, ld47p, ld52, ld52p, ld55, ld55p, ld57, ld57p, ld95, ld95p, st3s, st4s, st22s, st23s, st24s, st26w, st28w, st30w, st46w, st47s, st55s, st95w, ix22, ix22p, ix23, ix23p, ix24, ix24p, ix47, ix47p, ix56, ix56p, ix57, ix57p, ix101, ix101p, ln22, ln22p, ln23, ln23p, ln24, ln24p, ln47, ln47p, ln56, ln56p, ln57, ln57p, al22, al26, al28, al30, al46, al47, al95, cf14, cf15, cf16, cf17, cf18, cf19, cf20, cf21, cf22, cf23, cf24, cf25, cf26, cf27, cf28, cf29, cf30, cf31, cf32, cf33, cf34, cf35, cf36, cf37, cf38, cf39, cf40, cf41, cf42, cf43, cf44, cf45, cf46, cf47, cf48, cf49, cf50, cf51, cf52, cf53, cf54, cf55, cf56, cf57, cf58, cf59, cf60, cf61, cf62, cf63, cf64, cf65, cf66, cf67, cf68, cf69, cf70, cf71, cf72, cf73, cf74, cf75, cf76, cf77, cf78, cf79, cf80, bd26_0_1_2_7_8_9_10_11_12_13_14, bd26_0_1_2_7_8_9_10_11_12_13_14p, bd28_0, bd28_0p, bd28_0_1, bd28_0_1p, bd30_, bd30_p, bd30_0_1, bd30_0_1p, bd30_0, bd30_0p, bd46_0_1_2_3_4, bd46_0_1_2_3_4p, bd46_0_3_4, bd46_0_3_4p, bd86_0_1_2, bd86_0_1_2p, bd87_0_1_2_3, bd87_0_1_2_3p, bd95_0_1, bd95_0_1p, bs22_2_0_1, bs47_1_0, bs22_1_0, bs57_6_0_1_2_3_4_5, bs24_1_0, bs22_4_0_1_2_3, bs56_11_0_1_2_3_4_5_6_7_8_9_10, bs57_11_0_1_2_3_4_5_6_7_8_9_10, eq4, eq4p, eq28, eq28p, eq30, eq30p, eq31n, eq31np, eq31s, eq31sp, eq46, eq46p, eq50n, eq50np, eq50s, eq50sp, eq67n, eq67np, eq67s, eq67sp, ne4, ne4p, ne28, ne28p, ne30, ne30p, ne31n, ne31np, ne31s, ne31sp, ne46, ne46p, cx]
  intro nb hnb gnb
  generalize e2 : Hp.set h1 nb _ = h2
  obtain ⟨l2, d2, b2⟩ := boxed e2 hnb d1 gnb
  have L2 := l1.trans l2
  have cx2 : ∀ j, cellIn G h2 ⟨x, j, none⟩ = _ := fun j => cell_of (look_own (l2 _ _ b1))
  have sv : Sees icC G h2 (.slice (some ⟨nb, 0, none⟩) 6 6) [C.un, C.ac, C.sp, C.tu, C.ho, C.re] := Sees.row (c := icC) (L := [C.un, C.ac, C.sp, C.tu, C.ho, C.re]) b2 rfl (Nat.le_refl _)
  have no : ∀ {hh : Hp}, ¬ MadeOk C → h.le hh → Dis G hh → MadeR G h C (.pointer none) hh := fun q l d => ⟨l, d, .inr ⟨q, rfl⟩⟩
  try simp -implicitDefEqProofs only [opH_sv, opH_su, pureW_sv, opH_nil, pureW_nil, pick_t, pick_f, pick_tp, pick_fp, gd_tt, gd_ft, gd_tf, gd_ff, box_new, regs0, regs1, regs2, regs3, regs4, regs5, regs6, cells_agg, cells_int, cells_bool, cells_ptr, cells_slice, cells_string, cells_func, cells_nilFunc, cells_map, retK_ret, retK_normal, resL_tmp, resL_cell, resL_nil0, resL_nil1, resL_nil2, resL_nil3, resC_ptr, ex0, ex1, ex2, ex0p, ex1p, ex2p, HL.cond_true, HL.cond_false, thenK_normal, thenK_ret, thenK_exit, blockK_normal, blockK_ret, blockK_exit, scopeK_normal, scopeK_ret, scopeK_exit, wpH_pure, bin_add, bin_sub, bin_mul, bin_lss, bin_leq, bin_gtr, bin_geq, bin_quo, bin_rem, bin_quop, bin_remp, wrap_in, bin_addp, bin_subp, bin_mulp, bin_lssp, bin_leqp, bin_gtrp, bin_geqp, un_not, un_notp, un_neg, eq_int, ne_int, eq_intp, ne_intp, callV_fn, add_mk, upd_eq, upd_ne, cell_set_self, Nat.zero_add, Nat.add_zero, Option.some.injEq, exists_eq_left', List.getElem?_cons_succ, List.getElem?_cons_zero, true_and, and_true, bne_self_eq_false, beq_self_eq_true, Bool.not_true, Bool.not_false, Bool.and_true, Bool.and_self, Bool.and_false, Bool.true_and, List.length_cons, List.length_nil, ne_eq, not_false_eq_true, Nat.reduceAdd, Nat.reduceMul, if_true, if_false, oneCell_int, oneCell_bool, oneCell_ptr, oneCell_slice, oneCell_string, oneCell_func, oneCell_map, Int.toNat_natCast, List.set_cons_zero, List.set_cons_succ, Nat.lt_irrefl, Nat.zero_lt_succ, Nat.succ_lt_succ_iff, fa26_0, fa26_0p, fa26_1, fa26_1p, fa26_10, fa26_10p, fa26_11, fa26_11p, fa26_12, fa26_12p, fa26_13, fa26_13p, fa26_14, fa26_14p, fa26_2, fa26_2p, fa26_3, fa26_3p, fa26_4, fa26_4p, fa26_5, fa26_5p, fa26_6, fa26_6p, fa26_7, fa26_7p, fa26_8, fa26_8p, fa26_9, fa26_9p, fa28_0, fa28_0p, fa28_1, fa28_1p, fa30_0, fa30_0p, fa30_1, fa30_1p, fa46_0, fa46_0p, fa46_1, fa46_1p, fa46_2, fa46_2p, fa46_3, fa46_3p, fa46_4, fa46_4p, fa46_5, fa46_5p, fa46_6, fa46_6p, fa86_0, fa86_0p, fa86_1, fa86_1p, fa86_2, fa86_2p, fa95_0, fa95_0p, fa95_1, fa95_1p, ld3, ld3p, ld4, ld4p, ld22, ld22p, ld23, ld23p, ld24, ld24p, ld26, ld26p, ld28, ld28p, ld30, ld30p, ld31, ld31p, ld46, ld46p, ld47, ld47p, ld52, ld52p, ld55, ld55p, ld57, ld57p, ld95, ld95p, st3s, st4s, st22s, st23s, st24s, st26w, st28w, st30w, st46w, st47s, st55s, st95w, ix22, ix22p, ix23, ix23p, ix24, ix24p, ix47, ix47p, ix56, ix56p, ix57, ix57p, ix101, ix101p, ln22, ln22p, ln23, ln23p, ln24, ln24p, ln47, ln47p, ln56, ln56p, ln57, ln57p, al22, al26, al28, al30, al46, al47, al95, cf14, cf15, cf16, cf17, cf18, cf19, cf20, cf21, cf22, cf23, cf24, cf25, cf26, cf27, cf28, cf29, cf30, cf31, cf32, cf33, cf34, cf35, cf36, cf37, cf38, cf39, cf40, cf41, cf42, cf43, cf44, cf45, cf46, cf47, cf48, cf49, cf50, cf51, cf52, cf53, cf54, cf55, cf56, cf57, cf58, cf59, cf60, cf61, cf62, cf63, cf64, cf65, cf66, cf67, cf68, cf69, cf70, cf71, cf72, cf73, cf74, cf75, cf76, cf77, cf78, cf79, cf80, bd26_0_1_2_7_8_9_10_11_12_13_14, bd26_0_1_2_7_8_9_10_11_12_13_14p, bd28_0, bd28_0p, bd28_0_1, bd28_0_1p, bd30_, bd30_p, bd30_0_1, bd30_0_1p, bd30_0, bd30_0p, bd46_0_1_2_3_4, bd46_0_1_2_3_4p, bd46_0_3_4, bd46_0_3_4p, bd86_0_1_2, bd86_0_1_2p, bd87_0_1_2_3, bd87_0_1_2_3p, bd95_0_1, bd95_0_1p, bs22_2_0_1, bs47_1_0, bs22_1_0, bs57_6_0_1_2_3_4_5, bs24_1_0, bs22_4_0_1_2_3, bs56_11_0_1_2_3_4_5_6_7_8_9_10, bs57_11_0_1_2_3_4_5_6_7_8_9_10, eq4, eq4p, eq28, eq28p, eq30, eq30p, eq31n, eq31np, eq31s, eq31sp, eq46, eq46p, eq50n, eq50np, eq50s, eq50sp, eq67n, eq67np, eq67s, eq67sp, ne4, ne4p, ne28, ne28p, ne30, ne30p, ne31n, ne31np, ne31s, ne31sp, ne46, ne46p]
  refine loop_I (fun m r h3 => ∃ j : Nat, m = 6 - j ∧ j ≤ 6 ∧ r 1 = .pointer (some ⟨x, 0, none⟩) ∧ r 19 = .slice (some ⟨nb, 0, none⟩) 6 6 ∧ r 20 = .int .i64 6 ∧ r 21 = .int .i64 j ∧ h3 = h2 ∧ ∀ n ∈ [C.un, C.ac, C.sp, C.tu, C.ho, C.re].take j, withinB n 1 1000 = true) ?_
    (m := 6) ⟨0, rfl, by decide, by simp -implicitDefEqProofs (disch := first | with_reducible exact Nat.ne_of_beq_eq_false rfl | omega) only [upd_ne, upd_eq], by simp -implicitDefEqProofs (disch := first | with_reducible exact Nat.ne_of_beq_eq_false rfl | omega) only [upd_ne, upd_eq], by simp -implicitDefEqProofs (disch := first | with_reducible exact Nat.ne_of_beq_eq_false rfl | omega) only [upd_ne, upd_eq] <;> rfl, by simp -implicitDefEqProofs only [upd_eq] <;> rfl, rfl, by simp⟩
  rintro m r h3 ⟨j, rfl, hj, g1, g19, g20, g21, rfl, hw⟩ X HX
  unfold S49_l4
  simp -implicitDefEqProofs only [g21, g20, thenK_exit, blockK_exit, thenK_normal, if_true, opH_sv, bin_lss]
  refine cond_dec (fun hlt => ?_) (fun hge => ?_)
  · have hlt' : j < 6 := by omega
    obtain ⟨y, hy⟩ : ∃ n, [C.un, C.ac, C.sp, C.tu, C.ho, C.re][j]? = some n := ⟨_, List.getElem?_eq_getElem (by simpa using hlt')⟩
    obtain ⟨b, o, eb, z0⟩ := Sees.int sv hy
    cases eb
    rw [Nat.zero_add] at z0
    unfold S49_l4_k5
    simp -implicitDefEqProofs (disch := first | with_reducible exact Nat.ne_of_beq_eq_false rfl | omega) only [upd_ne, g19, g21, thenK_ret, blockK_ret, retK_ret, resL_tmp, upd_eq, resL_nil1, opH_sv, cf57, ix57 (Int.natCast_nonneg j) (show (j : Int) < (6 : Nat) by omega), Int.toNat_natCast, Nat.mul_one, add_mk, Nat.zero_add, ld3, z0, Option.some.injEq, exists_eq_left']
    refine (within_spec (n := y) (a := 1) (b := 1000)).mono ?_
    rintro _ h3 ⟨rfl, rfl⟩
    cases hb : withinB y 1 1000 with
    | false =>
      try simp -implicitDefEqProofs only [un_not, Bool.not_false, HL.cond_true]
      exact no (fun q => by have := q.six y (List.mem_of_getElem? hy); rw [hb] at this; cases this) L2 d2
    | true =>
      try simp -implicitDefEqProofs only [un_not, Bool.not_true, HL.cond_false]
      unfold S49_l4_k6
      simp -implicitDefEqProofs (disch := first | with_reducible exact Nat.ne_of_beq_eq_false rfl | omega) only [upd_ne, g21, thenK_normal, opH_sv, bin_add, wrap_in]
      refine HX (6 - (j + 1)) _ _ (by omega) ⟨j + 1, rfl, hlt', by simp -implicitDefEqProofs (disch := first | with_reducible exact Nat.ne_of_beq_eq_false rfl | omega) only [upd_ne, g1], by simp -implicitDefEqProofs (disch := first | with_reducible exact Nat.ne_of_beq_eq_false rfl | omega) only [upd_ne, g19], by simp -implicitDefEqProofs (disch := first | with_reducible exact Nat.ne_of_beq_eq_false rfl | omega) only [upd_ne, g20], by simp -implicitDefEqProofs (disch := first | with_reducible exact Nat.ne_of_beq_eq_false rfl | omega) only [upd_eq] <;> rfl, rfl, ?_⟩
      rw [take_get hy]
      intro c hc
      rcases List.mem_append.1 hc with q | q
      · exact hw c q
      · simp at q; rw [q]; exact hb
  obtain rfl : j = 6 := by omega
  rw [List.take_of_length_le (by simp)] at hw
  try simp -implicitDefEqProofs only [opH_sv, opH_su, pureW_sv, opH_nil, pureW_nil, pick_t, pick_f, pick_tp, pick_fp, gd_tt, gd_ft, gd_tf, gd_ff, box_new, regs0, regs1, regs2, regs3, regs4, regs5, regs6, cells_agg, cells_int, cells_bool, cells_ptr, cells_slice, cells_string, cells_func, cells_nilFunc, cells_map, retK_ret, retK_normal, resL_tmp, resL_cell, resL_nil0, resL_nil1, resL_nil2, resL_nil3, resC_ptr, ex0, ex1, ex2, ex0p, ex1p, ex2p, HL.cond_true, HL.cond_false, thenK_normal, thenK_ret, thenK_exit, blockK_normal, blockK_ret, blockK_exit, scopeK_normal, scopeK_ret, scopeK_exit, wpH_pure, bin_add, bin_sub, bin_mul, bin_lss, bin_leq, bin_gtr, bin_geq, bin_quo, bin_rem, bin_quop, bin_remp, wrap_in, bin_addp, bin_subp, bin_mulp, bin_lssp, bin_leqp, bin_gtrp, bin_geqp, un_not, un_notp, un_neg, eq_int, ne_int, eq_intp, ne_intp, callV_fn, add_mk, upd_eq, upd_ne, cell_set_self, Nat.zero_add, Nat.add_zero, Option.some.injEq, exists_eq_left', List.getElem?_cons_succ, List.getElem?_cons_zero, true_and, and_true, bne_self_eq_false, beq_self_eq_true, Bool.not_true, Bool.not_false, Bool.and_true, Bool.and_self, Bool.and_false, Bool.true_and, List.length_cons, List.length_nil, ne_eq, not_false_eq_true, Nat.reduceAdd, Nat.reduceMul, if_true, if_false, oneCell_int, oneCell_bool, oneCell_ptr, oneCell_slice, oneCell_string, oneCell_func, oneCell_map, Int.toNat_natCast, List.set_cons_zero, List.set_cons_succ, Nat.lt_irrefl, Nat.zero_lt_succ, Nat.succ_lt_succ_iff, fa26_0, fa26_0p, fa26_1, fa26_1p, fa26_10, fa26_10p, fa26_11, fa26_11p, fa26_12, fa26_12p, fa26_13, fa26_13p, fa26_14, fa26_14p, fa26_2, fa26_2p, fa26_3, fa26_3p, fa26_4, fa26_4p, fa26_5, fa26_5p, fa26_6, fa26_6p, fa26_7, fa26_7p, fa26_8, fa26_8p, fa26_9, fa26_9p, fa28_0, fa28_0p, fa28_1, fa28_1p, fa30_0, fa30_0p, fa30_1, fa30_1p, fa46_0, fa46_0p, fa46_1, fa46_1p, fa46_2, fa46_2p, fa46_3, fa46_3p, fa46_4, fa46_4p, fa46_5, fa46_5p, fa46_6, fa46_6p, fa86_0, fa86_0p, fa86_1, fa86_1p, fa86_2, fa86_2p, fa95_0, fa95_0p, fa95_1, fa95_1p, ld3, ld3p, ld4, ld4p, ld22, ld22p, ld23, ld23p, ld24, ld24p, ld26, ld26p, ld28, ld28p, ld30, ld30p, ld31, ld31p, ld46, ld46p, ld47, ld47p, ld52, ld52p, ld55, ld55p, ld57, ld57p, ld95, ld95p, st3s, st4s, st22s, st23s, st24s, st26w, st28w, st30w, st46w, st47s, st55s, st95w, ix22, ix22p, ix23, ix23p, ix24, ix24p, ix47, ix47p, ix56, ix56p, ix57, ix57p, ix101, ix101p, ln22, ln22p, ln23, ln23p, ln24, ln24p, ln47, ln47p, ln56, ln56p, ln57, ln57p, al22, al26, al28, al30, al46, al47, al95, cf14, cf15, cf16, cf17, cf18, cf19, cf20, cf21, cf22, cf23, cf24, cf25, cf26, cf27, cf28, cf29, cf30, cf31, cf32, cf33, cf34, cf35, cf36, cf37, cf38, cf39, cf40, cf41, cf42, cf43, cf44, cf45, cf46, cf47, cf48, cf49, cf50, cf51, cf52, cf53, cf54, cf55, cf56, cf57, cf58, cf59, cf60, cf61, cf62, cf63, cf64, cf65, cf66, cf67, cf68, cf69, cf70, cf71, cf72, cf73, cf74, cf75, cf76, cf77, cf78, cf79, cf80, bd26_0_1_2_7_8_9_10_11_12_13_14, bd26_0_1_2_7_8_9_10_11_12_13_14p, bd28_0, bd28_0p, bd28_0_1, bd28_0_1p, bd30_, bd30_p, bd30_0_1, bd30_0_1p, bd30_0, bd30_0p, bd46_0_1_2_3_4, bd46_0_1_2_3_4p, bd46_0_3_4, bd46_0_3_4p, bd86_0_1_2, bd86_0_1_2p, bd87_0_1_2_3, bd87_0_1_2_3p, bd95_0_1, bd95_0_1p, bs22_2_0_1, bs47_1_0, bs22_1_0, bs57_6_0_1_2_3_4_5, bs24_1_0, bs22_4_0_1_2_3, bs56_11_0_1_2_3_4_5_6_7_8_9_10, bs57_11_0_1_2_3_4_5_6_7_8_9_10, eq4, eq4p, eq28, eq28p, eq30, eq30p, eq31n, eq31np, eq31s, eq31sp, eq46, eq46p, eq50n, eq50np, eq50s, eq50sp, eq67n, eq67np, eq67s, eq67sp, ne4, ne4p, ne28, ne28p, ne30, ne30p, ne31n, ne31np, ne31s, ne31sp, ne46, ne46p]
  unfold S49_k1
  try simp -implicitDefEqProofs (disch := first | with_reducible exact Nat.ne_of_beq_eq_false rfl | omega) only [upd_ne, g1, retK_ret, resL_tmp, upd_eq, resL_nil1, opH_sv, cf57, fa26_2, add_mk, Nat.zero_add, ld3, cx2, List.getElem?_cons_succ, List.getElem?_cons_zero, Option.some.injEq, exists_eq_left']
  refine (within_spec (n := C.ht) (a := 1) (b := 8)).mono ?_
  rintro _ h3 ⟨rfl, rfl⟩
  cases hht : withinB C.ht 1 8 with
  | false => try simp -implicitDefEqProofs only [un_not, Bool.not_false, pick_t, HL.cond_true, gd_tf]; exact no (fun q => absurd (q.ht.symm.trans hht) (by decide)) L2 d2
  | true =>
  try simp -implicitDefEqProofs only [un_not, Bool.not_true, pick_f, gd_ff, opH_sv, cf57, fa26_12, add_mk, Nat.zero_add, ld3, cx2, List.getElem?_cons_succ, List.getElem?_cons_zero, Option.some.injEq, exists_eq_left']
  refine (within_spec (n := C.qu) (a := 1) (b := 16)).mono ?_
  rintro _ h3 ⟨rfl, rfl⟩
  cases hqu : withinB C.qu 1 16 with
  | false => try simp -implicitDefEqProofs only [un_not, Bool.not_false, pick_t, HL.cond_true, gd_tf]; exact no (fun q => absurd (q.qu.symm.trans hqu) (by decide)) L2 d2
  | true =>
  try simp -implicitDefEqProofs only [un_not, Bool.not_true, pick_f, gd_ff, opH_sv, cf57, fa26_14, add_mk, Nat.zero_add, ld3, cx2, List.getElem?_cons_succ, List.getElem?_cons_zero, Option.some.injEq, exists_eq_left']
  refine (within_spec (n := C.bu) (a := 1) (b := 1048576)).mono ?_
  rintro _ h3 ⟨rfl, rfl⟩
  cases hbu : withinB C.bu 1 1048576 with
  | false => try simp -implicitDefEqProofs only [un_not, Bool.not_false, HL.cond_true]; exact no (fun q => absurd (q.bu.symm.trans hbu) (by decide)) L2 d2
  | true =>
  try simp -implicitDefEqProofs (disch := first | with_reducible exact Nat.ne_of_beq_eq_false rfl | omega) only [un_not, Bool.not_true, HL.cond_false]
  unfold S49_k2
  try simp -implicitDefEqProofs (disch := first | with_reducible exact Nat.ne_of_beq_eq_false rfl | omega) only [upd_ne, g1, retK_ret, resL_tmp, upd_eq, resL_nil1, opH_sv, cf72, ld26, add_mk, Nat.add_zero, cx2, List.getElem?_cons_zero, Option.some.injEq, Nat.zero_add, List.getElem?_cons_succ, exists_eq_left']
  have ca2 := ca.up L2 d2
  refine (laid_spec ca2.cv).mono ?_
  rintro _ h4 ⟨l4, d4, ⟨hl, ga, gp, kb, rfl, go, s4⟩ | ⟨hl, rfl⟩⟩
  rotate_left
  · try simp -implicitDefEqProofs only [ex1, un_not, Bool.not_false, pick_t, HL.cond_true, gd_tf, ex0]
    exact no (fun q => hl q.laid) (L2.trans l4) d4
  have cx4 : ∀ j, cellIn G h4 ⟨x, j, none⟩ = _ := fun j => cell_of (look_own (l4 _ _ (l2 _ _ b1)))
  try simp -implicitDefEqProofs only [ex1, un_not, Bool.not_true, pick_f, gd_ff, opH_sv, cf73, fa26_5, add_mk, Nat.zero_add, ld23, ex0, cx4, List.getElem?_cons_succ, List.getElem?_cons_zero, Option.some.injEq, exists_eq_left']
  refine (s4.on (robots_spec (w := wC C) (k := kC C) (f := f0C C) go (st.under d4 s4.hd) (ca2.ro.gnd s4 d4) hp)).mono ?_
  rintro _ h5 ⟨ga5, ⟨hr, rfl, go5⟩ | ⟨hr, rfl⟩, s5, d5⟩
  rotate_left
  · try simp -implicitDefEqProofs only [un_not, Bool.not_false, pick_t, HL.cond_true, gd_tf]
    exact no (fun q => hr q.rob) (L2.trans (s5.in 1 rfl)) d5
  have cx5 : ∀ j, cellIn G h5 ⟨x, j, none⟩ = _ := fun j => cell_of (look_own (s5.in 1 rfl _ _ (l2 _ _ b1)))
  try simp -implicitDefEqProofs only [un_not, Bool.not_true, pick_f, gd_ff, opH_sv, cf74, fa26_2, add_mk, Nat.zero_add, ld3, fa26_6, ld24, cx5, List.getElem?_cons_succ, List.getElem?_cons_zero, Option.some.injEq, exists_eq_left']
  have hht8 : C.ht ≤ 8 := by unfold withinB at hht; simp only [Bool.and_eq_true, decide_eq_true_eq] at hht; exact hht.2
  refine (s5.on (stacks_spec (st := C.st) go5 (ca2.gstk s5 d5) hht8 hsl)).mono ?_
  rintro _ h6 ⟨ga6, ⟨hs, rfl, go6⟩ | ⟨hs, rfl⟩, s6, d6⟩
  rotate_left
  · try simp -implicitDefEqProofs only [un_not, Bool.not_false, HL.cond_true]
    exact no (fun q => hs q.sta) (L2.trans (s6.in 1 rfl)) d6
  try simp -implicitDefEqProofs only [un_not, Bool.not_true, HL.cond_false]
  unfold S49_k3
  try simp -implicitDefEqProofs only [upd_ne, upd_eq, retK_ret, resL_tmp, resL_nil1]
  exact ⟨L2.trans (s6.in 1 rfl), d6, .inl ⟨⟨hw, hht, hqu, hbu, hl, hr, hs⟩, ga6, gp, kb, rfl, go6, (s6.swap.cut L2).swap⟩⟩

end Go.Proofs.YtnpdploihlgcgaaDoor
end

section
/- New and May of the program's grid. -/
set_option linter.unusedSimpArgs false
set_option linter.unusedVariables false
set_option maxRecDepth 100000
namespace Go.Proofs.YtnpdploihlgcgaaDoor
open Go Go.HL

def NewR (G h : Hp) (C : Conf) (u : Value) (h' : Hp) : Prop := h.le h' ∧ Dis G h' ∧
  ((MadeOk C ∧ ∃ ga gp kb, u = .tuple #[.pointer (some ⟨gp, 0, none⟩), .int .i64 0] ∧ GO ga gp kb (wC C) (kC C) (f3C C) ∧ Sep [ga, h] h') ∨ (¬ MadeOk C ∧ u = .tuple #[.pointer none, .int .i64 5]))

theorem new_spec {G h : Hp} {v : Value} {C : Conf} (hv : CV G h v C) (st : Steps G) (hp : ∀ p ∈ C.ro, PB p) (hsl : C.st.length ≤ 100000000000000) : HCalls Tryd.prog G 14 #[v] h (NewR G h C) := by
  have hv0 := hv
  obtain ⟨ab, cb, ap, cp, ar, cr, az, cs, rfl, ca⟩ := hv
  refine HCalls.assume fun d => enter14 (by simp) ?_
  unfold S14
  simp -implicitDefEqProofs (maxSteps := 2000000) (disch := first | with_reducible exact Nat.ne_of_beq_eq_false rfl | exact oneCell_int | exact oneCell_bool | omega | rfl | (simp; done) | fail) only [regs0, retK_ret, resL_tmp, upd_ne, upd_eq, resL_nil2, cf49, opH_sv, box_new, cells_agg, ld26, add_mk, Nat.add_zero, cell_set_self, List.getElem?_cons_zero, Option.some.injEq, Nat.zero_add, List.getElem?_cons_succ, exists_eq_left']
  intro x hx gx
  generalize e1 : Hp.set h x _ = h1
  obtain ⟨l1, d1, b1⟩ := boxed e1 hx d gx
  have cx : ∀ j, cellIn G h1 ⟨x, j, none⟩ = _ := fun j => cell_of (look_own b1)
  try simp -implicitDefEqProofs (maxSteps := 2000000) (disch := first | with_reducible exact Nat.ne_of_beq_eq_false rfl | exact oneCell_int | exact oneCell_bool | omega | rfl | (simp; done) | fail) only [opH_sv, opH_su, pureW_sv, opH_nil, pureW_nil, pick_t, pick_f, pick_tp, pick_fp, gd_tt, gd_ft, gd_tf, gd_ff, box_new, regs0, regs1, regs2, regs3, regs4, regs5, regs6, cells_agg, cells_int, cells_bool, cells_ptr, cells_slice, cells_string, cells_func, cells_nilFunc, cells_map, retK_ret, retK_normal, resL_tmp, resL_cell, resL_nil0, resL_nil1, resL_nil2, resL_nil3, resC_ptr, ex0, ex1, ex2, ex0p, ex1p, ex2p, HL.cond_true, HL.cond_false, thenK_normal, thenK_ret, thenK_exit, blockK_normal, blockK_ret, blockK_exit, scopeK_normal, scopeK_ret, scopeK_exit, wpH_pure, bin_add, bin_sub, bin_mul, bin_lss, bin_leq, bin_gtr, bin_geq, bin_quo, bin_rem, bin_quop, bin_remp, wrap_in, bin_addp, bin_subp, bin_mulp, bin_lssp, bin_leqp, bin_gtrp, bin_geqp, un_not, un_notp, un_neg, eq_int, ne_int, eq_intp, ne_intp, callV_fn, add_mk, upd_eq, upd_ne, cell_set_self, Nat.zero_add, Nat.add_zero, Option.some.injEq, exists_eq_left', List.getElem?_cons_succ, List.getElem?_cons_zero, true_and, and_true, bne_self_eq_false, beq_self_eq_true, Bool.not_true, Bool.not_false, Bool.and_true, Bool.and_self, Bool.and_false, Bool.true_and, List.length_cons, List.length_nil, ne_eq, not_false_eq_true, Nat.reduceAdd, Nat.reduceMul, if_true, if_false, oneCell_int, oneCell_bool, oneCell_ptr, oneCell_slice, oneCell_string, oneCell_func, oneCell_map, Int.toNat_natCast, List.set_cons_zero, List.set_cons_succ, Nat.lt_irrefl, Nat.zero_lt_succ, Nat.succ_lt_succ_iff, fa26_0, fa26_0p, fa26_1, fa26_1p, fa26_10, fa26_10p, fa26_11, fa26_11p, fa26_12, fa26_12p, fa26_13, fa26_13p, fa26_14, fa26_14p, fa26_2, fa26_2p, fa26_3, fa26_3p, fa26_4, fa26_4p, fa26_5, fa26_5p, fa26_6, fa26_6p, fa26_7, fa26_7p, fa26_8, fa26_8p, fa26_9, fa26_9p, fa28_0, fa28_0p, fa28_1, fa28_1p, fa30_0, fa30_0p, fa30_1, fa30_1p, fa46_0, fa46_0p, fa46_1, fa46_1p, fa46_2, fa46_2p, fa46_3, fa46_3p, fa46_4, fa46_4p, fa46_5, fa46_5p, fa46_6, fa46_6p, fa86_0, fa86_0p, fa86_1, fa86_1p, fa86_2, fa86_2p, fa95_0, fa95_0p, fa95_1, fa95_1p, ld3, ld3p, ld4, ld4p, ld22, ld22p, ld23, ld23p, ld24, ld24p, ld26, ld26p, ld28, ld28p, ld30, ld30p, ld31, ld31p, ld46, ld46p, ld47, ld47p, ld52, ld52p, ld55, ld55p, ld57, ld57p, ld95, ld95p, st3s, st4s, st22s, st23s, st24s, st26w, st28w, st30w, st46w, st47s, st55s, st95w, ix22, ix22p, ix23, ix23p, ix24, ix24p, ix47, ix47p, ix56, ix56p, ix57, ix57p, ix101, ix101p, ln22, ln22p, ln23, ln23p, ln24, ln24p, ln47, ln47p, ln56, ln56p, ln57, ln57p, al22, al26, al28, al30, al46, al47, al95, cf14, cf15, cf16, cf17, cf18, cf19, cf20, cf21, cf22, cf23, cf24, cf25, cf26, cf27, cf28, cf29, cf30, cf31, cf32, cf33, cf34, cf35, cf36, cf37, cf38, cf39, cf40, cf41, cf42, cf43, cf44, cf45, cf46, cf47, cf48, cf49, cf50, cf51, cf52, cf53, cf54, cf55, cf56, cf57, cf58, cf59, cf60, cf61, cf62, cf63, cf64, cf65, cf66, cf67, cf68, cf69, cf70, cf71, cf72, cf73, cf74, cf75, cf76, cf77, cf78, cf79, cf80, bd26_0_1_2_7_8_9_10_11_12_13_14, bd26_0_1_2_7_8_9_10_11_12_13_14p, bd28_0, bd28_0p, bd28_0_1, bd28_0_1p, bd30_, bd30_p, bd30_0_1, bd30_0_1p, bd30_0, bd30_0p, bd46_0_1_2_3_4, bd46_0_1_2_3_4p, bd46_0_3_4, bd46_0_3_4p, bd86_0_1_2, bd86_0_1_2p, bd87_0_1_2_3, bd87_0_1_2_3p, bd95_0_1, bd95_0_1p, bs22_2_0_1, bs47_1_0, bs22_1_0, bs57_6_0_1_2_3_4_5, bs24_1_0, bs22_4_0_1_2_3, bs56_11_0_1_2_3_4_5_6_7_8_9_10, bs57_11_0_1_2_3_4_5_6_7_8_9_10, eq4, eq4p, eq28, eq28p, eq30, eq30p, eq31n, eq31np, eq31s, eq31sp, eq46, eq46p, eq50n, eq50np, eq50s, eq50sp, eq67n, eq67np, eq67s, eq67sp, ne4, ne4p, ne28, ne28p, ne30, ne30p, ne31n, ne31np, ne31s, ne31sp, ne46, ne46p, cx]
  refine (made_spec (ca.up l1 d1).cv st hp hsl).mono ?_
  rintro _ h2 ⟨l2, d2, ⟨hm, ga, gp, kb, rfl, go, s2⟩ | ⟨hm, rfl⟩⟩
  · try simp -implicitDefEqProofs (maxSteps := 2000000) (disch := first | with_reducible exact Nat.ne_of_beq_eq_false rfl | exact oneCell_int | exact oneCell_bool | omega | rfl | (simp; done) | fail) only [eq31s, HL.cond_false]
    unfold S14_k1
    try simp -implicitDefEqProofs (maxSteps := 2000000) (disch := first | with_reducible exact Nat.ne_of_beq_eq_false rfl | exact oneCell_int | exact oneCell_bool | omega | rfl | (simp; done) | fail) only [upd_ne, upd_eq, retK_ret, resL_tmp, resL_nil2]
    exact ⟨l1.trans l2, d2, .inl ⟨hm, ga, gp, kb, rfl, go, (s2.swap.cut l1).swap⟩⟩
  · try simp -implicitDefEqProofs (maxSteps := 2000000) (disch := first | with_reducible exact Nat.ne_of_beq_eq_false rfl | exact oneCell_int | exact oneCell_bool | omega | rfl | (simp; done) | fail) only [eq31n, HL.cond_true]
    exact ⟨l1.trans l2, d2, .inr ⟨hm, rfl⟩⟩

end Go.Proofs.YtnpdploihlgcgaaDoor
end

section
/- A text of the proofs. -/
set_option linter.unusedVariables false
set_option maxRecDepth 100000
namespace Go.Proofs.YtnpdploihlgcgaaDoor
open Go Go.HL
end Go.Proofs.YtnpdploihlgcgaaDoor
end

section
/- A text of the proofs. -/
set_option linter.unusedVariables false
set_option maxRecDepth 100000
namespace Go.Proofs.YtnpdploihlgcgaaDoor
open Go Go.HL
def md15 : Nat → Hint
  | _ => ⟨false, [], [], [], [], false⟩
def S15 (G : Hp) (K : Exit → Rg → Hp → Prop) (r : Rg) (h : Hp) : Prop :=
  opH Tryd.prog G (sv (Instr.box 26 (r 0))) h fun v0 h0 =>
  opH Tryd.prog G (sv (Instr.alloc 26 true (.tuple #[]))) h0 fun v1 h1 =>
  opH Tryd.prog G (sv (Instr.fieldAt 26 v0 3)) h1 fun v2 h2 =>
  opH Tryd.prog G (sv (Instr.loadAt 22 v2)) h2 fun v3 h3 =>
  opH Tryd.prog G (sv (Builtin.append_ #[22, 22] 22 #[(.slice none 0 0), v3])) h3 fun v4 h4 =>
  opH Tryd.prog G (sv (Instr.fieldAt 26 v0 3)) h4 fun v5 h5 =>
  opH Tryd.prog G (su (Instr.storeAt 22 v5 v4)) h5 fun v6 h6 =>
  opH Tryd.prog G (sv (Instr.fieldAt 26 v0 4)) h6 fun v7 h7 =>
  opH Tryd.prog G (sv (Instr.loadAt 22 v7)) h7 fun v8 h8 =>
  opH Tryd.prog G (sv (Builtin.append_ #[22, 22] 22 #[(.slice none 0 0), v8])) h8 fun v9 h9 =>
  opH Tryd.prog G (sv (Instr.fieldAt 26 v0 4)) h9 fun v10 h10 =>
  opH Tryd.prog G (su (Instr.storeAt 22 v10 v9)) h10 fun v11 h11 =>
  opH Tryd.prog G (sv (Instr.fieldAt 26 v0 5)) h11 fun v12 h12 =>
  opH Tryd.prog G (sv (Instr.loadAt 23 v12)) h12 fun v13 h13 =>
  opH Tryd.prog G (sv (Builtin.append_ #[23, 23] 23 #[(.slice none 0 0), v13])) h13 fun v14 h14 =>
  opH Tryd.prog G (sv (Instr.fieldAt 26 v0 5)) h14 fun v15 h15 =>
  opH Tryd.prog G (su (Instr.storeAt 23 v15 v14)) h15 fun v16 h16 =>
  opH Tryd.prog G (sv (Instr.fieldAt 26 v0 6)) h16 fun v17 h17 =>
  opH Tryd.prog G (sv (Instr.loadAt 24 v17)) h17 fun v18 h18 =>
  opH Tryd.prog G (callFunc 50 #[v18]) h18 fun v19 h19 =>
  opH Tryd.prog G (sv (Instr.fieldAt 26 v0 6)) h19 fun v20 h20 =>
  opH Tryd.prog G (su (Instr.storeAt 24 v20 v19)) h20 fun v21 h21 =>
  opH Tryd.prog G (sv (Instr.loadAt 26 v0)) h21 fun v22 h22 =>
  opH Tryd.prog G (su (Instr.storeAt 26 v1 v22)) h22 fun v23 h23 =>
  K .ret (upd (upd (upd (upd (upd (upd (upd (upd (upd (upd (upd (upd (upd (upd (upd (upd (upd (upd (upd r 1 v0) 2 v1) 3 v2) 4 v3) 5 v4) 6 v5) 7 v7) 8 v8) 9 v9) 10 v10) 11 v12) 12 v13) 13 v14) 14 v15) 15 v17) 16 v18) 17 v19) 18 v20) 19 v22) h23
theorem S15_eq (G : Hp) (K : Exit → Rg → Hp → Prop) (r : Rg) (h : Hp) : wpC Tryd.prog G 20 md15 true (Tryd.f15.body.getD .skip) r h K = S15 G K r h := by kernel_rfl
theorem enter15 {G : Hp} {h : Hp} {args : Array Value} {R : Value → Hp → Prop} (hn : args.size ≤ 20) (H : S15 G (retK Tryd.prog G [.cell 2 26] R) (regs args) h) : HCalls Tryd.prog G 15 args h R :=
  HCalls.enter (md := md15) mixed Tryd.func15 rfl hn (by rw [← S15_eq] at H; exact H)

def md50 : Nat → Hint
  | 5 => ⟨false, [0, 0, 0, 6, 14, 30, 0, 0, 192, 448, 960, 1984, 4094, 8190, 16383, 32767], [.pureN, .pureN, .pureN, .pureN, .pureN, .pureM, .pureN, .pureN, .pureN, .pureN, .pureM, .eff, .pureN, .alloc, .eff, .pureN], [.pureN, .pureN, .pureN, .pureN, .pureN, .pureM, .pureN, .pureN, .pureN, .pureN, .pureM, .eff, .pureN, .alloc, .eff, .pureN], [false, false, false, false, false, false, false, false, false, false, false, true, false, false, false, false], true⟩
  | _ => ⟨false, [], [], [], [], false⟩
def S50_k1 (G : Hp) (K : Exit → Rg → Hp → Prop) (r : Rg) (h : Hp) : Prop :=
  K .ret (upd (upd r 26 (r 3)) 2 (r 3)) h
def S50_l2_k4 (G : Hp) (K : Exit → Rg → Hp → Prop) (r : Rg) (h : Hp) : Prop :=
  opH Tryd.prog G (sv (binOp .add 3 (r 4) (.int .i64 1))) h fun v2 h2 =>
  K .normal (upd (upd (upd r 9 (r 4)) 10 v2) 4 v2) h2
def S50_l2_k3 (G : Hp) (K : Exit → Rg → Hp → Prop) (r : Rg) (h : Hp) : Prop :=
  ∃ q3 : Hp, q3.le h ∧
  pureW Tryd.prog noHp noHp (sv (Instr.indexAt 24 (r 0) (r 4))) h fun v4 h4 =>
  pureW Tryd.prog noHp noHp (sv (Instr.fieldAt 95 v4 0)) h4 fun v5 h5 =>
  pureW Tryd.prog G q3 (sv (Instr.loadAt 28 v5)) h5 fun v6 h6 =>
  pureW Tryd.prog noHp noHp (sv (Instr.indexAt 24 (r 0) (r 4))) h6 fun v7 h7 =>
  pureW Tryd.prog noHp noHp (sv (Instr.fieldAt 95 v7 1)) h7 fun v8 h8 =>
  pureW Tryd.prog G q3 (sv (Instr.loadAt 57 v8)) h8 fun v9 h9 =>
  opH Tryd.prog G (callFunc 75 #[v9]) h9 fun v10 h10 => q3.le h10 ∧
  pureW Tryd.prog noHp noHp (sv (Instr.build 95 #[(0, v6), (1, v10)])) h10 fun v11 h11 =>
  opH Tryd.prog G (sv (Instr.buildSlice 24 1 #[(0, v11)])) h11 fun v12 h12 =>
  opH Tryd.prog G (sv (Builtin.append_ #[24, 24] 24 #[(r 3), v12])) h12 fun v13 h13 =>
  S50_l2_k4 G K (upd (upd (upd (upd (upd (upd (upd (upd (upd (upd (upd (upd (upd (upd (upd (upd r 11 (r 3)) 12 (r 0)) 13 (r 4)) 14 v4) 15 v5) 16 v6) 17 (r 0)) 18 (r 4)) 19 v7) 20 v8) 21 v9) 22 v10) 23 v11) 24 v12) 25 v13) 3 v13) h13
def S50_l2 (G : Hp) (r : Rg) (h : Hp) (K : Exit → Rg → Hp → Prop) : Prop :=
  opH Tryd.prog G (sv (Builtin.len_ #[24] 3 #[(r 0)])) h fun v0 h0 =>
  opH Tryd.prog G (sv (binOp .lss 3 (r 4) v0)) h0 fun v1 h1 =>
  cond v1
  (S50_l2_k3 G K (upd (upd (upd (upd r 5 (r 4)) 6 (r 0)) 7 v0) 8 v1) h1)
  (K (.exit 0) (upd (upd (upd (upd r 5 (r 4)) 6 (r 0)) 7 v0) 8 v1) h1)
def S50 (G : Hp) (K : Exit → Rg → Hp → Prop) (r : Rg) (h : Hp) : Prop :=
  loopP (S50_l2 G) (upd (upd (upd r 2 (.slice none 0 0)) 3 (.slice none 0 0)) 4 (.int .i64 0)) h (blockK 0 (thenK (S50_k1 G K) K))
theorem S50_eq (G : Hp) (K : Exit → Rg → Hp → Prop) (r : Rg) (h : Hp) : wpC Tryd.prog G 27 md50 true (Tryd.f50.body.getD .skip) r h K = S50 G K r h := by kernel_rfl
theorem enter50 {G : Hp} {h : Hp} {args : Array Value} {R : Value → Hp → Prop} (hn : args.size ≤ 27) (H : S50 G (retK Tryd.prog G [.tmp 2] R) (regs args) h) : HCalls Tryd.prog G 50 args h R :=
  HCalls.enter (md := md50) mixed Tryd.func50 rfl hn (by rw [← S50_eq] at H; exact H)

def md75 : Nat → Hint
  | _ => ⟨false, [], [], [], [], false⟩
def S75 (G : Hp) (K : Exit → Rg → Hp → Prop) (r : Rg) (h : Hp) : Prop :=
  opH Tryd.prog G (sv (Builtin.append_ #[57, 57] 57 #[(.slice none 0 0), (r 0)])) h fun v0 h0 =>
  K .ret (upd (upd (upd (upd r 2 (.slice none 0 0)) 3 (r 0)) 4 v0) 2 v0) h0
theorem S75_eq (G : Hp) (K : Exit → Rg → Hp → Prop) (r : Rg) (h : Hp) : wpC Tryd.prog G 5 md75 true (Tryd.f75.body.getD .skip) r h K = S75 G K r h := by kernel_rfl
theorem enter75 {G : Hp} {h : Hp} {args : Array Value} {R : Value → Hp → Prop} (hn : args.size ≤ 5) (H : S75 G (retK Tryd.prog G [.tmp 2] R) (regs args) h) : HCalls Tryd.prog G 75 args h R :=
  HCalls.enter (md := md75) mixed Tryd.func75 rfl hn (by rw [← S75_eq] at H; exact H)

end Go.Proofs.YtnpdploihlgcgaaDoor
end

section
/- A pose shifted; a move; a cell's number by the reference; rows of cells held against each other. -/
set_option linter.unusedSimpArgs false
set_option linter.unusedVariables false
set_option maxRecDepth 100000
namespace Go.Proofs.YtnpdploihlgcgaaDoor
open Go Go.HL

def dxI (d : Int) : Int := if d = 1 then 1 else if d = 3 then -1 else 0
def dyI (d : Int) : Int := if d = 0 then -1 else if d = 2 then 1 else 0
def okS (d n : Int) : Bool := withinB n 0 16 && withinB d 0 3
def shiftP (p : Pose) (d n : Int) : Pose := ⟨wr (p.x + n * dxI d), wr (p.y + n * dyI d), p.d⟩
def shiftA (p : Pose) (d n : Int) : Pose := if okS d n = true then shiftP p d n else ⟨0, 0, false⟩

theorem wr_bd (x : Int) : Bd (wr x) := by
  unfold Bd wr IntKind.wrap
  simp [IntKind.signed, IntKind.bits]
  omega
theorem wr_in {x : Int} (h : Bd x) : wr x = x := by
  unfold Bd at h
  exact wrap_in (by omega) (by omega)
theorem shiftP_bd {p : Pose} {d n : Int} : PB (shiftP p d n) := ⟨wr_bd _, wr_bd _⟩

theorem withinB_iff {n a b : Int} : withinB n a b = true ↔ a ≤ n ∧ n ≤ b := by
  unfold withinB
  simp only [Bool.and_eq_true, decide_eq_true_eq]
  try exact Iff.rfl

theorem Steps.ne {G : Hp} (s : Steps G) {x : Nat} (gx : G x = none) : 0 ≠ x := fun e => by
  obtain ⟨a, b, s⟩ := s
  subst e
  rw [gx] at s
  cases s

theorem shift_spec {G h : Hp} {g : Value} {p : Pose} {dir n : Int} (st : Steps G) : HCalls Tryd.prog G 18 #[g, poseV p, .int .i64 dir, .int .i64 n] h (fun u h' => u = .tuple #[poseV (shiftA p dir n), .bool (okS dir n)] ∧ h' = h) := by
  refine HCalls.assume fun d => quietly (enter18 (by simp) ?_)
  unfold S18
  simp -implicitDefEqProofs (maxSteps := 2000000) (disch := first | with_reducible exact Nat.ne_of_beq_eq_false rfl | exact oneCell_int | exact oneCell_bool | omega | rfl | (simp; done) | fail) only [regs1, regs3, regs2, retK_ret, resL_cell, upd_ne, upd_eq, resL_tmp, resL_nil2, opH_su, opH_sv, bd30_, cf57, al30, resC_ptr, ld30, add_mk, Nat.add_zero, Nat.zero_add, box_new, cells_agg]
  intro x hx gx y hy gy
  have l := (le_set (o := .cells #[.int .i64 p.x, .int .i64 p.y, .bool p.d] 30 (0, 0)) hx).trans (le_set (o := .cells #[.int .i64 0, .int .i64 0, .bool false] 30 (0, 0)) hy)
  have exy := ne_of_set hy
  unfold shiftA okS
  try simp -implicitDefEqProofs (maxSteps := 2000000) (disch := first | with_reducible exact Nat.ne_of_beq_eq_false rfl | exact oneCell_int | exact oneCell_bool | omega | rfl | (simp; done) | fail) only [opH_sv, opH_su, pureW_sv, opH_nil, pureW_nil, pick_t, pick_f, pick_tp, pick_fp, gd_tt, gd_ft, gd_tf, gd_ff, box_new, regs0, regs1, regs2, regs3, regs4, regs5, regs6, cells_agg, cells_int, cells_bool, cells_ptr, cells_slice, cells_string, cells_func, cells_nilFunc, cells_map, retK_ret, retK_normal, resL_tmp, resL_cell, resL_nil0, resL_nil1, resL_nil2, resL_nil3, resC_ptr, ex0, ex1, ex2, ex0p, ex1p, ex2p, HL.cond_true, HL.cond_false, thenK_normal, thenK_ret, thenK_exit, blockK_normal, blockK_ret, blockK_exit, scopeK_normal, scopeK_ret, scopeK_exit, wpH_pure, bin_add, bin_sub, bin_mul, bin_lss, bin_leq, bin_gtr, bin_geq, bin_quo, bin_rem, bin_quop, bin_remp, wrap_in, bin_addp, bin_subp, bin_mulp, bin_lssp, bin_leqp, bin_gtrp, bin_geqp, un_not, un_notp, un_neg, eq_int, ne_int, eq_intp, ne_intp, callV_fn, add_mk, upd_eq, upd_ne, cell_set_self, Nat.zero_add, Nat.add_zero, Option.some.injEq, exists_eq_left', List.getElem?_cons_succ, List.getElem?_cons_zero, true_and, and_true, bne_self_eq_false, beq_self_eq_true, Bool.not_true, Bool.not_false, Bool.and_true, Bool.and_self, Bool.and_false, Bool.true_and, List.length_cons, List.length_nil, ne_eq, not_false_eq_true, Nat.reduceAdd, Nat.reduceMul, if_true, if_false, oneCell_int, oneCell_bool, oneCell_ptr, oneCell_slice, oneCell_string, oneCell_func, oneCell_map, Int.toNat_natCast, List.set_cons_zero, List.set_cons_succ, Nat.lt_irrefl, Nat.zero_lt_succ, Nat.succ_lt_succ_iff, fa26_0, fa26_0p, fa26_1, fa26_1p, fa26_10, fa26_10p, fa26_11, fa26_11p, fa26_12, fa26_12p, fa26_13, fa26_13p, fa26_14, fa26_14p, fa26_2, fa26_2p, fa26_3, fa26_3p, fa26_4, fa26_4p, fa26_5, fa26_5p, fa26_6, fa26_6p, fa26_7, fa26_7p, fa26_8, fa26_8p, fa26_9, fa26_9p, fa28_0, fa28_0p, fa28_1, fa28_1p, fa30_0, fa30_0p, fa30_1, fa30_1p, fa46_0, fa46_0p, fa46_1, fa46_1p, fa46_2, fa46_2p, fa46_3, fa46_3p, fa46_4, fa46_4p, fa46_5, fa46_5p, fa46_6, fa46_6p, fa86_0, fa86_0p, fa86_1, fa86_1p, fa86_2, fa86_2p, fa95_0, fa95_0p, fa95_1, fa95_1p, ld3, ld3p, ld4, ld4p, ld22, ld22p, ld23, ld23p, ld24, ld24p, ld26, ld26p, ld28, ld28p, ld30, ld30p, ld31, ld31p, ld46, ld46p, ld47, ld47p, ld52, ld52p, ld55, ld55p, ld57, ld57p, ld95, ld95p, st3s, st4s, st22s, st23s, st24s, st26w, st28w, st30w, st46w, st47s, st55s, st95w, ix22, ix22p, ix23, ix23p, ix24, ix24p, ix47, ix47p, ix56, ix56p, ix57, ix57p, ix101, ix101p, ln22, ln22p, ln23, ln23p, ln24, ln24p, ln47, ln47p, ln56, ln56p, ln57, ln57p, al22, al26, al28, al30, al46, al47, al95, cf14, cf15, cf16, cf17, cf18, cf19, cf20, cf21, cf22, cf23, cf24, cf25, cf26, cf27, cf28, cf29, cf30, cf31, cf32, cf33, cf34, cf35, cf36, cf37, cf38, cf39, cf40, cf41, cf42, cf43, cf44, cf45, cf46, cf47, cf48, cf49, cf50, cf51, cf52, cf53, cf54, cf55, cf56, cf57, cf58, cf59, cf60, cf61, cf62, cf63, cf64, cf65, cf66, cf67, cf68, cf69, cf70, cf71, cf72, cf73, cf74, cf75, cf76, cf77, cf78, cf79, cf80, bd26_0_1_2_7_8_9_10_11_12_13_14, bd26_0_1_2_7_8_9_10_11_12_13_14p, bd28_0, bd28_0p, bd28_0_1, bd28_0_1p, bd30_, bd30_p, bd30_0_1, bd30_0_1p, bd30_0, bd30_0p, bd46_0_1_2_3_4, bd46_0_1_2_3_4p, bd46_0_3_4, bd46_0_3_4p, bd86_0_1_2, bd86_0_1_2p, bd87_0_1_2_3, bd87_0_1_2_3p, bd95_0_1, bd95_0_1p, bs22_2_0_1, bs47_1_0, bs22_1_0, bs57_6_0_1_2_3_4_5, bs24_1_0, bs22_4_0_1_2_3, bs56_11_0_1_2_3_4_5_6_7_8_9_10, bs57_11_0_1_2_3_4_5_6_7_8_9_10, eq4, eq4p, eq28, eq28p, eq30, eq30p, eq31n, eq31np, eq31s, eq31sp, eq46, eq46p, eq50n, eq50np, eq50s, eq50sp, eq67n, eq67np, eq67s, eq67sp, ne4, ne4p, ne28, ne28p, ne30, ne30p, ne31n, ne31np, ne31s, ne31sp, ne46, ne46p]
  refine (within_spec (n := n) (a := 0) (b := 16)).mono ?_
  rintro _ _ ⟨rfl, rfl⟩
  cases h1 : withinB n 0 16 with
  | false =>
    try simp -implicitDefEqProofs (maxSteps := 2000000) (disch := first | with_reducible exact Nat.ne_of_beq_eq_false rfl | exact oneCell_int | exact oneCell_bool | omega | rfl | (simp; done) | fail) only [un_not, Bool.not_false, pick_t, HL.cond_true, gd_tf, st30w, cell_set_self, List.getElem?_cons_zero, Option.some.injEq, List.getElem?_cons_succ, exists_eq_left']
    first | exact l | exact ⟨rfl, l⟩
  | true =>
  try simp -implicitDefEqProofs (maxSteps := 2000000) (disch := first | with_reducible exact Nat.ne_of_beq_eq_false rfl | exact oneCell_int | exact oneCell_bool | omega | rfl | (simp; done) | fail) only [Bool.true_and, un_not, Bool.not_true, pick_f, gd_ff, opH_sv, cf57]
  refine (within_spec (n := dir) (a := 0) (b := 3)).mono ?_
  rintro _ _ ⟨rfl, rfl⟩
  cases h2 : withinB dir 0 3 with
  | false =>
    try simp -implicitDefEqProofs (maxSteps := 2000000) (disch := first | with_reducible exact Nat.ne_of_beq_eq_false rfl | exact oneCell_int | exact oneCell_bool | omega | rfl | (simp; done) | fail) only [un_not, Bool.not_false, st30w, cell_set_self, List.getElem?_cons_zero, Option.some.injEq, List.getElem?_cons_succ, exists_eq_left', HL.cond_true]
    first | exact l | exact ⟨rfl, l⟩
  | true =>
  have n0 := st.ne gx
  have n1 := st.ne gy
  have c0 := fun j => st.cell d j
  obtain ⟨a1, a2⟩ := withinB_iff.1 h2
  obtain ⟨b1, b2⟩ := withinB_iff.1 h1
  try simp -implicitDefEqProofs (maxSteps := 2000000) (disch := first | with_reducible exact Nat.ne_of_beq_eq_false rfl | exact oneCell_int | exact oneCell_bool | omega | rfl | (simp; done) | fail) only [if_true, un_not, Bool.not_true, st30w, cell_set_self, List.getElem?_cons_zero, Option.some.injEq, List.getElem?_cons_succ, exists_eq_left', HL.cond_false]
  unfold S18_k1
  have hd : dir = 0 ∨ dir = 1 ∨ dir = 2 ∨ dir = 3 := by omega
  have hy2 : ∀ o, (h.set x o) y = none := fun o => by rw [set_other (Ne.symm exy)]; exact none_of_set hy
  rcases hd with rfl | rfl | rfl | rfl
  · try simp -implicitDefEqProofs (maxSteps := 2000000) (disch := first | with_reducible exact Nat.ne_of_beq_eq_false rfl | exact oneCell_int | exact oneCell_bool | omega | rfl | (simp; done) | fail) only [upd_ne, upd_eq, regs2, regs3, retK_ret, resL_cell, resC_ptr, resL_tmp, resL_nil2, ld30, add_mk, Nat.add_zero, Nat.zero_add, opH_su, opH_sv, pureW_sv, fa30_0p, fa28_1p, ix81p (by decide : (0 : Int) ≤ 0) (by decide : (0 : Int) < (4 : Nat)), show Int.toNat 0 = 0 from rfl, Nat.zero_mul, ld3p, fa28_0p, cell_set_other n1, cell_set_other n0, c0, stepL, List.getElem?_cons_zero, Option.some.injEq, exists_eq_left', bin_mulp, wrap_in, store_past exy, cell_set_other exy, cell_set_self, bin_addp, st3s, List.set_cons_zero, List.getElem?_cons_succ, List.set_cons_succ, st30w]
    exact ⟨rfl, (le_set hx).trans (le_set (hy2 _))⟩
  · try simp -implicitDefEqProofs (maxSteps := 2000000) (disch := first | with_reducible exact Nat.ne_of_beq_eq_false rfl | exact oneCell_int | exact oneCell_bool | omega | rfl | (simp; done) | fail) only [upd_ne, upd_eq, regs2, regs3, retK_ret, resL_cell, resC_ptr, resL_tmp, resL_nil2, ld30, add_mk, Nat.add_zero, Nat.zero_add, opH_su, opH_sv, pureW_sv, fa30_0p, fa28_1p, ix81p (by decide : (0 : Int) ≤ 1) (by decide : (1 : Int) < (4 : Nat)), show Int.toNat 1 = 1 from rfl, Nat.one_mul, Nat.reduceAdd, ld3p, fa28_0p, cell_set_other n1, cell_set_other n0, c0, stepL, List.getElem?_cons_succ, List.getElem?_cons_zero, Option.some.injEq, exists_eq_left', bin_mulp, wrap_in, store_past exy, cell_set_other exy, cell_set_self, bin_addp, st3s, List.set_cons_zero, List.set_cons_succ, st30w]
    exact ⟨rfl, (le_set hx).trans (le_set (hy2 _))⟩
  · try simp -implicitDefEqProofs (maxSteps := 2000000) (disch := first | with_reducible exact Nat.ne_of_beq_eq_false rfl | exact oneCell_int | exact oneCell_bool | omega | rfl | (simp; done) | fail) only [upd_ne, upd_eq, regs2, regs3, retK_ret, resL_cell, resC_ptr, resL_tmp, resL_nil2, ld30, add_mk, Nat.add_zero, Nat.zero_add, opH_su, opH_sv, pureW_sv, fa30_0p, fa28_1p, ix81p (by decide : (0 : Int) ≤ 2) (by decide : (2 : Int) < (4 : Nat)), show Int.toNat 2 = 2 from rfl, Nat.reduceMul, Nat.reduceAdd, ld3p, fa28_0p, cell_set_other n1, cell_set_other n0, c0, stepL, List.getElem?_cons_succ, List.getElem?_cons_zero, Option.some.injEq, exists_eq_left', bin_mulp, wrap_in, store_past exy, cell_set_other exy, cell_set_self, bin_addp, st3s, List.set_cons_zero, List.set_cons_succ, st30w]
    exact ⟨rfl, (le_set hx).trans (le_set (hy2 _))⟩
  · try simp -implicitDefEqProofs (maxSteps := 2000000) (disch := first | with_reducible exact Nat.ne_of_beq_eq_false rfl | exact oneCell_int | exact oneCell_bool | omega | rfl | (simp; done) | fail) only [upd_ne, upd_eq, regs2, regs3, retK_ret, resL_cell, resC_ptr, resL_tmp, resL_nil2, ld30, add_mk, Nat.add_zero, Nat.zero_add, opH_su, opH_sv, pureW_sv, fa30_0p, fa28_1p, ix81p (by decide : (0 : Int) ≤ 3) (by decide : (3 : Int) < (4 : Nat)), show Int.toNat 3 = 3 from rfl, Nat.reduceMul, Nat.reduceAdd, ld3p, fa28_0p, cell_set_other n1, cell_set_other n0, c0, stepL, List.getElem?_cons_succ, List.getElem?_cons_zero, Option.some.injEq, exists_eq_left', bin_mulp, wrap_in, store_past exy, cell_set_other exy, cell_set_self, bin_addp, st3s, List.set_cons_zero, List.set_cons_succ, st30w]
    exact ⟨rfl, (le_set hx).trans (le_set (hy2 _))⟩

/-- The reference's shift, for any direction. -/
def shiftR (p : Pose) (d n : Int) : Pose := ⟨if d = 1 then wr (p.x + n) else if d = 3 then wr (p.x - n) else p.x, if d = 0 then wr (p.y - n) else if d = 2 then wr (p.y + n) else p.y, p.d⟩
theorem shiftR_eq {p : Pose} {d n : Int} (hp : PB p) (hd : 0 ≤ d ∧ d ≤ 3) : shiftP p d n = shiftR p d n := by
  obtain ⟨h1, h2⟩ := hp
  have hd : d = 0 ∨ d = 1 ∨ d = 2 ∨ d = 3 := by omega
  have e : n * -1 = -n := by omega
  rcases hd with rfl | rfl | rfl | rfl <;> simp [shiftP, shiftR, dxI, dyI, wr_in h1, wr_in h2, Int.mul_one, e, Int.sub_eq_add_neg]

end Go.Proofs.YtnpdploihlgcgaaDoor
end

section
/- The reference's shift and number; rows of cells held against each other; a place. -/
set_option linter.unusedSimpArgs false
set_option linter.unusedVariables false
set_option maxRecDepth 100000
namespace Go.Proofs.YtnpdploihlgcgaaDoor
open Go Go.HL

def shiftRA (p : Pose) (d n : Int) : Pose := if okS d n = true then shiftR p d n else ⟨0, 0, false⟩
theorem shiftA_eq {p : Pose} {d n : Int} (hp : PB p) : shiftA p d n = shiftRA p d n := by
  unfold shiftA shiftRA
  by_cases h : okS d n = true
  · rw [if_pos h, if_pos h]
    unfold okS at h
    rw [Bool.and_eq_true] at h
    exact shiftR_eq hp (withinB_iff.1 h.2)
  · rw [if_neg h, if_neg h]

theorem place_spec {G h : Hp} {a n : Int} (ha : Bd a) (hn : 0 < n) (hn2 : n ≤ 1000000) : HCalls Tryd.prog G 30 #[.int .i64 a, .int .i64 n] h (fun v h' => v = .int .i64 (a % n) ∧ h' = h) := by
  refine quietly (enter30 (by simp) ?_)
  obtain ⟨ha1, ha2⟩ := ha
  unfold S30
  have e1 : a.tmod n = if 0 ≤ a ∨ a % n = 0 then a % n else a % n - n := by
    rw [Int.tmod_eq_emod]
    have : (n.natAbs : Int) = n := by omega
    by_cases h0 : 0 ≤ a
    · simp [h0]
    · simp [h0, this, Int.dvd_iff_emod_eq_zero]
      split <;> omega
  have hb := Int.emod_nonneg a (show n ≠ 0 by omega)
  have hb2 := Int.emod_lt_of_pos a hn
  simp -implicitDefEqProofs (maxSteps := 2000000) (disch := first | with_reducible exact Nat.ne_of_beq_eq_false rfl | exact oneCell_int | exact oneCell_bool | omega | rfl | (simp; done) | fail) only [regs0, regs1, opH_sv, bin_rem, bin_add, wrap_in, bin_lss]
  by_cases hc : 0 ≤ a ∨ a % n = 0
  · rw [if_pos hc] at e1
    rw [e1, dec_f (show ¬ a % n < 0 by omega)]
    simp -implicitDefEqProofs (maxSteps := 2000000) (disch := first | with_reducible exact Nat.ne_of_beq_eq_false rfl | exact oneCell_int | exact oneCell_bool | omega | rfl | (simp; done) | fail) only [HL.cond_false]
    unfold S30_k1
    simp -implicitDefEqProofs (maxSteps := 2000000) (disch := first | with_reducible exact Nat.ne_of_beq_eq_false rfl | exact oneCell_int | exact oneCell_bool | omega | rfl | (simp; done) | fail) only [upd_ne, upd_eq, retK_ret, resL_tmp, resL_nil1, true_and]
    exact Hp.le.refl h
  · rw [if_neg hc] at e1
    have : a % n ≠ 0 := fun e => hc (.inr e)
    rw [e1, dec_t (show a % n - n < 0 by omega)]
    simp -implicitDefEqProofs (maxSteps := 2000000) (disch := first | with_reducible exact Nat.ne_of_beq_eq_false rfl | exact oneCell_int | exact oneCell_bool | omega | rfl | (simp; done) | fail) only [HL.cond_true]
    unfold S30_k1
    simp -implicitDefEqProofs (maxSteps := 2000000) (disch := first | with_reducible exact Nat.ne_of_beq_eq_false rfl | exact oneCell_int | exact oneCell_bool | omega | rfl | (simp; done) | fail) only [upd_eq, retK_ret, resL_tmp, resL_nil1]
    exact ⟨by congr 1; omega, Hp.le.refl h⟩

end Go.Proofs.YtnpdploihlgcgaaDoor
end

section
/- What a pose's iterator of runs tells, to any yield. -/
set_option linter.unusedSimpArgs false
set_option linter.unusedVariables false
set_option maxRecDepth 100000
namespace Go.Proofs.YtnpdploihlgcgaaDoor
open Go Go.HL

structure Move where
  k : Int
  d : Int
  n : Int
  f : Pose
  t : Pose
  a : Int
  e : Int
  deriving DecidableEq
abbrev moveV (m : Move) : Value := .agg #[.int .i64 m.k, .int .i64 m.d, .int .i64 m.n, .int .i64 m.f.x, .int .i64 m.f.y, .bool m.f.d, .int .i64 m.t.x, .int .i64 m.t.y, .bool m.t.d, .int .i64 m.a, .int .i64 m.e]

/-- A yield: Y between two calls, Z behind the one that stopped; c: does it go on? Any piece that it does not own stays. -/
def Yl {α : Type} (enc : α → Value) (G : Hp) (y : Value) (Y Z : List α → Hp → Prop) (c : List α → Bool) : Prop :=
  ∀ (L : List α) (m : α) (a q h : Hp), Y L a → Sep [a, q] h → Dis G h →
    opH Tryd.prog G (xCallV y #[enc m]) h (fun v h' => ∃ a', v = .bool (c (L ++ [m])) ∧ Sep [a', q] h' ∧ Dis G h' ∧ (if c (L ++ [m]) = true then Y (L ++ [m]) a' else Z (L ++ [m]) a'))

/-- What is told of M behind L. -/
def feed {α : Type} (c : List α → Bool) : List α → List α → List α × Bool
  | L, [] => (L, true)
  | L, m :: M => if c (L ++ [m]) = true then feed c (L ++ [m]) M else (L ++ [m], false)
theorem feed_t {α : Type} {c : List α → Bool} {L M : List α} {m : α} (h : c (L ++ [m]) = true) : feed c L (m :: M) = feed c (L ++ [m]) M := by rw [feed, if_pos h]
theorem feed_f {α : Type} {c : List α → Bool} {L M : List α} {m : α} (h : c (L ++ [m]) = false) : feed c L (m :: M) = (L ++ [m], false) := by rw [feed, if_neg (by simp [h])]
theorem feed_app {α : Type} {c : List α → Bool} : ∀ {M N L : List α}, feed c L (M ++ N) = if (feed c L M).2 = true then feed c (feed c L M).1 N else feed c L M
  | [], N, L => by simp [feed]
  | m :: M, N, L => by
    rw [List.cons_append]
    cases h : c (L ++ [m]) with
    | true => rw [feed_t h, feed_t h, feed_app]
    | false => rw [feed_f h, feed_f h]; simp
/-- The yield that goes on while fewer than k were told. -/
def lessC {α : Type} (k : Int) (L : List α) : Bool := decide ((L.length : Int) < k)
theorem feed_less {α : Type} {k : Int} : ∀ {M L : List α}, (L.length : Int) < k → feed (lessC k) L M = (L ++ M.take (k.toNat - L.length), decide (((L ++ M).length : Int) < k))
  | [], L, h => by simp [feed, h]
  | m :: M, L, h => by
    have e1 : k.toNat - L.length = (k.toNat - (L ++ [m]).length) + 1 := by rw [List.length_append, List.length_singleton]; omega
    by_cases h2 : ((L ++ [m]).length : Int) < k
    · rw [feed_t (by unfold lessC; exact decide_eq_true h2), feed_less h2, e1, List.take_succ_cons]
      simp
    · rw [feed_f (by unfold lessC; exact decide_eq_false h2)]
      rw [List.length_append, List.length_singleton] at h2
      have e2 : k.toNat - (L ++ [m]).length = 0 := by rw [List.length_append, List.length_singleton]; omega
      rw [e1, e2]
      simp only [List.take_succ_cons, List.take_zero, List.length_append, List.length_cons, Prod.mk.injEq, true_and]
      symm
      apply decide_eq_false
      omega

def Fin {α : Type} (T : List α × Bool) (Y Z : List α → Hp → Prop) (a : Hp) : Prop := if T.2 = true then Y T.1 a else Z T.1 a

def runFrom {α : Type} (ok : Nat → Bool) (mk : Nat → α) : Nat → Nat → List α
  | _, 0 => []
  | n, k + 1 => if ok n = true then mk n :: runFrom ok mk (n + 1) k else []
def dirsL {α : Type} (D : Nat → List α) : Nat → Nat → List α
  | _, 0 => []
  | i, k + 1 => D i ++ dirsL D (i + 1) k

def okRun (w k : Nat) (f : Nat → Nat → Int) (p : Pose) (d n : Nat) : Bool := fitsW w k f (shiftP p d n)
def mkRun (p : Pose) (d n : Nat) : Move := ⟨1, d, n, p, shiftP p d n, 0, 0⟩
def runD (w k : Nat) (f : Nat → Nat → Int) (p : Pose) (d : Nat) : List Move := runFrom (okRun w k f p d) (mkRun p d) 1 16
def runsL (w k : Nat) (f : Nat → Nat → Int) (p : Pose) : List Move := dirsL (runD w k f p) 0 4

def RunsR (G q : Hp) (Y Z : List Move → Hp → Prop) (T : List Move × Bool) (h' : Hp) : Prop := ∃ a', Sep [a', q] h' ∧ Dis G h' ∧ Fin T Y Z a'

theorem RunsR.go {G q a h' : Hp} {Y Z : List Move → Hp → Prop} {T : List Move × Bool} {L : List Move} {c : List Move → Bool} (s : Sep [a, q] h') (d : Dis G h') (y : Y L a) (e : feed c L [] = T) : RunsR G q Y Z T h' := by
  subst e
  exact ⟨a, s, d, y⟩

set_option maxHeartbeats 2000000 in
theorem runs1_spec {G h a q : Hp} {y g : Value} {Y Z : List Move → Hp → Prop} {c : List Move → Bool} {L : List Move} {gb pb w k : Nat} {f : Nat → Nat → Int} {p : Pose}
    (yl : Yl moveV G y Y Z c) (ya : Y L a) (s : Sep [a, q] h) (hg : q gb = some (.cells #[g] 31 (0, 0))) (hpb : q pb = some (.cells #[.int .i64 p.x, .int .i64 p.y, .bool p.d] 30 (0, 0))) (gs : GS G q g w k f) (st : Steps G) :
    HCalls Tryd.prog G 76 #[y, .pointer (some ⟨gb, 0, none⟩), .pointer (some ⟨pb, 0, none⟩)] h (fun _ h' => RunsR G q Y Z (feed c L (runsL w k f p)) h') := by
  refine HCalls.assume fun d => enter76 (by simp) ?_
  unfold S76
  generalize hT : feed c L (runsL w k f p) = T
  refine loop_I (fun m r h3 => ∃ (i : Nat) (a : Hp) (L : List Move), m = 4 - i ∧ i ≤ 4 ∧ r 0 = y ∧ r 1 = .pointer (some ⟨gb, 0, none⟩) ∧ r 2 = .pointer (some ⟨pb, 0, none⟩) ∧ r 8 = .int .i64 i ∧ Sep [a, q] h3 ∧ Dis G h3 ∧ Y L a ∧ feed c L (dirsL (runD w k f p) i (4 - i)) = T) ?_
    (m := 4) ⟨0, a, L, rfl, by decide, by simp -implicitDefEqProofs (disch := first | with_reducible exact Nat.ne_of_beq_eq_false rfl | omega) only [upd_ne, regs0], by simp -implicitDefEqProofs (disch := first | with_reducible exact Nat.ne_of_beq_eq_false rfl | omega) only [upd_ne, regs1], by simp -implicitDefEqProofs (disch := first | with_reducible exact Nat.ne_of_beq_eq_false rfl | omega) only [upd_ne, regs2], by simp -implicitDefEqProofs only [upd_eq] <;> rfl, s, d, ya, hT⟩
  rintro m r h3 ⟨i, a, L, rfl, hi, g0, g1, g2, g8, s, d, ya, hT⟩ X HX
  unfold S76_l1
  simp -implicitDefEqProofs only [g8, thenK_exit, blockK_exit, scopeK_normal, retK_normal, resL_nil0, scopeK_exit, if_true, opH_sv, bin_lss]
  refine cond_dec (fun hlt => ?_) (fun hge => ?_)
  rotate_left
  · obtain rfl : i = 4 := by omega
    try simp -implicitDefEqProofs only [opH_sv, opH_su, pureW_sv, opH_nil, pureW_nil, pick_t, pick_f, pick_tp, pick_fp, gd_tt, gd_ft, gd_tf, gd_ff, box_new, regs0, regs1, regs2, regs3, regs4, regs5, regs6, cells_agg, cells_int, cells_bool, cells_ptr, cells_slice, cells_string, cells_func, cells_nilFunc, cells_map, retK_ret, retK_normal, resL_tmp, resL_cell, resL_nil0, resL_nil1, resL_nil2, resL_nil3, resC_ptr, ex0, ex1, ex2, ex0p, ex1p, ex2p, HL.cond_true, HL.cond_false, thenK_normal, thenK_ret, thenK_exit, blockK_normal, blockK_ret, blockK_exit, scopeK_normal, scopeK_ret, scopeK_exit, wpH_pure, bin_add, bin_sub, bin_mul, bin_lss, bin_leq, bin_gtr, bin_geq, bin_quo, bin_rem, bin_quop, bin_remp, wrap_in, bin_addp, bin_subp, bin_mulp, bin_lssp, bin_leqp, bin_gtrp, bin_geqp, un_not, un_notp, un_neg, eq_int, ne_int, eq_intp, ne_intp, callV_fn, add_mk, upd_eq, upd_ne, cell_set_self, Nat.zero_add, Nat.add_zero, Option.some.injEq, exists_eq_left', List.getElem?_cons_succ, List.getElem?_cons_zero, true_and, and_true, bne_self_eq_false, beq_self_eq_true, Bool.not_true, Bool.not_false, Bool.and_true, Bool.and_self, Bool.and_false, Bool.true_and, List.length_cons, List.length_nil, ne_eq, not_false_eq_true, Nat.reduceAdd, Nat.reduceMul, if_true, if_false, oneCell_int, oneCell_bool, oneCell_ptr, oneCell_slice, oneCell_string, oneCell_func, oneCell_map, Int.toNat_natCast, List.set_cons_zero, List.set_cons_succ, Nat.lt_irrefl, Nat.zero_lt_succ, Nat.succ_lt_succ_iff, fa26_0, fa26_0p, fa26_1, fa26_1p, fa26_10, fa26_10p, fa26_11, fa26_11p, fa26_12, fa26_12p, fa26_13, fa26_13p, fa26_14, fa26_14p, fa26_2, fa26_2p, fa26_3, fa26_3p, fa26_4, fa26_4p, fa26_5, fa26_5p, fa26_6, fa26_6p, fa26_7, fa26_7p, fa26_8, fa26_8p, fa26_9, fa26_9p, fa28_0, fa28_0p, fa28_1, fa28_1p, fa30_0, fa30_0p, fa30_1, fa30_1p, fa46_0, fa46_0p, fa46_1, fa46_1p, fa46_2, fa46_2p, fa46_3, fa46_3p, fa46_4, fa46_4p, fa46_5, fa46_5p, fa46_6, fa46_6p, fa86_0, fa86_0p, fa86_1, fa86_1p, fa86_2, fa86_2p, fa95_0, fa95_0p, fa95_1, fa95_1p, ld3, ld3p, ld4, ld4p, ld22, ld22p, ld23, ld23p, ld24, ld24p, ld26, ld26p, ld28, ld28p, ld30, ld30p, ld31, ld31p, ld46, ld46p, ld47, ld47p, ld52, ld52p, ld55, ld55p, ld57, ld57p, ld95, ld95p, st3s, st4s, st22s, st23s, st24s, st26w, st28w, st30w, st46w, st47s, st55s, st95w, ix22, ix22p, ix23, ix23p, ix24, ix24p, ix47, ix47p, ix56, ix56p, ix57, ix57p, ix101, ix101p, ln22, ln22p, ln23, ln23p, ln24, ln24p, ln47, ln47p, ln56, ln56p, ln57, ln57p, al22, al26, al28, al30, al46, al47, al95, cf14, cf15, cf16, cf17, cf18, cf19, cf20, cf21, cf22, cf23, cf24, cf25, cf26, cf27, cf28, cf29, cf30, cf31, cf32, cf33, cf34, cf35, cf36, cf37, cf38, cf39, cf40, cf41, cf42, cf43, cf44, cf45, cf46, cf47, cf48, cf49, cf50, cf51, cf52, cf53, cf54, cf55, cf56, cf57, cf58, cf59, cf60, cf61, cf62, cf63, cf64, cf65, cf66, cf67, cf68, cf69, cf70, cf71, cf72, cf73, cf74, cf75, cf76, cf77, cf78, cf79, cf80, bd26_0_1_2_7_8_9_10_11_12_13_14, bd26_0_1_2_7_8_9_10_11_12_13_14p, bd28_0, bd28_0p, bd28_0_1, bd28_0_1p, bd30_, bd30_p, bd30_0_1, bd30_0_1p, bd30_0, bd30_0p, bd46_0_1_2_3_4, bd46_0_1_2_3_4p, bd46_0_3_4, bd46_0_3_4p, bd86_0_1_2, bd86_0_1_2p, bd87_0_1_2_3, bd87_0_1_2_3p, bd95_0_1, bd95_0_1p, bs22_2_0_1, bs47_1_0, bs22_1_0, bs57_6_0_1_2_3_4_5, bs24_1_0, bs22_4_0_1_2_3, bs56_11_0_1_2_3_4_5_6_7_8_9_10, bs57_11_0_1_2_3_4_5_6_7_8_9_10, eq4, eq4p, eq28, eq28p, eq30, eq30p, eq31n, eq31np, eq31s, eq31sp, eq46, eq46p, eq50n, eq50np, eq50s, eq50sp, eq67n, eq67np, eq67s, eq67sp, ne4, ne4p, ne28, ne28p, ne30, ne30p, ne31n, ne31np, ne31s, ne31sp, ne46, ne46p]
    exact RunsR.go s d ya hT
  have hlt' : i < 4 := by omega
  unfold S76_l1_k2
  refine loop_I (fun m r2 h3 => ∃ (n : Nat) (a : Hp) (L : List Move), m = 17 - n ∧ 1 ≤ n ∧ n ≤ 17 ∧ r2 0 = y ∧ r2 1 = .pointer (some ⟨gb, 0, none⟩) ∧ r2 2 = .pointer (some ⟨pb, 0, none⟩) ∧ r2 4 = .int .i64 i ∧ r2 5 = .int .i64 n ∧ r2 8 = .int .i64 i ∧ Sep [a, q] h3 ∧ Dis G h3 ∧ Y L a ∧ feed c L (runFrom (okRun w k f p i) (mkRun p i) n (17 - n) ++ dirsL (runD w k f p) (i + 1) (3 - i)) = T) ?_
    (m := 16) ⟨1, a, L, rfl, by decide, by decide, by simp -implicitDefEqProofs (disch := first | with_reducible exact Nat.ne_of_beq_eq_false rfl | omega) only [upd_ne, g0], by simp -implicitDefEqProofs (disch := first | with_reducible exact Nat.ne_of_beq_eq_false rfl | omega) only [upd_ne, g1], by simp -implicitDefEqProofs (disch := first | with_reducible exact Nat.ne_of_beq_eq_false rfl | omega) only [upd_ne, g2], by simp -implicitDefEqProofs (disch := first | with_reducible exact Nat.ne_of_beq_eq_false rfl | omega) only [upd_ne, g8, upd_eq], by simp -implicitDefEqProofs only [upd_ne, upd_eq] <;> rfl, by simp -implicitDefEqProofs (disch := first | with_reducible exact Nat.ne_of_beq_eq_false rfl | omega) only [upd_ne, g8], s, d, ya, by rw [← hT, show 4 - i = (3 - i) + 1 by omega]; rfl⟩
  rintro m r2 h3 ⟨n, a, L, rfl, hn1, hn2, q0, q1, q2, q4, q5, q8, s, d, ya, hT⟩ X2 HX2
  have hgh := s.at 1 rfl hg
  have hph := s.at 1 rfl hpb
  have cg : ∀ j, cellIn G h3 ⟨gb, j, none⟩ = _ := fun j => cell_of (look_own hgh)
  have cp : ∀ j, cellIn G h3 ⟨pb, j, none⟩ = _ := fun j => cell_of (look_own hph)
  unfold S76_l1_l4
  simp -implicitDefEqProofs only [q1, q2, q4, q5, thenK_exit, blockK_exit, blockK_normal, thenK_normal, scopeK_normal, retK_normal, resL_nil0, scopeK_exit, if_true, opH_sv, opH_su, al30, cf18, ld30, add_mk, Nat.add_zero, Nat.zero_add, ld31, cg, List.getElem?_cons_zero, Option.some.injEq, cp, List.getElem?_cons_succ, exists_eq_left']
  have next : ∀ (r3 : Rg) h5 (a : Hp) (L : List Move), r3 0 = r2 0 → r3 1 = r2 1 → r3 2 = r2 2 → r3 8 = r2 8 → Sep [a, q] h5 → Dis G h5 → Y L a → feed c L (dirsL (runD w k f p) (i + 1) (3 - i)) = T →
      S76_l1_k3 G (thenK X (blockK 0 (scopeK (retK Tryd.prog G [] fun x h' => RunsR G q Y Z T h')))) r3 h5 := by
    intro r3 h5 a L w0 w1 w2 w8 s5 d5 ya5 hT5
    unfold S76_l1_k3
    have w8' := w8.trans q8
    simp -implicitDefEqProofs (disch := first | with_reducible exact Nat.ne_of_beq_eq_false rfl | omega) only [w8', thenK_normal, opH_sv, bin_add, wrap_in]
    refine HX (4 - (i + 1)) _ _ (by omega) ⟨i + 1, a, L, rfl, hlt', by simp -implicitDefEqProofs (maxSteps := 2000000) (disch := first | with_reducible exact Nat.ne_of_beq_eq_false rfl | exact oneCell_int | exact oneCell_bool | omega | rfl | (simp; done) | fail) only [upd_ne, w0, q0], by simp -implicitDefEqProofs (maxSteps := 2000000) (disch := first | with_reducible exact Nat.ne_of_beq_eq_false rfl | exact oneCell_int | exact oneCell_bool | omega | rfl | (simp; done) | fail) only [upd_ne, w1, q1], by simp -implicitDefEqProofs (maxSteps := 2000000) (disch := first | with_reducible exact Nat.ne_of_beq_eq_false rfl | exact oneCell_int | exact oneCell_bool | omega | rfl | (simp; done) | fail) only [upd_ne, w2, q2], by simp -implicitDefEqProofs (maxSteps := 2000000) (disch := first | with_reducible exact Nat.ne_of_beq_eq_false rfl | exact oneCell_int | exact oneCell_bool | omega | rfl | (simp; done) | fail) only [upd_eq] <;> rfl, s5, d5, ya5, by rw [← hT5, show 4 - (i + 1) = 3 - i by omega]⟩
  refine (shift_spec (p := p) (dir := (i : Int)) (n := (n : Int)) st).mono ?_
  rintro _ h4 ⟨rfl, rfl⟩
  simp -implicitDefEqProofs only [ex1, un_not, ex0, st30w]
  intro x hx gx
  generalize e5 : Hp.set h4 x _ = h5
  obtain ⟨l5, d5, b5⟩ := boxed e5 hx d gx
  have s5 := s.le l5
  by_cases hn : n = 17
  · subst hn
    have ok : okS (i : Int) ((17 : Nat) : Int) = false := by
      unfold okS
      rw [show withinB ((17 : Nat) : Int) 0 16 = false from rfl]
      rfl
    try simp -implicitDefEqProofs only [ok, Bool.not_false, if_neg (show ¬(1 : Nat) = 2 by decide), pick_t, HL.cond_true, gd_tf]
    exact next _ _ a L (by simp -implicitDefEqProofs (disch := first | with_reducible exact Nat.ne_of_beq_eq_false rfl | omega) only [upd_ne]) (by simp -implicitDefEqProofs (disch := first | with_reducible exact Nat.ne_of_beq_eq_false rfl | omega) only [upd_ne]) (by simp -implicitDefEqProofs (disch := first | with_reducible exact Nat.ne_of_beq_eq_false rfl | omega) only [upd_ne]) (by simp -implicitDefEqProofs (disch := first | with_reducible exact Nat.ne_of_beq_eq_false rfl | omega) only [upd_ne]) s5 d5 ya hT
  have ok : okS (i : Int) (n : Int) = true := by
    unfold okS
    rw [Bool.and_eq_true, withinB_iff, withinB_iff]
    omega
  have esh : shiftA p i n = shiftP p i n := by unfold shiftA; rw [if_pos ok]
  rw [esh] at b5
  have cx5 : ∀ j, cellIn G h5 ⟨x, j, none⟩ = _ := fun j => cell_of (look_own b5)
  have cg5 : ∀ j, cellIn G h5 ⟨gb, j, none⟩ = _ := fun j => cell_of (look_own (l5 _ _ hgh))
  have cp5 : ∀ j, cellIn G h5 ⟨pb, j, none⟩ = _ := fun j => cell_of (look_own (l5 _ _ hph))
  try simp -implicitDefEqProofs only [ok, Bool.not_true, pick_f, gd_ff, opH_sv, cf23, ld30, add_mk, Nat.add_zero, Nat.zero_add, ld31, cg5, List.getElem?_cons_zero, Option.some.injEq, cx5, List.getElem?_cons_succ, exists_eq_left']
  refine (fits_spec (p := shiftP p i n) (gs.up (s5.in 1 rfl) d5) st shiftP_bd).mono ?_
  rintro _ h5 ⟨rfl, rfl⟩
  have erun : runFrom (okRun w k f p i) (mkRun p i) n (17 - n) = if fitsW w k f (shiftP p i n) = true then mkRun p i n :: runFrom (okRun w k f p i) (mkRun p i) (n + 1) (17 - (n + 1)) else [] := by
    rw [show 17 - n = (17 - (n + 1)) + 1 by omega]
    rfl
  rw [erun] at hT
  cases hf : fitsW w k f (shiftP p i n) with
  | false =>
    try simp -implicitDefEqProofs only [if_neg (show ¬(1 : Nat) = 2 by decide), un_not, Bool.not_false, HL.cond_true]
    rw [hf] at hT
    exact next _ _ a L (by simp -implicitDefEqProofs (disch := first | with_reducible exact Nat.ne_of_beq_eq_false rfl | omega) only [upd_ne]) (by simp -implicitDefEqProofs (disch := first | with_reducible exact Nat.ne_of_beq_eq_false rfl | omega) only [upd_ne]) (by simp -implicitDefEqProofs (disch := first | with_reducible exact Nat.ne_of_beq_eq_false rfl | omega) only [upd_ne]) (by simp -implicitDefEqProofs (disch := first | with_reducible exact Nat.ne_of_beq_eq_false rfl | omega) only [upd_ne]) s5 d5 ya hT
  | true =>
  rw [hf, if_pos rfl, List.cons_append] at hT
  try simp -implicitDefEqProofs only [un_not, Bool.not_true, HL.cond_false]
  unfold S76_l1_l4_k6
  try simp -implicitDefEqProofs (disch := first | with_reducible exact Nat.ne_of_beq_eq_false rfl | omega) only [upd_ne, q2, upd_eq, q4, q5, q0, thenK_ret, blockK_ret, scopeK_ret, retK_ret, resL_nil0, opH_sv, ld30, add_mk, Nat.add_zero, Nat.zero_add, cp5, List.getElem?_cons_zero, Option.some.injEq, List.getElem?_cons_succ, cx5, bd46_0_1_2_3_4, exists_eq_left']
  refine opH_mono (fun v h6 H => ?_) (yl L (mkRun p i n) a q h5 ya s5 d5)
  obtain ⟨a6, rfl, s6, d6, z6⟩ := H
  cases hc : c (L ++ [mkRun p i n]) with
  | false =>
    try simp -implicitDefEqProofs only [un_not, Bool.not_false, HL.cond_true]
    rw [hc] at z6
    rw [feed_f hc] at hT
    refine ⟨a6, s6, d6, ?_⟩
    rw [← hT]
    exact z6
  | true =>
    try simp -implicitDefEqProofs only [un_not, Bool.not_true, HL.cond_false]
    rw [hc] at z6
    rw [feed_t hc] at hT
    unfold S76_l1_l4_k5
    simp -implicitDefEqProofs (disch := first | with_reducible exact Nat.ne_of_beq_eq_false rfl | omega) only [upd_ne, q5, thenK_normal, opH_sv, bin_add, wrap_in]
    refine HX2 (17 - (n + 1)) _ _ (by omega) ⟨n + 1, a6, L ++ [mkRun p i n], rfl, by omega, by omega, by simp -implicitDefEqProofs (disch := first | with_reducible exact Nat.ne_of_beq_eq_false rfl | omega) only [upd_ne, q0], by simp -implicitDefEqProofs (disch := first | with_reducible exact Nat.ne_of_beq_eq_false rfl | omega) only [upd_ne, q1], by simp -implicitDefEqProofs (disch := first | with_reducible exact Nat.ne_of_beq_eq_false rfl | omega) only [upd_ne, q2], by simp -implicitDefEqProofs (disch := first | with_reducible exact Nat.ne_of_beq_eq_false rfl | omega) only [upd_ne, q4], by simp -implicitDefEqProofs (disch := first | with_reducible exact Nat.ne_of_beq_eq_false rfl | omega) only [upd_eq] <;> rfl, by simp -implicitDefEqProofs (disch := first | with_reducible exact Nat.ne_of_beq_eq_false rfl | omega) only [upd_ne, q8], s6, d6, z6, hT⟩

end Go.Proofs.YtnpdploihlgcgaaDoor
end

section
/- The way of a move: is it legal, which cells. -/
set_option linter.unusedSimpArgs false
set_option linter.unusedVariables false
set_option maxRecDepth 100000
namespace Go.Proofs.YtnpdploihlgcgaaDoor
open Go Go.HL

def squareL (c : Cell) : List Cell := [(c.1, c.2), (wr (c.1 + 1), c.2), (c.1, wr (c.2 + 1)), (wr (c.1 + 1), wr (c.2 + 1))]

theorem square_spec {G h : Hp} {c : Cell} : HCalls Tryd.prog G 77 #[cellV c] h (fun u h' => ∃ ip s, u = .slice s 4 4 ∧ Slc cellC 28 ip u (squareL c) ∧ Sep [ip, h] h' ∧ Dis G h') := by
  refine HCalls.assume fun d => enter77 (by simp) ?_
  unfold S77
  simp -implicitDefEqProofs only [regs0, retK_ret, resL_tmp, upd_eq, resL_nil1, opH_sv, box_new, cells_agg, fa28_1, add_mk, Nat.zero_add, ld3, fa28_0, Nat.add_zero, ld28, cell_set_self, List.getElem?_cons_zero, Option.some.injEq, List.getElem?_cons_succ, exists_eq_left', bin_add, bd28_0_1, bs22_4_0_1_2_3]
  intro x hx gx
  generalize e1 : Hp.set h x _ = h1
  obtain ⟨l1, d1, b1⟩ := boxed e1 hx d gx
  have cx : ∀ j, cellIn G h1 ⟨x, j, none⟩ = _ := fun j => cell_of (look_own b1)
  try simp -implicitDefEqProofs only [opH_sv, opH_su, pureW_sv, opH_nil, pureW_nil, pick_t, pick_f, pick_tp, pick_fp, gd_tt, gd_ft, gd_tf, gd_ff, box_new, regs0, regs1, regs2, regs3, regs4, regs5, regs6, cells_agg, cells_int, cells_bool, cells_ptr, cells_slice, cells_string, cells_func, cells_nilFunc, cells_map, retK_ret, retK_normal, resL_tmp, resL_cell, resL_nil0, resL_nil1, resL_nil2, resL_nil3, resC_ptr, ex0, ex1, ex2, ex0p, ex1p, ex2p, HL.cond_true, HL.cond_false, thenK_normal, thenK_ret, thenK_exit, blockK_normal, blockK_ret, blockK_exit, scopeK_normal, scopeK_ret, scopeK_exit, wpH_pure, bin_add, bin_sub, bin_mul, bin_lss, bin_leq, bin_gtr, bin_geq, bin_quo, bin_rem, bin_quop, bin_remp, wrap_in, bin_addp, bin_subp, bin_mulp, bin_lssp, bin_leqp, bin_gtrp, bin_geqp, un_not, un_notp, un_neg, eq_int, ne_int, eq_intp, ne_intp, callV_fn, add_mk, upd_eq, upd_ne, cell_set_self, Nat.zero_add, Nat.add_zero, Option.some.injEq, exists_eq_left', List.getElem?_cons_succ, List.getElem?_cons_zero, true_and, and_true, bne_self_eq_false, beq_self_eq_true, Bool.not_true, Bool.not_false, Bool.and_true, Bool.and_self, Bool.and_false, Bool.true_and, List.length_cons, List.length_nil, ne_eq, not_false_eq_true, Nat.reduceAdd, Nat.reduceMul, if_true, if_false, oneCell_int, oneCell_bool, oneCell_ptr, oneCell_slice, oneCell_string, oneCell_func, oneCell_map, Int.toNat_natCast, List.set_cons_zero, List.set_cons_succ, Nat.lt_irrefl, Nat.zero_lt_succ, Nat.succ_lt_succ_iff, fa26_0, fa26_0p, fa26_1, fa26_1p, fa26_10, fa26_10p, fa26_11, fa26_11p, fa26_12, fa26_12p, fa26_13, fa26_13p, fa26_14, fa26_14p, fa26_2, fa26_2p, fa26_3, fa26_3p, fa26_4, fa26_4p, fa26_5, fa26_5p, fa26_6, fa26_6p, fa26_7, fa26_7p, fa26_8, fa26_8p, fa26_9, fa26_9p, fa28_0, fa28_0p, fa28_1, fa28_1p, fa30_0, fa30_0p, fa30_1, fa30_1p, fa46_0, fa46_0p, fa46_1, fa46_1p, fa46_2, fa46_2p, fa46_3, fa46_3p, fa46_4, fa46_4p, fa46_5, fa46_5p, fa46_6, fa46_6p, fa86_0, fa86_0p, fa86_1, fa86_1p, fa86_2, fa86_2p, fa95_0, fa95_0p, fa95_1, fa95_1p, ld3, ld3p, ld4, ld4p, ld22, ld22p, ld23, ld23p, ld24, ld24p, ld26, ld26p, ld28, ld28p, ld30, ld30p, ld31, ld31p, ld46, ld46p, ld47, ld47p, ld52, ld52p, ld55, ld55p, ld57, ld57p, ld95, ld95p, st3s, st4s, st22s, st23s, st24s, st26w, st28w, st30w, st46w, st47s, st55s, st95w, ix22, ix22p, ix23, ix23p, ix24, ix24p, ix47, ix47p, ix56, ix56p, ix57, ix57p, ix101, ix101p, ln22, ln22p, ln23, ln23p, ln24, ln24p, ln47, ln47p, ln56, ln56p, ln57, ln57p, al22, al26, al28, al30, al46, al47, al95, cf14, cf15, cf16, cf17, cf18, cf19, cf20, cf21, cf22, cf23, cf24, cf25, cf26, cf27, cf28, cf29, cf30, cf31, cf32, cf33, cf34, cf35, cf36, cf37, cf38, cf39, cf40, cf41, cf42, cf43, cf44, cf45, cf46, cf47, cf48, cf49, cf50, cf51, cf52, cf53, cf54, cf55, cf56, cf57, cf58, cf59, cf60, cf61, cf62, cf63, cf64, cf65, cf66, cf67, cf68, cf69, cf70, cf71, cf72, cf73, cf74, cf75, cf76, cf77, cf78, cf79, cf80, bd26_0_1_2_7_8_9_10_11_12_13_14, bd26_0_1_2_7_8_9_10_11_12_13_14p, bd28_0, bd28_0p, bd28_0_1, bd28_0_1p, bd30_, bd30_p, bd30_0_1, bd30_0_1p, bd30_0, bd30_0p, bd46_0_1_2_3_4, bd46_0_1_2_3_4p, bd46_0_3_4, bd46_0_3_4p, bd86_0_1_2, bd86_0_1_2p, bd87_0_1_2_3, bd87_0_1_2_3p, bd95_0_1, bd95_0_1p, bs22_2_0_1, bs47_1_0, bs22_1_0, bs57_6_0_1_2_3_4_5, bs24_1_0, bs22_4_0_1_2_3, bs56_11_0_1_2_3_4_5_6_7_8_9_10, bs57_11_0_1_2_3_4_5_6_7_8_9_10, eq4, eq4p, eq28, eq28p, eq30, eq30p, eq31n, eq31np, eq31s, eq31sp, eq46, eq46p, eq50n, eq50np, eq50s, eq50sp, eq67n, eq67np, eq67s, eq67sp, ne4, ne4p, ne28, ne28p, ne30, ne30p, ne31n, ne31np, ne31s, ne31sp, ne46, ne46p, cx]
  intro b hb gb
  refine ⟨noHp.set b _, some ⟨b, 0, none⟩, rfl, ⟨some b, 4, [], rfl, set_self, rfl⟩, (Sep.one.new (hb)).swap.cut l1 |>.swap, d1.set gb⟩

def stepB (w k : Nat) (f : Nat → Nat → Int) (m : Move) (i : Nat) : Bool := okS m.d i && fitsW w k f (shiftP m.f m.d i)
def turnP (p : Pose) : Pose := ⟨p.x, p.y, !p.d⟩
def wayB (w k : Nat) (f : Nat → Nat → Int) (m : Move) : Bool := fitsW w k f m.f &&
  (if m.k = 1 then decide (1 ≤ m.n) && ((List.range (m.n.toNat + 1)).all (stepB w k f m) && decide (m.t = shiftP m.f m.d m.n))
   else decide (m.d = 0 ∧ m.n = 0) && (if m.k = 2 then (squareL (m.f.x, m.f.y)).all (openW w k f) && decide (m.t = turnP m.f) else decide (m.k = 3 ∨ m.k = 4) && decide (m.t = m.f)))
def wayL (m : Move) : List Cell := if m.k = 1 then (List.range (m.n.toNat + 1)).flatMap (fun (i : Nat) => cellsP (shiftP m.f m.d i)) else if m.k = 2 then squareL (m.f.x, m.f.y) else cellsP m.f

def WayR (G h : Hp) (w k : Nat) (f : Nat → Nat → Int) (m : Move) (u : Value) (h' : Hp) : Prop :=
  ∃ ip v L, u = .tuple #[v, .bool (wayB w k f m)] ∧ Slc cellC 28 ip v L ∧ Sep [ip, h] h' ∧ Dis G h' ∧ (wayB w k f m = true → L = wayL m)

theorem WayR.no {G h h' : Hp} {w k : Nat} {f : Nat → Nat → Int} {m : Move} (l : h.le h') (d : Dis G h') (e : wayB w k f m = false) : WayR G h w k f m (.tuple #[.slice none 0 0, .bool false]) h' :=
  ⟨noHp, _, [], by rw [e], Slc.nil, (Sep.one.le l).none, d, fun q => by rw [e] at q; cases q⟩

theorem WayR.less {G h0 h h' : Hp} {w k : Nat} {f : Nat → Nat → Int} {m : Move} {u : Value} (l : h0.le h) (x : WayR G h w k f m u h') : WayR G h0 w k f m u h' := by
  obtain ⟨ip, v, L, e1, e2, s, d, e3⟩ := x
  exact ⟨ip, v, L, e1, e2, (s.swap.cut l).swap, d, e3⟩

structure MB (m : Move) : Prop where
  n : Bd m.n
  f : PB m.f

theorem pose_beq2 {p q : Pose} : ((p.x == q.x && p.y == q.y) && (p.d == q.d)) = decide (p = q) := by
  obtain ⟨a, b, c⟩ := p
  obtain ⟨a', b', c'⟩ := q
  rw [Bool.eq_iff_iff]
  simp [and_assoc]
theorem store30 {G h : Hp} {lb : Nat} {z0 z1 z2 : Value} {p : Pose} {K : Unit → Hp → Prop} (hb : h lb = some (.cells #[z0, z1, z2] 30 (0, 0))) :
    wpH Tryd.prog G (Instr.storeAt 30 (.pointer (some ⟨lb, 0, none⟩)) (poseV p)) h K = K () (h.set lb (.cells #[.int .i64 p.x, .int .i64 p.y, .bool p.d] 30 (0, 0))) := by
  conv => lhs; rw [← set_same hb]
  exact st30w

theorem gd_un {w : Bool} {X : (Value → Hp → Prop) → Prop} {h : Hp} {K : Value → Hp → Prop} : gd (wantB undef w) X h K = K undef h := by cases w <;> rfl

abbrev moveO (m : Move) : Obj := .cells #[.int .i64 m.k, .int .i64 m.d, .int .i64 m.n, .int .i64 m.f.x, .int .i64 m.f.y, .bool m.f.d, .int .i64 m.t.x, .int .i64 m.t.y, .bool m.t.d, .int .i64 m.a, .int .i64 m.e] 46 (0, 0)
def lastP (m : Move) (i : Nat) : Pose := if i = 0 then m.f else shiftP m.f m.d ((i : Int) - 1)

theorem range_all_succ {s : Nat → Bool} {i : Nat} (h : ∀ j, j < i → s j = true) (hs : s i = true) : ∀ j, j < i + 1 → s j = true := fun j hj => by
  rcases Nat.lt_succ_iff_lt_or_eq.1 hj with h1 | rfl
  · exact h j h1
  · exact hs
theorem flat_succ {α : Type} {F : Nat → List α} {i : Nat} : (List.range (i + 1)).flatMap F = (List.range i).flatMap F ++ F i := by
  rw [List.range_succ, List.flatMap_append]
  simp

theorem wayB_run {w k : Nat} {f : Nat → Nat → Int} {m : Move} (hk : m.k = 1) : wayB w k f m = (fitsW w k f m.f && (decide (1 ≤ m.n) && ((List.range (m.n.toNat + 1)).all (stepB w k f m) && decide (m.t = shiftP m.f m.d m.n)))) := by
  unfold wayB
  rw [if_pos hk]

set_option maxHeartbeats 4000000 in
theorem way_run {G h h1 h0 : Hp} {x lb w k : Nat} {g : Value} {f : Nat → Nat → Int} {m : Move} {r : Rg} (gs : GS G h1 g w k f) (st : Steps G) (nb : Bd m.n) (hf : fitsW w k f m.f = true) (hk : m.k = 1)
    (bx : h1 x = some (moveO m)) (g0 : r 0 = g) (g3 : r 3 = .pointer (some ⟨x, 0, none⟩)) (g6 : r 6 = .slice none 0 0) (g7 : r 7 = .pointer (some ⟨lb, 0, none⟩)) (g8 : r 8 = .int .i64 0)
    (s : Sep [noHp.set lb (.cells #[.int .i64 m.f.x, .int .i64 m.f.y, .bool m.f.d] 30 (0, 0)), h1] h) (d : Dis G h) (l0 : h0.le h1) :
    loopP (S63_l5 G) r h (blockK 1 (thenK (S63_k4 G (retK Tryd.prog G [.tmp 4, .tmp 5] (WayR G h0 w k f m))) (blockK 0 (thenK (S63_k3 G (retK Tryd.prog G [.tmp 4, .tmp 5] (WayR G h0 w k f m))) (retK Tryd.prog G [.tmp 4, .tmp 5] (WayR G h0 w k f m)))))) := by
  refine loop_I (fun mm r2 h3 => ∃ (i : Nat) (ip : Hp) (sv : Value), mm = 18 - i ∧ i ≤ 17 ∧ (m.n < 0 → i = 0) ∧ (0 ≤ m.n → (i : Int) ≤ m.n + 1) ∧ r2 0 = g ∧ r2 3 = .pointer (some ⟨x, 0, none⟩) ∧ r2 7 = .pointer (some ⟨lb, 0, none⟩) ∧ r2 8 = .int .i64 i ∧ r2 6 = sv ∧
     Slc cellC 28 ip sv ((List.range i).flatMap fun (j : Nat) => cellsP (shiftP m.f m.d j)) ∧ Sep [ip, noHp.set lb (.cells #[.int .i64 (lastP m i).x, .int .i64 (lastP m i).y, .bool (lastP m i).d] 30 (0, 0)), h1] h3 ∧ Dis G h3 ∧ (∀ j, j < i → stepB w k f m j = true)) ?_
    (m := 18) ⟨0, noHp, _, rfl, by decide, fun _ => rfl, fun h => by simp; omega, g0, g3, g7, g8, g6, Slc.nil, by simpa [lastP] using s.none, d, by simp⟩
  rintro mm r2 h3 ⟨i, ip, sv, rfl, hi, hneg, hpos, q0, q3, q7, q8, q6, o, s3, d3, hs⟩ X HX
  have bx3 := s3.at 2 rfl bx
  have cx : ∀ j, cellIn G h3 ⟨x, j, none⟩ = _ := fun j => cell_of (look_own bx3)
  unfold S63_l5
  simp -implicitDefEqProofs only [q3, q8, thenK_exit, blockK_exit, thenK_normal, if_true, opH_sv, fa46_2, add_mk, Nat.zero_add, ld3, cx, List.getElem?_cons_succ, List.getElem?_cons_zero, Option.some.injEq, exists_eq_left', bin_leq]
  refine cond_dec (fun hle => ?_) (fun hgt => ?_)
  rotate_left
  · -- the end
    try simp -implicitDefEqProofs only [opH_sv, opH_su, pureW_sv, opH_nil, pureW_nil, pick_t, pick_f, pick_tp, pick_fp, gd_tt, gd_ft, gd_tf, gd_ff, box_new, regs0, regs1, regs2, regs3, regs4, regs5, regs6, cells_agg, cells_int, cells_bool, cells_ptr, cells_slice, cells_string, cells_func, cells_nilFunc, cells_map, retK_ret, retK_normal, resL_tmp, resL_cell, resL_nil0, resL_nil1, resL_nil2, resL_nil3, resC_ptr, ex0, ex1, ex2, ex0p, ex1p, ex2p, HL.cond_true, HL.cond_false, thenK_normal, thenK_ret, thenK_exit, blockK_normal, blockK_ret, blockK_exit, scopeK_normal, scopeK_ret, scopeK_exit, wpH_pure, bin_add, bin_sub, bin_mul, bin_lss, bin_leq, bin_gtr, bin_geq, bin_quo, bin_rem, bin_quop, bin_remp, wrap_in, bin_addp, bin_subp, bin_mulp, bin_lssp, bin_leqp, bin_gtrp, bin_geqp, un_not, un_notp, un_neg, eq_int, ne_int, eq_intp, ne_intp, callV_fn, add_mk, upd_eq, upd_ne, cell_set_self, Nat.zero_add, Nat.add_zero, Option.some.injEq, exists_eq_left', List.getElem?_cons_succ, List.getElem?_cons_zero, true_and, and_true, bne_self_eq_false, beq_self_eq_true, Bool.not_true, Bool.not_false, Bool.and_true, Bool.and_self, Bool.and_false, Bool.true_and, List.length_cons, List.length_nil, ne_eq, not_false_eq_true, Nat.reduceAdd, Nat.reduceMul, if_true, if_false, oneCell_int, oneCell_bool, oneCell_ptr, oneCell_slice, oneCell_string, oneCell_func, oneCell_map, Int.toNat_natCast, List.set_cons_zero, List.set_cons_succ, Nat.lt_irrefl, Nat.zero_lt_succ, Nat.succ_lt_succ_iff, fa26_0, fa26_0p, fa26_1, fa26_1p, fa26_10, fa26_10p, fa26_11, fa26_11p, fa26_12, fa26_12p, fa26_13, fa26_13p, fa26_14, fa26_14p, fa26_2, fa26_2p, fa26_3, fa26_3p, fa26_4, fa26_4p, fa26_5, fa26_5p, fa26_6, fa26_6p, fa26_7, fa26_7p, fa26_8, fa26_8p, fa26_9, fa26_9p, fa28_0, fa28_0p, fa28_1, fa28_1p, fa30_0, fa30_0p, fa30_1, fa30_1p, fa46_0, fa46_0p, fa46_1, fa46_1p, fa46_2, fa46_2p, fa46_3, fa46_3p, fa46_4, fa46_4p, fa46_5, fa46_5p, fa46_6, fa46_6p, fa86_0, fa86_0p, fa86_1, fa86_1p, fa86_2, fa86_2p, fa95_0, fa95_0p, fa95_1, fa95_1p, ld3, ld3p, ld4, ld4p, ld22, ld22p, ld23, ld23p, ld24, ld24p, ld26, ld26p, ld28, ld28p, ld30, ld30p, ld31, ld31p, ld46, ld46p, ld47, ld47p, ld52, ld52p, ld55, ld55p, ld57, ld57p, ld95, ld95p, st3s, st4s, st22s, st23s, st24s, st26w, st28w, st30w, st46w, st47s, st55s, st95w, ix22, ix22p, ix23, ix23p, ix24, ix24p, ix47, ix47p, ix56, ix56p, ix57, ix57p, ix101, ix101p, ln22, ln22p, ln23, ln23p, ln24, ln24p, ln47, ln47p, ln56, ln56p, ln57, ln57p, al22, al26, al28, al30, al46, al47, al95, cf14, cf15, cf16, cf17, cf18, cf19, cf20, cf21, cf22, cf23, cf24, cf25, cf26, cf27, cf28, cf29, cf30, cf31, cf32, cf33, cf34, cf35, cf36, cf37, cf38, cf39, cf40, cf41, cf42, cf43, cf44, cf45, cf46, cf47, cf48, cf49, cf50, cf51, cf52, cf53, cf54, cf55, cf56, cf57, cf58, cf59, cf60, cf61, cf62, cf63, cf64, cf65, cf66, cf67, cf68, cf69, cf70, cf71, cf72, cf73, cf74, cf75, cf76, cf77, cf78, cf79, cf80, bd26_0_1_2_7_8_9_10_11_12_13_14, bd26_0_1_2_7_8_9_10_11_12_13_14p, bd28_0, bd28_0p, bd28_0_1, bd28_0_1p, bd30_, bd30_p, bd30_0_1, bd30_0_1p, bd30_0, bd30_0p, bd46_0_1_2_3_4, bd46_0_1_2_3_4p, bd46_0_3_4, bd46_0_3_4p, bd86_0_1_2, bd86_0_1_2p, bd87_0_1_2_3, bd87_0_1_2_3p, bd95_0_1, bd95_0_1p, bs22_2_0_1, bs47_1_0, bs22_1_0, bs57_6_0_1_2_3_4_5, bs24_1_0, bs22_4_0_1_2_3, bs56_11_0_1_2_3_4_5_6_7_8_9_10, bs57_11_0_1_2_3_4_5_6_7_8_9_10, eq4, eq4p, eq28, eq28p, eq30, eq30p, eq31n, eq31np, eq31s, eq31sp, eq46, eq46p, eq50n, eq50np, eq50s, eq50sp, eq67n, eq67np, eq67s, eq67sp, ne4, ne4p, ne28, ne28p, ne30, ne30p, ne31n, ne31np, ne31s, ne31sp, ne46, ne46p]
    unfold S63_k4
    have cl : ∀ j, cellIn G h3 ⟨lb, j, none⟩ = _ := fun j => cell_of (look_own (s3.at 1 rfl set_self))
    try simp -implicitDefEqProofs (disch := first | with_reducible exact Nat.ne_of_beq_eq_false rfl | omega) only [upd_ne, q3, q7, retK_ret, resL_tmp, upd_eq, resL_nil2, pureW_sv, fa46_2p, add_mk, Nat.zero_add, ld3p, cx, List.getElem?_cons_succ, List.getElem?_cons_zero, Option.some.injEq, exists_eq_left', bin_geqp]
    by_cases h1n : 1 ≤ m.n
    · have e1 : decide (m.n ≥ 1) = true := decide_eq_true h1n
      have hin : (i : Int) = m.n + 1 := by have := hpos (by omega); omega
      have elast : lastP m i = shiftP m.f m.d m.n := by
        unfold lastP
        rw [if_neg (by omega), show (i : Int) - 1 = m.n by omega]
      have eall : (List.range (m.n.toNat + 1)).all (stepB w k f m) = true := by
        rw [List.all_eq_true]
        intro j hj
        exact hs j (by have := List.mem_range.1 hj; omega)
      try simp -implicitDefEqProofs (maxSteps := 2000000) (disch := first | with_reducible exact Nat.ne_of_beq_eq_false rfl | exact oneCell_int | exact oneCell_bool | omega | rfl | (simp; done) | fail) only [e1, q6, pick_tp, gd_tt, pureW_sv, ld30p, add_mk, Nat.add_zero, cl, List.getElem?_cons_zero, Option.some.injEq, Nat.zero_add, List.getElem?_cons_succ, exists_eq_left', fa46_4p, cx, Nat.reduceAdd, eq30p, Bool.and_true, pose_beq2]
      rw [elast]
      have ew : wayB w k f m = decide (m.t = shiftP m.f m.d m.n) := by
        rw [wayB_run hk, hf, eall, decide_eq_true h1n]
        simp
      refine WayR.less l0 ⟨ip, sv, _, ?_, o, (s3.pick 1 rfl rfl).drop, d3, fun _ => ?_⟩
      · rw [ew]
      · unfold wayL
        rw [if_pos hk, show m.n.toNat + 1 = i by omega]
    · have e1 : decide (m.n ≥ 1) = false := decide_eq_false (by omega)
      try simp -implicitDefEqProofs (maxSteps := 2000000) (disch := first | with_reducible exact Nat.ne_of_beq_eq_false rfl | exact oneCell_int | exact oneCell_bool | omega | rfl | (simp; done) | fail) only [e1, q6, pick_fp, gd_ft]
      have ew : wayB w k f m = false := by
        rw [wayB_run hk, decide_eq_false (show ¬ 1 ≤ m.n from h1n)]
        simp
      refine WayR.less l0 ⟨ip, sv, _, by rw [ew], o, (s3.pick 1 rfl rfl).drop, d3, fun q => by rw [ew] at q; cases q⟩
  unfold S63_l5_k6
  try simp -implicitDefEqProofs (disch := first | with_reducible exact Nat.ne_of_beq_eq_false rfl | omega) only [upd_ne, q3, q0, q8, thenK_ret, blockK_ret, retK_ret, resL_tmp, upd_eq, resL_nil2, opH_sv, opH_su, al30, cf18, fa46_1, add_mk, Nat.zero_add, ld3, fa46_3, ld30, Nat.add_zero, cx, List.getElem?_cons_succ, List.getElem?_cons_zero, Option.some.injEq, Nat.reduceAdd, exists_eq_left']
  refine (shift_spec (p := m.f) (dir := m.d) (n := (i : Int)) st).mono ?_
  rintro _ h3 ⟨rfl, rfl⟩
  try simp -implicitDefEqProofs only [ex1, un_not, ex0, st30w]
  intro y hy gy
  have s4 := s3.past (o := .cells #[.int .i64 (shiftA m.f m.d i).x, .int .i64 (shiftA m.f m.d i).y, .bool (shiftA m.f m.d i).d] 30 (0, 0)) hy
  have hy4 : (h3.set y (.cells #[.int .i64 (shiftA m.f m.d i).x, .int .i64 (shiftA m.f m.d i).y, .bool (shiftA m.f m.d i).d] 30 (0, 0))) y = some (.cells #[.int .i64 (shiftA m.f m.d i).x, .int .i64 (shiftA m.f m.d i).y, .bool (shiftA m.f m.d i).d] 30 (0, 0)) := set_self
  have sg := (s3.pick 2 rfl rfl).grow (o := .cells #[.int .i64 (shiftA m.f m.d i).x, .int .i64 (shiftA m.f m.d i).y, .bool (shiftA m.f m.d i).d] 30 (0, 0)) hy
  have d4 := d3.set (o := .cells #[.int .i64 (shiftA m.f m.d i).x, .int .i64 (shiftA m.f m.d i).y, .bool (shiftA m.f m.d i).d] 30 (0, 0)) gy
  generalize Hp.set h3 y _ = h4 at s4 hy4 d4 sg ⊢
  have hin : stepB w k f m i = false → 0 ≤ m.n → wayB w k f m = false := fun e h0 => by
    rw [wayB_run hk]
    have : (List.range (m.n.toNat + 1)).all (stepB w k f m) = false := by
      rw [List.all_eq_false]
      exact ⟨i, List.mem_range.2 (by omega), by simp [e]⟩
    rw [this]
    simp
  have h0n : 0 ≤ m.n := by omega
  have cy : ∀ j, cellIn G h4 ⟨y, j, none⟩ = _ := fun j => cell_of (look_own hy4)
  cases hok : okS m.d i with
  | false =>
    try simp -implicitDefEqProofs only [Bool.not_false, pick_t, HL.cond_true, gd_tf]
    exact WayR.less l0 <| WayR.no (s4.in 2 rfl) d4 (hin (by unfold stepB; rw [hok]; rfl) h0n)
  | true =>
  have hi16 : i ≤ 16 := by
    unfold okS at hok
    rw [Bool.and_eq_true] at hok
    have := (withinB_iff.1 hok.1).2
    omega
  have esh : shiftA m.f m.d i = shiftP m.f m.d i := by unfold shiftA; rw [if_pos hok]
  rw [esh] at cy hy4 sg
  try simp -implicitDefEqProofs only [Bool.not_true, pick_f, gd_ff, opH_sv, cf23, ld30, add_mk, Nat.add_zero, Nat.zero_add, cy, List.getElem?_cons_zero, Option.some.injEq, List.getElem?_cons_succ, exists_eq_left']
  refine (fits_spec (p := shiftP m.f m.d i) (gs.up (s4.in 2 rfl) d4) st shiftP_bd).mono ?_
  rintro _ h4 ⟨rfl, rfl⟩
  cases hfi : fitsW w k f (shiftP m.f m.d i) with
  | false =>
    try simp -implicitDefEqProofs only [un_not, Bool.not_false, HL.cond_true]
    exact WayR.less l0 <| WayR.no (s4.in 2 rfl) d4 (hin (by unfold stepB; rw [hok, hfi]; rfl) h0n)
  | true =>
  try simp -implicitDefEqProofs (disch := first | with_reducible exact Nat.ne_of_beq_eq_false rfl | omega) only [un_not, Bool.not_true, HL.cond_false]
  unfold S63_l5_k8
  try simp -implicitDefEqProofs (disch := first | with_reducible exact Nat.ne_of_beq_eq_false rfl | omega) only [upd_ne, upd_eq, q0, q6, opH_su, opH_sv, ld30, add_mk, Nat.add_zero, Nat.zero_add, cf21, cy, List.getElem?_cons_zero, Option.some.injEq, List.getElem?_cons_succ, exists_eq_left']
  refine (cells_spec (g := g) (p := shiftP m.f m.d i) st shiftP_bd).mono ?_
  rintro _ _ ⟨b, rfl, hb, gb, rfl⟩
  generalize e5 : Hp.set h4 b _ = h5
  obtain ⟨l5, d5, b5⟩ := boxed e5 hb d4 gb
  have s5 := (sg.le l5).pick 1 rfl rfl
  have hlen : ((List.range i).flatMap fun (j : Nat) => cellsP (shiftP m.f m.d j)).length = 2 * i := by
    rw [List.length_flatMap, show (fun (j : Nat) => (cellsP (shiftP m.f m.d j)).length) = fun _ => 2 from rfl, List.map_const', List.sum_replicate_nat, List.length_range, Nat.mul_comm]
  try simp -implicitDefEqProofs only [opH_sv, opH_su, pureW_sv, opH_nil, pureW_nil, pick_t, pick_f, pick_tp, pick_fp, gd_tt, gd_ft, gd_tf, gd_ff, box_new, regs0, regs1, regs2, regs3, regs4, regs5, regs6, cells_agg, cells_int, cells_bool, cells_ptr, cells_slice, cells_string, cells_func, cells_nilFunc, cells_map, retK_ret, retK_normal, resL_tmp, resL_cell, resL_nil0, resL_nil1, resL_nil2, resL_nil3, resC_ptr, ex0, ex1, ex2, ex0p, ex1p, ex2p, HL.cond_true, HL.cond_false, thenK_normal, thenK_ret, thenK_exit, blockK_normal, blockK_ret, blockK_exit, scopeK_normal, scopeK_ret, scopeK_exit, wpH_pure, bin_add, bin_sub, bin_mul, bin_lss, bin_leq, bin_gtr, bin_geq, bin_quo, bin_rem, bin_quop, bin_remp, wrap_in, bin_addp, bin_subp, bin_mulp, bin_lssp, bin_leqp, bin_gtrp, bin_geqp, un_not, un_notp, un_neg, eq_int, ne_int, eq_intp, ne_intp, callV_fn, add_mk, upd_eq, upd_ne, cell_set_self, Nat.zero_add, Nat.add_zero, Option.some.injEq, exists_eq_left', List.getElem?_cons_succ, List.getElem?_cons_zero, true_and, and_true, bne_self_eq_false, beq_self_eq_true, Bool.not_true, Bool.not_false, Bool.and_true, Bool.and_self, Bool.and_false, Bool.true_and, List.length_cons, List.length_nil, ne_eq, not_false_eq_true, Nat.reduceAdd, Nat.reduceMul, if_true, if_false, oneCell_int, oneCell_bool, oneCell_ptr, oneCell_slice, oneCell_string, oneCell_func, oneCell_map, Int.toNat_natCast, List.set_cons_zero, List.set_cons_succ, Nat.lt_irrefl, Nat.zero_lt_succ, Nat.succ_lt_succ_iff, fa26_0, fa26_0p, fa26_1, fa26_1p, fa26_10, fa26_10p, fa26_11, fa26_11p, fa26_12, fa26_12p, fa26_13, fa26_13p, fa26_14, fa26_14p, fa26_2, fa26_2p, fa26_3, fa26_3p, fa26_4, fa26_4p, fa26_5, fa26_5p, fa26_6, fa26_6p, fa26_7, fa26_7p, fa26_8, fa26_8p, fa26_9, fa26_9p, fa28_0, fa28_0p, fa28_1, fa28_1p, fa30_0, fa30_0p, fa30_1, fa30_1p, fa46_0, fa46_0p, fa46_1, fa46_1p, fa46_2, fa46_2p, fa46_3, fa46_3p, fa46_4, fa46_4p, fa46_5, fa46_5p, fa46_6, fa46_6p, fa86_0, fa86_0p, fa86_1, fa86_1p, fa86_2, fa86_2p, fa95_0, fa95_0p, fa95_1, fa95_1p, ld3, ld3p, ld4, ld4p, ld22, ld22p, ld23, ld23p, ld24, ld24p, ld26, ld26p, ld28, ld28p, ld30, ld30p, ld31, ld31p, ld46, ld46p, ld47, ld47p, ld52, ld52p, ld55, ld55p, ld57, ld57p, ld95, ld95p, st3s, st4s, st22s, st23s, st24s, st26w, st28w, st30w, st46w, st47s, st55s, st95w, ix22, ix22p, ix23, ix23p, ix24, ix24p, ix47, ix47p, ix56, ix56p, ix57, ix57p, ix101, ix101p, ln22, ln22p, ln23, ln23p, ln24, ln24p, ln47, ln47p, ln56, ln56p, ln57, ln57p, al22, al26, al28, al30, al46, al47, al95, cf14, cf15, cf16, cf17, cf18, cf19, cf20, cf21, cf22, cf23, cf24, cf25, cf26, cf27, cf28, cf29, cf30, cf31, cf32, cf33, cf34, cf35, cf36, cf37, cf38, cf39, cf40, cf41, cf42, cf43, cf44, cf45, cf46, cf47, cf48, cf49, cf50, cf51, cf52, cf53, cf54, cf55, cf56, cf57, cf58, cf59, cf60, cf61, cf62, cf63, cf64, cf65, cf66, cf67, cf68, cf69, cf70, cf71, cf72, cf73, cf74, cf75, cf76, cf77, cf78, cf79, cf80, bd26_0_1_2_7_8_9_10_11_12_13_14, bd26_0_1_2_7_8_9_10_11_12_13_14p, bd28_0, bd28_0p, bd28_0_1, bd28_0_1p, bd30_, bd30_p, bd30_0_1, bd30_0_1p, bd30_0, bd30_0p, bd46_0_1_2_3_4, bd46_0_1_2_3_4p, bd46_0_3_4, bd46_0_3_4p, bd86_0_1_2, bd86_0_1_2p, bd87_0_1_2_3, bd87_0_1_2_3p, bd95_0_1, bd95_0_1p, bs22_2_0_1, bs47_1_0, bs22_1_0, bs57_6_0_1_2_3_4_5, bs24_1_0, bs22_4_0_1_2_3, bs56_11_0_1_2_3_4_5_6_7_8_9_10, bs57_11_0_1_2_3_4_5_6_7_8_9_10, eq4, eq4p, eq28, eq28p, eq30, eq30p, eq31n, eq31np, eq31s, eq31sp, eq46, eq46p, eq50n, eq50np, eq50s, eq50sp, eq67n, eq67np, eq67s, eq67sp, ne4, ne4p, ne28, ne28p, ne30, ne30p, ne31n, ne31np, ne31s, ne31sp, ne46, ne46p]
  refine append_piece cellC (by decide) un22 eocell (by decide) (by decide) (M := cellsP (shiftP m.f m.d i)) s5 d5 o (Sees.row b5 rfl (Nat.le_refl _)) (by rw [hlen, show (cellsP (shiftP m.f m.d i)).length = 2 from rfl]; omega) fun v' a' h6 o' s6 d6 => ?_
  have cy6 : ∀ j, cellIn G h6 ⟨y, j, none⟩ = _ := fun j => cell_of (look_own (s6.at 1 rfl set_self))
  have hlb6 := s6.at 2 rfl set_self
  try simp -implicitDefEqProofs (disch := first | with_reducible exact Nat.ne_of_beq_eq_false rfl | omega) only [cy6, List.getElem?_cons_zero, Option.some.injEq, List.getElem?_cons_succ, q7, exists_eq_left']
  rw [store30 (p := shiftP m.f m.d i) hlb6]
  have hy1 : h1 y = none := (s3.in 2 rfl).none hy
  have s7 := ((s6.pick 2 rfl rfl).put (o := .cells #[.int .i64 (shiftP m.f m.d i).x, .int .i64 (shiftP m.f m.d i).y, .bool (shiftP m.f m.d i).d] 30 (0, 0)) set_self)
  rw [set_set] at s7
  have s8 := ((s7.pick 2 rfl rfl).cut (le_set hy1))
  have s9 := (s8.pick 1 rfl rfl).pick 2 rfl rfl
  have d9 : Dis G (h6.set lb (.cells #[.int .i64 (shiftP m.f m.d i).x, .int .i64 (shiftP m.f m.d i).y, .bool (shiftP m.f m.d i).d] 30 (0, 0))) := d6.set (d6 _ _ hlb6)
  unfold S63_l5_k7
  try simp -implicitDefEqProofs (disch := first | with_reducible exact Nat.ne_of_beq_eq_false rfl | omega) only [upd_ne, q8, thenK_normal, opH_sv, bin_add, wrap_in]
  have el : lastP m (i + 1) = shiftP m.f m.d i := by
    unfold lastP
    rw [if_neg (by omega), show ((i + 1 : Nat) : Int) - 1 = i by omega]
  refine HX (18 - (i + 1)) _ _ (by omega) ⟨i + 1, a', v', rfl, by omega, fun h => absurd h (by omega), fun h => by omega, by simp -implicitDefEqProofs (disch := first | with_reducible exact Nat.ne_of_beq_eq_false rfl | omega) only [upd_ne, q0], by simp -implicitDefEqProofs (disch := first | with_reducible exact Nat.ne_of_beq_eq_false rfl | omega) only [upd_ne, q3], by simp -implicitDefEqProofs (disch := first | with_reducible exact Nat.ne_of_beq_eq_false rfl | omega) only [upd_ne, q7], by simp -implicitDefEqProofs (disch := first | with_reducible exact Nat.ne_of_beq_eq_false rfl | omega) only [upd_eq] <;> rfl, by simp -implicitDefEqProofs (disch := first | with_reducible exact Nat.ne_of_beq_eq_false rfl | omega) only [upd_ne, upd_eq], ?_, ?_, d9, range_all_succ hs (by unfold stepB; rw [hok, hfi]; rfl)⟩
  · rw [flat_succ]
    exact o'
  · rw [el]
    exact s9

theorem wayB_turn {w k : Nat} {f : Nat → Nat → Int} {m : Move} (hf : fitsW w k f m.f = true) (hk : m.k = 2) (hz : m.d = 0 ∧ m.n = 0) : wayB w k f m = ((squareL (m.f.x, m.f.y)).all (openW w k f) && decide (m.t = turnP m.f)) := by
  unfold wayB
  rw [if_neg (by omega), if_pos hk, hf, decide_eq_true hz]
  simp
theorem wayB_else {w k : Nat} {f : Nat → Nat → Int} {m : Move} (hf : fitsW w k f m.f = true) (hk1 : m.k ≠ 1) (hk : m.k ≠ 2) (hz : m.d = 0 ∧ m.n = 0) : wayB w k f m = (decide (m.k = 3 ∨ m.k = 4) && decide (m.t = m.f)) := by
  unfold wayB
  rw [if_neg hk1, if_neg hk, hf, decide_eq_true hz]
  simp

set_option maxHeartbeats 4000000 in
theorem way_turn {G h h1 h0 ip : Hp} {x w k : Nat} {g sv : Value} {f : Nat → Nat → Int} {m : Move} {r : Rg} (gs : GS G h1 g w k f) (hf : fitsW w k f m.f = true) (hk : m.k = 2) (hz : m.d = 0 ∧ m.n = 0)
    (bx : h1 x = some (moveO m)) (g0 : r 0 = g) (g3 : r 3 = .pointer (some ⟨x, 0, none⟩)) (g11 : r 11 = sv) (g84 : r 84 = sv) (g85 : r 85 = .int .i64 4) (g86 : r 86 = .int .i64 0)
    (o : Slc cellC 28 ip sv (squareL (m.f.x, m.f.y))) (s : Sep [ip, h1] h) (d : Dis G h) (l0 : h0.le h1) :
    loopP (S63_l10 G) r h (blockK 3 (thenK (S63_k9 G (retK Tryd.prog G [.tmp 4, .tmp 5] (WayR G h0 w k f m))) (blockK 0 (thenK (S63_k3 G (retK Tryd.prog G [.tmp 4, .tmp 5] (WayR G h0 w k f m))) (retK Tryd.prog G [.tmp 4, .tmp 5] (WayR G h0 w k f m)))))) := by
  obtain ⟨sa, cap, rfl, hcap⟩ := o.len (by decide)
  refine loop_I (fun mm r2 h3 => ∃ (i : Nat), mm = 4 - i ∧ i ≤ 4 ∧ r2 0 = g ∧ r2 3 = .pointer (some ⟨x, 0, none⟩) ∧ r2 11 = r 11 ∧ r2 84 = r 84 ∧ r2 85 = .int .i64 4 ∧ r2 86 = .int .i64 i ∧ Sep [ip, h1] h3 ∧ Dis G h3 ∧ ((squareL (m.f.x, m.f.y)).take i).all (openW w k f) = true) ?_
    (m := 4) ⟨0, rfl, by decide, g0, g3, rfl, rfl, g85, g86, s, d, by simp⟩
  rintro mm r2 h3 ⟨i, rfl, hi, q0, q3, q11, q84, q85, q86, s3, d3, hs⟩ X HX
  rw [g11] at q11
  rw [g84] at q84
  have bx3 := s3.at 1 rfl bx
  have cx : ∀ j, cellIn G h3 ⟨x, j, none⟩ = _ := fun j => cell_of (look_own bx3)
  unfold S63_l10
  simp -implicitDefEqProofs only [q86, q85, thenK_exit, blockK_exit, thenK_normal, if_true, opH_sv, bin_lss]
  refine cond_dec (fun hlt => ?_) (fun hge => ?_)
  rotate_left
  · obtain rfl : i = 4 := by omega
    try simp -implicitDefEqProofs only [opH_sv, opH_su, pureW_sv, opH_nil, pureW_nil, pick_t, pick_f, pick_tp, pick_fp, gd_tt, gd_ft, gd_tf, gd_ff, box_new, regs0, regs1, regs2, regs3, regs4, regs5, regs6, cells_agg, cells_int, cells_bool, cells_ptr, cells_slice, cells_string, cells_func, cells_nilFunc, cells_map, retK_ret, retK_normal, resL_tmp, resL_cell, resL_nil0, resL_nil1, resL_nil2, resL_nil3, resC_ptr, ex0, ex1, ex2, ex0p, ex1p, ex2p, HL.cond_true, HL.cond_false, thenK_normal, thenK_ret, thenK_exit, blockK_normal, blockK_ret, blockK_exit, scopeK_normal, scopeK_ret, scopeK_exit, wpH_pure, bin_add, bin_sub, bin_mul, bin_lss, bin_leq, bin_gtr, bin_geq, bin_quo, bin_rem, bin_quop, bin_remp, wrap_in, bin_addp, bin_subp, bin_mulp, bin_lssp, bin_leqp, bin_gtrp, bin_geqp, un_not, un_notp, un_neg, eq_int, ne_int, eq_intp, ne_intp, callV_fn, add_mk, upd_eq, upd_ne, cell_set_self, Nat.zero_add, Nat.add_zero, Option.some.injEq, exists_eq_left', List.getElem?_cons_succ, List.getElem?_cons_zero, true_and, and_true, bne_self_eq_false, beq_self_eq_true, Bool.not_true, Bool.not_false, Bool.and_true, Bool.and_self, Bool.and_false, Bool.true_and, List.length_cons, List.length_nil, ne_eq, not_false_eq_true, Nat.reduceAdd, Nat.reduceMul, if_true, if_false, oneCell_int, oneCell_bool, oneCell_ptr, oneCell_slice, oneCell_string, oneCell_func, oneCell_map, Int.toNat_natCast, List.set_cons_zero, List.set_cons_succ, Nat.lt_irrefl, Nat.zero_lt_succ, Nat.succ_lt_succ_iff, fa26_0, fa26_0p, fa26_1, fa26_1p, fa26_10, fa26_10p, fa26_11, fa26_11p, fa26_12, fa26_12p, fa26_13, fa26_13p, fa26_14, fa26_14p, fa26_2, fa26_2p, fa26_3, fa26_3p, fa26_4, fa26_4p, fa26_5, fa26_5p, fa26_6, fa26_6p, fa26_7, fa26_7p, fa26_8, fa26_8p, fa26_9, fa26_9p, fa28_0, fa28_0p, fa28_1, fa28_1p, fa30_0, fa30_0p, fa30_1, fa30_1p, fa46_0, fa46_0p, fa46_1, fa46_1p, fa46_2, fa46_2p, fa46_3, fa46_3p, fa46_4, fa46_4p, fa46_5, fa46_5p, fa46_6, fa46_6p, fa86_0, fa86_0p, fa86_1, fa86_1p, fa86_2, fa86_2p, fa95_0, fa95_0p, fa95_1, fa95_1p, ld3, ld3p, ld4, ld4p, ld22, ld22p, ld23, ld23p, ld24, ld24p, ld26, ld26p, ld28, ld28p, ld30, ld30p, ld31, ld31p, ld46, ld46p, ld47, ld47p, ld52, ld52p, ld55, ld55p, ld57, ld57p, ld95, ld95p, st3s, st4s, st22s, st23s, st24s, st26w, st28w, st30w, st46w, st47s, st55s, st95w, ix22, ix22p, ix23, ix23p, ix24, ix24p, ix47, ix47p, ix56, ix56p, ix57, ix57p, ix101, ix101p, ln22, ln22p, ln23, ln23p, ln24, ln24p, ln47, ln47p, ln56, ln56p, ln57, ln57p, al22, al26, al28, al30, al46, al47, al95, cf14, cf15, cf16, cf17, cf18, cf19, cf20, cf21, cf22, cf23, cf24, cf25, cf26, cf27, cf28, cf29, cf30, cf31, cf32, cf33, cf34, cf35, cf36, cf37, cf38, cf39, cf40, cf41, cf42, cf43, cf44, cf45, cf46, cf47, cf48, cf49, cf50, cf51, cf52, cf53, cf54, cf55, cf56, cf57, cf58, cf59, cf60, cf61, cf62, cf63, cf64, cf65, cf66, cf67, cf68, cf69, cf70, cf71, cf72, cf73, cf74, cf75, cf76, cf77, cf78, cf79, cf80, bd26_0_1_2_7_8_9_10_11_12_13_14, bd26_0_1_2_7_8_9_10_11_12_13_14p, bd28_0, bd28_0p, bd28_0_1, bd28_0_1p, bd30_, bd30_p, bd30_0_1, bd30_0_1p, bd30_0, bd30_0p, bd46_0_1_2_3_4, bd46_0_1_2_3_4p, bd46_0_3_4, bd46_0_3_4p, bd86_0_1_2, bd86_0_1_2p, bd87_0_1_2_3, bd87_0_1_2_3p, bd95_0_1, bd95_0_1p, bs22_2_0_1, bs47_1_0, bs22_1_0, bs57_6_0_1_2_3_4_5, bs24_1_0, bs22_4_0_1_2_3, bs56_11_0_1_2_3_4_5_6_7_8_9_10, bs57_11_0_1_2_3_4_5_6_7_8_9_10, eq4, eq4p, eq28, eq28p, eq30, eq30p, eq31n, eq31np, eq31s, eq31sp, eq46, eq46p, eq50n, eq50np, eq50s, eq50sp, eq67n, eq67np, eq67s, eq67sp, ne4, ne4p, ne28, ne28p, ne30, ne30p, ne31n, ne31np, ne31s, ne31sp, ne46, ne46p]
    unfold S63_k9
    try simp -implicitDefEqProofs (disch := first | with_reducible exact Nat.ne_of_beq_eq_false rfl | omega) only [upd_ne, q3, q11, retK_ret, resL_tmp, upd_eq, resL_nil2, pureW_sv, fa46_3p, add_mk, Nat.zero_add, fa30_1p, Nat.reduceAdd, ld4p, cx, List.getElem?_cons_succ, List.getElem?_cons_zero, Option.some.injEq, exists_eq_left', un_notp, fa30_0p, Nat.add_zero, ld28p, bd30_0_1p, fa46_4p, ld30p, eq30p, Bool.and_true]
    rw [List.take_of_length_le (show (squareL (m.f.x, m.f.y)).length ≤ 4 from Nat.le_refl 4)] at hs
    refine WayR.less l0 ⟨ip, _, _, ?_, o, s3, d3, fun _ => ?_⟩
    · rw [wayB_turn hf hk hz, hs, Bool.true_and, ← pose_beq2]
      rfl
    · unfold wayL
      rw [if_neg (by omega), if_pos hk]
  have hlt' : i < 4 := by omega
  obtain ⟨y, hy⟩ : ∃ y, (squareL (m.f.x, m.f.y))[i]? = some y := ⟨_, List.getElem?_eq_getElem (by simpa [squareL] using hlt')⟩
  obtain ⟨b, ofs, rfl, z0, z1⟩ := Sees.cell (G := G) (o.sees (by decide) (s3.in 0 rfl)) hy
  unfold S63_l10_k11
  try simp -implicitDefEqProofs (disch := first | with_reducible exact Nat.ne_of_beq_eq_false rfl | omega) only [upd_ne, q84, q86, q0, thenK_ret, blockK_ret, retK_ret, resL_tmp, upd_eq, resL_nil2, opH_sv, cf31, opH_su, al28, ld28, add_mk, Nat.add_zero, Nat.zero_add, ix22 (Int.natCast_nonneg i) (show (i : Int) < (squareL (m.f.x, m.f.y)).length from hlt), Int.toNat_natCast, z0, Option.some.injEq, z1, exists_eq_left', st28w, cell_set_self, List.getElem?_cons_zero, List.getElem?_cons_succ]
  intro t ht gt
  have s4 := s3.past (o := .cells #[.int .i64 y.1, .int .i64 y.2] 28 (0, 0)) ht
  have d4 := d3.set (o := .cells #[.int .i64 y.1, .int .i64 y.2] 28 (0, 0)) gt
  try simp -implicitDefEqProofs only [opH_sv, opH_su, pureW_sv, opH_nil, pureW_nil, pick_t, pick_f, pick_tp, pick_fp, gd_tt, gd_ft, gd_tf, gd_ff, box_new, regs0, regs1, regs2, regs3, regs4, regs5, regs6, cells_agg, cells_int, cells_bool, cells_ptr, cells_slice, cells_string, cells_func, cells_nilFunc, cells_map, retK_ret, retK_normal, resL_tmp, resL_cell, resL_nil0, resL_nil1, resL_nil2, resL_nil3, resC_ptr, ex0, ex1, ex2, ex0p, ex1p, ex2p, HL.cond_true, HL.cond_false, thenK_normal, thenK_ret, thenK_exit, blockK_normal, blockK_ret, blockK_exit, scopeK_normal, scopeK_ret, scopeK_exit, wpH_pure, bin_add, bin_sub, bin_mul, bin_lss, bin_leq, bin_gtr, bin_geq, bin_quo, bin_rem, bin_quop, bin_remp, wrap_in, bin_addp, bin_subp, bin_mulp, bin_lssp, bin_leqp, bin_gtrp, bin_geqp, un_not, un_notp, un_neg, eq_int, ne_int, eq_intp, ne_intp, callV_fn, add_mk, upd_eq, upd_ne, cell_set_self, Nat.zero_add, Nat.add_zero, Option.some.injEq, exists_eq_left', List.getElem?_cons_succ, List.getElem?_cons_zero, true_and, and_true, bne_self_eq_false, beq_self_eq_true, Bool.not_true, Bool.not_false, Bool.and_true, Bool.and_self, Bool.and_false, Bool.true_and, List.length_cons, List.length_nil, ne_eq, not_false_eq_true, Nat.reduceAdd, Nat.reduceMul, if_true, if_false, oneCell_int, oneCell_bool, oneCell_ptr, oneCell_slice, oneCell_string, oneCell_func, oneCell_map, Int.toNat_natCast, List.set_cons_zero, List.set_cons_succ, Nat.lt_irrefl, Nat.zero_lt_succ, Nat.succ_lt_succ_iff, fa26_0, fa26_0p, fa26_1, fa26_1p, fa26_10, fa26_10p, fa26_11, fa26_11p, fa26_12, fa26_12p, fa26_13, fa26_13p, fa26_14, fa26_14p, fa26_2, fa26_2p, fa26_3, fa26_3p, fa26_4, fa26_4p, fa26_5, fa26_5p, fa26_6, fa26_6p, fa26_7, fa26_7p, fa26_8, fa26_8p, fa26_9, fa26_9p, fa28_0, fa28_0p, fa28_1, fa28_1p, fa30_0, fa30_0p, fa30_1, fa30_1p, fa46_0, fa46_0p, fa46_1, fa46_1p, fa46_2, fa46_2p, fa46_3, fa46_3p, fa46_4, fa46_4p, fa46_5, fa46_5p, fa46_6, fa46_6p, fa86_0, fa86_0p, fa86_1, fa86_1p, fa86_2, fa86_2p, fa95_0, fa95_0p, fa95_1, fa95_1p, ld3, ld3p, ld4, ld4p, ld22, ld22p, ld23, ld23p, ld24, ld24p, ld26, ld26p, ld28, ld28p, ld30, ld30p, ld31, ld31p, ld46, ld46p, ld47, ld47p, ld52, ld52p, ld55, ld55p, ld57, ld57p, ld95, ld95p, st3s, st4s, st22s, st23s, st24s, st26w, st28w, st30w, st46w, st47s, st55s, st95w, ix22, ix22p, ix23, ix23p, ix24, ix24p, ix47, ix47p, ix56, ix56p, ix57, ix57p, ix101, ix101p, ln22, ln22p, ln23, ln23p, ln24, ln24p, ln47, ln47p, ln56, ln56p, ln57, ln57p, al22, al26, al28, al30, al46, al47, al95, cf14, cf15, cf16, cf17, cf18, cf19, cf20, cf21, cf22, cf23, cf24, cf25, cf26, cf27, cf28, cf29, cf30, cf31, cf32, cf33, cf34, cf35, cf36, cf37, cf38, cf39, cf40, cf41, cf42, cf43, cf44, cf45, cf46, cf47, cf48, cf49, cf50, cf51, cf52, cf53, cf54, cf55, cf56, cf57, cf58, cf59, cf60, cf61, cf62, cf63, cf64, cf65, cf66, cf67, cf68, cf69, cf70, cf71, cf72, cf73, cf74, cf75, cf76, cf77, cf78, cf79, cf80, bd26_0_1_2_7_8_9_10_11_12_13_14, bd26_0_1_2_7_8_9_10_11_12_13_14p, bd28_0, bd28_0p, bd28_0_1, bd28_0_1p, bd30_, bd30_p, bd30_0_1, bd30_0_1p, bd30_0, bd30_0p, bd46_0_1_2_3_4, bd46_0_1_2_3_4p, bd46_0_3_4, bd46_0_3_4p, bd86_0_1_2, bd86_0_1_2p, bd87_0_1_2_3, bd87_0_1_2_3p, bd95_0_1, bd95_0_1p, bs22_2_0_1, bs47_1_0, bs22_1_0, bs57_6_0_1_2_3_4_5, bs24_1_0, bs22_4_0_1_2_3, bs56_11_0_1_2_3_4_5_6_7_8_9_10, bs57_11_0_1_2_3_4_5_6_7_8_9_10, eq4, eq4p, eq28, eq28p, eq30, eq30p, eq31n, eq31np, eq31s, eq31sp, eq46, eq46p, eq50n, eq50np, eq50s, eq50sp, eq67n, eq67np, eq67s, eq67sp, ne4, ne4p, ne28, ne28p, ne30, ne30p, ne31n, ne31np, ne31s, ne31sp, ne46, ne46p]
  generalize Hp.set h3 t _ = h4 at s4 d4 ⊢
  refine (open_spec (c := y) (gs.up (s4.in 1 rfl) d4)).mono ?_
  rintro _ _ ⟨rfl, rfl⟩
  have hym : y ∈ squareL (m.f.x, m.f.y) := List.mem_of_getElem? hy
  cases hc : openW w k f y with
  | false =>
    try simp -implicitDefEqProofs only [un_not, Bool.not_false, HL.cond_true]
    refine WayR.less l0 <| WayR.no (s4.in 1 rfl) d4 ?_
    rw [wayB_turn hf hk hz]
    have : (squareL (m.f.x, m.f.y)).all (openW w k f) = false := by
      rw [List.all_eq_false]
      exact ⟨y, hym, by simp [hc]⟩
    rw [this]
    rfl
  | true =>
    try simp -implicitDefEqProofs only [un_not, Bool.not_true, HL.cond_false]
    unfold S63_l10_k12
    try simp -implicitDefEqProofs (disch := first | with_reducible exact Nat.ne_of_beq_eq_false rfl | omega) only [upd_ne, q86, thenK_normal, opH_sv, bin_add, wrap_in]
    refine HX (4 - (i + 1)) _ _ (by omega) ⟨i + 1, rfl, hlt', by simp -implicitDefEqProofs (disch := first | with_reducible exact Nat.ne_of_beq_eq_false rfl | omega) only [upd_ne, q0], by simp -implicitDefEqProofs (disch := first | with_reducible exact Nat.ne_of_beq_eq_false rfl | omega) only [upd_ne, q3], by simp -implicitDefEqProofs (disch := first | with_reducible exact Nat.ne_of_beq_eq_false rfl | omega) only [upd_ne, q11, g11], by simp -implicitDefEqProofs (disch := first | with_reducible exact Nat.ne_of_beq_eq_false rfl | omega) only [upd_ne, q84, g84], by simp -implicitDefEqProofs (disch := first | with_reducible exact Nat.ne_of_beq_eq_false rfl | omega) only [upd_ne, q85], by simp -implicitDefEqProofs (disch := first | with_reducible exact Nat.ne_of_beq_eq_false rfl | omega) only [upd_eq] <;> rfl, s4, d4, ?_⟩
    rw [List.take_add_one, hy]
    simp [hs, hc]

set_option maxHeartbeats 4000000 in
theorem way_spec {G h : Hp} {g : Value} {w k : Nat} {f : Nat → Nat → Int} {m : Move} (gs : GS G h g w k f) (st : Steps G) (mb : MB m) : HCalls Tryd.prog G 63 #[g, moveV m] h (WayR G h w k f m) := by
  obtain ⟨nb, fb⟩ := mb
  refine HCalls.assume fun d => enter63 (by simp) ?_
  unfold S63
  simp -implicitDefEqProofs only [regs1, regs0, retK_ret, resL_tmp, upd_ne, upd_eq, resL_nil2, opH_sv, cf23, box_new, cells_agg, fa46_3, add_mk, Nat.zero_add, ld30, Nat.add_zero, cell_set_self, List.getElem?_cons_succ, List.getElem?_cons_zero, Option.some.injEq, Nat.reduceAdd, exists_eq_left']
  intro x hx gx
  generalize e1 : Hp.set h x _ = h1
  obtain ⟨l1, d1, b1⟩ := boxed e1 hx d gx
  have gs1 := gs.up l1 d1
  have cx : ∀ j, cellIn G h1 ⟨x, j, none⟩ = _ := fun j => cell_of (look_own b1)
  try simp -implicitDefEqProofs only [opH_sv, opH_su, pureW_sv, opH_nil, pureW_nil, pick_t, pick_f, pick_tp, pick_fp, gd_tt, gd_ft, gd_tf, gd_ff, box_new, regs0, regs1, regs2, regs3, regs4, regs5, regs6, cells_agg, cells_int, cells_bool, cells_ptr, cells_slice, cells_string, cells_func, cells_nilFunc, cells_map, retK_ret, retK_normal, resL_tmp, resL_cell, resL_nil0, resL_nil1, resL_nil2, resL_nil3, resC_ptr, ex0, ex1, ex2, ex0p, ex1p, ex2p, HL.cond_true, HL.cond_false, thenK_normal, thenK_ret, thenK_exit, blockK_normal, blockK_ret, blockK_exit, scopeK_normal, scopeK_ret, scopeK_exit, wpH_pure, bin_add, bin_sub, bin_mul, bin_lss, bin_leq, bin_gtr, bin_geq, bin_quo, bin_rem, bin_quop, bin_remp, wrap_in, bin_addp, bin_subp, bin_mulp, bin_lssp, bin_leqp, bin_gtrp, bin_geqp, un_not, un_notp, un_neg, eq_int, ne_int, eq_intp, ne_intp, callV_fn, add_mk, upd_eq, upd_ne, cell_set_self, Nat.zero_add, Nat.add_zero, Option.some.injEq, exists_eq_left', List.getElem?_cons_succ, List.getElem?_cons_zero, true_and, and_true, bne_self_eq_false, beq_self_eq_true, Bool.not_true, Bool.not_false, Bool.and_true, Bool.and_self, Bool.and_false, Bool.true_and, List.length_cons, List.length_nil, ne_eq, not_false_eq_true, Nat.reduceAdd, Nat.reduceMul, if_true, if_false, oneCell_int, oneCell_bool, oneCell_ptr, oneCell_slice, oneCell_string, oneCell_func, oneCell_map, Int.toNat_natCast, List.set_cons_zero, List.set_cons_succ, Nat.lt_irrefl, Nat.zero_lt_succ, Nat.succ_lt_succ_iff, fa26_0, fa26_0p, fa26_1, fa26_1p, fa26_10, fa26_10p, fa26_11, fa26_11p, fa26_12, fa26_12p, fa26_13, fa26_13p, fa26_14, fa26_14p, fa26_2, fa26_2p, fa26_3, fa26_3p, fa26_4, fa26_4p, fa26_5, fa26_5p, fa26_6, fa26_6p, fa26_7, fa26_7p, fa26_8, fa26_8p, fa26_9, fa26_9p, fa28_0, fa28_0p, fa28_1, fa28_1p, fa30_0, fa30_0p, fa30_1, fa30_1p, fa46_0, fa46_0p, fa46_1, fa46_1p, fa46_2, fa46_2p, fa46_3, fa46_3p, fa46_4, fa46_4p, fa46_5, fa46_5p, fa46_6, fa46_6p, fa86_0, fa86_0p, fa86_1, fa86_1p, fa86_2, fa86_2p, fa95_0, fa95_0p, fa95_1, fa95_1p, ld3, ld3p, ld4, ld4p, ld22, ld22p, ld23, ld23p, ld24, ld24p, ld26, ld26p, ld28, ld28p, ld30, ld30p, ld31, ld31p, ld46, ld46p, ld47, ld47p, ld52, ld52p, ld55, ld55p, ld57, ld57p, ld95, ld95p, st3s, st4s, st22s, st23s, st24s, st26w, st28w, st30w, st46w, st47s, st55s, st95w, ix22, ix22p, ix23, ix23p, ix24, ix24p, ix47, ix47p, ix56, ix56p, ix57, ix57p, ix101, ix101p, ln22, ln22p, ln23, ln23p, ln24, ln24p, ln47, ln47p, ln56, ln56p, ln57, ln57p, al22, al26, al28, al30, al46, al47, al95, cf14, cf15, cf16, cf17, cf18, cf19, cf20, cf21, cf22, cf23, cf24, cf25, cf26, cf27, cf28, cf29, cf30, cf31, cf32, cf33, cf34, cf35, cf36, cf37, cf38, cf39, cf40, cf41, cf42, cf43, cf44, cf45, cf46, cf47, cf48, cf49, cf50, cf51, cf52, cf53, cf54, cf55, cf56, cf57, cf58, cf59, cf60, cf61, cf62, cf63, cf64, cf65, cf66, cf67, cf68, cf69, cf70, cf71, cf72, cf73, cf74, cf75, cf76, cf77, cf78, cf79, cf80, bd26_0_1_2_7_8_9_10_11_12_13_14, bd26_0_1_2_7_8_9_10_11_12_13_14p, bd28_0, bd28_0p, bd28_0_1, bd28_0_1p, bd30_, bd30_p, bd30_0_1, bd30_0_1p, bd30_0, bd30_0p, bd46_0_1_2_3_4, bd46_0_1_2_3_4p, bd46_0_3_4, bd46_0_3_4p, bd86_0_1_2, bd86_0_1_2p, bd87_0_1_2_3, bd87_0_1_2_3p, bd95_0_1, bd95_0_1p, bs22_2_0_1, bs47_1_0, bs22_1_0, bs57_6_0_1_2_3_4_5, bs24_1_0, bs22_4_0_1_2_3, bs56_11_0_1_2_3_4_5_6_7_8_9_10, bs57_11_0_1_2_3_4_5_6_7_8_9_10, eq4, eq4p, eq28, eq28p, eq30, eq30p, eq31n, eq31np, eq31s, eq31sp, eq46, eq46p, eq50n, eq50np, eq50s, eq50sp, eq67n, eq67np, eq67s, eq67sp, ne4, ne4p, ne28, ne28p, ne30, ne30p, ne31n, ne31np, ne31s, ne31sp, ne46, ne46p, cx]
  refine (fits_spec (p := m.f) gs1 st fb).mono ?_
  rintro _ h1 ⟨rfl, rfl⟩
  cases hf : fitsW w k f m.f with
  | false =>
    try simp -implicitDefEqProofs only [un_not, Bool.not_false, HL.cond_true]
    exact WayR.no l1 d1 (by unfold wayB; rw [hf]; rfl)
  | true =>
  try simp -implicitDefEqProofs (maxSteps := 2000000) (disch := first | with_reducible exact Nat.ne_of_beq_eq_false rfl | exact oneCell_int | exact oneCell_bool | omega | rfl | (simp; done) | fail) only [un_not, Bool.not_true, HL.cond_false]
  unfold S63_k1
  try simp -implicitDefEqProofs (maxSteps := 2000000) (disch := first | with_reducible exact Nat.ne_of_beq_eq_false rfl | exact oneCell_int | exact oneCell_bool | omega | rfl | (simp; done) | fail) only [upd_ne, upd_eq, retK_ret, resL_tmp, resL_nil2, opH_sv, fa46_0, add_mk, Nat.add_zero, ld3, cx, List.getElem?_cons_zero, Option.some.injEq, exists_eq_left', ne_int]
  by_cases hk1 : m.k = 1
  · try simp -implicitDefEqProofs (maxSteps := 2000000) (disch := first | with_reducible exact Nat.ne_of_beq_eq_false rfl | exact oneCell_int | exact oneCell_bool | omega | rfl | (simp; done) | fail) only [show (m.k != 1) = false by simp [hk1], pick_f, HL.cond_false, gd_ft, gd_un]
    unfold S63_k2
    try simp -implicitDefEqProofs (maxSteps := 2000000) (disch := first | with_reducible exact Nat.ne_of_beq_eq_false rfl | exact oneCell_int | exact oneCell_bool | omega | rfl | (simp; done) | fail) only [upd_ne, upd_eq, opH_su, opH_sv, al30, fa46_3, add_mk, Nat.zero_add, ld30, Nat.add_zero, Nat.reduceAdd, cf77, fa30_0, ld28, fa46_0, ld3, cx, List.getElem?_cons_zero, Option.some.injEq, exists_eq_left', eq_int, show (m.k == 1) = true by simp [hk1], List.getElem?_cons_succ, st30w, HL.cond_true]
    intro lb hlb glb
    try simp -implicitDefEqProofs (disch := first | with_reducible exact Nat.ne_of_beq_eq_false rfl | omega) only [opH_sv, opH_su, pureW_sv, opH_nil, pureW_nil, pick_t, pick_f, pick_tp, pick_fp, gd_tt, gd_ft, gd_tf, gd_ff, box_new, regs0, regs1, regs2, regs3, regs4, regs5, regs6, cells_agg, cells_int, cells_bool, cells_ptr, cells_slice, cells_string, cells_func, cells_nilFunc, cells_map, retK_ret, retK_normal, resL_tmp, resL_cell, resL_nil0, resL_nil1, resL_nil2, resL_nil3, resC_ptr, ex0, ex1, ex2, ex0p, ex1p, ex2p, HL.cond_true, HL.cond_false, thenK_normal, thenK_ret, thenK_exit, blockK_normal, blockK_ret, blockK_exit, scopeK_normal, scopeK_ret, scopeK_exit, wpH_pure, bin_add, bin_sub, bin_mul, bin_lss, bin_leq, bin_gtr, bin_geq, bin_quo, bin_rem, bin_quop, bin_remp, wrap_in, bin_addp, bin_subp, bin_mulp, bin_lssp, bin_leqp, bin_gtrp, bin_geqp, un_not, un_notp, un_neg, eq_int, ne_int, eq_intp, ne_intp, callV_fn, add_mk, upd_eq, upd_ne, cell_set_self, Nat.zero_add, Nat.add_zero, Option.some.injEq, exists_eq_left', List.getElem?_cons_succ, List.getElem?_cons_zero, true_and, and_true, bne_self_eq_false, beq_self_eq_true, Bool.not_true, Bool.not_false, Bool.and_true, Bool.and_self, Bool.and_false, Bool.true_and, List.length_cons, List.length_nil, ne_eq, not_false_eq_true, Nat.reduceAdd, Nat.reduceMul, if_true, if_false, oneCell_int, oneCell_bool, oneCell_ptr, oneCell_slice, oneCell_string, oneCell_func, oneCell_map, Int.toNat_natCast, List.set_cons_zero, List.set_cons_succ, Nat.lt_irrefl, Nat.zero_lt_succ, Nat.succ_lt_succ_iff, fa26_0, fa26_0p, fa26_1, fa26_1p, fa26_10, fa26_10p, fa26_11, fa26_11p, fa26_12, fa26_12p, fa26_13, fa26_13p, fa26_14, fa26_14p, fa26_2, fa26_2p, fa26_3, fa26_3p, fa26_4, fa26_4p, fa26_5, fa26_5p, fa26_6, fa26_6p, fa26_7, fa26_7p, fa26_8, fa26_8p, fa26_9, fa26_9p, fa28_0, fa28_0p, fa28_1, fa28_1p, fa30_0, fa30_0p, fa30_1, fa30_1p, fa46_0, fa46_0p, fa46_1, fa46_1p, fa46_2, fa46_2p, fa46_3, fa46_3p, fa46_4, fa46_4p, fa46_5, fa46_5p, fa46_6, fa46_6p, fa86_0, fa86_0p, fa86_1, fa86_1p, fa86_2, fa86_2p, fa95_0, fa95_0p, fa95_1, fa95_1p, ld3, ld3p, ld4, ld4p, ld22, ld22p, ld23, ld23p, ld24, ld24p, ld26, ld26p, ld28, ld28p, ld30, ld30p, ld31, ld31p, ld46, ld46p, ld47, ld47p, ld52, ld52p, ld55, ld55p, ld57, ld57p, ld95, ld95p, st3s, st4s, st22s, st23s, st24s, st26w, st28w, st30w, st46w, st47s, st55s, st95w, ix22, ix22p, ix23, ix23p, ix24, ix24p, ix47, ix47p, ix56, ix56p, ix57, ix57p, ix101, ix101p, ln22, ln22p, ln23, ln23p, ln24, ln24p, ln47, ln47p, ln56, ln56p, ln57, ln57p, al22, al26, al28, al30, al46, al47, al95, cf14, cf15, cf16, cf17, cf18, cf19, cf20, cf21, cf22, cf23, cf24, cf25, cf26, cf27, cf28, cf29, cf30, cf31, cf32, cf33, cf34, cf35, cf36, cf37, cf38, cf39, cf40, cf41, cf42, cf43, cf44, cf45, cf46, cf47, cf48, cf49, cf50, cf51, cf52, cf53, cf54, cf55, cf56, cf57, cf58, cf59, cf60, cf61, cf62, cf63, cf64, cf65, cf66, cf67, cf68, cf69, cf70, cf71, cf72, cf73, cf74, cf75, cf76, cf77, cf78, cf79, cf80, bd26_0_1_2_7_8_9_10_11_12_13_14, bd26_0_1_2_7_8_9_10_11_12_13_14p, bd28_0, bd28_0p, bd28_0_1, bd28_0_1p, bd30_, bd30_p, bd30_0_1, bd30_0_1p, bd30_0, bd30_0p, bd46_0_1_2_3_4, bd46_0_1_2_3_4p, bd46_0_3_4, bd46_0_3_4p, bd86_0_1_2, bd86_0_1_2p, bd87_0_1_2_3, bd87_0_1_2_3p, bd95_0_1, bd95_0_1p, bs22_2_0_1, bs47_1_0, bs22_1_0, bs57_6_0_1_2_3_4_5, bs24_1_0, bs22_4_0_1_2_3, bs56_11_0_1_2_3_4_5_6_7_8_9_10, bs57_11_0_1_2_3_4_5_6_7_8_9_10, eq4, eq4p, eq28, eq28p, eq30, eq30p, eq31n, eq31np, eq31s, eq31sp, eq46, eq46p, eq50n, eq50np, eq50s, eq50sp, eq67n, eq67np, eq67s, eq67sp, ne4, ne4p, ne28, ne28p, ne30, ne30p, ne31n, ne31np, ne31s, ne31sp, ne46, ne46p]
    exact way_run gs1 st nb hf hk1 b1 (by simp -implicitDefEqProofs (disch := first | with_reducible exact Nat.ne_of_beq_eq_false rfl | omega) only [upd_ne, regs0]) (by simp -implicitDefEqProofs (disch := first | with_reducible exact Nat.ne_of_beq_eq_false rfl | omega) only [upd_ne, upd_eq]) (by simp -implicitDefEqProofs (maxSteps := 2000000) (disch := first | with_reducible exact Nat.ne_of_beq_eq_false rfl | exact oneCell_int | exact oneCell_bool | omega | rfl | (simp; done) | fail) only [upd_ne, upd_eq]) (by simp -implicitDefEqProofs (maxSteps := 2000000) (disch := first | with_reducible exact Nat.ne_of_beq_eq_false rfl | exact oneCell_int | exact oneCell_bool | omega | rfl | (simp; done) | fail) only [upd_ne, upd_eq]) (by simp -implicitDefEqProofs (maxSteps := 2000000) (disch := first | with_reducible exact Nat.ne_of_beq_eq_false rfl | exact oneCell_int | exact oneCell_bool | omega | rfl | (simp; done) | fail) only [upd_eq]) (Sep.one.new hlb) (d1.set glb) l1
  have ek1 : (m.k != 1) = true := by simp [hk1]
  have ek1' : (m.k == 1) = false := by simp [hk1]
  by_cases hz : m.d = 0 ∧ m.n = 0
  rotate_left
  · have ew : wayB w k f m = false := by
      unfold wayB
      rw [if_neg hk1, decide_eq_false hz]
      simp
    by_cases hd : m.d = 0
    · have hn : (m.n != 0) = true := by
        have : m.n ≠ 0 := fun e => hz ⟨hd, e⟩
        simp [this]
      try simp -implicitDefEqProofs (maxSteps := 2000000) (disch := first | with_reducible exact Nat.ne_of_beq_eq_false rfl | exact oneCell_int | exact oneCell_bool | omega | rfl | (simp; done) | fail) only [ek1, pick_t, gd_tt, opH_sv, fa46_1, add_mk, Nat.zero_add, ld3, cx, List.getElem?_cons_succ, List.getElem?_cons_zero, Option.some.injEq, exists_eq_left', ne_int, show (m.d != 0) = false by simp [hd], pick_f, gd_ff, fa46_2, hn, HL.cond_true]
      exact WayR.no l1 d1 ew
    · try simp -implicitDefEqProofs (maxSteps := 2000000) (disch := first | with_reducible exact Nat.ne_of_beq_eq_false rfl | exact oneCell_int | exact oneCell_bool | omega | rfl | (simp; done) | fail) only [ek1, pick_t, gd_tt, opH_sv, fa46_1, add_mk, Nat.zero_add, ld3, cx, List.getElem?_cons_succ, List.getElem?_cons_zero, Option.some.injEq, exists_eq_left', ne_int, show (m.d != 0) = true by simp [hd], HL.cond_true, gd_tf]
      exact WayR.no l1 d1 ew
  try simp -implicitDefEqProofs (maxSteps := 2000000) (disch := first | with_reducible exact Nat.ne_of_beq_eq_false rfl | exact oneCell_int | exact oneCell_bool | omega | rfl | (simp; done) | fail) only [ek1, pick_t, gd_tt, opH_sv, fa46_1, add_mk, Nat.zero_add, ld3, cx, List.getElem?_cons_succ, List.getElem?_cons_zero, Option.some.injEq, exists_eq_left', ne_int, show (m.d != 0) = false by simp [hz.1], pick_f, gd_ff, fa46_2, show (m.n != 0) = false by simp [hz.2], HL.cond_false]
  unfold S63_k2
  by_cases hk2 : m.k = 2
  · try simp -implicitDefEqProofs (maxSteps := 2000000) (disch := first | with_reducible exact Nat.ne_of_beq_eq_false rfl | exact oneCell_int | exact oneCell_bool | omega | rfl | (simp; done) | fail) only [upd_ne, upd_eq, opH_su, opH_sv, al30, fa46_3, add_mk, Nat.zero_add, ld30, Nat.add_zero, Nat.reduceAdd, cf77, fa30_0, ld28, fa46_0, ld3, cx, List.getElem?_cons_zero, Option.some.injEq, exists_eq_left', eq_int, show (m.k == 2) = true by simp [hk2], HL.cond_true, ek1', List.getElem?_cons_succ, st30w, HL.cond_false]
    refine (square_spec (c := (m.f.x, m.f.y))).mono ?_
    rintro _ h2 ⟨ip, sa, rfl, o, s2, d2⟩
    try simp -implicitDefEqProofs (disch := first | with_reducible exact Nat.ne_of_beq_eq_false rfl | omega) only [ln22]
    exact way_turn gs1 hf hk2 hz b1 (by simp -implicitDefEqProofs (disch := first | with_reducible exact Nat.ne_of_beq_eq_false rfl | omega) only [upd_ne, regs0]) (by simp -implicitDefEqProofs (disch := first | with_reducible exact Nat.ne_of_beq_eq_false rfl | omega) only [upd_ne, upd_eq]) (by simp -implicitDefEqProofs (disch := first | with_reducible exact Nat.ne_of_beq_eq_false rfl | omega) only [upd_ne, upd_eq]) (by simp -implicitDefEqProofs (disch := first | with_reducible exact Nat.ne_of_beq_eq_false rfl | omega) only [upd_ne, upd_eq]) (by simp -implicitDefEqProofs (disch := first | with_reducible exact Nat.ne_of_beq_eq_false rfl | omega) only [upd_ne, upd_eq] <;> rfl) (by simp -implicitDefEqProofs (disch := first | with_reducible exact Nat.ne_of_beq_eq_false rfl | omega) only [upd_eq]) o s2 d2 l1
  have ek2 : (m.k == 2) = false := by simp [hk2]
  by_cases hk34 : m.k = 3 ∨ m.k = 4
  rotate_left
  · have ew : wayB w k f m = false := by
      rw [wayB_else hf hk1 hk2 hz, decide_eq_false hk34]
      rfl
    try simp -implicitDefEqProofs (disch := first | with_reducible exact Nat.ne_of_beq_eq_false rfl | omega) only [upd_ne, upd_eq, opH_su, opH_sv, al30, fa46_3, add_mk, Nat.zero_add, ld30, Nat.add_zero, Nat.reduceAdd, cf77, fa30_0, ld28, fa46_0, ld3, cx, List.getElem?_cons_zero, Option.some.injEq, exists_eq_left', eq_int, show (m.k == 4) = false by simp; omega, show (m.k == 3) = false by simp; omega, HL.cond_false, ek2, ek1', List.getElem?_cons_succ, st30w]
    unfold S63_k13
    try simp -implicitDefEqProofs (maxSteps := 2000000) (disch := first | with_reducible exact Nat.ne_of_beq_eq_false rfl | exact oneCell_int | exact oneCell_bool | omega | rfl | (simp; done) | fail) only [upd_eq, upd_ne, regs0, retK_ret, resL_tmp, resL_nil2, pureW_sv, fa46_3p, add_mk, Nat.zero_add, ld30p, Nat.add_zero, Nat.reduceAdd, fa46_4p, cf21, HL.cond_false]
    unfold S63_k3
    try simp -implicitDefEqProofs (maxSteps := 2000000) (disch := first | with_reducible exact Nat.ne_of_beq_eq_false rfl | exact oneCell_int | exact oneCell_bool | omega | rfl | (simp; done) | fail) only [retK_ret, resL_tmp, upd_ne, upd_eq, resL_nil2]
    exact WayR.no l1 d1 ew
  have k13 : ∀ r : Rg, r 0 = g → r 3 = .pointer (some ⟨x, 0, none⟩) → r 107 = .bool true → S63_k13 G (retK Tryd.prog G [.tmp 4, .tmp 5] (WayR G h w k f m)) r h1 := by
    intro r g0 g3 g107
    unfold S63_k13
    simp -implicitDefEqProofs only [g107, retK_ret, resL_tmp, upd_ne, upd_eq, resL_nil2, pureW_sv, cf21, HL.cond_true]
    refine ⟨h1, Hp.le.refl _, ?_⟩
    try simp -implicitDefEqProofs (disch := first | with_reducible exact Nat.ne_of_beq_eq_false rfl | omega) only [g3, g0, fa46_3p, add_mk, Nat.zero_add, ld30p, Nat.add_zero, cx, List.getElem?_cons_succ, List.getElem?_cons_zero, Option.some.injEq, Nat.reduceAdd, exists_eq_left', fa46_4p, eq30p, Bool.and_true]
    refine (cells_spec (g := g) (p := m.f) st fb).mono ?_
    rintro _ _ ⟨b, rfl, hb, gb, rfl⟩
    refine ⟨le_set hb, ?_⟩
    try simp -implicitDefEqProofs (disch := first | with_reducible exact Nat.ne_of_beq_eq_false rfl | omega) only [pose_beq2]
    refine WayR.less l1 ⟨noHp.set b _, _, cellsP m.f, ?_, ⟨some b, 2, [], rfl, set_self, rfl⟩, Sep.one.new hb, d1.set gb, fun _ => ?_⟩
    · rw [wayB_else hf hk1 hk2 hz, decide_eq_true hk34]
      rfl
    · unfold wayL
      rw [if_neg hk1, if_neg hk2]
  rcases hk34 with h3 | h4
  · try simp -implicitDefEqProofs (maxSteps := 2000000) (disch := first | with_reducible exact Nat.ne_of_beq_eq_false rfl | exact oneCell_int | exact oneCell_bool | omega | rfl | (simp; done) | fail) only [upd_ne, upd_eq, opH_su, opH_sv, al30, fa46_3, add_mk, Nat.zero_add, ld30, Nat.add_zero, Nat.reduceAdd, cf77, fa30_0, ld28, fa46_0, ld3, cx, List.getElem?_cons_zero, Option.some.injEq, exists_eq_left', eq_int, show (m.k == 3) = true by simp [h3], HL.cond_true, ek2, HL.cond_false, ek1', List.getElem?_cons_succ, st30w]
    exact k13 _ (by simp -implicitDefEqProofs (maxSteps := 2000000) (disch := first | with_reducible exact Nat.ne_of_beq_eq_false rfl | exact oneCell_int | exact oneCell_bool | omega | rfl | (simp; done) | fail) only [upd_ne, regs0]) (by simp -implicitDefEqProofs (maxSteps := 2000000) (disch := first | with_reducible exact Nat.ne_of_beq_eq_false rfl | exact oneCell_int | exact oneCell_bool | omega | rfl | (simp; done) | fail) only [upd_ne, upd_eq]) (by simp -implicitDefEqProofs (maxSteps := 2000000) (disch := first | with_reducible exact Nat.ne_of_beq_eq_false rfl | exact oneCell_int | exact oneCell_bool | omega | rfl | (simp; done) | fail) only [upd_eq])
  · try simp -implicitDefEqProofs (maxSteps := 2000000) (disch := first | with_reducible exact Nat.ne_of_beq_eq_false rfl | exact oneCell_int | exact oneCell_bool | omega | rfl | (simp; done) | fail) only [upd_ne, upd_eq, opH_su, opH_sv, al30, fa46_3, add_mk, Nat.zero_add, ld30, Nat.add_zero, Nat.reduceAdd, cf77, fa30_0, ld28, fa46_0, ld3, cx, List.getElem?_cons_zero, Option.some.injEq, exists_eq_left', eq_int, show (m.k == 4) = true by simp [h4], show (m.k == 3) = false by simp [h4], HL.cond_false, ek2, ek1', List.getElem?_cons_succ, st30w]
    exact k13 _ (by simp -implicitDefEqProofs (maxSteps := 2000000) (disch := first | with_reducible exact Nat.ne_of_beq_eq_false rfl | exact oneCell_int | exact oneCell_bool | omega | rfl | (simp; done) | fail) only [upd_ne, regs0]) (by simp -implicitDefEqProofs (maxSteps := 2000000) (disch := first | with_reducible exact Nat.ne_of_beq_eq_false rfl | exact oneCell_int | exact oneCell_bool | omega | rfl | (simp; done) | fail) only [upd_ne, upd_eq]) (by simp -implicitDefEqProofs (maxSteps := 2000000) (disch := first | with_reducible exact Nat.ne_of_beq_eq_false rfl | exact oneCell_int | exact oneCell_bool | omega | rfl | (simp; done) | fail) only [upd_eq])

theorem legal_spec {G h : Hp} {g : Value} {w k : Nat} {f : Nat → Nat → Int} {m : Move} (gs : GS G h g w k f) (st : Steps G) (mb : MB m) : HCalls Tryd.prog G 27 #[g, moveV m] h (fun u h' => u = .bool (wayB w k f m) ∧ h' = h) := by
  refine HCalls.assume fun d => quietly (enter27 (by simp) ?_)
  unfold S27
  simp -implicitDefEqProofs only [regs1, regs0, retK_ret, resL_tmp, upd_eq, resL_nil1, opH_sv, cf63, box_new, cells_agg, ld46, add_mk, Nat.add_zero, cell_set_self, List.getElem?_cons_zero, Option.some.injEq, Nat.zero_add, List.getElem?_cons_succ, exists_eq_left']
  intro x hx gx
  generalize e1 : Hp.set h x _ = h1
  obtain ⟨l1, d1, b1⟩ := boxed e1 hx d gx
  have cx : ∀ j, cellIn G h1 ⟨x, j, none⟩ = _ := fun j => cell_of (look_own b1)
  try simp -implicitDefEqProofs only [opH_sv, opH_su, pureW_sv, opH_nil, pureW_nil, pick_t, pick_f, pick_tp, pick_fp, gd_tt, gd_ft, gd_tf, gd_ff, box_new, regs0, regs1, regs2, regs3, regs4, regs5, regs6, cells_agg, cells_int, cells_bool, cells_ptr, cells_slice, cells_string, cells_func, cells_nilFunc, cells_map, retK_ret, retK_normal, resL_tmp, resL_cell, resL_nil0, resL_nil1, resL_nil2, resL_nil3, resC_ptr, ex0, ex1, ex2, ex0p, ex1p, ex2p, HL.cond_true, HL.cond_false, thenK_normal, thenK_ret, thenK_exit, blockK_normal, blockK_ret, blockK_exit, scopeK_normal, scopeK_ret, scopeK_exit, wpH_pure, bin_add, bin_sub, bin_mul, bin_lss, bin_leq, bin_gtr, bin_geq, bin_quo, bin_rem, bin_quop, bin_remp, wrap_in, bin_addp, bin_subp, bin_mulp, bin_lssp, bin_leqp, bin_gtrp, bin_geqp, un_not, un_notp, un_neg, eq_int, ne_int, eq_intp, ne_intp, callV_fn, add_mk, upd_eq, upd_ne, cell_set_self, Nat.zero_add, Nat.add_zero, Option.some.injEq, exists_eq_left', List.getElem?_cons_succ, List.getElem?_cons_zero, true_and, and_true, bne_self_eq_false, beq_self_eq_true, Bool.not_true, Bool.not_false, Bool.and_true, Bool.and_self, Bool.and_false, Bool.true_and, List.length_cons, List.length_nil, ne_eq, not_false_eq_true, Nat.reduceAdd, Nat.reduceMul, if_true, if_false, oneCell_int, oneCell_bool, oneCell_ptr, oneCell_slice, oneCell_string, oneCell_func, oneCell_map, Int.toNat_natCast, List.set_cons_zero, List.set_cons_succ, Nat.lt_irrefl, Nat.zero_lt_succ, Nat.succ_lt_succ_iff, fa26_0, fa26_0p, fa26_1, fa26_1p, fa26_10, fa26_10p, fa26_11, fa26_11p, fa26_12, fa26_12p, fa26_13, fa26_13p, fa26_14, fa26_14p, fa26_2, fa26_2p, fa26_3, fa26_3p, fa26_4, fa26_4p, fa26_5, fa26_5p, fa26_6, fa26_6p, fa26_7, fa26_7p, fa26_8, fa26_8p, fa26_9, fa26_9p, fa28_0, fa28_0p, fa28_1, fa28_1p, fa30_0, fa30_0p, fa30_1, fa30_1p, fa46_0, fa46_0p, fa46_1, fa46_1p, fa46_2, fa46_2p, fa46_3, fa46_3p, fa46_4, fa46_4p, fa46_5, fa46_5p, fa46_6, fa46_6p, fa86_0, fa86_0p, fa86_1, fa86_1p, fa86_2, fa86_2p, fa95_0, fa95_0p, fa95_1, fa95_1p, ld3, ld3p, ld4, ld4p, ld22, ld22p, ld23, ld23p, ld24, ld24p, ld26, ld26p, ld28, ld28p, ld30, ld30p, ld31, ld31p, ld46, ld46p, ld47, ld47p, ld52, ld52p, ld55, ld55p, ld57, ld57p, ld95, ld95p, st3s, st4s, st22s, st23s, st24s, st26w, st28w, st30w, st46w, st47s, st55s, st95w, ix22, ix22p, ix23, ix23p, ix24, ix24p, ix47, ix47p, ix56, ix56p, ix57, ix57p, ix101, ix101p, ln22, ln22p, ln23, ln23p, ln24, ln24p, ln47, ln47p, ln56, ln56p, ln57, ln57p, al22, al26, al28, al30, al46, al47, al95, cf14, cf15, cf16, cf17, cf18, cf19, cf20, cf21, cf22, cf23, cf24, cf25, cf26, cf27, cf28, cf29, cf30, cf31, cf32, cf33, cf34, cf35, cf36, cf37, cf38, cf39, cf40, cf41, cf42, cf43, cf44, cf45, cf46, cf47, cf48, cf49, cf50, cf51, cf52, cf53, cf54, cf55, cf56, cf57, cf58, cf59, cf60, cf61, cf62, cf63, cf64, cf65, cf66, cf67, cf68, cf69, cf70, cf71, cf72, cf73, cf74, cf75, cf76, cf77, cf78, cf79, cf80, bd26_0_1_2_7_8_9_10_11_12_13_14, bd26_0_1_2_7_8_9_10_11_12_13_14p, bd28_0, bd28_0p, bd28_0_1, bd28_0_1p, bd30_, bd30_p, bd30_0_1, bd30_0_1p, bd30_0, bd30_0p, bd46_0_1_2_3_4, bd46_0_1_2_3_4p, bd46_0_3_4, bd46_0_3_4p, bd86_0_1_2, bd86_0_1_2p, bd87_0_1_2_3, bd87_0_1_2_3p, bd95_0_1, bd95_0_1p, bs22_2_0_1, bs47_1_0, bs22_1_0, bs57_6_0_1_2_3_4_5, bs24_1_0, bs22_4_0_1_2_3, bs56_11_0_1_2_3_4_5_6_7_8_9_10, bs57_11_0_1_2_3_4_5_6_7_8_9_10, eq4, eq4p, eq28, eq28p, eq30, eq30p, eq31n, eq31np, eq31s, eq31sp, eq46, eq46p, eq50n, eq50np, eq50s, eq50sp, eq67n, eq67np, eq67s, eq67sp, ne4, ne4p, ne28, ne28p, ne30, ne30p, ne31n, ne31np, ne31s, ne31sp, ne46, ne46p, cx]
  refine (way_spec (gs.up l1 d1) st mb).mono ?_
  rintro _ h2 ⟨ip, v, L, rfl, o, s2, d2, _⟩
  try simp -implicitDefEqProofs only [ex1, true_and, ex0]
  exact l1.trans (s2.in 1 rfl)

end Go.Proofs.YtnpdploihlgcgaaDoor
end
