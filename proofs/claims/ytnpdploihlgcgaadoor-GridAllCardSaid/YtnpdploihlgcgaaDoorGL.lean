/- The robots of a grid: their cells. -/
import Derived.Test.YtnpdploihlgcgaaDoorGK
set_option linter.unusedSimpArgs false
set_option linter.unusedVariables false
set_option maxRecDepth 100000
namespace Go.Proofs.YtnpdploihlgcgaaDoor
open Go Go.HL

def f2 (w k : Nat) (f : Nat → Nat → Int) (T : List Cell) (x y : Nat) : Int := if ((x : Int), (y : Int)) ∈ T then -2 else f1 w k f x y

theorem f2_open {w k : Nat} {f : Nat → Nat → Int} {T : List Cell} (hT : ∀ c ∈ T, fAt f c ≠ -1) (x y : Nat) : f2 w k f T x y = -1 ↔ f x y = -1 := by
  unfold f2
  split
  · rename_i h
    have := hT _ h
    simp only [fAt, Int.toNat_natCast] at this
    constructor
    · intro e; omega
    · intro e; exact absurd e this
  · exact f1_open x y

theorem f2_snoc {w k : Nat} {f : Nat → Nat → Int} {T : List Cell} {c : Cell} (h1 : 0 ≤ c.1) (h2 : 0 ≤ c.2) : f2 w k f (T ++ [c]) = fun p q => if p = c.1.toNat ∧ q = c.2.toNat then -2 else f2 w k f T p q := by
  funext p q
  unfold f2
  by_cases hpq : p = c.1.toNat ∧ q = c.2.toNat
  · have e : ((p : Int), (q : Int)) = c := by rw [hpq.1, hpq.2, Int.toNat_of_nonneg h1, Int.toNat_of_nonneg h2]
    rw [if_pos hpq, e, if_pos (by simp)]
  · have e : ((p : Int), (q : Int)) ≠ c := fun e => hpq (by rw [← e]; simp)
    rw [if_neg hpq]
    by_cases hm : ((p : Int), (q : Int)) ∈ T
    · rw [if_pos (by simp [hm]), if_pos hm]
    · rw [if_neg (by simp [hm, e]), if_neg hm]

theorem GO.other {h : Hp} {gp kb w k : Nat} {f : Nat → Nat → Int} (g : GO h gp kb w k f) {b : Nat} {cs : Array Value} {e : TypeId} {o : Obj} (hb : h b = some (.cells cs e (0, 0))) (h1 : e ≠ 86) (h2 : e ≠ 3) : GO (h.set b o) gp kb w k f := by
  have n1 : gp ≠ b := fun q => by have := g.hd; rw [q, hb] at this; simp at this; exact h1 this.2
  have n2 : kb ≠ b := fun q => by have := g.row; rw [q, hb] at this; simp at this; exact h2 this.2
  exact ⟨by rw [set_other n1]; exact g.hd, by rw [set_other n2]; exact g.row, g.w1, g.w2, g.k1, g.k2⟩
theorem MK.other {h : Hp} {mb w k : Nat} {f : Nat → Nat → Bool} (g : MK h mb w k f) {b : Nat} {cs : Array Value} {e : TypeId} {o : Obj} (hb : h b = some (.cells cs e (0, 0))) (h1 : e ≠ 4) : MK (h.set b o) mb w k f := by
  unfold MK at *
  have n1 : mb ≠ b := fun q => by rw [q, hb] at g; simp at g; exact h1 g.2
  rw [set_other n1]; exact g
theorem MK.le {a h : Hp} {mb w k : Nat} {f : Nat → Nat → Bool} (g : MK a mb w k f) (l : a.le h) : MK h mb w k f := l _ _ g

set_option maxHeartbeats 2000000 in
theorem robots_in {G : Hp} {gp kb mb w k : Nat} {f : Nat → Nat → Int} {KK : Exit → Rg → Hp → Prop} {cs T0 : List Cell} {cb : Nat} {p : Pose} (r : Rg) (h : Hp) (hcs : cs = cellsP p) (hin : ∀ c ∈ cs, inW w k c = true)
    (hc : h cb = some (.cells #[.int .i64 p.x, .int .i64 p.y, .int .i64 (east p).1, .int .i64 (east p).2] 28 (0, 0))) (g0 : r 0 = .pointer (some ⟨gp, 0, none⟩)) (g7 : r 7 = .slice (some ⟨mb, 0, none⟩) (w * k) (w * k)) (g91 : r 91 = .slice (some ⟨cb, 0, none⟩) 2 2) (g92 : r 92 = .int .i64 2) (g93 : r 93 = .int .i64 0)
    (go : GO h gp kb w k (f2 w k f T0)) (mk : MK h mb w k (seenT T0)) (d : Dis G h) (hnd0 : T0.Nodup)
    (H1 : (∀ c ∈ cs, fAt (f1 w k f) c ≤ 0) → (T0 ++ cs).Nodup → ∀ (r' : Rg) h', r' 0 = r 0 → r' 7 = r 7 → r' 79 = r 79 → r' 80 = r 80 → r' 81 = r 81 → GO h' gp kb w k (f2 w k f (T0 ++ cs)) → MK h' mb w k (seenT (T0 ++ cs)) → Dis G h' → KK (.exit 4) r' h')
    (H2 : ¬ ((∀ c ∈ cs, fAt (f1 w k f) c ≤ 0) ∧ (T0 ++ cs).Nodup) → ∀ (r' : Rg) h', r' 4 = .bool false → Dis G h' → KK .ret r' h') : loopP (S73_l4_l8 G) r h KK := by
  have hlen : cs.length = 2 := by rw [hcs]; rfl
  refine loop_I (fun m r2 h3 => ∃ j : Nat, m = 2 - j ∧ j ≤ 2 ∧ r2 0 = r 0 ∧ r2 7 = r 7 ∧ r2 79 = r 79 ∧ r2 80 = r 80 ∧ r2 81 = r 81 ∧ r2 91 = r 91 ∧ r2 92 = r 92 ∧ r2 93 = .int .i64 j ∧ (∀ c ∈ cs.take j, fAt (f1 w k f) c ≤ 0) ∧ (T0 ++ cs.take j).Nodup ∧
     GO h3 gp kb w k (f2 w k f (T0 ++ cs.take j)) ∧ MK h3 mb w k (seenT (T0 ++ cs.take j)) ∧ h3 cb = some (.cells #[.int .i64 p.x, .int .i64 p.y, .int .i64 (east p).1, .int .i64 (east p).2] 28 (0, 0)) ∧ Dis G h3) ?_
    (m := 2) ⟨0, rfl, Nat.zero_le _, rfl, rfl, rfl, rfl, rfl, rfl, rfl, by rw [g93]; rfl, by simp, by simpa using hnd0, by simpa using go, by simpa using mk, hc, d⟩
  rintro m r2 h3 ⟨j, rfl, hj, q0, q7, q79, q80, q81, q91, q92, q93, hok, hnd, go, mk, hc3, d3⟩ X HX
  rw [g0] at q0
  rw [g7] at q7
  rw [g91] at q91
  rw [g92] at q92
  unfold S73_l4_l8
  simp -implicitDefEqProofs (maxSteps := 2000000) (disch := first | with_reducible exact Nat.ne_of_beq_eq_false rfl | exact oneCell_int | exact oneCell_bool | omega | rfl | (simp; done) | fail) only [q93, q92, thenK_exit, opH_sv, bin_lss]
  refine cond_dec (fun hlt => ?_) (fun hge => ?_)
  rotate_left
  · obtain rfl : j = 2 := by omega
    rw [List.take_of_length_le (by omega)] at hok hnd go mk
    exact H1 hok hnd _ _ (by simp -implicitDefEqProofs (maxSteps := 2000000) (disch := first | with_reducible exact Nat.ne_of_beq_eq_false rfl | exact oneCell_int | exact oneCell_bool | omega | rfl | (simp; done) | fail) only [upd_ne, q0, g0]) (by simp -implicitDefEqProofs (maxSteps := 2000000) (disch := first | with_reducible exact Nat.ne_of_beq_eq_false rfl | exact oneCell_int | exact oneCell_bool | omega | rfl | (simp; done) | fail) only [upd_ne, q7, g7]) (by simp -implicitDefEqProofs (maxSteps := 2000000) (disch := first | with_reducible exact Nat.ne_of_beq_eq_false rfl | exact oneCell_int | exact oneCell_bool | omega | rfl | (simp; done) | fail) only [upd_ne, q79]) (by simp -implicitDefEqProofs (maxSteps := 2000000) (disch := first | with_reducible exact Nat.ne_of_beq_eq_false rfl | exact oneCell_int | exact oneCell_bool | omega | rfl | (simp; done) | fail) only [upd_ne, q80]) (by simp -implicitDefEqProofs (maxSteps := 2000000) (disch := first | with_reducible exact Nat.ne_of_beq_eq_false rfl | exact oneCell_int | exact oneCell_bool | omega | rfl | (simp; done) | fail) only [upd_ne, q81]) go mk d3
  have hlt' : j < 2 := by omega
  obtain ⟨y, hy⟩ : ∃ x, cs[j]? = some x := ⟨_, List.getElem?_eq_getElem (by omega)⟩
  have hym : y ∈ cs := List.mem_of_getElem? hy
  have sv : Sees cellC G h3 (.slice (some ⟨cb, 0, none⟩) cs.length 2) cs := by rw [hcs]; exact Sees.row hc3 rfl (Nat.le_refl _)
  obtain ⟨b, ofs, eb, z0, z1⟩ := Sees.cell sv hy
  cases eb
  rw [Nat.zero_add] at z0 z1
  unfold S73_l4_l8_k9
  simp -implicitDefEqProofs (maxSteps := 2000000) (disch := first | with_reducible exact Nat.ne_of_beq_eq_false rfl | exact oneCell_int | exact oneCell_bool | omega | rfl | (simp; done) | fail) only [upd_ne, q91, q93, thenK_ret, opH_sv, cf37, opH_su, al28, ld28, add_mk, Nat.add_zero, Nat.zero_add, ix22 (Int.natCast_nonneg j) (show (j : Int) < (2 : Nat) by omega), Int.toNat_natCast, z0, Option.some.injEq, z1, exists_eq_left', st28w, cell_set_self, List.getElem?_cons_zero, List.getElem?_cons_succ]
  intro t ht gt
  have go4 : GO (h3.set t (.cells #[.int .i64 y.1, .int .i64 y.2] 28 (0, 0))) gp kb w k (f2 w k f (T0 ++ cs.take j)) := go.le (le_set ht)
  have mk4 : MK (h3.set t (.cells #[.int .i64 y.1, .int .i64 y.2] 28 (0, 0))) mb w k (seenT (T0 ++ cs.take j)) := mk.le (le_set ht)
  have hc4 := le_set (o := .cells #[.int .i64 y.1, .int .i64 y.2] 28 (0, 0)) ht _ _ hc3
  have d4 := d3.set (o := .cells #[.int .i64 y.1, .int .i64 y.2] 28 (0, 0)) gt
  try simp -implicitDefEqProofs (maxSteps := 2000000) (disch := first | with_reducible exact Nat.ne_of_beq_eq_false rfl | exact oneCell_int | exact oneCell_bool | omega | rfl | (simp; done) | fail) only [q0]
  generalize h3.set t (.cells #[.int .i64 y.1, .int .i64 y.2] 28 (0, 0)) = h4 at *
  refine (num_spec (c := y) (go4.gs (G := G))).mono ?_
  rintro _ h4 ⟨rfl, rfl⟩
  have hc' := hin y hym
  obtain ⟨hn, hx, hyk, hlt2⟩ := numI_nat hc'
  obtain ⟨a1, a2, a3, a4⟩ := inW_iff.1 hc'
  have hxy : ((y.1.toNat : Int), (y.2.toNat : Int)) = y := by rw [Int.toNat_of_nonneg a1, Int.toNat_of_nonneg a3]
  have mg := mk_get (G := G) mk4 (Hp.le.refl _) hx hyk
  rw [show seenT (T0 ++ cs.take j) y.1.toNat y.2.toNat = decide (y ∈ T0 ++ cs.take j) by unfold seenT; rw [hxy]] at mg
  have kn : cellIn G h4 ⟨kb, y.2.toNat * w + y.1.toNat, none⟩ = some (.int .i64 (f2 w k f (T0 ++ cs.take j) y.1.toNat y.2.toNat)) := by
    rw [cell_of (look_own go4.row)]
    exact rows_one_get icC rfl rfl (gridL_get hx hyk)
  have cg4 : ∀ j, cellIn G h4 ⟨gp, j, none⟩ = _ := fun j => cell_of (look_own go4.hd)
  have g5 := go4.put (v := -2) hx hyk
  have m5 := mk4.put (v := true) hx hyk
  rw [hn]
  generalize hnn : y.2.toNat * w + y.1.toNat = n at hn hlt2 mg kn g5 m5
  have htk : T0 ++ cs.take (j + 1) = (T0 ++ cs.take j) ++ [y] := by rw [take_get hy, List.append_assoc]
  have bad : y ∈ T0 ++ cs.take j ∨ fAt (f1 w k f) y > 0 → ¬ ((∀ c ∈ cs, fAt (f1 w k f) c ≤ 0) ∧ (T0 ++ cs).Nodup) := by
    rintro (hm | hp) ⟨h1, h2⟩
    · refine not_nodup (L := T0 ++ cs) (i := T0.length + j) (x := y) (by rw [List.getElem?_append_right (by omega), Nat.add_sub_cancel_left]; exact hy) ?_ h2
      rw [List.take_append, List.take_of_length_le (by omega), Nat.add_sub_cancel_left]
      exact hm
    · have := h1 y hym; omega
  try simp -implicitDefEqProofs (maxSteps := 2000000) (disch := first | with_reducible exact Nat.ne_of_beq_eq_false rfl | exact oneCell_int | exact oneCell_bool | omega | rfl | (simp; done) | fail) only [q7, ix101n hlt2, ld4, mg, Option.some.injEq, exists_eq_left']
  by_cases hmem : y ∈ T0 ++ cs.take j
  · try simp -implicitDefEqProofs (maxSteps := 2000000) (disch := first | with_reducible exact Nat.ne_of_beq_eq_false rfl | exact oneCell_int | exact oneCell_bool | omega | rfl | (simp; done) | fail) only [decide_eq_true hmem, pick_t, HL.cond_true, gd_tf]
    exact H2 (bad (.inl hmem)) _ _ (by simp -implicitDefEqProofs (maxSteps := 2000000) (disch := first | with_reducible exact Nat.ne_of_beq_eq_false rfl | exact oneCell_int | exact oneCell_bool | omega | rfl | (simp; done) | fail) only [upd_eq]) d4
  have hf2 : f2 w k f (T0 ++ cs.take j) y.1.toNat y.2.toNat = fAt (f1 w k f) y := by
    unfold f2
    rw [hxy, if_neg hmem]
    rfl
  rw [hf2] at kn
  try simp -implicitDefEqProofs (maxSteps := 2000000) (disch := first | with_reducible exact Nat.ne_of_beq_eq_false rfl | exact oneCell_int | exact oneCell_bool | omega | rfl | (simp; done) | fail) only [decide_eq_false hmem, pick_f, gd_ff, opH_sv, opH_nil, fa86_2, add_mk, Nat.zero_add, ld57, cg4, List.getElem?_cons_succ, List.getElem?_cons_zero, Option.some.injEq, exists_eq_left', ix57n hlt2, ld3, kn, bin_gtr]
  by_cases hpos : fAt (f1 w k f) y > 0
  · try simp -implicitDefEqProofs (maxSteps := 2000000) (disch := first | with_reducible exact Nat.ne_of_beq_eq_false rfl | exact oneCell_int | exact oneCell_bool | omega | rfl | (simp; done) | fail) only [decide_eq_true hpos, HL.cond_true]
    exact H2 (bad (.inr hpos)) _ _ (by simp -implicitDefEqProofs (maxSteps := 2000000) (disch := first | with_reducible exact Nat.ne_of_beq_eq_false rfl | exact oneCell_int | exact oneCell_bool | omega | rfl | (simp; done) | fail) only [upd_eq]) d4
  try simp -implicitDefEqProofs (maxSteps := 2000000) (disch := first | with_reducible exact Nat.ne_of_beq_eq_false rfl | exact oneCell_int | exact oneCell_bool | omega | rfl | (simp; done) | fail) only [decide_eq_false hpos, HL.cond_false]
  unfold S73_l4_l8_k11
  try simp -implicitDefEqProofs (maxSteps := 2000000) (disch := first | with_reducible exact Nat.ne_of_beq_eq_false rfl | exact oneCell_int | exact oneCell_bool | omega | rfl | (simp; done) | fail) only [upd_ne, q7, upd_eq, opH_su, opH_sv, ix101n hlt2]
  rw [store1_eq sz4 rfl mk4 (by rw [bcC.rows_length, gridL_length]; simp [bcC]; exact hlt2)]
  have go6 := go4.other (o := .cells ((bcC.rows (gridL w k (seenT (T0 ++ cs.take j)))).set n (.bool true)).toArray 4 (0, 0)) mk4 (by decide) (by decide)
  have hc6 : (h4.set mb (.cells ((bcC.rows (gridL w k (seenT (T0 ++ cs.take j)))).set n (.bool true)).toArray 4 (0, 0))) cb = _ := (set_other (fun q => by unfold MK at mk4; rw [← q, hc4] at mk4; simp at mk4)).trans hc4
  have d6 : Dis G (h4.set mb (.cells ((bcC.rows (gridL w k (seenT (T0 ++ cs.take j)))).set n (.bool true)).toArray 4 (0, 0))) := d4.set (d4 _ _ mk4)
  generalize h4.set mb (.cells ((bcC.rows (gridL w k (seenT (T0 ++ cs.take j)))).set n (.bool true)).toArray 4 (0, 0)) = h6 at *
  have cg6 : ∀ j, cellIn G h6 ⟨gp, j, none⟩ = _ := fun j => cell_of (look_own go6.hd)
  try simp -implicitDefEqProofs (maxSteps := 2000000) (disch := first | with_reducible exact Nat.ne_of_beq_eq_false rfl | exact oneCell_int | exact oneCell_bool | omega | rfl | (simp; done) | fail) only [q0, opH_nil, fa86_2, add_mk, Nat.zero_add, ld57, cg6, List.getElem?_cons_succ, List.getElem?_cons_zero, Option.some.injEq, exists_eq_left', ix57n hlt2]
  rw [store1_eq sz3 rfl go6.row (by rw [icC.rows_length, gridL_length]; simp [icC]; exact hlt2)]
  have go7 := go6.put (v := -2) hx hyk
  rw [hnn, ← f2_snoc a1 a3, ← htk] at go7
  have mk7 := m5.other (o := .cells ((icC.rows (gridL w k (f2 w k f (T0 ++ cs.take j)))).set n (.int .i64 (-2))).toArray 3 (0, 0)) go6.row (by decide)
  rw [← seen_snoc a1 a3, ← htk] at mk7
  have nkc : cb ≠ kb := fun q => by have := go6.row; rw [← q, hc6] at this; simp at this
  unfold S73_l4_l8_k10
  simp -implicitDefEqProofs (maxSteps := 2000000) (disch := first | with_reducible exact Nat.ne_of_beq_eq_false rfl | exact oneCell_int | exact oneCell_bool | omega | rfl | (simp; done) | fail) only [upd_ne, q93, thenK_normal, opH_sv, bin_add, wrap_in]
  refine HX (2 - (j + 1)) _ _ (by omega) ⟨j + 1, rfl, hlt', by simp -implicitDefEqProofs (maxSteps := 2000000) (disch := first | with_reducible exact Nat.ne_of_beq_eq_false rfl | exact oneCell_int | exact oneCell_bool | omega | rfl | (simp; done) | fail) only [upd_ne, q0, g0], by simp -implicitDefEqProofs (maxSteps := 2000000) (disch := first | with_reducible exact Nat.ne_of_beq_eq_false rfl | exact oneCell_int | exact oneCell_bool | omega | rfl | (simp; done) | fail) only [upd_ne, q7, g7], by simp -implicitDefEqProofs (maxSteps := 2000000) (disch := first | with_reducible exact Nat.ne_of_beq_eq_false rfl | exact oneCell_int | exact oneCell_bool | omega | rfl | (simp; done) | fail) only [upd_ne, q79], by simp -implicitDefEqProofs (maxSteps := 2000000) (disch := first | with_reducible exact Nat.ne_of_beq_eq_false rfl | exact oneCell_int | exact oneCell_bool | omega | rfl | (simp; done) | fail) only [upd_ne, q80], by simp -implicitDefEqProofs (maxSteps := 2000000) (disch := first | with_reducible exact Nat.ne_of_beq_eq_false rfl | exact oneCell_int | exact oneCell_bool | omega | rfl | (simp; done) | fail) only [upd_ne, q81], by simp -implicitDefEqProofs (maxSteps := 2000000) (disch := first | with_reducible exact Nat.ne_of_beq_eq_false rfl | exact oneCell_int | exact oneCell_bool | omega | rfl | (simp; done) | fail) only [upd_ne, q91, g91], by simp -implicitDefEqProofs (maxSteps := 2000000) (disch := first | with_reducible exact Nat.ne_of_beq_eq_false rfl | exact oneCell_int | exact oneCell_bool | omega | rfl | (simp; done) | fail) only [upd_ne, q92, g92], by simp -implicitDefEqProofs (maxSteps := 2000000) (disch := first | with_reducible exact Nat.ne_of_beq_eq_false rfl | exact oneCell_int | exact oneCell_bool | omega | rfl | (simp; done) | fail) only [upd_eq] <;> rfl, ?_, ?_, go7, mk7, (set_other nkc).trans hc6, d6.set (d6 _ _ go6.row)⟩
  · rw [take_get hy]
    intro c hc
    rcases List.mem_append.1 hc with q | q
    · exact hok c q
    · simp at q; rw [q]; omega
  · rw [htk]
    exact List.nodup_append.2 ⟨hnd, by simp, fun a ha b hb => by simp at hb; subst hb; exact fun e => hmem (e ▸ ha)⟩

structure RobotsOk (w k : Nat) (f : Nat → Nat → Int) (ro : List Pose) : Prop where
  r8 : ro.length ≤ 8
  plain : ∀ x y, x < w → y < k → keepB w k f x y = false → f x y ≤ 0
  fit : ∀ p ∈ ro, fitsW w k f p = true
  low : ∀ c ∈ ro.flatMap cellsP, fAt (f1 w k f) c ≤ 0
  once : (ro.flatMap cellsP).Nodup

theorem fits_cells {w k : Nat} {f : Nat → Nat → Int} {p : Pose} (h : fitsW w k f p = true) : ∀ c ∈ cellsP p, inW w k c = true ∧ fAt f c ≠ -1 := by
  unfold fitsW openW at h
  simp only [Bool.and_eq_true] at h
  intro c hc
  unfold cellsP at hc
  simp only [List.mem_cons, List.not_mem_nil, or_false] at hc
  rcases hc with rfl | rfl
  · exact ⟨h.1.1, by have := h.1.2; simpa using this⟩
  · exact ⟨h.2.1, by have := h.2.2; simpa using this⟩

def RobR (w k gp kb : Nat) (f : Nat → Nat → Int) (ro : List Pose) (u : Value) (h' : Hp) : Prop :=
  (RobotsOk w k f ro ∧ u = .bool true ∧ GO h' gp kb w k (f2 w k f (ro.flatMap cellsP))) ∨ (¬ RobotsOk w k f ro ∧ u = .bool false)

set_option maxHeartbeats 2000000 in
theorem robots_spec {G h : Hp} {gp kb w k : Nat} {f : Nat → Nat → Int} {ro : List Pose} {rv : Value} (go : GO h gp kb w k f) (st : Steps G) (sv : GSees poseC G rv ro) (hp : ∀ p ∈ ro, PB p) :
    HCalls Tryd.prog G 73 #[.pointer (some ⟨gp, 0, none⟩), rv] h (RobR w k gp kb f ro) := by
  refine HCalls.assume fun d => enter73 (by simp) ?_
  obtain ⟨sa, cap, hrv⟩ := (sv h d).len
  have hm2 : w * k ≤ 16 * 16 := Nat.mul_le_mul go.w2 go.k2
  unfold S73
  simp -implicitDefEqProofs (maxSteps := 2000000) (disch := first | with_reducible exact Nat.ne_of_beq_eq_false rfl | exact oneCell_int | exact oneCell_bool | omega | rfl | (simp; done) | fail) only [hrv, regs1, retK_ret, resL_tmp, upd_eq, resL_nil1, opH_sv, ln23, bin_gtr]
  by_cases h8 : ro.length ≤ 8
  rotate_left
  · try simp -implicitDefEqProofs (maxSteps := 2000000) (disch := first | with_reducible exact Nat.ne_of_beq_eq_false rfl | exact oneCell_int | exact oneCell_bool | omega | rfl | (simp; done) | fail) only [show decide ((ro.length : Int) > 8) = true from decide_eq_true (by omega), HL.cond_true]
    exact .inr ⟨fun q => h8 q.r8, rfl⟩
  try simp -implicitDefEqProofs (maxSteps := 2000000) (disch := first | with_reducible exact Nat.ne_of_beq_eq_false rfl | exact oneCell_int | exact oneCell_bool | omega | rfl | (simp; done) | fail) only [show decide ((ro.length : Int) > 8) = false from decide_eq_false (by omega), HL.cond_false]
  unfold S73_k1
  have cg : ∀ j, cellIn G h ⟨gp, j, none⟩ = _ := fun j => cell_of (look_own go.hd)
  try simp -implicitDefEqProofs (maxSteps := 2000000) (disch := first | with_reducible exact Nat.ne_of_beq_eq_false rfl | exact oneCell_int | exact oneCell_bool | omega | rfl | (simp; done) | fail) only [upd_ne, regs0, opH_sv, opH_nil, fa86_2, add_mk, Nat.zero_add, ld57, cg, List.getElem?_cons_succ, List.getElem?_cons_zero, Option.some.injEq, exists_eq_left', ln57]
  refine robots1 st _ h (by simp -implicitDefEqProofs (maxSteps := 2000000) (disch := first | with_reducible exact Nat.ne_of_beq_eq_false rfl | exact oneCell_int | exact oneCell_bool | omega | rfl | (simp; done) | fail) only [upd_ne, regs0]) (by simp -implicitDefEqProofs (maxSteps := 2000000) (disch := first | with_reducible exact Nat.ne_of_beq_eq_false rfl | exact oneCell_int | exact oneCell_bool | omega | rfl | (simp; done) | fail) only [upd_ne, upd_eq]) (by simp -implicitDefEqProofs (maxSteps := 2000000) (disch := first | with_reducible exact Nat.ne_of_beq_eq_false rfl | exact oneCell_int | exact oneCell_bool | omega | rfl | (simp; done) | fail) only [upd_eq]) go d (fun hpl r2 h2 q0 q1 go2 d2 => ?_) (fun ⟨x, y, hx, hy, hk, hpos⟩ r2 h2 q4 d2 => ?_)
  rotate_left
  · simp -implicitDefEqProofs (maxSteps := 2000000) (disch := first | with_reducible exact Nat.ne_of_beq_eq_false rfl | exact oneCell_int | exact oneCell_bool | omega | rfl | (simp; done) | fail) only [blockK_ret, thenK_ret, retK_ret, resL_tmp, q4, resL_nil1]
    exact .inr ⟨fun q => by have := q.plain x y hx hy hk; omega, rfl⟩
  simp only [blockK_exit, if_true, thenK_normal]
  have q0' : r2 0 = .pointer (some ⟨gp, 0, none⟩) := q0.trans (by simp -implicitDefEqProofs (maxSteps := 2000000) (disch := first | with_reducible exact Nat.ne_of_beq_eq_false rfl | exact oneCell_int | exact oneCell_bool | omega | rfl | (simp; done) | fail) only [upd_ne, regs0])
  have q1' : r2 1 = rv := q1.trans (by simp -implicitDefEqProofs (maxSteps := 2000000) (disch := first | with_reducible exact Nat.ne_of_beq_eq_false rfl | exact oneCell_int | exact oneCell_bool | omega | rfl | (simp; done) | fail) only [upd_ne, regs1, hrv])
  have cg2 : ∀ j, cellIn G h2 ⟨gp, j, none⟩ = _ := fun j => cell_of (look_own go2.hd)
  unfold S73_k2
  try simp -implicitDefEqProofs (maxSteps := 2000000) (disch := first | with_reducible exact Nat.ne_of_beq_eq_false rfl | exact oneCell_int | exact oneCell_bool | omega | rfl | (simp; done) | fail) only [q0', opH_sv, opH_nil, fa86_2, add_mk, Nat.zero_add, ld57, cg2, List.getElem?_cons_succ, List.getElem?_cons_zero, Option.some.injEq, exists_eq_left', ln57]
  rw [make_eq bcC false (by decide) un101 eobool (by kernel_rfl) (by omega) (by omega)]
  intro mb hmb gmb
  have go3 : GO (h2.set mb (.cells (bcC.rows (List.replicate (w * k) false)).toArray 4 (0, 0))) gp kb w k (f2 w k f []) := (go2.le (le_set hmb)).congr fun x y _ _ => by simp [f2]
  have mk3 : MK (h2.set mb (.cells (bcC.rows (List.replicate (w * k) false)).toArray 4 (0, 0))) mb w k (seenT []) := by unfold MK; rw [set_self, seen_nil, gridL_const]
  have d3 := d2.set (o := .cells (bcC.rows (List.replicate (w * k) false)).toArray 4 (0, 0)) gmb
  generalize h2.set mb (.cells (bcC.rows (List.replicate (w * k) false)).toArray 4 (0, 0)) = h3 at *
  try simp -implicitDefEqProofs (maxSteps := 2000000) (disch := first | with_reducible exact Nat.ne_of_beq_eq_false rfl | exact oneCell_int | exact oneCell_bool | omega | rfl | (simp; done) | fail) only [q1', hrv, ln23]
  have no : ¬ RobotsOk w k f ro → ∀ hh, RobR w k gp kb f ro (.bool false) hh := fun q hh => .inr ⟨q, rfl⟩
  refine loop_I (fun m r4 h4 => ∃ i : Nat, m = ro.length - i ∧ i ≤ ro.length ∧ r4 0 = .pointer (some ⟨gp, 0, none⟩) ∧ r4 7 = .slice (some ⟨mb, 0, none⟩) (w * k) (w * k) ∧ r4 79 = rv ∧ r4 80 = .int .i64 ro.length ∧ r4 81 = .int .i64 i ∧
     (∀ p ∈ ro.take i, fitsW w k f p = true) ∧ (∀ c ∈ (ro.take i).flatMap cellsP, fAt (f1 w k f) c ≤ 0) ∧ ((ro.take i).flatMap cellsP).Nodup ∧
     GO h4 gp kb w k (f2 w k f ((ro.take i).flatMap cellsP)) ∧ MK h4 mb w k (seenT ((ro.take i).flatMap cellsP)) ∧ Dis G h4) ?_
    (m := ro.length) ⟨0, rfl, Nat.zero_le _, by simp -implicitDefEqProofs (maxSteps := 2000000) (disch := first | with_reducible exact Nat.ne_of_beq_eq_false rfl | exact oneCell_int | exact oneCell_bool | omega | rfl | (simp; done) | fail) only [upd_ne, q0'], by simp -implicitDefEqProofs (maxSteps := 2000000) (disch := first | with_reducible exact Nat.ne_of_beq_eq_false rfl | exact oneCell_int | exact oneCell_bool | omega | rfl | (simp; done) | fail) only [upd_ne, upd_eq], by simp -implicitDefEqProofs (maxSteps := 2000000) (disch := first | with_reducible exact Nat.ne_of_beq_eq_false rfl | exact oneCell_int | exact oneCell_bool | omega | rfl | (simp; done) | fail) only [upd_ne, upd_eq, hrv], by simp -implicitDefEqProofs (maxSteps := 2000000) (disch := first | with_reducible exact Nat.ne_of_beq_eq_false rfl | exact oneCell_int | exact oneCell_bool | omega | rfl | (simp; done) | fail) only [upd_ne, upd_eq], by simp -implicitDefEqProofs (maxSteps := 2000000) (disch := first | with_reducible exact Nat.ne_of_beq_eq_false rfl | exact oneCell_int | exact oneCell_bool | omega | rfl | (simp; done) | fail) only [upd_eq] <;> rfl, by simp, by simp, by simp, by simpa using go3, by simpa using mk3, d3⟩
  rintro m r4 h4 ⟨i, rfl, hi, k0, k7, k79, k80, k81, hfit, hlow, hnd, go4, mk4, d4⟩ X HX
  unfold S73_l4
  simp -implicitDefEqProofs (maxSteps := 2000000) (disch := first | with_reducible exact Nat.ne_of_beq_eq_false rfl | exact oneCell_int | exact oneCell_bool | omega | rfl | (simp; done) | fail) only [k81, k80, thenK_exit, blockK_exit, thenK_normal, if_true, opH_sv, bin_lss]
  refine cond_dec (fun hlt => ?_) (fun hge => ?_)
  rotate_left
  · obtain rfl : i = ro.length := by omega
    rw [List.take_of_length_le (Nat.le_refl _)] at hfit hlow hnd go4
    try simp -implicitDefEqProofs (maxSteps := 2000000) (disch := first | with_reducible exact Nat.ne_of_beq_eq_false rfl | exact oneCell_int | exact oneCell_bool | omega | rfl | (simp; done) | fail) only [opH_sv, opH_su, pureW_sv, opH_nil, pureW_nil, pick_t, pick_f, pick_tp, pick_fp, gd_tt, gd_ft, gd_tf, gd_ff, box_new, regs0, regs1, regs2, regs3, regs4, regs5, regs6, cells_agg, cells_int, cells_bool, cells_ptr, cells_slice, cells_string, cells_func, cells_nilFunc, cells_map, retK_ret, retK_normal, resL_tmp, resL_cell, resL_nil0, resL_nil1, resL_nil2, resL_nil3, resC_ptr, ex0, ex1, ex2, ex0p, ex1p, ex2p, HL.cond_true, HL.cond_false, thenK_normal, thenK_ret, thenK_exit, blockK_normal, blockK_ret, blockK_exit, scopeK_normal, scopeK_ret, scopeK_exit, wpH_pure, bin_add, bin_sub, bin_mul, bin_lss, bin_leq, bin_gtr, bin_geq, bin_quo, bin_rem, bin_quop, bin_remp, wrap_in, bin_addp, bin_subp, bin_mulp, bin_lssp, bin_leqp, bin_gtrp, bin_geqp, un_not, un_notp, un_neg, eq_int, ne_int, eq_intp, ne_intp, callV_fn, add_mk, upd_eq, upd_ne, cell_set_self, Nat.zero_add, Nat.add_zero, Option.some.injEq, exists_eq_left', List.getElem?_cons_succ, List.getElem?_cons_zero, true_and, and_true, bne_self_eq_false, beq_self_eq_true, Bool.not_true, Bool.not_false, Bool.and_true, Bool.and_self, Bool.and_false, Bool.true_and, List.length_cons, List.length_nil, ne_eq, not_false_eq_true, Nat.reduceAdd, Nat.reduceMul, if_true, if_false, oneCell_int, oneCell_bool, oneCell_ptr, oneCell_slice, oneCell_string, oneCell_func, oneCell_map, Int.toNat_natCast, List.set_cons_zero, List.set_cons_succ, Nat.lt_irrefl, Nat.zero_lt_succ, Nat.succ_lt_succ_iff, fa26_0, fa26_0p, fa26_1, fa26_1p, fa26_10, fa26_10p, fa26_11, fa26_11p, fa26_12, fa26_12p, fa26_13, fa26_13p, fa26_14, fa26_14p, fa26_2, fa26_2p, fa26_3, fa26_3p, fa26_4, fa26_4p, fa26_5, fa26_5p, fa26_6, fa26_6p, fa26_7, fa26_7p, fa26_8, fa26_8p, fa26_9, fa26_9p, fa28_0, fa28_0p, fa28_1, fa28_1p, fa30_0, fa30_0p, fa30_1, fa30_1p, fa46_0, fa46_0p, fa46_1, fa46_1p, fa46_2, fa46_2p, fa46_3, fa46_3p, fa46_4, fa46_4p, fa46_5, fa46_5p, fa46_6, fa46_6p, fa86_0, fa86_0p, fa86_1, fa86_1p, fa86_2, fa86_2p, fa95_0, fa95_0p, fa95_1, fa95_1p, ld3, ld3p, ld4, ld4p, ld22, ld22p, ld23, ld23p, ld24, ld24p, ld26, ld26p, ld28, ld28p, ld30, ld30p, ld31, ld31p, ld46, ld46p, ld47, ld47p, ld52, ld52p, ld55, ld55p, ld57, ld57p, ld95, ld95p, st3s, st4s, st22s, st23s, st24s, st26w, st28w, st30w, st46w, st47s, st55s, st95w, ix22, ix22p, ix23, ix23p, ix24, ix24p, ix47, ix47p, ix56, ix56p, ix57, ix57p, ix101, ix101p, ln22, ln22p, ln23, ln23p, ln24, ln24p, ln47, ln47p, ln56, ln56p, ln57, ln57p, al22, al26, al28, al30, al46, al47, al95, cf14, cf15, cf16, cf17, cf18, cf19, cf20, cf21, cf22, cf23, cf24, cf25, cf26, cf27, cf28, cf29, cf30, cf31, cf32, cf33, cf34, cf35, cf36, cf37, cf38, cf39, cf40, cf41, cf42, cf43, cf44, cf45, cf46, cf47, cf48, cf49, cf50, cf51, cf52, cf53, cf54, cf55, cf56, cf57, cf58, cf59, cf60, cf61, cf62, cf63, cf64, cf65, cf66, cf67, cf68, cf69, cf70, cf71, cf72, cf73, cf74, cf75, cf76, cf77, cf78, cf79, cf80, bd26_0_1_2_7_8_9_10_11_12_13_14, bd26_0_1_2_7_8_9_10_11_12_13_14p, bd28_0, bd28_0p, bd28_0_1, bd28_0_1p, bd30_, bd30_p, bd30_0_1, bd30_0_1p, bd30_0, bd30_0p, bd46_0_1_2_3_4, bd46_0_1_2_3_4p, bd46_0_3_4, bd46_0_3_4p, bd86_0_1_2, bd86_0_1_2p, bd87_0_1_2_3, bd87_0_1_2_3p, bd95_0_1, bd95_0_1p, bs22_2_0_1, bs47_1_0, bs22_1_0, bs57_6_0_1_2_3_4_5, bs24_1_0, bs22_4_0_1_2_3, bs56_11_0_1_2_3_4_5_6_7_8_9_10, bs57_11_0_1_2_3_4_5_6_7_8_9_10, eq4, eq4p, eq28, eq28p, eq30, eq30p, eq31n, eq31np, eq31s, eq31sp, eq46, eq46p, eq50n, eq50np, eq50s, eq50sp, eq67n, eq67np, eq67s, eq67sp, ne4, ne4p, ne28, ne28p, ne30, ne30p, ne31n, ne31np, ne31s, ne31sp, ne46, ne46p]
    unfold S73_k3
    simp -implicitDefEqProofs (maxSteps := 2000000) (disch := first | with_reducible exact Nat.ne_of_beq_eq_false rfl | exact oneCell_int | exact oneCell_bool | omega | rfl | (simp; done) | fail) only [retK_ret, resL_tmp, upd_eq, resL_nil1]
    exact .inl ⟨⟨h8, hpl, hfit, hlow, hnd⟩, rfl, go4⟩
  have hlt' : i < ro.length := by omega
  obtain ⟨y, hy⟩ : ∃ x, ro[i]? = some x := ⟨_, List.getElem?_eq_getElem hlt'⟩
  have hym : y ∈ ro := List.mem_of_getElem? hy
  have sv4 := sv h4 d4
  rw [hrv] at sv4
  obtain ⟨b, ofs, eb, z0, z1, z2⟩ := Sees.pose sv4 hy
  subst eb
  unfold S73_l4_k5
  simp -implicitDefEqProofs (maxSteps := 2000000) (disch := first | with_reducible exact Nat.ne_of_beq_eq_false rfl | exact oneCell_int | exact oneCell_bool | omega | rfl | (simp; done) | fail) only [upd_ne, k79, hrv, k81, thenK_ret, blockK_ret, retK_ret, resL_tmp, upd_eq, resL_nil1, opH_sv, cf23, opH_su, al30, ld30, add_mk, Nat.add_zero, Nat.zero_add, ix23 (Int.natCast_nonneg i) hlt, Int.toNat_natCast, z0, Option.some.injEq, z1, z2, exists_eq_left', st30w, cell_set_self, List.getElem?_cons_zero, List.getElem?_cons_succ]
  intro t ht gt
  try rw [st30w]
  have go5 : GO (h4.set t (.cells #[.int .i64 y.x, .int .i64 y.y, .bool y.d] 30 (0, 0))) gp kb w k (f2 w k f ((ro.take i).flatMap cellsP)) := go4.le (le_set ht)
  have mk5 : MK (h4.set t (.cells #[.int .i64 y.x, .int .i64 y.y, .bool y.d] 30 (0, 0))) mb w k (seenT ((ro.take i).flatMap cellsP)) := mk4.le (le_set ht)
  have bt : (h4.set t (.cells #[.int .i64 y.x, .int .i64 y.y, .bool y.d] 30 (0, 0))) t = some (.cells #[.int .i64 y.x, .int .i64 y.y, .bool y.d] 30 (0, 0)) := set_self
  have d5 := d4.set (o := .cells #[.int .i64 y.x, .int .i64 y.y, .bool y.d] 30 (0, 0)) gt
  generalize h4.set t (.cells #[.int .i64 y.x, .int .i64 y.y, .bool y.d] 30 (0, 0)) = h5 at *
  have ct : ∀ j, cellIn G h5 ⟨t, j, none⟩ = _ := fun j => cell_of (look_own bt)
  try simp -implicitDefEqProofs (maxSteps := 2000000) (disch := first | with_reducible exact Nat.ne_of_beq_eq_false rfl | exact oneCell_int | exact oneCell_bool | omega | rfl | (simp; done) | fail) only [k0]
  refine (fits_spec (p := y) (go5.gs (G := G)) st (hp y hym)).mono ?_
  rintro _ h5 ⟨rfl, rfl⟩
  have hop : ∀ c ∈ (ro.take i).flatMap cellsP, fAt f c ≠ -1 := by
    intro c hc
    obtain ⟨p, hp1, hp2⟩ := List.mem_flatMap.1 hc
    exact (fits_cells (hfit p hp1) c hp2).2
  rw [fitsW_congr (f' := f) (fun x y _ _ => f2_open hop x y)]
  cases hf : fitsW w k f y with
  | false =>
    try simp -implicitDefEqProofs (maxSteps := 2000000) (disch := first | with_reducible exact Nat.ne_of_beq_eq_false rfl | exact oneCell_int | exact oneCell_bool | omega | rfl | (simp; done) | fail) only [un_not, Bool.not_false, HL.cond_true]
    exact no (fun q => by have := q.fit y hym; rw [hf] at this; cases this) _
  | true =>
  try simp -implicitDefEqProofs (maxSteps := 2000000) (disch := first | with_reducible exact Nat.ne_of_beq_eq_false rfl | exact oneCell_int | exact oneCell_bool | omega | rfl | (simp; done) | fail) only [un_not, Bool.not_true, HL.cond_false]
  unfold S73_l4_k7
  try simp -implicitDefEqProofs (maxSteps := 2000000) (disch := first | with_reducible exact Nat.ne_of_beq_eq_false rfl | exact oneCell_int | exact oneCell_bool | omega | rfl | (simp; done) | fail) only [upd_ne, upd_eq, k0, opH_sv, cf21, ld30, add_mk, Nat.add_zero, ct, List.getElem?_cons_zero, Option.some.injEq, Nat.zero_add, List.getElem?_cons_succ, exists_eq_left']
  refine (cells_spec (p := y) st (hp y hym)).mono ?_
  rintro _ _ ⟨cb, rfl, hcb, gcb, rfl⟩
  have go6 : GO (h5.set cb (.cells #[.int .i64 y.x, .int .i64 y.y, .int .i64 (east y).1, .int .i64 (east y).2] 28 (0, 0))) gp kb w k (f2 w k f ((ro.take i).flatMap cellsP)) := go5.le (le_set hcb)
  have mk6 : MK (h5.set cb (.cells #[.int .i64 y.x, .int .i64 y.y, .int .i64 (east y).1, .int .i64 (east y).2] 28 (0, 0))) mb w k (seenT ((ro.take i).flatMap cellsP)) := mk5.le (le_set hcb)
  have hcs : (h5.set cb (.cells #[.int .i64 y.x, .int .i64 y.y, .int .i64 (east y).1, .int .i64 (east y).2] 28 (0, 0))) cb = _ := set_self
  have d6 := d5.set (o := .cells #[.int .i64 y.x, .int .i64 y.y, .int .i64 (east y).1, .int .i64 (east y).2] 28 (0, 0)) gcb
  generalize h5.set cb (.cells #[.int .i64 y.x, .int .i64 y.y, .int .i64 (east y).1, .int .i64 (east y).2] 28 (0, 0)) = h6 at *
  try simp -implicitDefEqProofs (maxSteps := 2000000) (disch := first | with_reducible exact Nat.ne_of_beq_eq_false rfl | exact oneCell_int | exact oneCell_bool | omega | rfl | (simp; done) | fail) only [ln22]
  have htk : (ro.take (i + 1)).flatMap cellsP = (ro.take i).flatMap cellsP ++ cellsP y := by rw [take_get hy, List.flatMap_append]; simp
  refine robots_in (cs := cellsP y) (p := y) _ h6 rfl (fun c hc => (fits_cells hf c hc).1) hcs (by simp -implicitDefEqProofs (maxSteps := 2000000) (disch := first | with_reducible exact Nat.ne_of_beq_eq_false rfl | exact oneCell_int | exact oneCell_bool | omega | rfl | (simp; done) | fail) only [upd_ne, k0]) (by simp -implicitDefEqProofs (maxSteps := 2000000) (disch := first | with_reducible exact Nat.ne_of_beq_eq_false rfl | exact oneCell_int | exact oneCell_bool | omega | rfl | (simp; done) | fail) only [upd_ne, k7]) (by simp -implicitDefEqProofs (maxSteps := 2000000) (disch := first | with_reducible exact Nat.ne_of_beq_eq_false rfl | exact oneCell_int | exact oneCell_bool | omega | rfl | (simp; done) | fail) only [upd_ne, upd_eq]) (by simp -implicitDefEqProofs (maxSteps := 2000000) (disch := first | with_reducible exact Nat.ne_of_beq_eq_false rfl | exact oneCell_int | exact oneCell_bool | omega | rfl | (simp; done) | fail) only [upd_ne, upd_eq] <;> rfl) (by simp -implicitDefEqProofs (maxSteps := 2000000) (disch := first | with_reducible exact Nat.ne_of_beq_eq_false rfl | exact oneCell_int | exact oneCell_bool | omega | rfl | (simp; done) | fail) only [upd_eq]) go6 mk6 d6 hnd (fun hlw hnd2 r7 h7 j0 j7 j79 j80 j81 go7 mk7 d7 => ?_) (fun hbad r7 h7 j4 d7 => ?_)
  · simp only [blockK_exit, if_true, blockK_normal, thenK_normal]
    unfold S73_l4_k6
    have j81' : r7 81 = .int .i64 i := j81.trans (by simp -implicitDefEqProofs (maxSteps := 2000000) (disch := first | with_reducible exact Nat.ne_of_beq_eq_false rfl | exact oneCell_int | exact oneCell_bool | omega | rfl | (simp; done) | fail) only [upd_ne, k81])
    simp -implicitDefEqProofs (maxSteps := 2000000) (disch := first | with_reducible exact Nat.ne_of_beq_eq_false rfl | exact oneCell_int | exact oneCell_bool | omega | rfl | (simp; done) | fail) only [j81', thenK_normal, opH_sv, bin_add, wrap_in]
    refine HX (ro.length - (i + 1)) _ _ (by omega) ⟨i + 1, rfl, hlt', by simp -implicitDefEqProofs (maxSteps := 2000000) (disch := first | with_reducible exact Nat.ne_of_beq_eq_false rfl | exact oneCell_int | exact oneCell_bool | omega | rfl | (simp; done) | fail) only [upd_ne, j0, k0], by simp -implicitDefEqProofs (maxSteps := 2000000) (disch := first | with_reducible exact Nat.ne_of_beq_eq_false rfl | exact oneCell_int | exact oneCell_bool | omega | rfl | (simp; done) | fail) only [upd_ne, j7, k7], by simp -implicitDefEqProofs (maxSteps := 2000000) (disch := first | with_reducible exact Nat.ne_of_beq_eq_false rfl | exact oneCell_int | exact oneCell_bool | omega | rfl | (simp; done) | fail) only [upd_ne, j79, k79], by simp -implicitDefEqProofs (maxSteps := 2000000) (disch := first | with_reducible exact Nat.ne_of_beq_eq_false rfl | exact oneCell_int | exact oneCell_bool | omega | rfl | (simp; done) | fail) only [upd_ne, j80, k80], by simp -implicitDefEqProofs (maxSteps := 2000000) (disch := first | with_reducible exact Nat.ne_of_beq_eq_false rfl | exact oneCell_int | exact oneCell_bool | omega | rfl | (simp; done) | fail) only [upd_eq] <;> rfl, ?_, ?_, ?_, ?_, ?_, d7⟩
    · rw [take_get hy]
      intro c hc
      rcases List.mem_append.1 hc with q | q
      · exact hfit c q
      · simp at q; rw [q]; exact hf
    · rw [htk]
      intro c hc
      rcases List.mem_append.1 hc with q | q
      · exact hlow c q
      · exact hlw c q
    · rw [htk]; exact hnd2
    · rw [htk]; exact go7
    · rw [htk]; exact mk7
  · simp -implicitDefEqProofs (maxSteps := 2000000) (disch := first | with_reducible exact Nat.ne_of_beq_eq_false rfl | exact oneCell_int | exact oneCell_bool | omega | rfl | (simp; done) | fail) only [blockK_ret, thenK_ret, retK_ret, resL_tmp, j4, resL_nil1]
    refine no (fun q => hbad ⟨fun c hc => q.low c (List.mem_flatMap.2 ⟨y, hym, hc⟩), ?_⟩) _
    have hsub : ((ro.take (i + 1)).flatMap cellsP).Nodup := by
      have e : ro.flatMap cellsP = (ro.take (i + 1)).flatMap cellsP ++ (ro.drop (i + 1)).flatMap cellsP := by rw [← List.flatMap_append, List.take_append_drop]
      have := q.once
      rw [e] at this
      exact (List.nodup_append.1 this).1
    rwa [htk] at hsub

end Go.Proofs.YtnpdploihlgcgaaDoor
