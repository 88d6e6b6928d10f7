/- The robots of a grid: where nothing fits no bins are stacked. -/
import Derived.Test.YtnpdploihlgcgaaDoorGJ
import Derived.Test.YtnpdploihlgcgaaDoorH3
set_option linter.unusedSimpArgs false
set_option linter.unusedVariables false
set_option maxRecDepth 100000
namespace Go.Proofs.YtnpdploihlgcgaaDoor
open Go Go.HL

theorem gridL_congr {α : Type} {w k : Nat} {f f' : Nat → Nat → α} (h : ∀ x y, x < w → y < k → f x y = f' x y) : gridL w k f = gridL w k f' := by
  apply List.ext_getElem?
  intro n
  by_cases hn : n < w * k
  · rw [gridL_at hn, gridL_at hn, h]
    · exact Nat.mod_lt _ (by
        rcases Nat.eq_zero_or_pos w with e | e
        · rw [e] at hn; simp at hn
        · exact e)
    · exact Nat.div_lt_of_lt_mul hn
  · rw [List.getElem?_eq_none (by rw [gridL_length]; omega), List.getElem?_eq_none (by rw [gridL_length]; omega)]
theorem GO.congr {a : Hp} {gp kb w k : Nat} {f f' : Nat → Nat → Int} (g : GO a gp kb w k f) (h : ∀ x y, x < w → y < k → f x y = f' x y) : GO a gp kb w k f' :=
  ⟨g.hd, by rw [← gridL_congr h]; exact g.row, g.w1, g.w2, g.k1, g.k2⟩

theorem openW_congr {w k : Nat} {f f' : Nat → Nat → Int} (h : ∀ x y, x < w → y < k → (f x y = -1 ↔ f' x y = -1)) (c : Cell) : openW w k f c = openW w k f' c := by
  unfold openW
  cases hc : inW w k c with
  | false => rfl
  | true =>
    obtain ⟨a1, a2, a3, a4⟩ := inW_iff.1 hc
    have := h c.1.toNat c.2.toNat (by omega) (by omega)
    simp only [Bool.true_and, fAt]
    congr 1
    rw [Bool.eq_iff_iff]
    simpa using this
theorem fitsW_congr {w k : Nat} {f f' : Nat → Nat → Int} (h : ∀ x y, x < w → y < k → (f x y = -1 ↔ f' x y = -1)) (p : Pose) : fitsW w k f p = fitsW w k f' p := by
  unfold fitsW; rw [openW_congr h, openW_congr h]

/-- Does a cell keep its kind? -/
def keepB (w k : Nat) (f : Nat → Nat → Int) (x y : Nat) : Bool := (f x y == -1) || (fitsW w k f ⟨x, y, false⟩ || fitsW w k f ⟨x, y, true⟩)
def f1 (w k : Nat) (f : Nat → Nat → Int) (x y : Nat) : Int := if keepB w k f x y = true then f x y else -2
def fN (w k : Nat) (f : Nat → Nat → Int) (n x y : Nat) : Int := if y * w + x < n then f1 w k f x y else f x y

theorem f1_open {w k : Nat} {f : Nat → Nat → Int} (x y : Nat) : f1 w k f x y = -1 ↔ f x y = -1 := by
  unfold f1
  by_cases h : keepB w k f x y = true
  · rw [if_pos h]
  · rw [if_neg h]
    constructor
    · intro e; omega
    · intro e
      exfalso
      apply h
      unfold keepB
      simp [e]
theorem fN_open {w k : Nat} {f : Nat → Nat → Int} {n : Nat} (x y : Nat) : fN w k f n x y = -1 ↔ f x y = -1 := by
  unfold fN
  split
  · exact f1_open x y
  · exact Iff.rfl

theorem cellN {w n x y : Nat} (hw : 0 < w) (hx : x < w) : y * w + x = n ↔ x = n % w ∧ y = n / w := by
  constructor
  · intro e
    subst e
    rw [Nat.mul_comm y w, Nat.mul_add_mod, Nat.mod_eq_of_lt hx, Nat.mul_add_div hw, Nat.div_eq_of_lt hx]
    simp
  · rintro ⟨rfl, rfl⟩
    rw [Nat.mul_comm]
    exact Nat.div_add_mod n w

set_option maxHeartbeats 2000000 in
theorem robots1 {G : Hp} {gp kb w k : Nat} {f : Nat → Nat → Int} {KK : Exit → Rg → Hp → Prop} (st : Steps G) (r : Rg) (h : Hp) (g0 : r 0 = .pointer (some ⟨gp, 0, none⟩)) (g20 : r 20 = .int .i64 ((w * k : Nat) : Int)) (g21 : r 21 = .int .i64 0)
    (go : GO h gp kb w k f) (d : Dis G h)
    (H1 : (∀ x y, x < w → y < k → keepB w k f x y = false → f x y ≤ 0) → ∀ (r' : Rg) h', r' 0 = r 0 → r' 1 = r 1 → GO h' gp kb w k (f1 w k f) → Dis G h' → KK (.exit 0) r' h')
    (H2 : (∃ x y, x < w ∧ y < k ∧ keepB w k f x y = false ∧ 0 < f x y) → ∀ (r' : Rg) h', r' 4 = .bool false → Dis G h' → KK .ret r' h') : loopP (S73_l12 G) r h KK := by
  refine loop_I (fun m r2 h3 => ∃ n : Nat, m = w * k - n ∧ n ≤ w * k ∧ r2 0 = r 0 ∧ r2 1 = r 1 ∧ r2 20 = r 20 ∧ r2 21 = .int .i64 n ∧ (∀ x y, x < w → y < k → y * w + x < n → keepB w k f x y = false → f x y ≤ 0) ∧ GO h3 gp kb w k (fN w k f n) ∧ Dis G h3) ?_
    (m := w * k) ⟨0, rfl, Nat.zero_le _, rfl, rfl, rfl, by rw [g21]; rfl, fun x y _ _ h => absurd h (by omega), go.congr fun x y _ _ => by simp [fN], d⟩
  rintro m r2 h3 ⟨n, rfl, hn, q0, q1, q20, q21, hok, go, d3⟩ X HX
  rw [g0] at q0
  rw [g20] at q20
  have hw0 : 0 < w := go.w1
  have hw2 := go.w2
  have hk2 := go.k2
  have hm2 : w * k ≤ 16 * 16 := Nat.mul_le_mul go.w2 go.k2
  unfold S73_l12
  simp -implicitDefEqProofs (maxSteps := 2000000) (disch := first | with_reducible exact Nat.ne_of_beq_eq_false rfl | exact oneCell_int | exact oneCell_bool | omega | rfl | (simp; done) | fail) only [q21, q20, thenK_exit, opH_sv, bin_lss]
  refine cond_dec (fun hlt => ?_) (fun hge => ?_)
  rotate_left
  · obtain rfl : n = w * k := by omega
    refine H1 (fun x y hx hy => hok x y hx hy ?_) _ _ (by simp -implicitDefEqProofs (maxSteps := 2000000) (disch := first | with_reducible exact Nat.ne_of_beq_eq_false rfl | exact oneCell_int | exact oneCell_bool | omega | rfl | (simp; done) | fail) only [upd_ne, q0, g0]) (by simp -implicitDefEqProofs (maxSteps := 2000000) (disch := first | with_reducible exact Nat.ne_of_beq_eq_false rfl | exact oneCell_int | exact oneCell_bool | omega | rfl | (simp; done) | fail) only [upd_ne, q1]) (go.congr fun x y hx hy => ?_) d3
    · have := (gridL_get (f := f) hx hy); have := (List.getElem?_eq_some_iff.1 this).1; rwa [gridL_length] at this
    · unfold fN
      rw [if_pos]
      have := (gridL_get (f := f) hx hy); have := (List.getElem?_eq_some_iff.1 this).1; rwa [gridL_length] at this
  have hlt' : n < w * k := by omega
  have hx : n % w < w := Nat.mod_lt _ hw0
  have hy : n / w < k := Nat.div_lt_of_lt_mul hlt'
  have hnn : n / w * w + n % w = n := by rw [Nat.mul_comm]; exact Nat.div_add_mod n w
  have cg : ∀ j, cellIn G h3 ⟨gp, j, none⟩ = _ := fun j => cell_of (look_own go.hd)
  have kn : cellIn G h3 ⟨kb, n, none⟩ = some (.int .i64 (f (n % w) (n / w))) := by
    rw [cell_of (look_own go.row)]
    refine rows_one_get icC rfl rfl ?_
    rw [gridL_at hlt']
    unfold fN
    rw [hnn, if_neg (by omega)]
  have tm : (n : Int).tmod (w : Int) = ((n % w : Nat) : Int) := rfl
  have td : (n : Int).tdiv (w : Int) = ((n / w : Nat) : Int) := rfl
  have hcell : ∀ x y, x < w → (y * w + x = n ↔ x = n % w ∧ y = n / w) := fun x y h => cellN hw0 h
  generalize n % w = cx at *
  generalize n / w = cy at *
  unfold S73_l12_k13
  simp -implicitDefEqProofs (maxSteps := 2000000) (disch := first | with_reducible exact Nat.ne_of_beq_eq_false rfl | exact oneCell_int | exact oneCell_bool | omega | rfl | (simp; done) | fail) only [upd_ne, q0, q21, opH_sv, opH_nil, fa86_2, add_mk, Nat.zero_add, ld57, opH_su, al30, pureW_sv, pureW_nil, fa86_0p, Nat.add_zero, ld3p, cg, List.getElem?_cons_zero, Option.some.injEq, exists_eq_left', bin_quop, td, wrap_in, bin_remp, tm, bd28_0_1p, bd30_0p, st30w]
  intro t ht gt
  try rw [st30w]
  have go4 : GO (h3.set t (.cells #[.int .i64 cx, .int .i64 cy, .bool false] 30 (0, 0))) gp kb w k (fN w k f n) := go.le (le_set ht)
  have d4 := d3.set (o := .cells #[.int .i64 cx, .int .i64 cy, .bool false] 30 (0, 0)) gt
  have bt : (h3.set t (.cells #[.int .i64 cx, .int .i64 cy, .bool false] 30 (0, 0))) t = some (.cells #[.int .i64 cx, .int .i64 cy, .bool false] 30 (0, 0)) := set_self
  have kn4 := cell_up (le_set (o := .cells #[.int .i64 cx, .int .i64 cy, .bool false] 30 (0, 0)) ht) d4 kn
  generalize h3.set t (.cells #[.int .i64 cx, .int .i64 cy, .bool false] 30 (0, 0)) = h4 at *
  have cg4 : ∀ j, cellIn G h4 ⟨gp, j, none⟩ = _ := fun j => cell_of (look_own go4.hd)
  have ct : ∀ j, cellIn G h4 ⟨t, j, none⟩ = _ := fun j => cell_of (look_own bt)
  try simp -implicitDefEqProofs (maxSteps := 2000000) (disch := first | with_reducible exact Nat.ne_of_beq_eq_false rfl | exact oneCell_int | exact oneCell_bool | omega | rfl | (simp; done) | fail) only [cg4, List.getElem?_cons_succ, List.getElem?_cons_zero, Option.some.injEq, exists_eq_left', ix57n hlt', ld3, kn4, eq_int]
  have next : ∀ (r3 : Rg) h5, r3 0 = r2 0 → r3 1 = r2 1 → r3 20 = r2 20 → r3 21 = r2 21 → (keepB w k f cx cy = false → f cx cy ≤ 0) → GO h5 gp kb w k (fN w k f (n + 1)) → Dis G h5 → S73_l12_k14 G (thenK X KK) r3 h5 := by
    intro r3 h5 w0 w1 w20 w21 hk go5 d5
    unfold S73_l12_k14
    have w21' := w21.trans q21
    simp -implicitDefEqProofs (maxSteps := 2000000) (disch := first | with_reducible exact Nat.ne_of_beq_eq_false rfl | exact oneCell_int | exact oneCell_bool | omega | rfl | (simp; done) | fail) only [w21', thenK_normal, opH_sv, bin_add, wrap_in]
    refine HX (w * k - (n + 1)) _ _ (by omega) ⟨n + 1, rfl, hlt', by simp -implicitDefEqProofs (maxSteps := 2000000) (disch := first | with_reducible exact Nat.ne_of_beq_eq_false rfl | exact oneCell_int | exact oneCell_bool | omega | rfl | (simp; done) | fail) only [upd_ne, w0, q0, g0], by simp -implicitDefEqProofs (maxSteps := 2000000) (disch := first | with_reducible exact Nat.ne_of_beq_eq_false rfl | exact oneCell_int | exact oneCell_bool | omega | rfl | (simp; done) | fail) only [upd_ne, w1, q1], by simp -implicitDefEqProofs (maxSteps := 2000000) (disch := first | with_reducible exact Nat.ne_of_beq_eq_false rfl | exact oneCell_int | exact oneCell_bool | omega | rfl | (simp; done) | fail) only [upd_ne, w20, q20, g20], by simp -implicitDefEqProofs (maxSteps := 2000000) (disch := first | with_reducible exact Nat.ne_of_beq_eq_false rfl | exact oneCell_int | exact oneCell_bool | omega | rfl | (simp; done) | fail) only [upd_eq] <;> rfl, fun x y hx' hy' hlt2 hkp => ?_, go5, d5⟩
    by_cases e : y * w + x = n
    · obtain ⟨rfl, rfl⟩ := (hcell x y hx').1 e
      exact hk hkp
    · exact hok x y hx' hy' (by omega) hkp
  have keeps : keepB w k f cx cy = true → GO h4 gp kb w k (fN w k f (n + 1)) := fun hkp => go4.congr fun x y hx' hy' => by
    unfold fN
    by_cases e : y * w + x = n
    · obtain ⟨rfl, rfl⟩ := (hcell x y hx').1 e
      rw [e, if_neg (by omega), if_pos (by omega)]
      unfold f1
      rw [if_pos hkp]
    · by_cases e2 : y * w + x < n
      · rw [if_pos e2, if_pos (by omega)]
      · rw [if_neg e2, if_neg (by omega)]
  have fcong : ∀ p, fitsW w k (fN w k f n) p = fitsW w k f p := fitsW_congr fun x y _ _ => fN_open x y
  have hfp : ∀ b, PB ⟨(cx : Int), (cy : Int), b⟩ := fun b => ⟨⟨by show -9223372036854775808 ≤ (cx : Int); omega, by show (cx : Int) ≤ 9223372036854775807; omega⟩, ⟨by show -9223372036854775808 ≤ (cy : Int); omega, by show (cy : Int) ≤ 9223372036854775807; omega⟩⟩
  have kcase : keepB w k f cx cy = ((f cx cy == -1) || (fitsW w k f ⟨cx, cy, false⟩ || fitsW w k f ⟨cx, cy, true⟩)) := rfl
  cases hb : (f cx cy == -1) with
  | true =>
    try simp -implicitDefEqProofs (maxSteps := 2000000) (disch := first | with_reducible exact Nat.ne_of_beq_eq_false rfl | exact oneCell_int | exact oneCell_bool | omega | rfl | (simp; done) | fail) only [pick_t, HL.cond_true, gd_tf]
    exact next _ _ (by simp -implicitDefEqProofs (maxSteps := 2000000) (disch := first | with_reducible exact Nat.ne_of_beq_eq_false rfl | exact oneCell_int | exact oneCell_bool | omega | rfl | (simp; done) | fail) only [upd_ne, q0]) (by simp -implicitDefEqProofs (maxSteps := 2000000) (disch := first | with_reducible exact Nat.ne_of_beq_eq_false rfl | exact oneCell_int | exact oneCell_bool | omega | rfl | (simp; done) | fail) only [upd_ne, q1]) (by simp -implicitDefEqProofs (maxSteps := 2000000) (disch := first | with_reducible exact Nat.ne_of_beq_eq_false rfl | exact oneCell_int | exact oneCell_bool | omega | rfl | (simp; done) | fail) only [upd_ne, q20]) (by simp -implicitDefEqProofs (maxSteps := 2000000) (disch := first | with_reducible exact Nat.ne_of_beq_eq_false rfl | exact oneCell_int | exact oneCell_bool | omega | rfl | (simp; done) | fail) only [upd_ne, q21]) (fun h => by rw [kcase, hb] at h; simp at h) (keeps (by rw [kcase, hb]; rfl)) d4
  | false =>
  try simp -implicitDefEqProofs (maxSteps := 2000000) (disch := first | with_reducible exact Nat.ne_of_beq_eq_false rfl | exact oneCell_int | exact oneCell_bool | omega | rfl | (simp; done) | fail) only [pick_f, gd_ff, cf23, opH_sv, ld30, add_mk, Nat.add_zero, Nat.zero_add, ct, List.getElem?_cons_zero, Option.some.injEq, List.getElem?_cons_succ, exists_eq_left']
  refine (fits_spec (p := ⟨(cx : Int), (cy : Int), false⟩) (go4.gs (G := G)) st (hfp _)).mono ?_
  rintro _ h4 ⟨rfl, rfl⟩
  rw [fcong]
  cases hf1 : fitsW w k f ⟨(cx : Int), (cy : Int), false⟩ with
  | true =>
    try simp -implicitDefEqProofs (maxSteps := 2000000) (disch := first | with_reducible exact Nat.ne_of_beq_eq_false rfl | exact oneCell_int | exact oneCell_bool | omega | rfl | (simp; done) | fail) only [pick_t, HL.cond_true, gd_tf]
    exact next _ _ (by simp -implicitDefEqProofs (maxSteps := 2000000) (disch := first | with_reducible exact Nat.ne_of_beq_eq_false rfl | exact oneCell_int | exact oneCell_bool | omega | rfl | (simp; done) | fail) only [upd_ne, q0]) (by simp -implicitDefEqProofs (maxSteps := 2000000) (disch := first | with_reducible exact Nat.ne_of_beq_eq_false rfl | exact oneCell_int | exact oneCell_bool | omega | rfl | (simp; done) | fail) only [upd_ne, q1]) (by simp -implicitDefEqProofs (maxSteps := 2000000) (disch := first | with_reducible exact Nat.ne_of_beq_eq_false rfl | exact oneCell_int | exact oneCell_bool | omega | rfl | (simp; done) | fail) only [upd_ne, q20]) (by simp -implicitDefEqProofs (maxSteps := 2000000) (disch := first | with_reducible exact Nat.ne_of_beq_eq_false rfl | exact oneCell_int | exact oneCell_bool | omega | rfl | (simp; done) | fail) only [upd_ne, q21]) (fun h => by rw [kcase, hb, hf1] at h; simp at h) (keeps (by rw [kcase, hb, hf1]; rfl)) d4
  | false =>
  try simp -implicitDefEqProofs (maxSteps := 2000000) (disch := first | with_reducible exact Nat.ne_of_beq_eq_false rfl | exact oneCell_int | exact oneCell_bool | omega | rfl | (simp; done) | fail) only [pick_f, gd_ff, cf23, opH_sv, fa30_0, add_mk, Nat.add_zero, ld28, Nat.zero_add, bd30_0_1, ct, List.getElem?_cons_zero, Option.some.injEq, List.getElem?_cons_succ, exists_eq_left']
  refine (fits_spec (p := ⟨(cx : Int), (cy : Int), true⟩) (go4.gs (G := G)) st (hfp _)).mono ?_
  rintro _ h4 ⟨rfl, rfl⟩
  rw [fcong]
  cases hf2 : fitsW w k f ⟨(cx : Int), (cy : Int), true⟩ with
  | true =>
    try simp -implicitDefEqProofs (maxSteps := 2000000) (disch := first | with_reducible exact Nat.ne_of_beq_eq_false rfl | exact oneCell_int | exact oneCell_bool | omega | rfl | (simp; done) | fail) only [HL.cond_true]
    exact next _ _ (by simp -implicitDefEqProofs (maxSteps := 2000000) (disch := first | with_reducible exact Nat.ne_of_beq_eq_false rfl | exact oneCell_int | exact oneCell_bool | omega | rfl | (simp; done) | fail) only [upd_ne, q0]) (by simp -implicitDefEqProofs (maxSteps := 2000000) (disch := first | with_reducible exact Nat.ne_of_beq_eq_false rfl | exact oneCell_int | exact oneCell_bool | omega | rfl | (simp; done) | fail) only [upd_ne, q1]) (by simp -implicitDefEqProofs (maxSteps := 2000000) (disch := first | with_reducible exact Nat.ne_of_beq_eq_false rfl | exact oneCell_int | exact oneCell_bool | omega | rfl | (simp; done) | fail) only [upd_ne, q20]) (by simp -implicitDefEqProofs (maxSteps := 2000000) (disch := first | with_reducible exact Nat.ne_of_beq_eq_false rfl | exact oneCell_int | exact oneCell_bool | omega | rfl | (simp; done) | fail) only [upd_ne, q21]) (fun h => by rw [kcase, hb, hf1, hf2] at h; simp at h) (keeps (by rw [kcase, hb, hf1, hf2]; rfl)) d4
  | false =>
  have hkf : keepB w k f cx cy = false := by rw [kcase, hb, hf1, hf2]; rfl
  try simp -implicitDefEqProofs (maxSteps := 2000000) (disch := first | with_reducible exact Nat.ne_of_beq_eq_false rfl | exact oneCell_int | exact oneCell_bool | omega | rfl | (simp; done) | fail) only [HL.cond_false]
  unfold S73_l12_k15
  try simp -implicitDefEqProofs (maxSteps := 2000000) (disch := first | with_reducible exact Nat.ne_of_beq_eq_false rfl | exact oneCell_int | exact oneCell_bool | omega | rfl | (simp; done) | fail) only [upd_ne, q0, upd_eq, thenK_ret, opH_sv, opH_nil, fa86_2, add_mk, Nat.zero_add, ld57, cg4, List.getElem?_cons_succ, List.getElem?_cons_zero, Option.some.injEq, exists_eq_left', ix57n hlt', ld3, kn4, bin_gtr]
  by_cases hpos : f cx cy > 0
  · try simp -implicitDefEqProofs (maxSteps := 2000000) (disch := first | with_reducible exact Nat.ne_of_beq_eq_false rfl | exact oneCell_int | exact oneCell_bool | omega | rfl | (simp; done) | fail) only [decide_eq_true hpos, HL.cond_true]
    exact H2 ⟨cx, cy, hx, hy, hkf, hpos⟩ _ _ (by simp -implicitDefEqProofs (maxSteps := 2000000) (disch := first | with_reducible exact Nat.ne_of_beq_eq_false rfl | exact oneCell_int | exact oneCell_bool | omega | rfl | (simp; done) | fail) only [upd_eq]) d4
  try simp -implicitDefEqProofs (maxSteps := 2000000) (disch := first | with_reducible exact Nat.ne_of_beq_eq_false rfl | exact oneCell_int | exact oneCell_bool | omega | rfl | (simp; done) | fail) only [decide_eq_false hpos, HL.cond_false]
  unfold S73_l12_k16
  try simp -implicitDefEqProofs (maxSteps := 2000000) (disch := first | with_reducible exact Nat.ne_of_beq_eq_false rfl | exact oneCell_int | exact oneCell_bool | omega | rfl | (simp; done) | fail) only [upd_ne, q0, upd_eq, opH_su, opH_sv, opH_nil, fa86_2, add_mk, Nat.zero_add, ld57, cg4, List.getElem?_cons_succ, List.getElem?_cons_zero, Option.some.injEq, exists_eq_left', ix57n hlt']
  have kb4 := go4.row
  rw [store1_eq sz3 rfl kb4 (by rw [icC.rows_length, gridL_length]; simp [icC]; exact hlt')]
  have go5 := go4.put (v := -2) hx hy
  rw [hnn] at go5
  refine next _ _ (by simp -implicitDefEqProofs (maxSteps := 2000000) (disch := first | with_reducible exact Nat.ne_of_beq_eq_false rfl | exact oneCell_int | exact oneCell_bool | omega | rfl | (simp; done) | fail) only [upd_ne, q0]) (by simp -implicitDefEqProofs (maxSteps := 2000000) (disch := first | with_reducible exact Nat.ne_of_beq_eq_false rfl | exact oneCell_int | exact oneCell_bool | omega | rfl | (simp; done) | fail) only [upd_ne, q1]) (by simp -implicitDefEqProofs (maxSteps := 2000000) (disch := first | with_reducible exact Nat.ne_of_beq_eq_false rfl | exact oneCell_int | exact oneCell_bool | omega | rfl | (simp; done) | fail) only [upd_ne, q20]) (by simp -implicitDefEqProofs (maxSteps := 2000000) (disch := first | with_reducible exact Nat.ne_of_beq_eq_false rfl | exact oneCell_int | exact oneCell_bool | omega | rfl | (simp; done) | fail) only [upd_ne, q21]) (fun _ => by omega) (go5.congr fun x y hx' hy' => ?_) (d4.set (d4 _ _ kb4))
  unfold fN
  by_cases e : y * w + x = n
  · obtain ⟨rfl, rfl⟩ := (hcell x y hx').1 e
    rw [if_pos ⟨rfl, rfl⟩, if_pos (by omega)]
    unfold f1
    rw [hkf]
    rfl
  · rw [if_neg (fun q => e ((hcell x y hx').2 q))]
    by_cases e2 : y * w + x < n
    · rw [if_pos e2, if_pos (by omega)]
    · rw [if_neg e2, if_neg (by omega)]

end Go.Proofs.YtnpdploihlgcgaaDoor
