/- The reference: what may be. -/
import Derived.Test.YtnpdploihlgcgaaDoorGD
set_option linter.unusedSimpArgs false
set_option linter.unusedVariables false
set_option maxRecDepth 100000
namespace Go.Proofs.YtnpdploihlgcgaaDoor
open Go Go.HL

/-- What may be. -/
structure MayOk (C : Conf) : Prop where
  nums : numbersB C = true
  po8 : C.po.length ≤ 8
  ro8 : C.ro.length ≤ 8
  bl256 : C.bl.length ≤ 256
  blk : ∀ c ∈ C.bl, inB C c = true ∧ C.bl.count c ≤ 1 ∧ C.po.count c = 0
  prt : ∀ c ∈ C.po, inB C c = true ∧ C.po.count c ≤ 1 ∧ homeB C c = false ∧ besideB C c = true
  fit : ∀ p ∈ C.ro, fitsB C p = true
  once : ∀ c ∈ C.ro.flatMap cellsP, (C.ro.flatMap cellsP).count c ≤ 1
  bins : BinsOk C

theorem may_bl {G h : Hp} {C : Conf} {ab : Option Addr} {cb : Nat} {ap : Option Addr} {cp : Nat} {ar : Option Addr} {cr : Nat} {az : Option Addr} {cs : Nat} (ca : CA G h C ab cb ap cp ar cr az cs) {x : Nat}
    (cx : ∀ k, cellIn G h ⟨x, k, none⟩ = [Value.int .i64 C.w, .int .i64 C.h, .int .i64 C.ht, .slice ab C.bl.length cb, .slice ap C.po.length cp, .slice ar C.ro.length cr, .slice az C.st.length cs, .int .i64 C.un, .int .i64 C.ac, .int .i64 C.sp, .int .i64 C.tu, .int .i64 C.ho, .int .i64 C.qu, .int .i64 C.re, .int .i64 C.bu, .bool C.back][k]?) {KK : Exit → Rg → Hp → Prop} (hL : C.bl.length ≤ 256) (hP : C.po.length ≤ 8) (r : Rg) (g1 : r 1 = .pointer (some ⟨x, 0, none⟩)) (g3 : r 3 = .int .i64 0)
    (H1 : (∀ c ∈ C.bl, inB C c = true ∧ C.bl.count c ≤ 1 ∧ C.po.count c = 0) → ∀ r' : Rg, r' 1 = r 1 → KK (.exit 0) r' h)
    (H2 : (∃ c ∈ C.bl, ¬ (inB C c = true ∧ C.bl.count c ≤ 1 ∧ C.po.count c = 0)) → ∀ r' : Rg, r' 2 = .bool false → KK .ret r' h) : loopP (S16_l16 G) r h KK := by
  refine loop_I (fun m r2 h3 => ∃ i : Nat, m = C.bl.length - i ∧ i ≤ C.bl.length ∧ r2 1 = r 1 ∧ r2 3 = .int .i64 i ∧ h3 = h ∧ (∀ c ∈ C.bl.take i, inB C c = true ∧ C.bl.count c ≤ 1 ∧ C.po.count c = 0)) ?_
    (m := C.bl.length) ⟨0, rfl, Nat.zero_le _, rfl, by rw [g3]; rfl, rfl, by simp⟩
  rintro m r2 h3 ⟨i, rfl, hi, k1, k3, rfl, hw⟩ X HX
  rw [g1] at k1
  unfold S16_l16
  simp -implicitDefEqProofs (maxSteps := 2000000) (disch := first | with_reducible exact Nat.ne_of_beq_eq_false rfl | exact oneCell_int | exact oneCell_bool | omega | rfl | (simp; done) | fail) only [k1, k3, thenK_exit, opH_sv, fa26_3, add_mk, Nat.zero_add, ld22, cx, List.getElem?_cons_succ, List.getElem?_cons_zero, Option.some.injEq, exists_eq_left', ln22, bin_lss]
  refine cond_dec (fun hlt => ?_) (fun hge => ?_)
  rotate_left
  · obtain rfl : i = C.bl.length := by omega
    rw [List.take_of_length_le (Nat.le_refl _)] at hw
    exact H1 hw _ (by simp -implicitDefEqProofs (maxSteps := 2000000) (disch := first | with_reducible exact Nat.ne_of_beq_eq_false rfl | exact oneCell_int | exact oneCell_bool | omega | rfl | (simp; done) | fail) only [upd_ne, k1, g1])
  have hlt' : i < C.bl.length := by omega
  obtain ⟨y, hy⟩ : ∃ x, C.bl[i]? = some x := ⟨_, List.getElem?_eq_getElem hlt'⟩
  have hym : y ∈ C.bl := List.mem_of_getElem? hy
  obtain ⟨b, o, rfl, z0, z1⟩ := Sees.cell ca.bl hy
  unfold S16_l16_k17
  simp -implicitDefEqProofs (maxSteps := 2000000) (disch := first | with_reducible exact Nat.ne_of_beq_eq_false rfl | exact oneCell_int | exact oneCell_bool | omega | rfl | (simp; done) | fail) only [upd_ne, k1, k3, thenK_ret, pureW_sv, cf52, fa26_3p, add_mk, Nat.zero_add, ld22p, cx, List.getElem?_cons_succ, List.getElem?_cons_zero, Option.some.injEq, exists_eq_left', ix22p (Int.natCast_nonneg i) hlt, Int.toNat_natCast, ld28p, Nat.add_zero, z0, z1, ld26p]
  refine (in_spec (c := y) ca.cv).mono ?_
  rintro _ _ ⟨rfl, rfl⟩
  cases h1 : inB C y with
  | false =>
    try simp -implicitDefEqProofs (maxSteps := 2000000) (disch := first | with_reducible exact Nat.ne_of_beq_eq_false rfl | exact oneCell_int | exact oneCell_bool | omega | rfl | (simp; done) | fail) only [un_notp, Bool.not_false, pick_tp, HL.cond_true, gd_tf]
    exact H2 ⟨y, hym, fun q => by rw [h1] at q; exact absurd q.1 (by decide)⟩ _ (by simp -implicitDefEqProofs (maxSteps := 2000000) (disch := first | with_reducible exact Nat.ne_of_beq_eq_false rfl | exact oneCell_int | exact oneCell_bool | omega | rfl | (simp; done) | fail) only [upd_eq])
  | true =>
  try simp -implicitDefEqProofs (maxSteps := 2000000) (disch := first | with_reducible exact Nat.ne_of_beq_eq_false rfl | exact oneCell_int | exact oneCell_bool | omega | rfl | (simp; done) | fail) only [un_notp, Bool.not_true, pick_fp, gd_ff, pureW_sv, cf53, fa26_3p, add_mk, Nat.zero_add, ld22p, cx, List.getElem?_cons_succ, List.getElem?_cons_zero, Option.some.injEq, exists_eq_left', ix22p (Int.natCast_nonneg i) hlt, Int.toNat_natCast, ld28p, Nat.add_zero, z0, z1]
  refine (among_spec (c := y) ca.bl (by omega)).mono ?_
  rintro _ _ ⟨rfl, rfl⟩
  try simp -implicitDefEqProofs (maxSteps := 2000000) (disch := first | with_reducible exact Nat.ne_of_beq_eq_false rfl | exact oneCell_int | exact oneCell_bool | omega | rfl | (simp; done) | fail) only [bin_gtrp]
  by_cases h2 : C.bl.count y ≤ 1
  rotate_left
  · have e : decide ((C.bl.count y : Int) > 1) = true := by rw [decide_eq_true_iff]; omega
    simp -implicitDefEqProofs (maxSteps := 2000000) (disch := first | with_reducible exact Nat.ne_of_beq_eq_false rfl | exact oneCell_int | exact oneCell_bool | omega | rfl | (simp; done) | fail) only [e, pick_tp, HL.cond_true, gd_tf]
    exact H2 ⟨y, hym, fun q => h2 q.2.1⟩ _ (by simp -implicitDefEqProofs (maxSteps := 2000000) (disch := first | with_reducible exact Nat.ne_of_beq_eq_false rfl | exact oneCell_int | exact oneCell_bool | omega | rfl | (simp; done) | fail) only [upd_eq])
  have e : decide ((C.bl.count y : Int) > 1) = false := by rw [decide_eq_false_iff_not]; omega
  try simp -implicitDefEqProofs (maxSteps := 2000000) (disch := first | with_reducible exact Nat.ne_of_beq_eq_false rfl | exact oneCell_int | exact oneCell_bool | omega | rfl | (simp; done) | fail) only [e, pick_fp, gd_ff, pureW_sv, cf53, fa26_3p, add_mk, Nat.zero_add, ld22p, cx, List.getElem?_cons_succ, List.getElem?_cons_zero, Option.some.injEq, exists_eq_left', ix22p (Int.natCast_nonneg i) hlt, Int.toNat_natCast, ld28p, Nat.add_zero, z0, z1, fa26_4p]
  refine (among_spec (c := y) ca.po (by omega)).mono ?_
  rintro _ _ ⟨rfl, rfl⟩
  try simp -implicitDefEqProofs (maxSteps := 2000000) (disch := first | with_reducible exact Nat.ne_of_beq_eq_false rfl | exact oneCell_int | exact oneCell_bool | omega | rfl | (simp; done) | fail) only [bin_gtrp]
  by_cases h3 : C.po.count y = 0
  rotate_left
  · have e : decide ((C.po.count y : Int) > 0) = true := by rw [decide_eq_true_iff]; omega
    simp -implicitDefEqProofs (maxSteps := 2000000) (disch := first | with_reducible exact Nat.ne_of_beq_eq_false rfl | exact oneCell_int | exact oneCell_bool | omega | rfl | (simp; done) | fail) only [e, HL.cond_true]
    exact H2 ⟨y, hym, fun q => h3 q.2.2⟩ _ (by simp -implicitDefEqProofs (maxSteps := 2000000) (disch := first | with_reducible exact Nat.ne_of_beq_eq_false rfl | exact oneCell_int | exact oneCell_bool | omega | rfl | (simp; done) | fail) only [upd_eq])
  have e : decide ((C.po.count y : Int) > 0) = false := by rw [decide_eq_false_iff_not]; omega
  simp -implicitDefEqProofs (maxSteps := 2000000) (disch := first | with_reducible exact Nat.ne_of_beq_eq_false rfl | exact oneCell_int | exact oneCell_bool | omega | rfl | (simp; done) | fail) only [e, HL.cond_false]
  unfold S16_l16_k18
  simp -implicitDefEqProofs (maxSteps := 2000000) (disch := first | with_reducible exact Nat.ne_of_beq_eq_false rfl | exact oneCell_int | exact oneCell_bool | omega | rfl | (simp; done) | fail) only [upd_ne, k3, thenK_normal, opH_sv, bin_add, wrap_in]
  refine HX (C.bl.length - (i + 1)) _ _ (by omega) ⟨i + 1, rfl, hlt', by simp -implicitDefEqProofs (maxSteps := 2000000) (disch := first | with_reducible exact Nat.ne_of_beq_eq_false rfl | exact oneCell_int | exact oneCell_bool | omega | rfl | (simp; done) | fail) only [upd_ne, k1, g1], by simp -implicitDefEqProofs (maxSteps := 2000000) (disch := first | with_reducible exact Nat.ne_of_beq_eq_false rfl | exact oneCell_int | exact oneCell_bool | omega | rfl | (simp; done) | fail) only [upd_eq] <;> rfl, rfl, ?_⟩
  rw [take_get hy]
  intro c hc
  rcases List.mem_append.1 hc with q | q
  · exact hw c q
  · simp at q; rw [q]; exact ⟨h1, h2, h3⟩

theorem may_po {G h : Hp} {C : Conf} {ab : Option Addr} {cb : Nat} {ap : Option Addr} {cp : Nat} {ar : Option Addr} {cr : Nat} {az : Option Addr} {cs : Nat} (ca : CA G h C ab cb ap cp ar cr az cs) {x : Nat}
    (cx : ∀ k, cellIn G h ⟨x, k, none⟩ = [Value.int .i64 C.w, .int .i64 C.h, .int .i64 C.ht, .slice ab C.bl.length cb, .slice ap C.po.length cp, .slice ar C.ro.length cr, .slice az C.st.length cs, .int .i64 C.un, .int .i64 C.ac, .int .i64 C.sp, .int .i64 C.tu, .int .i64 C.ho, .int .i64 C.qu, .int .i64 C.re, .int .i64 C.bu, .bool C.back][k]?) {KK : Exit → Rg → Hp → Prop} (hL : C.bl.length ≤ 256) (hP : C.po.length ≤ 8) (hR : C.ro.length ≤ 8) (r : Rg) (g1 : r 1 = .pointer (some ⟨x, 0, none⟩)) (g4 : r 4 = .int .i64 0)
    (H1 : (∀ c ∈ C.po, inB C c = true ∧ C.po.count c ≤ 1 ∧ homeB C c = false ∧ besideB C c = true) → ∀ r' : Rg, r' 1 = r 1 → KK (.exit 2) r' h)
    (H2 : (∃ c ∈ C.po, ¬ (inB C c = true ∧ C.po.count c ≤ 1 ∧ homeB C c = false ∧ besideB C c = true)) → ∀ r' : Rg, r' 2 = .bool false → KK .ret r' h) : loopP (S16_l13 G) r h KK := by
  refine loop_I (fun m r2 h3 => ∃ i : Nat, m = C.po.length - i ∧ i ≤ C.po.length ∧ r2 1 = r 1 ∧ r2 4 = .int .i64 i ∧ h3 = h ∧ (∀ c ∈ C.po.take i, inB C c = true ∧ C.po.count c ≤ 1 ∧ homeB C c = false ∧ besideB C c = true)) ?_
    (m := C.po.length) ⟨0, rfl, Nat.zero_le _, rfl, by rw [g4]; rfl, rfl, by simp⟩
  rintro m r2 h3 ⟨i, rfl, hi, k1, k4, rfl, hw⟩ X HX
  rw [g1] at k1
  unfold S16_l13
  simp -implicitDefEqProofs (maxSteps := 2000000) (disch := first | with_reducible exact Nat.ne_of_beq_eq_false rfl | exact oneCell_int | exact oneCell_bool | omega | rfl | (simp; done) | fail) only [k1, k4, thenK_exit, opH_sv, fa26_4, add_mk, Nat.zero_add, ld22, cx, List.getElem?_cons_succ, List.getElem?_cons_zero, Option.some.injEq, exists_eq_left', ln22, bin_lss]
  refine cond_dec (fun hlt => ?_) (fun hge => ?_)
  rotate_left
  · obtain rfl : i = C.po.length := by omega
    rw [List.take_of_length_le (Nat.le_refl _)] at hw
    exact H1 hw _ (by simp -implicitDefEqProofs (maxSteps := 2000000) (disch := first | with_reducible exact Nat.ne_of_beq_eq_false rfl | exact oneCell_int | exact oneCell_bool | omega | rfl | (simp; done) | fail) only [upd_ne, k1, g1])
  have hlt' : i < C.po.length := by omega
  obtain ⟨y, hy⟩ : ∃ x, C.po[i]? = some x := ⟨_, List.getElem?_eq_getElem hlt'⟩
  have hym : y ∈ C.po := List.mem_of_getElem? hy
  obtain ⟨b, o, rfl, z0, z1⟩ := Sees.cell ca.po hy
  unfold S16_l13_k14
  simp -implicitDefEqProofs (maxSteps := 2000000) (disch := first | with_reducible exact Nat.ne_of_beq_eq_false rfl | exact oneCell_int | exact oneCell_bool | omega | rfl | (simp; done) | fail) only [upd_ne, k1, k4, thenK_ret, pureW_sv, cf52, fa26_4p, add_mk, Nat.zero_add, ld22p, cx, List.getElem?_cons_succ, List.getElem?_cons_zero, Option.some.injEq, exists_eq_left', ix22p (Int.natCast_nonneg i) hlt, Int.toNat_natCast, ld28p, Nat.add_zero, z0, z1, ld26p]
  refine (in_spec (c := y) ca.cv).mono ?_
  rintro _ _ ⟨rfl, rfl⟩
  cases h1 : inB C y with
  | false =>
    try simp -implicitDefEqProofs (maxSteps := 2000000) (disch := first | with_reducible exact Nat.ne_of_beq_eq_false rfl | exact oneCell_int | exact oneCell_bool | omega | rfl | (simp; done) | fail) only [un_notp, Bool.not_false, pick_tp, HL.cond_true, gd_tf]
    exact H2 ⟨y, hym, fun q => by rw [h1] at q; exact absurd q.1 (by decide)⟩ _ (by simp -implicitDefEqProofs (maxSteps := 2000000) (disch := first | with_reducible exact Nat.ne_of_beq_eq_false rfl | exact oneCell_int | exact oneCell_bool | omega | rfl | (simp; done) | fail) only [upd_eq])
  | true =>
  try simp -implicitDefEqProofs (maxSteps := 2000000) (disch := first | with_reducible exact Nat.ne_of_beq_eq_false rfl | exact oneCell_int | exact oneCell_bool | omega | rfl | (simp; done) | fail) only [un_notp, Bool.not_true, pick_fp, gd_ff, pureW_sv, cf53, fa26_4p, add_mk, Nat.zero_add, ld22p, cx, List.getElem?_cons_succ, List.getElem?_cons_zero, Option.some.injEq, exists_eq_left', ix22p (Int.natCast_nonneg i) hlt, Int.toNat_natCast, ld28p, Nat.add_zero, z0, z1]
  refine (among_spec (c := y) ca.po (by omega)).mono ?_
  rintro _ _ ⟨rfl, rfl⟩
  try simp -implicitDefEqProofs (maxSteps := 2000000) (disch := first | with_reducible exact Nat.ne_of_beq_eq_false rfl | exact oneCell_int | exact oneCell_bool | omega | rfl | (simp; done) | fail) only [bin_gtrp]
  by_cases h2 : C.po.count y ≤ 1
  rotate_left
  · have e : decide ((C.po.count y : Int) > 1) = true := by rw [decide_eq_true_iff]; omega
    simp -implicitDefEqProofs (maxSteps := 2000000) (disch := first | with_reducible exact Nat.ne_of_beq_eq_false rfl | exact oneCell_int | exact oneCell_bool | omega | rfl | (simp; done) | fail) only [e, pick_tp, HL.cond_true, gd_tf]
    exact H2 ⟨y, hym, fun q => h2 q.2.1⟩ _ (by simp -implicitDefEqProofs (maxSteps := 2000000) (disch := first | with_reducible exact Nat.ne_of_beq_eq_false rfl | exact oneCell_int | exact oneCell_bool | omega | rfl | (simp; done) | fail) only [upd_eq])
  have e : decide ((C.po.count y : Int) > 1) = false := by rw [decide_eq_false_iff_not]; omega
  try simp -implicitDefEqProofs (maxSteps := 2000000) (disch := first | with_reducible exact Nat.ne_of_beq_eq_false rfl | exact oneCell_int | exact oneCell_bool | omega | rfl | (simp; done) | fail) only [e, pick_fp, gd_ff, cf54, pureW_sv, fa26_4p, add_mk, Nat.zero_add, ld22p, cx, List.getElem?_cons_succ, List.getElem?_cons_zero, Option.some.injEq, exists_eq_left', ix22p (Int.natCast_nonneg i) hlt, Int.toNat_natCast, ld28p, Nat.add_zero, z0, z1, ld26p]
  refine (rhome_spec (c := y) ca.cv (by omega)).mono ?_
  rintro _ _ ⟨rfl, rfl⟩
  cases h3 : homeB C y with
  | true =>
    try simp -implicitDefEqProofs (maxSteps := 2000000) (disch := first | with_reducible exact Nat.ne_of_beq_eq_false rfl | exact oneCell_int | exact oneCell_bool | omega | rfl | (simp; done) | fail) only [pick_tp, HL.cond_true, gd_tf]
    exact H2 ⟨y, hym, fun q => by rw [h3] at q; exact absurd q.2.2.1 (by decide)⟩ _ (by simp -implicitDefEqProofs (maxSteps := 2000000) (disch := first | with_reducible exact Nat.ne_of_beq_eq_false rfl | exact oneCell_int | exact oneCell_bool | omega | rfl | (simp; done) | fail) only [upd_eq])
  | false =>
  try simp -implicitDefEqProofs (maxSteps := 2000000) (disch := first | with_reducible exact Nat.ne_of_beq_eq_false rfl | exact oneCell_int | exact oneCell_bool | omega | rfl | (simp; done) | fail) only [pick_fp, gd_ff, pureW_sv, cf55, fa26_4p, add_mk, Nat.zero_add, ld22p, cx, List.getElem?_cons_succ, List.getElem?_cons_zero, Option.some.injEq, exists_eq_left', ix22p (Int.natCast_nonneg i) hlt, Int.toNat_natCast, ld28p, Nat.add_zero, z0, z1, ld26p]
  refine (rbeside_spec (c := y) ca.cv (by omega)).mono ?_
  rintro _ _ ⟨rfl, rfl⟩
  cases h4 : besideB C y with
  | false =>
    try simp -implicitDefEqProofs (maxSteps := 2000000) (disch := first | with_reducible exact Nat.ne_of_beq_eq_false rfl | exact oneCell_int | exact oneCell_bool | omega | rfl | (simp; done) | fail) only [un_notp, Bool.not_false, HL.cond_true]
    exact H2 ⟨y, hym, fun q => by rw [h4] at q; exact absurd q.2.2.2 (by decide)⟩ _ (by simp -implicitDefEqProofs (maxSteps := 2000000) (disch := first | with_reducible exact Nat.ne_of_beq_eq_false rfl | exact oneCell_int | exact oneCell_bool | omega | rfl | (simp; done) | fail) only [upd_eq])
  | true =>
  try simp -implicitDefEqProofs (maxSteps := 2000000) (disch := first | with_reducible exact Nat.ne_of_beq_eq_false rfl | exact oneCell_int | exact oneCell_bool | omega | rfl | (simp; done) | fail) only [un_notp, Bool.not_true, HL.cond_false]
  unfold S16_l13_k15
  simp -implicitDefEqProofs (maxSteps := 2000000) (disch := first | with_reducible exact Nat.ne_of_beq_eq_false rfl | exact oneCell_int | exact oneCell_bool | omega | rfl | (simp; done) | fail) only [upd_ne, k4, thenK_normal, opH_sv, bin_add, wrap_in]
  refine HX (C.po.length - (i + 1)) _ _ (by omega) ⟨i + 1, rfl, hlt', by simp -implicitDefEqProofs (maxSteps := 2000000) (disch := first | with_reducible exact Nat.ne_of_beq_eq_false rfl | exact oneCell_int | exact oneCell_bool | omega | rfl | (simp; done) | fail) only [upd_ne, k1, g1], by simp -implicitDefEqProofs (maxSteps := 2000000) (disch := first | with_reducible exact Nat.ne_of_beq_eq_false rfl | exact oneCell_int | exact oneCell_bool | omega | rfl | (simp; done) | fail) only [upd_eq] <;> rfl, rfl, ?_⟩
  rw [take_get hy]
  intro c hc
  rcases List.mem_append.1 hc with q | q
  · exact hw c q
  · simp at q; rw [q]; exact ⟨h1, h2, h3, h4⟩

theorem eocell : ElemOk Tryd.prog 28 cellC.n 16 := ⟨by kernel_rfl, by kernel_rfl, by kernel_rfl⟩

theorem flat_cells (L : List Pose) : (L.flatMap cellsP).length = 2 * L.length := by
  induction L with
  | nil => rfl
  | cons p L ih => rw [List.flatMap_cons, List.length_append, ih, List.length_cons]; simp [cellsP]; omega

theorem may_ro {G h0 : Hp} {C : Conf} {ab : Option Addr} {cb : Nat} {ap : Option Addr} {cp : Nat} {ar : Option Addr} {cr : Nat} {az : Option Addr} {cs : Nat} (ca : CA G h0 C ab cb ap cp ar cr az cs) {x : Nat} (d0 : Dis G h0)
    (bx : h0 x = some (.cells #[.int .i64 C.w, .int .i64 C.h, .int .i64 C.ht, .slice ab C.bl.length cb, .slice ap C.po.length cp, .slice ar C.ro.length cr, .slice az C.st.length cs, .int .i64 C.un, .int .i64 C.ac, .int .i64 C.sp, .int .i64 C.tu, .int .i64 C.ho, .int .i64 C.qu, .int .i64 C.re, .int .i64 C.bu, .bool C.back] 26 (0, 0)))
    {KK : Exit → Rg → Hp → Prop} (hL : C.bl.length ≤ 256) (hR : C.ro.length ≤ 8) (r : Rg) (g1 : r 1 = .pointer (some ⟨x, 0, none⟩)) (g5 : r 5 = .slice none 0 0) (g6 : r 6 = .int .i64 0)
    (H1 : (∀ p ∈ C.ro, fitsB C p = true) → ∀ (r' : Rg) h' lp, r' 1 = r 1 → h0.le h' → Dis G h' → lp.le h' → Slc cellC 28 lp (r' 5) (C.ro.flatMap cellsP) → KK (.exit 4) r' h')
    (H2 : (∃ p ∈ C.ro, fitsB C p = false) → ∀ (r' : Rg) h', h0.le h' → r' 2 = .bool false → KK .ret r' h') : loopP (S16_l9 G) r h0 KK := by
  refine loop_I (fun m r2 h3 => ∃ (i : Nat) (lp : Hp), m = C.ro.length - i ∧ i ≤ C.ro.length ∧ r2 1 = r 1 ∧ r2 6 = .int .i64 i ∧ (∀ p ∈ C.ro.take i, fitsB C p = true) ∧ Slc cellC 28 lp (r2 5) ((C.ro.take i).flatMap cellsP) ∧ Sep [lp, h0] h3 ∧ Dis G h3) ?_
    (m := C.ro.length) ⟨0, noHp, rfl, Nat.zero_le _, rfl, by rw [g6]; rfl, by simp, by rw [g5]; exact Slc.nil, Sep.one.none, d0⟩
  rintro m r2 h3 ⟨i, lp, rfl, hi, k1, k6, hw, o3, s3, d3⟩ X HX
  rw [g1] at k1
  have l3 : h0.le h3 := s3.in 1 rfl
  have cx : ∀ k, cellIn G h3 ⟨x, k, none⟩ = _ := fun k => cell_of (look_own (l3 _ _ bx))
  have ca3 := ca.up l3 d3
  unfold S16_l9
  simp -implicitDefEqProofs (maxSteps := 2000000) (disch := first | with_reducible exact Nat.ne_of_beq_eq_false rfl | exact oneCell_int | exact oneCell_bool | omega | rfl | (simp; done) | fail) only [k1, k6, thenK_exit, opH_sv, fa26_5, add_mk, Nat.zero_add, ld23, cx, List.getElem?_cons_succ, List.getElem?_cons_zero, Option.some.injEq, exists_eq_left', ln23, bin_lss]
  refine cond_dec (fun hlt => ?_) (fun hge => ?_)
  rotate_left
  · obtain rfl : i = C.ro.length := by omega
    rw [List.take_of_length_le (Nat.le_refl _)] at hw o3
    exact H1 hw _ _ lp (by simp -implicitDefEqProofs (maxSteps := 2000000) (disch := first | with_reducible exact Nat.ne_of_beq_eq_false rfl | exact oneCell_int | exact oneCell_bool | omega | rfl | (simp; done) | fail) only [upd_ne, k1, g1]) l3 d3 s3.hd (by simp -implicitDefEqProofs (maxSteps := 2000000) (disch := first | with_reducible exact Nat.ne_of_beq_eq_false rfl | exact oneCell_int | exact oneCell_bool | omega | rfl | (simp; done) | fail) only [upd_ne]; exact o3)
  have hlt' : i < C.ro.length := by omega
  obtain ⟨y, hy⟩ : ∃ x, C.ro[i]? = some x := ⟨_, List.getElem?_eq_getElem hlt'⟩
  have hym : y ∈ C.ro := List.mem_of_getElem? hy
  obtain ⟨b, o, rfl, z0, z1, z2⟩ := Sees.pose ca3.ro hy
  unfold S16_l9_k10
  simp -implicitDefEqProofs (maxSteps := 2000000) (disch := first | with_reducible exact Nat.ne_of_beq_eq_false rfl | exact oneCell_int | exact oneCell_bool | omega | rfl | (simp; done) | fail) only [upd_ne, k1, k6, thenK_ret, pureW_sv, cf24, fa26_5p, add_mk, Nat.zero_add, ld23p, cx, List.getElem?_cons_succ, List.getElem?_cons_zero, Option.some.injEq, exists_eq_left', ix23p (Int.natCast_nonneg i) hlt, Int.toNat_natCast, ld30p, Nat.add_zero, z0, z1, z2, ld26p]
  refine (rfits_spec (p := y) ca3.cv (by omega)).mono ?_
  rintro _ h3 ⟨rfl, rfl⟩
  cases h1 : fitsB C y with
  | false =>
    try simp -implicitDefEqProofs (maxSteps := 2000000) (disch := first | with_reducible exact Nat.ne_of_beq_eq_false rfl | exact oneCell_int | exact oneCell_bool | omega | rfl | (simp; done) | fail) only [un_notp, Bool.not_false, HL.cond_true]
    exact H2 ⟨y, hym, h1⟩ _ _ l3 (by simp -implicitDefEqProofs (maxSteps := 2000000) (disch := first | with_reducible exact Nat.ne_of_beq_eq_false rfl | exact oneCell_int | exact oneCell_bool | omega | rfl | (simp; done) | fail) only [upd_eq])
  | true =>
  try simp -implicitDefEqProofs (maxSteps := 2000000) (disch := first | with_reducible exact Nat.ne_of_beq_eq_false rfl | exact oneCell_int | exact oneCell_bool | omega | rfl | (simp; done) | fail) only [un_notp, Bool.not_true, HL.cond_false]
  unfold S16_l9_k12
  simp -implicitDefEqProofs (maxSteps := 2000000) (disch := first | with_reducible exact Nat.ne_of_beq_eq_false rfl | exact oneCell_int | exact oneCell_bool | omega | rfl | (simp; done) | fail) only [upd_ne, k1, k6, opH_sv, cf22, fa26_5, add_mk, Nat.zero_add, ld23, cx, List.getElem?_cons_succ, List.getElem?_cons_zero, Option.some.injEq, exists_eq_left', ix23 (Int.natCast_nonneg i) hlt, Int.toNat_natCast, ld30, Nat.add_zero, z0, z1, z2]
  refine (rcells_spec (p := y)).mono ?_
  rintro _ _ ⟨b', rfl, hb, gb, rfl⟩
  generalize e4 : Hp.set h3 b' _ = h4
  obtain ⟨l4, d4, b4⟩ := boxed e4 hb d3 gb
  have hlen := flat_cells (C.ro.take i)
  rw [List.length_take] at hlen
  have s4 : Sep [lp, h0] h4 := s3.le l4
  try simp -implicitDefEqProofs (maxSteps := 2000000) (disch := first | with_reducible exact Nat.ne_of_beq_eq_false rfl | exact oneCell_int | exact oneCell_bool | omega | rfl | (simp; done) | fail) only [opH_sv, opH_su, pureW_sv, opH_nil, pureW_nil, pick_t, pick_f, pick_tp, pick_fp, gd_tt, gd_ft, gd_tf, gd_ff, box_new, regs0, regs1, regs2, regs3, regs4, regs5, regs6, cells_agg, cells_int, cells_bool, cells_ptr, cells_slice, cells_string, cells_func, cells_nilFunc, cells_map, retK_ret, retK_normal, resL_tmp, resL_cell, resL_nil0, resL_nil1, resL_nil2, resL_nil3, resC_ptr, ex0, ex1, ex2, ex0p, ex1p, ex2p, HL.cond_true, HL.cond_false, thenK_normal, thenK_ret, thenK_exit, blockK_normal, blockK_ret, blockK_exit, scopeK_normal, scopeK_ret, scopeK_exit, wpH_pure, bin_add, bin_sub, bin_mul, bin_lss, bin_leq, bin_gtr, bin_geq, bin_quo, bin_rem, bin_quop, bin_remp, wrap_in, bin_addp, bin_subp, bin_mulp, bin_lssp, bin_leqp, bin_gtrp, bin_geqp, un_not, un_notp, un_neg, eq_int, ne_int, eq_intp, ne_intp, callV_fn, add_mk, upd_eq, upd_ne, cell_set_self, Nat.zero_add, Nat.add_zero, Option.some.injEq, exists_eq_left', List.getElem?_cons_succ, List.getElem?_cons_zero, true_and, and_true, bne_self_eq_false, beq_self_eq_true, Bool.not_true, Bool.not_false, Bool.and_true, Bool.and_self, Bool.and_false, Bool.true_and, List.length_cons, List.length_nil, ne_eq, not_false_eq_true, Nat.reduceAdd, Nat.reduceMul, if_true, if_false, oneCell_int, oneCell_bool, oneCell_ptr, oneCell_slice, oneCell_string, oneCell_func, oneCell_map, Int.toNat_natCast, List.set_cons_zero, List.set_cons_succ, Nat.lt_irrefl, Nat.zero_lt_succ, Nat.succ_lt_succ_iff, fa26_0, fa26_0p, fa26_1, fa26_1p, fa26_10, fa26_10p, fa26_11, fa26_11p, fa26_12, fa26_12p, fa26_13, fa26_13p, fa26_14, fa26_14p, fa26_2, fa26_2p, fa26_3, fa26_3p, fa26_4, fa26_4p, fa26_5, fa26_5p, fa26_6, fa26_6p, fa26_7, fa26_7p, fa26_8, fa26_8p, fa26_9, fa26_9p, fa28_0, fa28_0p, fa28_1, fa28_1p, fa30_0, fa30_0p, fa30_1, fa30_1p, fa46_0, fa46_0p, fa46_1, fa46_1p, fa46_2, fa46_2p, fa46_3, fa46_3p, fa46_4, fa46_4p, fa46_5, fa46_5p, fa46_6, fa46_6p, fa86_0, fa86_0p, fa86_1, fa86_1p, fa86_2, fa86_2p, fa95_0, fa95_0p, fa95_1, fa95_1p, ld3, ld3p, ld4, ld4p, ld22, ld22p, ld23, ld23p, ld24, ld24p, ld26, ld26p, ld28, ld28p, ld30, ld30p, ld31, ld31p, ld46, ld46p, ld47, ld47p, ld52, ld52p, ld55, ld55p, ld57, ld57p, ld95, ld95p, st3s, st4s, st22s, st23s, st24s, st26w, st28w, st30w, st46w, st47s, st55s, st95w, ix22, ix22p, ix23, ix23p, ix24, ix24p, ix47, ix47p, ix56, ix56p, ix57, ix57p, ix101, ix101p, ln22, ln22p, ln23, ln23p, ln24, ln24p, ln47, ln47p, ln56, ln56p, ln57, ln57p, al22, al26, al28, al30, al46, al47, al95, cf14, cf15, cf16, cf17, cf18, cf19, cf20, cf21, cf22, cf23, cf24, cf25, cf26, cf27, cf28, cf29, cf30, cf31, cf32, cf33, cf34, cf35, cf36, cf37, cf38, cf39, cf40, cf41, cf42, cf43, cf44, cf45, cf46, cf47, cf48, cf49, cf50, cf51, cf52, cf53, cf54, cf55, cf56, cf57, cf58, cf59, cf60, cf61, cf62, cf63, cf64, cf65, cf66, cf67, cf68, cf69, cf70, cf71, cf72, cf73, cf74, cf75, cf76, cf77, cf78, cf79, cf80, bd26_0_1_2_7_8_9_10_11_12_13_14, bd26_0_1_2_7_8_9_10_11_12_13_14p, bd28_0, bd28_0p, bd28_0_1, bd28_0_1p, bd30_, bd30_p, bd30_0_1, bd30_0_1p, bd30_0, bd30_0p, bd46_0_1_2_3_4, bd46_0_1_2_3_4p, bd46_0_3_4, bd46_0_3_4p, bd86_0_1_2, bd86_0_1_2p, bd87_0_1_2_3, bd87_0_1_2_3p, bd95_0_1, bd95_0_1p, bs22_2_0_1, bs47_1_0, bs22_1_0, bs57_6_0_1_2_3_4_5, bs24_1_0, bs22_4_0_1_2_3, bs56_11_0_1_2_3_4_5_6_7_8_9_10, bs57_11_0_1_2_3_4_5_6_7_8_9_10, eq4, eq4p, eq28, eq28p, eq30, eq30p, eq31n, eq31np, eq31s, eq31sp, eq46, eq46p, eq50n, eq50np, eq50s, eq50sp, eq67n, eq67np, eq67s, eq67sp, ne4, ne4p, ne28, ne28p, ne30, ne30p, ne31n, ne31np, ne31s, ne31sp, ne46, ne46p]
  refine append_piece cellC (by decide) un22 eocell (by decide) (by decide) (M := cellsP y) s4 d4 o3 (Sees.row b4 rfl (Nat.le_refl _)) (by rw [hlen, show (cellsP y).length = 2 from rfl]; omega) fun v' a' h' o' s' d' => ?_
  unfold S16_l9_k11
  simp -implicitDefEqProofs (maxSteps := 2000000) (disch := first | with_reducible exact Nat.ne_of_beq_eq_false rfl | exact oneCell_int | exact oneCell_bool | omega | rfl | (simp; done) | fail) only [upd_ne, k6, thenK_normal, opH_sv, bin_add, wrap_in]
  refine HX (C.ro.length - (i + 1)) _ _ (by omega) ⟨i + 1, a', rfl, hlt', by simp -implicitDefEqProofs (maxSteps := 2000000) (disch := first | with_reducible exact Nat.ne_of_beq_eq_false rfl | exact oneCell_int | exact oneCell_bool | omega | rfl | (simp; done) | fail) only [upd_ne, k1, g1], by simp -implicitDefEqProofs (maxSteps := 2000000) (disch := first | with_reducible exact Nat.ne_of_beq_eq_false rfl | exact oneCell_int | exact oneCell_bool | omega | rfl | (simp; done) | fail) only [upd_eq] <;> rfl, ?_, ?_, s', d'⟩
  · rw [take_get hy]
    intro c hc
    rcases List.mem_append.1 hc with q | q
    · exact hw c q
    · simp at q; rw [q]; exact h1
  · simp -implicitDefEqProofs (maxSteps := 2000000) (disch := first | with_reducible exact Nat.ne_of_beq_eq_false rfl | exact oneCell_int | exact oneCell_bool | omega | rfl | (simp; done) | fail) only [upd_ne, upd_eq]
    rw [take_get hy, List.flatMap_append]
    simpa using o'

theorem may_once {G h : Hp} {L : List Cell} {v : Value} (sv : Sees cellC G h v L) (hL : L.length ≤ 1000) {KK : Exit → Rg → Hp → Prop} (r : Rg) (g5 : r 5 = v) (g7 : r 7 = .int .i64 0)
    (H1 : (∀ c ∈ L, L.count c ≤ 1) → ∀ r' : Rg, r' 1 = r 1 → KK (.exit 6) r' h)
    (H2 : (∃ c ∈ L, ¬ L.count c ≤ 1) → ∀ r' : Rg, r' 2 = .bool false → KK .ret r' h) : loopP (S16_l6 G) r h KK := by
  obtain ⟨sa, cap, rfl⟩ := sv.len
  refine loop_I (fun m r2 h3 => ∃ i : Nat, m = L.length - i ∧ i ≤ L.length ∧ r2 1 = r 1 ∧ r2 5 = r 5 ∧ r2 7 = .int .i64 i ∧ h3 = h ∧ (∀ c ∈ L.take i, L.count c ≤ 1)) ?_
    (m := L.length) ⟨0, rfl, Nat.zero_le _, rfl, rfl, by rw [g7]; rfl, rfl, by simp⟩
  rintro m r2 h3 ⟨i, rfl, hi, k1, k5, k7, rfl, hw⟩ X HX
  rw [g5] at k5
  unfold S16_l6
  simp -implicitDefEqProofs (maxSteps := 2000000) (disch := first | with_reducible exact Nat.ne_of_beq_eq_false rfl | exact oneCell_int | exact oneCell_bool | omega | rfl | (simp; done) | fail) only [k5, k7, thenK_exit, opH_sv, ln22, bin_lss]
  refine cond_dec (fun hlt => ?_) (fun hge => ?_)
  rotate_left
  · obtain rfl : i = L.length := by omega
    rw [List.take_of_length_le (Nat.le_refl _)] at hw
    exact H1 hw _ (by simp -implicitDefEqProofs (maxSteps := 2000000) (disch := first | with_reducible exact Nat.ne_of_beq_eq_false rfl | exact oneCell_int | exact oneCell_bool | omega | rfl | (simp; done) | fail) only [upd_ne, k1])
  have hlt' : i < L.length := by omega
  obtain ⟨y, hy⟩ : ∃ x, L[i]? = some x := ⟨_, List.getElem?_eq_getElem hlt'⟩
  obtain ⟨b, o, rfl, z0, z1⟩ := Sees.cell sv hy
  unfold S16_l6_k7
  simp -implicitDefEqProofs (maxSteps := 2000000) (disch := first | with_reducible exact Nat.ne_of_beq_eq_false rfl | exact oneCell_int | exact oneCell_bool | omega | rfl | (simp; done) | fail) only [upd_ne, k5, k7, thenK_ret, opH_sv, cf53, ix22 (Int.natCast_nonneg i) hlt, Int.toNat_natCast, add_mk, ld28, Nat.add_zero, z0, Option.some.injEq, z1, exists_eq_left']
  refine (among_spec (c := y) sv (by omega)).mono ?_
  rintro _ _ ⟨rfl, rfl⟩
  try simp -implicitDefEqProofs (maxSteps := 2000000) (disch := first | with_reducible exact Nat.ne_of_beq_eq_false rfl | exact oneCell_int | exact oneCell_bool | omega | rfl | (simp; done) | fail) only [bin_gtr]
  by_cases h2 : L.count y ≤ 1
  rotate_left
  · have e : decide ((L.count y : Int) > 1) = true := by rw [decide_eq_true_iff]; omega
    simp -implicitDefEqProofs (maxSteps := 2000000) (disch := first | with_reducible exact Nat.ne_of_beq_eq_false rfl | exact oneCell_int | exact oneCell_bool | omega | rfl | (simp; done) | fail) only [e, HL.cond_true]
    exact H2 ⟨y, List.mem_of_getElem? hy, h2⟩ _ (by simp -implicitDefEqProofs (maxSteps := 2000000) (disch := first | with_reducible exact Nat.ne_of_beq_eq_false rfl | exact oneCell_int | exact oneCell_bool | omega | rfl | (simp; done) | fail) only [upd_eq])
  have e : decide ((L.count y : Int) > 1) = false := by rw [decide_eq_false_iff_not]; omega
  simp -implicitDefEqProofs (maxSteps := 2000000) (disch := first | with_reducible exact Nat.ne_of_beq_eq_false rfl | exact oneCell_int | exact oneCell_bool | omega | rfl | (simp; done) | fail) only [e, HL.cond_false]
  unfold S16_l6_k8
  simp -implicitDefEqProofs (maxSteps := 2000000) (disch := first | with_reducible exact Nat.ne_of_beq_eq_false rfl | exact oneCell_int | exact oneCell_bool | omega | rfl | (simp; done) | fail) only [upd_ne, k7, thenK_normal, opH_sv, bin_add, wrap_in]
  refine HX (L.length - (i + 1)) _ _ (by omega) ⟨i + 1, rfl, hlt', by simp -implicitDefEqProofs (maxSteps := 2000000) (disch := first | with_reducible exact Nat.ne_of_beq_eq_false rfl | exact oneCell_int | exact oneCell_bool | omega | rfl | (simp; done) | fail) only [upd_ne, k1], by simp -implicitDefEqProofs (maxSteps := 2000000) (disch := first | with_reducible exact Nat.ne_of_beq_eq_false rfl | exact oneCell_int | exact oneCell_bool | omega | rfl | (simp; done) | fail) only [upd_ne, k5, g5], by simp -implicitDefEqProofs (maxSteps := 2000000) (disch := first | with_reducible exact Nat.ne_of_beq_eq_false rfl | exact oneCell_int | exact oneCell_bool | omega | rfl | (simp; done) | fail) only [upd_eq] <;> rfl, rfl, ?_⟩
  rw [take_get hy]
  intro c hc
  rcases List.mem_append.1 hc with q | q
  · exact hw c q
  · simp at q; rw [q]; exact h2

set_option maxHeartbeats 1000000 in
theorem rmay_spec {G h : Hp} {v : Value} {C : Conf} (hv : CV G h v C) :
    HCalls Tryd.prog G 16 #[v] h (fun u h' => (∃ b, u = .bool b ∧ (b = true ↔ MayOk C)) ∧ h' = h) := by
  obtain ⟨ab, cb, ap, cp, ar, cr, az, cs, rfl, ca⟩ := hv
  refine HCalls.assume fun d => quietly (enter16 (by simp) ?_)
  unfold S16
  simp -implicitDefEqProofs (maxSteps := 2000000) (disch := first | with_reducible exact Nat.ne_of_beq_eq_false rfl | exact oneCell_int | exact oneCell_bool | omega | rfl | (simp; done) | fail) only [regs0, retK_ret, resL_tmp, upd_eq, resL_nil1, opH_sv, cf51, box_new, cells_agg, ld26, add_mk, Nat.add_zero, cell_set_self, List.getElem?_cons_zero, Option.some.injEq, Nat.zero_add, List.getElem?_cons_succ, exists_eq_left']
  intro x hx gx
  generalize e1 : Hp.set h x _ = h1
  obtain ⟨l1, d1, b1⟩ := boxed e1 hx d gx
  have cx : ∀ k, cellIn G h1 ⟨x, k, none⟩ = _ := fun k => cell_of (look_own b1)
  have ca1 := ca.up l1 d1
  have no : ∀ {P : Prop}, ¬ P → (false = true ↔ P) := fun h => ⟨fun e => absurd e (by decide), fun p => (h p).elim⟩
  try simp -implicitDefEqProofs (maxSteps := 2000000) (disch := first | with_reducible exact Nat.ne_of_beq_eq_false rfl | exact oneCell_int | exact oneCell_bool | omega | rfl | (simp; done) | fail) only [opH_sv, opH_su, pureW_sv, opH_nil, pureW_nil, pick_t, pick_f, pick_tp, pick_fp, gd_tt, gd_ft, gd_tf, gd_ff, box_new, regs0, regs1, regs2, regs3, regs4, regs5, regs6, cells_agg, cells_int, cells_bool, cells_ptr, cells_slice, cells_string, cells_func, cells_nilFunc, cells_map, retK_ret, retK_normal, resL_tmp, resL_cell, resL_nil0, resL_nil1, resL_nil2, resL_nil3, resC_ptr, ex0, ex1, ex2, ex0p, ex1p, ex2p, HL.cond_true, HL.cond_false, thenK_normal, thenK_ret, thenK_exit, blockK_normal, blockK_ret, blockK_exit, scopeK_normal, scopeK_ret, scopeK_exit, wpH_pure, bin_add, bin_sub, bin_mul, bin_lss, bin_leq, bin_gtr, bin_geq, bin_quo, bin_rem, bin_quop, bin_remp, wrap_in, bin_addp, bin_subp, bin_mulp, bin_lssp, bin_leqp, bin_gtrp, bin_geqp, un_not, un_notp, un_neg, eq_int, ne_int, eq_intp, ne_intp, callV_fn, add_mk, upd_eq, upd_ne, cell_set_self, Nat.zero_add, Nat.add_zero, Option.some.injEq, exists_eq_left', List.getElem?_cons_succ, List.getElem?_cons_zero, true_and, and_true, bne_self_eq_false, beq_self_eq_true, Bool.not_true, Bool.not_false, Bool.and_true, Bool.and_self, Bool.and_false, Bool.true_and, List.length_cons, List.length_nil, ne_eq, not_false_eq_true, Nat.reduceAdd, Nat.reduceMul, if_true, if_false, oneCell_int, oneCell_bool, oneCell_ptr, oneCell_slice, oneCell_string, oneCell_func, oneCell_map, Int.toNat_natCast, List.set_cons_zero, List.set_cons_succ, Nat.lt_irrefl, Nat.zero_lt_succ, Nat.succ_lt_succ_iff, fa26_0, fa26_0p, fa26_1, fa26_1p, fa26_10, fa26_10p, fa26_11, fa26_11p, fa26_12, fa26_12p, fa26_13, fa26_13p, fa26_14, fa26_14p, fa26_2, fa26_2p, fa26_3, fa26_3p, fa26_4, fa26_4p, fa26_5, fa26_5p, fa26_6, fa26_6p, fa26_7, fa26_7p, fa26_8, fa26_8p, fa26_9, fa26_9p, fa28_0, fa28_0p, fa28_1, fa28_1p, fa30_0, fa30_0p, fa30_1, fa30_1p, fa46_0, fa46_0p, fa46_1, fa46_1p, fa46_2, fa46_2p, fa46_3, fa46_3p, fa46_4, fa46_4p, fa46_5, fa46_5p, fa46_6, fa46_6p, fa86_0, fa86_0p, fa86_1, fa86_1p, fa86_2, fa86_2p, fa95_0, fa95_0p, fa95_1, fa95_1p, ld3, ld3p, ld4, ld4p, ld22, ld22p, ld23, ld23p, ld24, ld24p, ld26, ld26p, ld28, ld28p, ld30, ld30p, ld31, ld31p, ld46, ld46p, ld47, ld47p, ld52, ld52p, ld55, ld55p, ld57, ld57p, ld95, ld95p, st3s, st4s, st22s, st23s, st24s, st26w, st28w, st30w, st46w, st47s, st55s, st95w, ix22, ix22p, ix23, ix23p, ix24, ix24p, ix47, ix47p, ix56, ix56p, ix57, ix57p, ix101, ix101p, ln22, ln22p, ln23, ln23p, ln24, ln24p, ln47, ln47p, ln56, ln56p, ln57, ln57p, al22, al26, al28, al30, al46, al47, al95, cf14, cf15, cf16, cf17, cf18, cf19, cf20, cf21, cf22, cf23, cf24, cf25, cf26, cf27, cf28, cf29, cf30, cf31, cf32, cf33, cf34, cf35, cf36, cf37, cf38, cf39, cf40, cf41, cf42, cf43, cf44, cf45, cf46, cf47, cf48, cf49, cf50, cf51, cf52, cf53, cf54, cf55, cf56, cf57, cf58, cf59, cf60, cf61, cf62, cf63, cf64, cf65, cf66, cf67, cf68, cf69, cf70, cf71, cf72, cf73, cf74, cf75, cf76, cf77, cf78, cf79, cf80, bd26_0_1_2_7_8_9_10_11_12_13_14, bd26_0_1_2_7_8_9_10_11_12_13_14p, bd28_0, bd28_0p, bd28_0_1, bd28_0_1p, bd30_, bd30_p, bd30_0_1, bd30_0_1p, bd30_0, bd30_0p, bd46_0_1_2_3_4, bd46_0_1_2_3_4p, bd46_0_3_4, bd46_0_3_4p, bd86_0_1_2, bd86_0_1_2p, bd87_0_1_2_3, bd87_0_1_2_3p, bd95_0_1, bd95_0_1p, bs22_2_0_1, bs47_1_0, bs22_1_0, bs57_6_0_1_2_3_4_5, bs24_1_0, bs22_4_0_1_2_3, bs56_11_0_1_2_3_4_5_6_7_8_9_10, bs57_11_0_1_2_3_4_5_6_7_8_9_10, eq4, eq4p, eq28, eq28p, eq30, eq30p, eq31n, eq31np, eq31s, eq31sp, eq46, eq46p, eq50n, eq50np, eq50s, eq50sp, eq67n, eq67np, eq67s, eq67sp, ne4, ne4p, ne28, ne28p, ne30, ne30p, ne31n, ne31np, ne31s, ne31sp, ne46, ne46p, cx]
  refine (numbers_spec ca1.cv).mono ?_
  rintro _ _ ⟨rfl, rfl⟩
  cases hn : numbersB C with
  | false =>
    try simp -implicitDefEqProofs (maxSteps := 2000000) (disch := first | with_reducible exact Nat.ne_of_beq_eq_false rfl | exact oneCell_int | exact oneCell_bool | omega | rfl | (simp; done) | fail) only [un_not, Bool.not_false, pick_t, HL.cond_true, gd_tf]
    exact ⟨⟨_, rfl, no fun M => by have := M.nums; rw [hn] at this; cases this⟩, l1⟩
  | true =>
  have hht : C.ht ≤ 8 := by
    unfold numbersB withinB at hn
    simp only [Bool.and_eq_true, decide_eq_true_eq] at hn
    exact hn.2.2.1.2
  try simp -implicitDefEqProofs (maxSteps := 2000000) (disch := first | with_reducible exact Nat.ne_of_beq_eq_false rfl | exact oneCell_int | exact oneCell_bool | omega | rfl | (simp; done) | fail) only [un_not, Bool.not_true, pick_f, gd_ff, opH_sv, fa26_4, add_mk, Nat.zero_add, ld22, cx, List.getElem?_cons_succ, List.getElem?_cons_zero, Option.some.injEq, exists_eq_left', ln22, bin_gtr]
  by_cases hP : C.po.length ≤ 8
  rotate_left
  · have e : decide ((C.po.length : Int) > 8) = true := by rw [decide_eq_true_iff]; omega
    simp -implicitDefEqProofs (maxSteps := 2000000) (disch := first | with_reducible exact Nat.ne_of_beq_eq_false rfl | exact oneCell_int | exact oneCell_bool | omega | rfl | (simp; done) | fail) only [e, pick_t, HL.cond_true, gd_tf]
    exact ⟨⟨_, rfl, no fun M => hP M.po8⟩, l1⟩
  have e : decide ((C.po.length : Int) > 8) = false := by rw [decide_eq_false_iff_not]; omega
  try simp -implicitDefEqProofs (maxSteps := 2000000) (disch := first | with_reducible exact Nat.ne_of_beq_eq_false rfl | exact oneCell_int | exact oneCell_bool | omega | rfl | (simp; done) | fail) only [e, pick_f, gd_ff, opH_sv, fa26_5, add_mk, Nat.zero_add, ld23, cx, List.getElem?_cons_succ, List.getElem?_cons_zero, Option.some.injEq, exists_eq_left', ln23, bin_gtr]
  by_cases hR : C.ro.length ≤ 8
  rotate_left
  · have e : decide ((C.ro.length : Int) > 8) = true := by rw [decide_eq_true_iff]; omega
    simp -implicitDefEqProofs (maxSteps := 2000000) (disch := first | with_reducible exact Nat.ne_of_beq_eq_false rfl | exact oneCell_int | exact oneCell_bool | omega | rfl | (simp; done) | fail) only [e, pick_t, HL.cond_true, gd_tf]
    exact ⟨⟨_, rfl, no fun M => hR M.ro8⟩, l1⟩
  have e : decide ((C.ro.length : Int) > 8) = false := by rw [decide_eq_false_iff_not]; omega
  try simp -implicitDefEqProofs (maxSteps := 2000000) (disch := first | with_reducible exact Nat.ne_of_beq_eq_false rfl | exact oneCell_int | exact oneCell_bool | omega | rfl | (simp; done) | fail) only [e, pick_f, gd_ff, opH_sv, fa26_3, add_mk, Nat.zero_add, ld22, cx, List.getElem?_cons_succ, List.getElem?_cons_zero, Option.some.injEq, exists_eq_left', ln22, bin_gtr]
  by_cases hL : C.bl.length ≤ 256
  rotate_left
  · have e : decide ((C.bl.length : Int) > 256) = true := by rw [decide_eq_true_iff]; omega
    simp -implicitDefEqProofs (maxSteps := 2000000) (disch := first | with_reducible exact Nat.ne_of_beq_eq_false rfl | exact oneCell_int | exact oneCell_bool | omega | rfl | (simp; done) | fail) only [e, HL.cond_true]
    exact ⟨⟨_, rfl, no fun M => hL M.bl256⟩, l1⟩
  have e : decide ((C.bl.length : Int) > 256) = false := by rw [decide_eq_false_iff_not]; omega
  simp -implicitDefEqProofs (maxSteps := 2000000) (disch := first | with_reducible exact Nat.ne_of_beq_eq_false rfl | exact oneCell_int | exact oneCell_bool | omega | rfl | (simp; done) | fail) only [e, HL.cond_false]
  unfold S16_k1
  refine may_bl ca1 cx hL hP _ (by simp -implicitDefEqProofs (maxSteps := 2000000) (disch := first | with_reducible exact Nat.ne_of_beq_eq_false rfl | exact oneCell_int | exact oneCell_bool | omega | rfl | (simp; done) | fail) only [upd_ne, upd_eq]) (by simp -implicitDefEqProofs (maxSteps := 2000000) (disch := first | with_reducible exact Nat.ne_of_beq_eq_false rfl | exact oneCell_int | exact oneCell_bool | omega | rfl | (simp; done) | fail) only [upd_eq]) (fun hbl r' j1 => ?_) (fun ⟨c, hc, hbad⟩ r' j2 => ?_)
  rotate_left
  · simp -implicitDefEqProofs (maxSteps := 2000000) (disch := first | with_reducible exact Nat.ne_of_beq_eq_false rfl | exact oneCell_int | exact oneCell_bool | omega | rfl | (simp; done) | fail) only [blockK_ret, thenK_ret, retK_ret, resL_tmp, j2, resL_nil1]
    exact ⟨⟨_, rfl, no fun M => hbad (M.blk c hc)⟩, l1⟩
  simp only [blockK_exit, if_true, blockK_normal, thenK_normal]
  have j1' : r' 1 = .pointer (some ⟨x, 0, none⟩) := j1.trans (by simp -implicitDefEqProofs (maxSteps := 2000000) (disch := first | with_reducible exact Nat.ne_of_beq_eq_false rfl | exact oneCell_int | exact oneCell_bool | omega | rfl | (simp; done) | fail) only [upd_ne, upd_eq])
  unfold S16_k2
  refine may_po ca1 cx hL hP hR _ (by simp -implicitDefEqProofs (maxSteps := 2000000) (disch := first | with_reducible exact Nat.ne_of_beq_eq_false rfl | exact oneCell_int | exact oneCell_bool | omega | rfl | (simp; done) | fail) only [upd_ne, j1']) (by simp -implicitDefEqProofs (maxSteps := 2000000) (disch := first | with_reducible exact Nat.ne_of_beq_eq_false rfl | exact oneCell_int | exact oneCell_bool | omega | rfl | (simp; done) | fail) only [upd_eq]) (fun hpo r'' j1 => ?_) (fun ⟨c, hc, hbad⟩ r' j2 => ?_)
  rotate_left
  · simp -implicitDefEqProofs (maxSteps := 2000000) (disch := first | with_reducible exact Nat.ne_of_beq_eq_false rfl | exact oneCell_int | exact oneCell_bool | omega | rfl | (simp; done) | fail) only [blockK_ret, thenK_ret, retK_ret, resL_tmp, j2, resL_nil1]
    exact ⟨⟨_, rfl, no fun M => hbad (M.prt c hc)⟩, l1⟩
  simp only [blockK_exit, if_true, blockK_normal, thenK_normal]
  have j1'' : r'' 1 = .pointer (some ⟨x, 0, none⟩) := j1.trans (by simp -implicitDefEqProofs (maxSteps := 2000000) (disch := first | with_reducible exact Nat.ne_of_beq_eq_false rfl | exact oneCell_int | exact oneCell_bool | omega | rfl | (simp; done) | fail) only [upd_ne, j1'])
  unfold S16_k3
  refine may_ro ca1 d1 b1 hL hR _ (by simp -implicitDefEqProofs (maxSteps := 2000000) (disch := first | with_reducible exact Nat.ne_of_beq_eq_false rfl | exact oneCell_int | exact oneCell_bool | omega | rfl | (simp; done) | fail) only [upd_ne, j1'']) (by simp -implicitDefEqProofs (maxSteps := 2000000) (disch := first | with_reducible exact Nat.ne_of_beq_eq_false rfl | exact oneCell_int | exact oneCell_bool | omega | rfl | (simp; done) | fail) only [upd_ne, upd_eq]) (by simp -implicitDefEqProofs (maxSteps := 2000000) (disch := first | with_reducible exact Nat.ne_of_beq_eq_false rfl | exact oneCell_int | exact oneCell_bool | omega | rfl | (simp; done) | fail) only [upd_eq]) (fun hro r3 h3 lp j1 l3 d3 llp o3 => ?_) (fun ⟨p, hp, hbad⟩ r3 h3 l3 j2 => ?_)
  rotate_left
  · simp -implicitDefEqProofs (maxSteps := 2000000) (disch := first | with_reducible exact Nat.ne_of_beq_eq_false rfl | exact oneCell_int | exact oneCell_bool | omega | rfl | (simp; done) | fail) only [blockK_ret, thenK_ret, retK_ret, resL_tmp, j2, resL_nil1]
    exact ⟨⟨_, rfl, no fun M => by have := M.fit p hp; rw [hbad] at this; cases this⟩, l1.trans l3⟩
  simp only [blockK_exit, if_true, blockK_normal, thenK_normal]
  have j31 : r3 1 = .pointer (some ⟨x, 0, none⟩) := j1.trans (by simp -implicitDefEqProofs (maxSteps := 2000000) (disch := first | with_reducible exact Nat.ne_of_beq_eq_false rfl | exact oneCell_int | exact oneCell_bool | omega | rfl | (simp; done) | fail) only [upd_ne, j1''])
  unfold S16_k4
  refine may_once (o3.sees (by decide) llp) (by rw [flat_cells]; omega) _ (by simp -implicitDefEqProofs (maxSteps := 2000000) (disch := first | with_reducible exact Nat.ne_of_beq_eq_false rfl | exact oneCell_int | exact oneCell_bool | omega | rfl | (simp; done) | fail) only [upd_ne]) (by simp -implicitDefEqProofs (maxSteps := 2000000) (disch := first | with_reducible exact Nat.ne_of_beq_eq_false rfl | exact oneCell_int | exact oneCell_bool | omega | rfl | (simp; done) | fail) only [upd_eq]) (fun hon r4 j1 => ?_) (fun ⟨c, hc, hbad⟩ r4 j2 => ?_)
  rotate_left
  · simp -implicitDefEqProofs (maxSteps := 2000000) (disch := first | with_reducible exact Nat.ne_of_beq_eq_false rfl | exact oneCell_int | exact oneCell_bool | omega | rfl | (simp; done) | fail) only [blockK_ret, thenK_ret, retK_ret, resL_tmp, j2, resL_nil1]
    exact ⟨⟨_, rfl, no fun M => hbad (M.once c hc)⟩, l1.trans l3⟩
  simp only [blockK_exit, if_true, blockK_normal, thenK_normal]
  have j41 : r4 1 = .pointer (some ⟨x, 0, none⟩) := j1.trans (by simp -implicitDefEqProofs (maxSteps := 2000000) (disch := first | with_reducible exact Nat.ne_of_beq_eq_false rfl | exact oneCell_int | exact oneCell_bool | omega | rfl | (simp; done) | fail) only [upd_ne, j31])
  have cx3 : ∀ k, cellIn G h3 ⟨x, k, none⟩ = _ := fun k => cell_of (look_own (l3 _ _ b1))
  unfold S16_k5
  simp -implicitDefEqProofs (maxSteps := 2000000) (disch := first | with_reducible exact Nat.ne_of_beq_eq_false rfl | exact oneCell_int | exact oneCell_bool | omega | rfl | (simp; done) | fail) only [j41, retK_ret, resL_tmp, upd_eq, resL_nil1, cf56, opH_sv, ld26, add_mk, Nat.add_zero, cx3, List.getElem?_cons_zero, Option.some.injEq, Nat.zero_add, List.getElem?_cons_succ, exists_eq_left']
  refine (bins_spec (ca1.up l3 d3).cv hht (by omega) (by omega) (by omega)).mono ?_
  rintro _ h3 ⟨⟨b, rfl, hb⟩, rfl⟩
  try simp -implicitDefEqProofs (maxSteps := 2000000) (disch := first | with_reducible exact Nat.ne_of_beq_eq_false rfl | exact oneCell_int | exact oneCell_bool | omega | rfl | (simp; done) | fail) only [opH_sv, opH_su, pureW_sv, opH_nil, pureW_nil, pick_t, pick_f, pick_tp, pick_fp, gd_tt, gd_ft, gd_tf, gd_ff, box_new, regs0, regs1, regs2, regs3, regs4, regs5, regs6, cells_agg, cells_int, cells_bool, cells_ptr, cells_slice, cells_string, cells_func, cells_nilFunc, cells_map, retK_ret, retK_normal, resL_tmp, resL_cell, resL_nil0, resL_nil1, resL_nil2, resL_nil3, resC_ptr, ex0, ex1, ex2, ex0p, ex1p, ex2p, HL.cond_true, HL.cond_false, thenK_normal, thenK_ret, thenK_exit, blockK_normal, blockK_ret, blockK_exit, scopeK_normal, scopeK_ret, scopeK_exit, wpH_pure, bin_add, bin_sub, bin_mul, bin_lss, bin_leq, bin_gtr, bin_geq, bin_quo, bin_rem, bin_quop, bin_remp, wrap_in, bin_addp, bin_subp, bin_mulp, bin_lssp, bin_leqp, bin_gtrp, bin_geqp, un_not, un_notp, un_neg, eq_int, ne_int, eq_intp, ne_intp, callV_fn, add_mk, upd_eq, upd_ne, cell_set_self, Nat.zero_add, Nat.add_zero, Option.some.injEq, exists_eq_left', List.getElem?_cons_succ, List.getElem?_cons_zero, true_and, and_true, bne_self_eq_false, beq_self_eq_true, Bool.not_true, Bool.not_false, Bool.and_true, Bool.and_self, Bool.and_false, Bool.true_and, List.length_cons, List.length_nil, ne_eq, not_false_eq_true, Nat.reduceAdd, Nat.reduceMul, if_true, if_false, oneCell_int, oneCell_bool, oneCell_ptr, oneCell_slice, oneCell_string, oneCell_func, oneCell_map, Int.toNat_natCast, List.set_cons_zero, List.set_cons_succ, Nat.lt_irrefl, Nat.zero_lt_succ, Nat.succ_lt_succ_iff, fa26_0, fa26_0p, fa26_1, fa26_1p, fa26_10, fa26_10p, fa26_11, fa26_11p, fa26_12, fa26_12p, fa26_13, fa26_13p, fa26_14, fa26_14p, fa26_2, fa26_2p, fa26_3, fa26_3p, fa26_4, fa26_4p, fa26_5, fa26_5p, fa26_6, fa26_6p, fa26_7, fa26_7p, fa26_8, fa26_8p, fa26_9, fa26_9p, fa28_0, fa28_0p, fa28_1, fa28_1p, fa30_0, fa30_0p, fa30_1, fa30_1p, fa46_0, fa46_0p, fa46_1, fa46_1p, fa46_2, fa46_2p, fa46_3, fa46_3p, fa46_4, fa46_4p, fa46_5, fa46_5p, fa46_6, fa46_6p, fa86_0, fa86_0p, fa86_1, fa86_1p, fa86_2, fa86_2p, fa95_0, fa95_0p, fa95_1, fa95_1p, ld3, ld3p, ld4, ld4p, ld22, ld22p, ld23, ld23p, ld24, ld24p, ld26, ld26p, ld28, ld28p, ld30, ld30p, ld31, ld31p, ld46, ld46p, ld47, ld47p, ld52, ld52p, ld55, ld55p, ld57, ld57p, ld95, ld95p, st3s, st4s, st22s, st23s, st24s, st26w, st28w, st30w, st46w, st47s, st55s, st95w, ix22, ix22p, ix23, ix23p, ix24, ix24p, ix47, ix47p, ix56, ix56p, ix57, ix57p, ix101, ix101p, ln22, ln22p, ln23, ln23p, ln24, ln24p, ln47, ln47p, ln56, ln56p, ln57, ln57p, al22, al26, al28, al30, al46, al47, al95, cf14, cf15, cf16, cf17, cf18, cf19, cf20, cf21, cf22, cf23, cf24, cf25, cf26, cf27, cf28, cf29, cf30, cf31, cf32, cf33, cf34, cf35, cf36, cf37, cf38, cf39, cf40, cf41, cf42, cf43, cf44, cf45, cf46, cf47, cf48, cf49, cf50, cf51, cf52, cf53, cf54, cf55, cf56, cf57, cf58, cf59, cf60, cf61, cf62, cf63, cf64, cf65, cf66, cf67, cf68, cf69, cf70, cf71, cf72, cf73, cf74, cf75, cf76, cf77, cf78, cf79, cf80, bd26_0_1_2_7_8_9_10_11_12_13_14, bd26_0_1_2_7_8_9_10_11_12_13_14p, bd28_0, bd28_0p, bd28_0_1, bd28_0_1p, bd30_, bd30_p, bd30_0_1, bd30_0_1p, bd30_0, bd30_0p, bd46_0_1_2_3_4, bd46_0_1_2_3_4p, bd46_0_3_4, bd46_0_3_4p, bd86_0_1_2, bd86_0_1_2p, bd87_0_1_2_3, bd87_0_1_2_3p, bd95_0_1, bd95_0_1p, bs22_2_0_1, bs47_1_0, bs22_1_0, bs57_6_0_1_2_3_4_5, bs24_1_0, bs22_4_0_1_2_3, bs56_11_0_1_2_3_4_5_6_7_8_9_10, bs57_11_0_1_2_3_4_5_6_7_8_9_10, eq4, eq4p, eq28, eq28p, eq30, eq30p, eq31n, eq31np, eq31s, eq31sp, eq46, eq46p, eq50n, eq50np, eq50s, eq50sp, eq67n, eq67np, eq67s, eq67sp, ne4, ne4p, ne28, ne28p, ne30, ne30p, ne31n, ne31np, ne31s, ne31sp, ne46, ne46p]
  exact ⟨⟨_, rfl, hb.trans ⟨fun B => ⟨hn, hP, hR, hL, hbl, hpo, hro, hon, B⟩, fun M => M.bins⟩⟩, l1.trans l3⟩

end Go.Proofs.YtnpdploihlgcgaaDoor
