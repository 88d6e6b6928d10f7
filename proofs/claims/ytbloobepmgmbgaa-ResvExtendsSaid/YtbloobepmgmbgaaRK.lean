/- The document's example is awake; ResvExtends: the walk. -/
import Derived.Test.YtbloobepmgmbgaaRJ
set_option linter.unusedSimpArgs false
set_option linter.unusedVariables false
set_option maxRecDepth 100000
namespace Go.Proofs.Ytbloobepmgmbgaa
open Go Go.HL Go.Proofs.Resv

theorem goodT_rep {n : Nat} : GoodT (List.replicate n []) := fun L hL => by rw [(List.mem_replicate.1 hL).2]; exact Resv.Good.nil
theorem fewT_rep {n b : Nat} : Few (List.replicate n []) b := fun L hL => by rw [(List.mem_replicate.1 hL).2]; exact Nat.zero_le _
abbrev wantO (s : Want) : Obj := .cells #[.int .i64 s.c, .int .i64 s.f, .int .i64 s.t] 30 (0, 0)

/-- A claim of one want, written out. -/
theorem claim1_spec {G h a : Hp} {R : List Hp} {tp b x : Nat} {T : Tb} {r : Int} {w : Want} (tb : Tab 68 a tp T) (sp : HL.Sep (a :: R) h) (hx : h x = none) (g : GoodT T) (fw : Few T b) (hb : b + 1 ≤ 50000) :
    HCalls Try.prog G 15 #[.pointer (some ⟨tp, 0, none⟩), .int .i64 r, .slice (some ⟨x, 0, none⟩) 1 1] (h.set x (wantO w)) (fun u h' => u = .int .i64 (claimT T r [w]).1 ∧ ∃ a', Tab 68 a' tp (claimT T r [w]).2 ∧ HL.Sep (a' :: R) h' ∧ Dis G h') := by
  refine (claim_spec (r := r) (l := [w]) tb (sp.new hx).swap (Sees.row (c := wantC) (L := [w]) (set_self (o := wantO w)) rfl (Nat.le_refl _)) g fw hb).mono ?_
  rintro u h' ⟨rfl, a', t', s', d'⟩
  exact ⟨rfl, a', t', s'.swap.drop, d'⟩

def aw0 : Tb := List.replicate 5 []
def aw1 : Tb := [[], [], [], [⟨5, 9, 0⟩], []]
theorem aw_e1 : claimT aw0 0 [⟨3, 5, 9⟩] = (0, aw1) := by rfl
theorem aw_e2 : claimT aw1 1 [⟨3, 8, 10⟩] = (18, aw1) := by rfl
set_option maxHeartbeats 4000000 in
theorem awake_spec {G h : Hp} : HCalls Try.prog G 13 #[] h (fun u h' => u = .bool true ∧ h' = h) := by
  refine HCalls.assume fun d => quietly (enter13 (by simp) ?_)
  unfold S13
  simp -implicitDefEqProofs (maxSteps := 2000000) (disch := first | with_reducible exact Nat.ne_of_beq_eq_false rfl | exact oneCell_int | exact oneCell_bool | omega | rfl | (simp; done) | fail) only [retK_ret, resL_tmp, upd_eq, resL_nil1, opH_sv, cf12]
  refine (new_spec (n := 5) (by decide) (by decide)).mono ?_
  rintro _ h1 ⟨a, tp, rfl, t1, s1, d1⟩
  simp -implicitDefEqProofs (maxSteps := 2000000) (disch := first | with_reducible exact Nat.ne_of_beq_eq_false rfl | exact oneCell_int | exact oneCell_bool | omega | rfl | (simp; done) | fail) only [ex1, ne_int, bne_self_eq_false, pick_f, gd_ff, ex0, eq23s, cf15, opH_sv, bd30_0_1_2, bs22_1_0]
  intro x hx gx
  refine (claim1_spec (r := 0) (w := ⟨3, 5, 9⟩) (b := 0) t1 s1 hx goodT_rep fewT_rep (by decide)).mono ?_
  rintro _ h2 ⟨rfl, a2, t2, s2, d2⟩
  obtain ⟨g2, f2, _⟩ := claim_inv (T := List.replicate 5 []) (r := 0) (l := [⟨3, 5, 9⟩]) goodT_rep (fewT_rep (b := 0))
  have e1 : claimT (List.replicate 5 []) 0 [⟨3, 5, 9⟩] = (0, aw1) := aw_e1
  rw [e1] at t2 g2 f2
  simp -implicitDefEqProofs (maxSteps := 2000000) (disch := first | with_reducible exact Nat.ne_of_beq_eq_false rfl | exact oneCell_int | exact oneCell_bool | omega | rfl | (simp; done) | fail) only [e1, ne_int, bne_self_eq_false, pick_f, gd_ff, cf15, opH_sv, bd30_0_1_2, bs22_1_0]
  intro y hy gy
  refine (claim1_spec (r := 1) (w := ⟨3, 8, 10⟩) (b := 1) t2 s2 hy g2 f2 (by decide)).mono ?_
  rintro _ h3 ⟨rfl, a3, t3, s3, d3⟩
  rw [aw_e2] at t3
  simp -implicitDefEqProofs (maxSteps := 2000000) (disch := first | with_reducible exact Nat.ne_of_beq_eq_false rfl | exact oneCell_int | exact oneCell_bool | omega | rfl | (simp; done) | fail) only [aw_e2, ne_int, bne_self_eq_false, HL.cond_false]
  unfold S13_k1
  simp -implicitDefEqProofs (maxSteps := 2000000) (disch := first | with_reducible exact Nat.ne_of_beq_eq_false rfl | exact oneCell_int | exact oneCell_bool | omega | rfl | (simp; done) | fail) only [upd_ne, upd_eq, retK_ret, resL_tmp, resL_nil1, cf22, opH_sv, cf29, cf18, cf17]
  refine (gaps_spec17 (c := 3) (r := 1)).mono ?_
  rintro _ h4 ⟨b1, b2, b3, rfl, l4, d4, k1, k2, k3, sp4⟩
  have s4 := sp4 _ s3
  refine (stretches_spec (most := 9) k1 k2 k3 (t3.see (s4.in 0 rfl)) (fun L hL => Nat.le_trans (f2 L hL) (by decide)) (by decide) (by decide)).mono ?_
  rintro u5 h5 ⟨ip, o5, s5, d5⟩
  have e5 : (if inT aw1.length 3 = true then gapsL (rowT aw1 3) 1 else []).take (9 : Int).toNat = [(0, 5), (9, FV)] := by rfl
  rw [e5] at o5
  have l5 : h4.le h5 := s5.in 1 rfl
  have see5 := o5.sees (G := G) (by decide) (s5.in 0 rfl)
  obtain ⟨sa, cap, rfl⟩ := see5.len
  obtain ⟨pb, po, rfl, z0, z1⟩ := Sees.pair see5 (i := 0) rfl
  obtain ⟨pb', po', e6, z2, z3⟩ := Sees.pair see5 (i := 1) rfl
  cases e6
  refine (first_spec (c := 3) ((t3.see (G := G) (s4.in 0 rfl)).up l5 d5)).mono ?_
  rintro _ h5 ⟨rfl, rfl⟩
  rw [show (rowAt aw1 3) = [⟨5, 9, 0⟩] from rfl]
  simp -implicitDefEqProofs (maxSteps := 2000000) (disch := first | with_reducible exact Nat.ne_of_beq_eq_false rfl | exact oneCell_int | exact oneCell_bool | omega | rfl | (simp; done) | fail) only [List.length_cons, List.length_nil, Nat.zero_add, Nat.reduceAdd, ex1, ex0]
  refine (cells_spec ((t3.see (G := G) (s4.in 0 rfl)).up l5 d5)).mono ?_
  rintro _ h5 ⟨rfl, rfl⟩
  have hp0 : (0 : Int) < ((2 : Nat) : Int) := by decide
  have hp1 : (1 : Int) < ((2 : Nat) : Int) := by decide
  rw [Nat.zero_mul, Nat.add_zero] at z0 z1
  have z0 : cellIn G h5 ⟨pb, po, none⟩ = some (.int .i64 0) := z0
  have z1 : cellIn G h5 ⟨pb, po + 1, none⟩ = some (.int .i64 5) := z1
  have z2 : cellIn G h5 ⟨pb, po + 2, none⟩ = some (.int .i64 9) := z2
  have z3 : cellIn G h5 ⟨pb, po + 2 + 1, none⟩ = some (.int .i64 4611686018427387904) := z3
  simp -implicitDefEqProofs (maxSteps := 2000000) (disch := first | with_reducible exact Nat.ne_of_beq_eq_false rfl | exact oneCell_int | exact oneCell_bool | omega | rfl | (simp; done) | fail) only [eq_int, show (((aw1.length : Nat) : Int) == 5) = true from rfl, pick_t, gd_tt, opH_sv, ln39, show (((2 : Nat) : Int) == 2) = true from rfl, bd58_0_1, ix39 (Int.le_refl 0) hp0, show (0 : Int).toNat * 2 = 0 from rfl, add_mk, Nat.add_zero, ld58, z0, Option.some.injEq, z1, exists_eq_left', eq58, beq_self_eq_true, Bool.and_self, ix39 (show (0 : Int) ≤ 1 by decide) hp1, show (1 : Int).toNat * 2 = 2 from rfl, z2, z3, cf16]
  refine (slots_spec (c := 3) ((t3.see (G := G) (s4.in 0 rfl)).up l5 d5) (fun L hL => Nat.le_trans (f2 L hL) (by decide))).mono ?_
  rintro u6 h6 ⟨io, o6, s6, d6⟩
  rw [show (rowAt aw1 3) = [⟨5, 9, 0⟩] from rfl] at o6
  obtain ⟨sa, cap6, rfl, _⟩ := o6.len (by decide)
  simp -implicitDefEqProofs (maxSteps := 2000000) (disch := first | with_reducible exact Nat.ne_of_beq_eq_false rfl | exact oneCell_int | exact oneCell_bool | omega | rfl | (simp; done) | fail) only [List.length_cons, List.length_nil, Nat.zero_add, ln32, eq_int, show (((1 : Nat) : Int) == 1) = true from rfl, true_and]
  have l4' : h.le h4 := s4.in 1 rfl
  exact (l4'.trans l5).trans (s6.in 1 rfl)

def row0 (f l g n : Int) : List Slot := [⟨f, f + l + n, 1⟩, ⟨f + l + g, FV, 2⟩]
structure ExOk (f l g : Int) : Prop where
  f0 : 0 ≤ f
  l0 : 0 < l
  g0 : 0 ≤ g
  top : f + l + g + 100 < FV
variable {f l g n : Int}
theorem ex_put2 (o : ExOk f l g) : Resv.putL [⟨f, f + l, 1⟩] 2 (f + l + g) FV = row0 f l g 0 := by
  have h := o.l0
  have h2 := o.g0
  have e1 : touchB 2 (f + l + g) FV ⟨f, f + l, 1⟩ = false := rfl
  unfold Resv.putL
  simp only [mergeL, e1, Bool.false_eq_true, if_false, List.nil_append]
  unfold insAt
  have e2 : decide (f < f + l + g) = true := decide_eq_true (by omega)
  simp [List.takeWhile_cons, List.dropWhile_cons, e2, row0]
theorem ex_put3 (o : ExOk f l g) (h1 : 0 ≤ n) (h2 : n ≤ g) : Resv.putL (row0 f l g 0) 1 f (f + l + n) = row0 f l g n := by
  have h := o.l0
  have h3 := o.g0
  have e1 : touchB 1 f (f + l + n) ⟨f, f + l + 0, 1⟩ = true := touch_iff.2 ⟨rfl, by show f ≤ f + l + n; omega, by show f ≤ f + l + 0; omega⟩
  have e2 : touchB 1 (min f f) (max (f + l + n) (f + l + 0)) ⟨f + l + g, FV, 2⟩ = false := rfl
  unfold Resv.putL row0
  simp only [mergeL, e1, e2, if_true, Bool.false_eq_true, if_false, List.nil_append]
  unfold insAt
  have e3 : decide (f + l + g < min f f) = false := decide_eq_false (by omega)
  simp only [List.takeWhile_cons, List.dropWhile_cons, e3, Bool.false_eq_true, if_false, List.nil_append]
  rw [show min f f = f by omega, show max (f + l + n) (f + l + 0) = f + l + n by omega]

theorem ex_claim1 (o : ExOk f l g) : claimT [[]] 1 [⟨0, f, f + l⟩] = (0, [[⟨f, f + l, 1⟩]]) := by
  have h1 := o.f0
  have h2 := o.l0
  have h3 := o.g0
  have h4 := o.top
  have v : validW ([[]] : Tb).length ⟨0, f, f + l⟩ = true := valid_iff.2 ⟨⟨Int.le_refl 0, by show (0 : Int) < 1; decide⟩, h1, by show f < f + l; omega, by show f + l ≤ FV; omega⟩
  unfold claimT
  simp only [List.all_cons, List.all_nil, v, Bool.and_true, if_true]
  rfl
theorem ex_claim2 (o : ExOk f l g) : claimT [[⟨f, f + l, 1⟩]] 2 [⟨0, f + l + g, FV⟩] = (0, [row0 f l g 0]) := by
  have h1 := o.f0
  have h2 := o.l0
  have h3 := o.g0
  have h4 := o.top
  have v : validW ([[⟨f, f + l, 1⟩]] : Tb).length ⟨0, f + l + g, FV⟩ = true := valid_iff.2 ⟨⟨Int.le_refl 0, by show (0 : Int) < 1; decide⟩, by show 0 ≤ f + l + g; omega, by show f + l + g < FV; omega, by show FV ≤ FV; omega⟩
  have w : freeW [[⟨f, f + l, 1⟩]] 2 ⟨0, f + l + g, FV⟩ = true := free_iff.2 fun s hs _ => by
    simp only [rowT, List.mem_singleton, List.getD_cons_zero, Int.toNat_zero, Int.le_refl, if_true] at hs
    subst hs
    right
    show f + l ≤ f + l + g
    omega
  unfold claimT
  simp only [List.all_cons, List.all_nil, v, w, Bool.and_true, if_true]
  rw [if_neg (by decide)]
  show (0, [Resv.putL [⟨f, f + l, 1⟩] 2 (f + l + g) FV]) = _
  rw [ex_put2 o]

theorem sum_small {a b : Int} (h1 : 0 ≤ a) (h2 : 0 ≤ b) (h3 : a + b ≤ FV) : sumI a b = a + b := by
  unfold sumI cutI
  simp only [FV] at *
  rw [if_neg (by omega)]
  omega
theorem sum_top {b : Int} : sumI FV b = FV := by
  unfold sumI cutI
  simp only [FV]
  split <;> omega

theorem ex_find1 {m a : Int} (h1 : f ≤ a) (h2 : a < f + l + m) : (row0 f l g m).find? (hitB 1 a) = some ⟨f, f + l + m, 1⟩ := by
  unfold row0
  rw [List.find?_cons_of_pos]
  unfold hitB
  simp
  omega
theorem ex_find3 {m a : Int} (h1 : f + l + m ≤ a) : (row0 f l g m).find? (hitB 1 a) = none := by
  rw [List.find?_eq_none]
  intro s hs
  unfold row0 at hs
  simp only [List.mem_cons, List.not_mem_nil, or_false] at hs
  rcases hs with rfl | rfl
  · unfold hitB; simp; omega
  · unfold hitB; simp
theorem ex_find2 {m a : Int} (h1 : f + l + g ≤ a) (h2 : a < FV) : (row0 f l g m).find? (hitB 2 a) = some ⟨f + l + g, FV, 2⟩ := by
  unfold row0
  rw [List.find?_cons_of_neg (by unfold hitB; simp), List.find?_cons_of_pos]
  unfold hitB; simp; omega
theorem ex_free1 {m t : Int} : freeB (row0 f l g m) 1 f t = decide (t ≤ f + l + g ∨ FV ≤ f) := by
  rw [Bool.eq_iff_iff, free_iff, decide_eq_true_iff]
  constructor
  · intro h
    exact h ⟨f + l + g, FV, 2⟩ (by simp [row0]) (by show (2 : Int) ≠ 1; decide)
  · intro h s hs hr
    unfold row0 at hs
    simp only [List.mem_cons, List.not_mem_nil, or_false] at hs
    rcases hs with rfl | rfl
    · exact absurd rfl hr
    · exact h
theorem ex_free2 {m : Int} (h : m ≤ g) : freeB (row0 f l g m) 2 (f + l + g) FV = true := by
  rw [free_iff]
  intro s hs hr
  unfold row0 at hs
  simp only [List.mem_cons, List.not_mem_nil, or_false] at hs
  rcases hs with rfl | rfl
  · right; show f + l + m ≤ f + l + g; omega
  · exact absurd rfl hr

theorem ex_ext1 (o : ExOk f l g) (h1 : 0 ≤ n) (h2 : n < 60) : extendT [row0 f l g 0] 1 0 (f + l - 1) n = if n ≤ g then (0, [row0 f l g n]) else (18, [row0 f l g 0]) := by
  have i1 := o.f0
  have i2 := o.l0
  have i3 := o.g0
  have i4 := o.top
  unfold extendT
  rw [show inT ([row0 f l g 0] : Tb).length 0 = true from rfl, if_pos rfl, show rowT [row0 f l g 0] 0 = row0 f l g 0 from rfl, ex_find1 (by omega) (by omega)]
  simp only
  rw [show f + l + 0 = f + l by omega, sum_small (by omega) h1 (by simp only [FV] at *; omega), ex_free1]
  by_cases hng : n ≤ g
  · rw [if_pos hng, if_pos (decide_eq_true (.inl (by omega)))]
    show (0, [Resv.putL (row0 f l g 0) 1 f (f + l + n)]) = _
    rw [ex_put3 o h1 hng]
  · rw [if_neg hng, if_neg]
    simp only [decide_eq_true_eq, not_or]
    simp only [FV] at *
    omega
theorem ex_ext3 : extendT [row0 f l g n] 1 0 (f + l + n) 1 = (3, [row0 f l g n]) := by
  unfold extendT
  rw [show inT ([row0 f l g n] : Tb).length 0 = true from rfl, if_pos rfl, show rowT [row0 f l g n] 0 = row0 f l g n from rfl, ex_find3 (by omega)]
theorem ex_ext2 (o : ExOk f l g) (h2 : n ≤ g) {y : Int} : (extendT [row0 f l g n] 2 0 (f + l + g) y).1 = 0 := by
  have i1 := o.f0
  have i2 := o.l0
  have i3 := o.g0
  have i4 := o.top
  unfold extendT
  rw [show inT ([row0 f l g n] : Tb).length 0 = true from rfl, if_pos rfl, show rowT [row0 f l g n] 0 = row0 f l g n from rfl, ex_find2 (by omega) (by omega)]
  simp only
  rw [sum_top, ex_free2 h2, if_pos rfl]

end Go.Proofs.Ytbloobepmgmbgaa
