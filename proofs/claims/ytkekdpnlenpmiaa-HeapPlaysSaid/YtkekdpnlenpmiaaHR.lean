/- HeapSorts: what is pushed is popped sorted, those alike in their first order. The walk. -/
import Derived.Test.YtkekdpnlenpmiaaHL
import Derived.Test.YtkekdpnlenpmiaaHLm
set_option linter.unusedSimpArgs false
set_option linter.unusedVariables false
namespace Go.Proofs.Ytkekdpnlenpmiaa
open Go Go.HL

theorem Fr.dis {G h h' : Hp} {hp : Nat} {ob ob' : Option Nat} (f : Fr G h h' hp ob ob') (d : Dis G h) (hh : ∃ o, h hp = some o) (hb : ∀ b, ob = some b → ∃ o, h b = some o) : Dis G h' := by
  intro y o e
  by_cases h1 : y = hp
  · obtain ⟨p, hp'⟩ := hh; rw [h1]; exact d _ _ hp'
  by_cases h2 : ob' = some y
  · rcases f.new with e2 | ⟨b, e2, _, g⟩
    · obtain ⟨p, hp'⟩ := hb y (by rw [← e2]; exact h2)
      exact d _ _ hp'
    · rw [h2] at e2; cases e2; exact g
  · rw [f.same y h1 h2] at e
    exact d _ _ e

theorem HS.sorted {h : Hp} {hp : Nat} {Q : List It} {n : Int} {ob : Option Nat} (a : HS h hp Q n ob) : Q.Pairwise It.le := by
  obtain ⟨_, _, _, _, h, _⟩ := a; exact h
theorem HS.nodup {h : Hp} {hp : Nat} {Q : List It} {n : Int} {ob : Option Nat} (a : HS h hp Q n ob) : (Q.map It.n).Nodup := by
  obtain ⟨_, _, _, _, _, h, _⟩ := a; exact h
theorem HS.rows {h : Hp} {hp : Nat} {Q : List It} {n : Int} {ob : Option Nat} (a : HS h hp Q n ob) : ∀ b, ob = some b → ∃ o, h b = some o := by
  rintro b rfl; exact a.row

/-- The keys put in one by one, each with its place for a name. -/
def qOf (K : List Int) : Nat → List It
  | 0 => []
  | i + 1 => ins ⟨K.getD i 0, i, i⟩ (qOf K i)
theorem qOf_length (K : List Int) : ∀ i, (qOf K i).length = i
  | 0 => rfl
  | i + 1 => by rw [qOf, (ins_perm _ _).length_eq, List.length_cons, qOf_length K i]
theorem qOf_mem {K : List Int} {x : It} : ∀ {i}, x ∈ qOf K i → ∃ j, j < i ∧ x = ⟨K.getD j 0, j, j⟩
  | 0, h => by cases h
  | i + 1, h => by
    rcases List.mem_cons.1 ((ins_perm _ _).mem_iff.1 h) with rfl | h
    · exact ⟨i, by omega, rfl⟩
    · obtain ⟨j, h1, h2⟩ := qOf_mem h
      exact ⟨j, by omega, h2⟩

/-- Which names were told. -/
def seenL (Q : List It) (i n : Nat) : List Bool := (List.range n).map fun j : Nat => decide (∃ x ∈ Q.take i, x.n = (j : Int))
theorem seen_zero (Q : List It) (n : Nat) : List.replicate n false = seenL Q 0 n := by
  unfold seenL
  apply List.ext_getElem
  · simp
  · intro i h1 h2; simp
theorem seen_set {Q : List It} {i n k : Nat} {x : It} (hx : Q[i]? = some x) (hk : x.n = (k : Int)) : (seenL Q i n).set k true = seenL Q (i + 1) n := by
  unfold seenL
  apply List.ext_getElem
  · simp
  · intro j h1 h2
    simp at h1
    rw [List.getElem_set]
    simp only [List.getElem_map, List.getElem_range, List.take_add_one, hx, Option.toList]
    split
    · rename_i e
      subst e
      exact (decide_eq_true ⟨x, by simp, hk⟩).symm
    · rename_i e
      congr 1
      apply propext
      constructor
      · rintro ⟨y, hy, e2⟩; exact ⟨y, List.mem_append_left _ hy, e2⟩
      · rintro ⟨y, hy, e2⟩
        rcases List.mem_append.1 hy with hy | hy
        · exact ⟨y, hy, e2⟩
        · simp at hy; subst hy; exact absurd (by omega) e
theorem seen_not {Q : List It} {i n k : Nat} {x : It} (hx : Q[i]? = some x) (hk : x.n = (k : Int)) (hn : k < n) (hd : (Q.map It.n).Nodup) : (seenL Q i n)[k]? = some false := by
  unfold seenL
  simp [List.getElem?_map, List.getElem?_range hn]
  intro y hy e2
  obtain ⟨j, hj, e⟩ := List.getElem_of_mem hy
  rw [List.length_take] at hj
  rw [List.getElem_take] at e
  obtain ⟨hi, ei⟩ := List.getElem?_eq_some_iff.1 hx
  have := (List.nodup_iff_pairwise_ne.1 hd)
  have h3 := List.pairwise_iff_getElem.1 this j i (by simp; omega) (by simp; omega) (by omega)
  simp at h3
  rw [e, ei] at h3
  omega

def pkC (x : It) : Value := .agg #[.int .i64 x.k, .int .i64 x.m]

set_option maxHeartbeats 4000000 in
theorem sorts_push {G : Hp} {v : Value} {K : List Int} (hv : RdI G v K) (hK : K.length ≤ 400) {KK : Exit → Rg → Hp → Prop} {hp : Nat} (r : Rg) (h : Hp) (g0 : r 0 = v) (g3 : r 3 = .pointer (some ⟨hp, 0, none⟩)) (g4 : r 4 = .int .i64 0)
    (a : HS h hp [] 0 none) (d : Dis G h)
    (H : ∀ r' h' ob, r' 0 = v → r' 3 = .pointer (some ⟨hp, 0, none⟩) → HS h' hp (qOf K K.length) K.length ob → Dis G h' → KK (.exit 0) r' h') : loopP (S3_l8 G) r h KK := by
  refine loop_I (fun m r h => ∃ (i : Nat) (ob : Option Nat), m = K.length - i ∧ i ≤ K.length ∧ r 0 = v ∧ r 3 = .pointer (some ⟨hp, 0, none⟩) ∧ r 4 = .int .i64 i ∧ HS h hp (qOf K i) i ob ∧ Dis G h) ?_
    (m := K.length) ⟨0, none, rfl, Nat.zero_le _, g0, g3, g4, a, d⟩
  rintro m r h ⟨i, ob, rfl, hi, g0, g3, g4, a, d⟩ X HX
  obtain ⟨sa, cap, rfl, hc⟩ := hv
  unfold S3_l8
  simp -implicitDefEqProofs (maxSteps := 2000000) (disch := first | with_reducible exact Nat.ne_of_beq_eq_false rfl | omega | rfl | (simp; done)) only [g0, g4, thenK_exit, opH_sv, ln22, bin_lss]
  refine cond_dec (fun hlt => ?_) (fun hge => ?_)
  · have hlt' : i < K.length := by omega
    rcases hc with rfl | ⟨ad, rfl, hc⟩
    · simp at hlt'
    have hx := hc h d i hlt'
    unfold S3_l8_k9
    simp -implicitDefEqProofs (maxSteps := 2000000) (disch := first | with_reducible exact Nat.ne_of_beq_eq_false rfl | omega | rfl | (simp; done)) only [upd_ne, g0, g4, g3, cf13, cf14, opH_sv, ix22 (Int.natCast_nonneg i) hlt, Int.toNat_natCast, Nat.mul_one, ld3, hx, Option.some.injEq, exists_eq_left']
    refine of_spec.mono ?_
    rintro _ _ ⟨rfl, rfl⟩
    refine (qpush_spec a (by rw [qOf_length]; omega) (by omega) (by omega)).mono ?_
    rintro _ h2 ⟨b, a2, f⟩
    unfold S3_l8_k10
    simp -implicitDefEqProofs (maxSteps := 2000000) (disch := first | with_reducible exact Nat.ne_of_beq_eq_false rfl | omega | rfl | (simp; done)) only [upd_ne, g4, thenK_normal, opH_sv, bin_add, wrap_in]
    refine HX (K.length - (i + 1)) _ _ (by omega) ⟨i + 1, some b, rfl, hlt', ?_, ?_, ?_, ?_, f.dis d a.at a.rows⟩
    · simp -implicitDefEqProofs (maxSteps := 2000000) (disch := first | with_reducible exact Nat.ne_of_beq_eq_false rfl | omega | rfl | (simp; done)) only [upd_ne, g0]
    · simp -implicitDefEqProofs (maxSteps := 2000000) (disch := first | with_reducible exact Nat.ne_of_beq_eq_false rfl | omega | rfl | (simp; done)) only [upd_ne, g3]
    · simp -implicitDefEqProofs (maxSteps := 2000000) (disch := first | with_reducible exact Nat.ne_of_beq_eq_false rfl | omega | rfl | (simp; done)) only [upd_eq]; rfl
    · exact a2
  · obtain rfl : i = K.length := by omega
    exact H _ _ ob (by simp -implicitDefEqProofs (maxSteps := 2000000) (disch := first | with_reducible exact Nat.ne_of_beq_eq_false rfl | omega | rfl | (simp; done)) only [upd_ne, g0]) (by simp -implicitDefEqProofs (maxSteps := 2000000) (disch := first | with_reducible exact Nat.ne_of_beq_eq_false rfl | omega | rfl | (simp; done)) only [upd_ne, g3]) a d

/-- The last thing that was told. -/
def lastL (Q : List It) (i : Nat) : Value × Value := if i = 0 then (.int .i64 0, .int .i64 0) else match Q[i - 1]? with
  | some x => (.int .i64 x.k, .int .i64 x.m)
  | none => (.int .i64 0, .int .i64 0)

set_option maxHeartbeats 4000000 in
theorem sorts_pop {G : Hp} {v : Value} {K : List Int} (hv : RdI G v K) (hK : K.length ≤ 400) {KK : Exit → Rg → Hp → Prop} {hp y z : Nat} {ob : Option Nat} (r : Rg) (h : Hp) (g0 : r 0 = v) (g3 : r 3 = .pointer (some ⟨hp, 0, none⟩))
    (g5 : r 5 = .slice (some ⟨y, 0, none⟩) K.length K.length) (g6 : r 6 = .pointer (some ⟨z, 0, none⟩)) (g7 : r 7 = .int .i64 0)
    (a : HS h hp (qOf K K.length) K.length ob) (d : Dis G h) (hy : h y = some (.cells (boolC.rows (List.replicate K.length false)).toArray 4 (0, 0))) (hz : h z = some (.cells #[.int .i64 0, .int .i64 0] 27 (0, 0)))
    (nyz : y ≠ z) (nhy : y ≠ hp) (nhz : z ≠ hp) (noy : ob ≠ some y) (noz : ob ≠ some z)
    (H : ∀ r' h', r' 3 = .pointer (some ⟨hp, 0, none⟩) → HS h' hp [] K.length ob → KK (.exit 2) r' h') : loopP (S3_l4 G) r h KK := by
  generalize hQ : qOf K K.length = Q at a
  have hQl : Q.length = K.length := by rw [← hQ, qOf_length]
  have hQs : Q.Pairwise It.le := a.sorted
  have hQd : (Q.map It.n).Nodup := a.nodup
  have hQm : ∀ x ∈ Q, ∃ j, j < K.length ∧ x = ⟨K.getD j 0, j, j⟩ := fun x hx => qOf_mem (by rw [hQ]; exact hx)
  refine loop_I (fun m r h => ∃ (i : Nat), m = K.length - i ∧ i ≤ K.length ∧ r 0 = v ∧ r 3 = .pointer (some ⟨hp, 0, none⟩) ∧ r 5 = .slice (some ⟨y, 0, none⟩) K.length K.length ∧ r 6 = .pointer (some ⟨z, 0, none⟩) ∧ r 7 = .int .i64 i ∧
      HS h hp (Q.drop i) K.length ob ∧ Dis G h ∧ h y = some (.cells (boolC.rows (seenL Q i K.length)).toArray 4 (0, 0)) ∧ h z = some (.cells #[(lastL Q i).1, (lastL Q i).2] 27 (0, 0))) ?_
    (m := K.length) ⟨0, rfl, Nat.zero_le _, g0, g3, g5, g6, g7, a, d, by rw [← seen_zero]; exact hy, hz⟩
  rintro m r h ⟨i, rfl, hi, g0, g3, g5, g6, g7, a, d, hy, hz⟩ X HX
  obtain ⟨sa, cap, rfl, hc⟩ := hv
  unfold S3_l4
  simp -implicitDefEqProofs (maxSteps := 2000000) (disch := first | with_reducible exact Nat.ne_of_beq_eq_false rfl | omega | rfl | (simp; done)) only [g0, g7, thenK_exit, opH_sv, ln22, bin_lss]
  refine cond_dec (fun hlt => ?_) (fun hge => ?_)
  · have hlt' : i < K.length := by omega
    rcases hc with rfl | ⟨ad, rfl, hc⟩
    · simp at hlt'
    unfold S3_l4_k5
    simp -implicitDefEqProofs (maxSteps := 2000000) (disch := first | with_reducible exact Nat.ne_of_beq_eq_false rfl | omega | rfl | (simp; done)) only [upd_ne, g3, thenK_ret, pureW_sv, opH_su, opH_sv, al27, cf15]
    refine (qpop_spec a (by rw [List.length_drop]; omega)).mono ?_
    rintro _ h2 ⟨rfl, a2, f⟩
    obtain ⟨x, hx⟩ : ∃ x, Q[i]? = some x := ⟨_, List.getElem?_eq_getElem (by omega)⟩
    obtain ⟨hiQ, hxe⟩ := List.getElem?_eq_some_iff.1 hx
    have hd : Q.drop i = x :: Q.drop (i + 1) := by rw [List.drop_eq_getElem_cons hiQ, hxe]
    rw [hd] at a2 ⊢
    obtain ⟨j, hj, rfl⟩ := hQm x (List.mem_of_getElem? hx)
    have d2 : Dis G h2 := f.dis d a.at a.rows
    have hy2 : h2 y = _ := (f.same y nhy noy).trans hy
    have hz2 : h2 z = _ := (f.same z nhz noz).trans hz
    simp only [List.tail] at a2
    simp only [pkV]
    simp -implicitDefEqProofs (maxSteps := 2000000) (disch := first | with_reducible exact Nat.ne_of_beq_eq_false rfl | omega | rfl | (simp; done)) only [ex1, un_notp, Bool.not_true, pick_fp, gd_ff, pureW_sv, fa27_1p, add_mk, Nat.zero_add, ld3p, ex0, st27w, cell_set_self, List.getElem?_cons_succ, List.getElem?_cons_zero, Option.some.injEq, exists_eq_left', bin_lssp]
    intro w hw gw
    have nyw : y ≠ w := ne_of_new hy2 hw
    have nzw : z ≠ w := ne_of_new hz2 hw
    have nhw : hp ≠ w := by obtain ⟨o, ho⟩ := a2.at; exact ne_of_new ho hw
    have cy : cellIn G h2 ⟨y, j, none⟩ = some (.bool false) := by
      rw [cell_of (look_own hy2)]
      have := boolC.rows_get (t := []) (seen_not hx (k := j) rfl hj hQd) (j := 0) (by decide)
      simpa [boolC] using this
    have cz : ∀ k, cellIn G h2 ⟨z, k, none⟩ = _ := fun k => cell_of (look_own hz2)
    have dw : Dis G (h2.set w (.cells #[.int .i64 (K.getD j 0), .int .i64 j] 27 (0, 0))) := d2.set gw
    have ca := hc _ dw j hj
    generalize hkj : K.getD j 0 = kj at *
    have fin : ∀ r', r' 0 = r 0 → r' 3 = r 3 → r' 5 = r 5 → r' 6 = r 6 → r' 7 = r 7 → r' 8 = .pointer (some ⟨w, 0, none⟩) → S3_l4_k7 G (thenK X KK) r' (h2.set w (.cells #[.int .i64 kj, .int .i64 j] 27 (0, 0))) := by
      intro r' e0 e3 e5 e6 e7 e8
      unfold S3_l4_k7
      have cw : cellIn G (h2.set w (.cells #[.int .i64 kj, .int .i64 j] 27 (0, 0))) ⟨w, 1, none⟩ = some (.int .i64 j) := by rw [cell_set_self]; rfl
      have hb1 : boolC.rows ((seenL Q i K.length).set j true) = (boolC.rows (seenL Q i K.length)).set j (.bool true) := by
        have := boolC.rows_put (t := []) (L := seenL Q i K.length) (i := j) (x := true) (by simp [seenL, hj])
        simp only [List.append_nil] at this
        rw [← this]
        simp [boolC, putL]
      have hbl : (boolC.rows (seenL Q i K.length)).length = K.length := by rw [boolC.rows_length]; simp [seenL, boolC]
      simp -implicitDefEqProofs (maxSteps := 2000000) (disch := first | with_reducible exact Nat.ne_of_beq_eq_false rfl | omega | rfl | (simp; done)) only [e8, e5, g5, opH_su, opH_sv, ld27, add_mk, Nat.add_zero, Nat.zero_add, fa27_1, ld3, cell_set_self, List.getElem?_cons_succ, List.getElem?_cons_zero, Option.some.injEq, exists_eq_left', ix31 (Int.natCast_nonneg j) (show (j : Int) < K.length by omega), Int.toNat_natCast, Nat.mul_one]
      rw [store_past nyw, store1_eq sz4 rfl hy2 (by rw [hbl]; exact hj)]
      simp -implicitDefEqProofs (maxSteps := 2000000) (disch := first | with_reducible exact Nat.ne_of_beq_eq_false rfl | omega | rfl | (simp; done)) only [cell_set_self, List.getElem?_cons_zero, Option.some.injEq, List.getElem?_cons_succ, e6, g6, exists_eq_left']
      have hz3 : (h2.set y (.cells ((boolC.rows (seenL Q i K.length)).set j (.bool true)).toArray 4 (0, 0))) z = some (.cells [(lastL Q i).1, (lastL Q i).2].toArray 27 (0, 0)) := by rw [set_other (Ne.symm nyz)]; exact hz2
      rw [store_past nzw, store_eq sz27 hz3 rfl (by simp) (by simp [cells_agg, oneCell])]
      unfold S3_l4_k6
      simp -implicitDefEqProofs (maxSteps := 2000000) (disch := first | with_reducible exact Nat.ne_of_beq_eq_false rfl | omega | rfl | (simp; done)) only [upd_ne, e7, g7, cells_agg, thenK_normal, opH_sv, bin_add, wrap_in]
      refine HX (K.length - (i + 1)) _ _ (by omega) ⟨i + 1, rfl, hlt', ?_, ?_, ?_, ?_, ?_, ?_, ?_, ?_, ?_⟩
      · simp -implicitDefEqProofs (maxSteps := 2000000) (disch := first | with_reducible exact Nat.ne_of_beq_eq_false rfl | omega | rfl | (simp; done)) only [upd_ne, e0, g0]
      · simp -implicitDefEqProofs (maxSteps := 2000000) (disch := first | with_reducible exact Nat.ne_of_beq_eq_false rfl | omega | rfl | (simp; done)) only [upd_ne, e3, g3]
      · simp -implicitDefEqProofs (maxSteps := 2000000) (disch := first | with_reducible exact Nat.ne_of_beq_eq_false rfl | omega | rfl | (simp; done)) only [upd_ne, e5, g5]
      · simp -implicitDefEqProofs (maxSteps := 2000000) (disch := first | with_reducible exact Nat.ne_of_beq_eq_false rfl | omega | rfl | (simp; done)) only [upd_ne, e6, g6]
      · simp -implicitDefEqProofs (maxSteps := 2000000) (disch := first | with_reducible exact Nat.ne_of_beq_eq_false rfl | omega | rfl | (simp; done)) only [upd_eq]; rfl
      · refine a2.keep ?_ (fun b hb => ?_)
        · rw [set_other nhw, set_other (Ne.symm nhz), set_other (Ne.symm nhy)]
        · obtain ⟨o, ho⟩ := a2.rows b hb
          rw [set_other (ne_of_new ho hw), set_other (fun e => noz (by rw [hb, e])), set_other (fun e => noy (by rw [hb, e]))]
      · exact ((d2.set (d2 _ _ hy2)).set (d2 _ _ hz2)).set gw
      · rw [set_other nyw, set_other nyz, set_self, ← hb1, seen_set hx rfl]
      · rw [set_other nzw, set_self]
        have : lastL Q (i + 1) = (.int .i64 kj, .int .i64 j) := by unfold lastL; rw [if_neg (by omega), show i + 1 - 1 = i by omega, hx]
        rw [this]
        rfl
    by_cases hi0 : i = 0
    · simp -implicitDefEqProofs (maxSteps := 2000000) (disch := first | with_reducible exact Nat.ne_of_beq_eq_false rfl | omega | rfl | (simp; done)) only [dec_f (show ¬(j : Int) < 0 by omega), g0, g5, g7, g6, pick_fp, gd_ff, pureW_sv, ln22p, fa27_1p, add_mk, Nat.zero_add, ld3p, cell_set_self, List.getElem?_cons_succ, List.getElem?_cons_zero, Option.some.injEq, exists_eq_left', bin_geqp, dec_f (show ¬(j : Int) ≥ K.length by omega), ix31p (Int.natCast_nonneg j) (show (j : Int) < K.length by omega), Int.toNat_natCast, Nat.mul_one, ld4p, cell_set_other nyw, cy, ix22p (Int.natCast_nonneg j) (show (j : Int) < K.length by omega), ca, fa27_0p, Nat.add_zero, ne_intp, bne_self_eq_false, bin_gtrp, dec_f (show ¬(i : Int) > 0 by omega), HL.cond_false, gd_ft]
      exact fin _ (by simp -implicitDefEqProofs (maxSteps := 2000000) (disch := first | with_reducible exact Nat.ne_of_beq_eq_false rfl | omega | rfl | (simp; done)) only [upd_ne]) (by simp -implicitDefEqProofs (maxSteps := 2000000) (disch := first | with_reducible exact Nat.ne_of_beq_eq_false rfl | omega | rfl | (simp; done)) only [upd_ne]) (by simp -implicitDefEqProofs (maxSteps := 2000000) (disch := first | with_reducible exact Nat.ne_of_beq_eq_false rfl | omega | rfl | (simp; done)) only [upd_ne]) (by simp -implicitDefEqProofs (maxSteps := 2000000) (disch := first | with_reducible exact Nat.ne_of_beq_eq_false rfl | omega | rfl | (simp; done)) only [upd_ne]) (by simp -implicitDefEqProofs (maxSteps := 2000000) (disch := first | with_reducible exact Nat.ne_of_beq_eq_false rfl | omega | rfl | (simp; done)) only [opH_sv, opH_su, pureW_sv, opH_nil, pureW_nil, pick_t, pick_f, pick_tp, pick_fp, gd_tt, gd_ft, gd_tf, gd_ff, box_new, regs0, regs1, regs2, regs3, regs4, regs5, regs6, cells_agg, cells_int, cells_bool, cells_ptr, cells_slice, cells_string, cells_func, cells_nilFunc, cells_map, retK_ret, retK_normal, resL_tmp, resL_cell, resL_nil0, resL_nil1, resL_nil2, resL_nil3, resC_ptr, ex0, ex1, ex2, ex0p, ex1p, ex2p, HL.cond_true, HL.cond_false, thenK_normal, thenK_ret, thenK_exit, blockK_normal, blockK_ret, blockK_exit, scopeK_normal, scopeK_ret, scopeK_exit, wpH_pure, bin_add, bin_sub, bin_mul, bin_lss, bin_leq, bin_gtr, bin_geq, bin_quo, bin_rem, bin_quop, bin_remp, wrap_in, bin_addp, bin_subp, bin_mulp, bin_lssp, bin_leqp, bin_gtrp, bin_geqp, un_not, un_notp, un_neg, eq_int, ne_int, eq_intp, ne_intp, callV_fn, add_mk, upd_eq, upd_ne, cell_set_self, Nat.zero_add, Nat.add_zero, Option.some.injEq, exists_eq_left', List.getElem?_cons_succ, List.getElem?_cons_zero, true_and, and_true, bne_self_eq_false, beq_self_eq_true, Bool.not_true, Bool.not_false, Bool.and_true, Bool.and_self, Bool.and_false, Bool.true_and, List.length_cons, List.length_nil, ne_eq, not_false_eq_true, Nat.reduceAdd, Nat.reduceMul, if_true, if_false, oneCell_int, oneCell_bool, oneCell_ptr, oneCell_slice, oneCell_string, oneCell_func, oneCell_map, Int.toNat_natCast, List.set_cons_zero, List.set_cons_succ, Nat.lt_irrefl, Nat.zero_lt_succ, Nat.succ_lt_succ_iff, fa27_0, fa27_0p, fa27_1, fa27_1p, fa53_0, fa53_0p, fa55_0, fa55_0p, fa55_1, fa55_1p, fa63_0, fa63_0p, fa63_1, fa63_1p, fa63_2, fa63_2p, fa65_0, fa65_0p, fa65_1, fa65_1p, fa70_0, fa70_0p, fa70_1, fa70_1p, fa70_2, fa70_2p, fa72_0, fa72_0p, fa72_1, fa72_1p, ld3, ld3p, ld4, ld4p, ld9, ld9p, ld24, ld24p, ld27, ld27p, ld28, ld28p, ld39, ld39p, ld44, ld44p, ld55, ld55p, ld61, ld61p, ld65, ld65p, ld68, ld68p, ld72, ld72p, st3s, st4s, st9s, st27w, st44s, st55w, st61s, st65w, st68s, st72w, ix22, ix22p, ix31, ix31p, ix36, ix36p, ix44, ix44p, ix50, ix50p, ix61, ix61p, ix68, ix68p, ln9, ln9p, ln22, ln22p, ln31, ln31p, ln36, ln36p, ln44, ln44p, ln50, ln50p, ln61, ln61p, ln68, ln68p, al3, al27, al44, al55, al65, al72, cf10, cf11, cf12, cf13, cf14, cf15, cf16, cf17, cf18, cf19, cf20, cf21, cf22, cf23, cf24, cf25, cf26, cf27, cf28, cf29, cf30, cf31, cf32, cf33, cf34, cf35, cf36, cf37, cf38, cf39, cf40, cf41, cf42, cf43, cf44, cf45, cf46, cf47, bd27_, bd27_p, bd27_0_1, bd27_0_1p, bd53_, bd53_p, bd53_0, bd53_0p, bd63_0, bd63_0p, bd63_0_1_2, bd63_0_1_2p, bd65_, bd65_p, bd65_0_1, bd65_0_1p, bd70_0, bd70_0p, bd72_, bd72_p, bd72_0_1, bd72_0_1p, bd77_0_1, bd77_0_1p, bs61_1_0, bs68_1_0, bs44_1_0, bs61_0_, eq9, eq9p, eq24n, eq24np, eq24s, eq24sp, eq27, eq27p, eq28n, eq28np, eq28s, eq28sp, eq37n, eq37np, eq37s, eq37sp, eq39n, eq39np, eq39s, eq39sp, eq74n, eq74np, eq74s, eq74sp, ne4, ne4p, ne27, ne27p]) (by simp -implicitDefEqProofs (maxSteps := 2000000) (disch := first | with_reducible exact Nat.ne_of_beq_eq_false rfl | omega | rfl | (simp; done)) only [opH_sv, opH_su, pureW_sv, opH_nil, pureW_nil, pick_t, pick_f, pick_tp, pick_fp, gd_tt, gd_ft, gd_tf, gd_ff, box_new, regs0, regs1, regs2, regs3, regs4, regs5, regs6, cells_agg, cells_int, cells_bool, cells_ptr, cells_slice, cells_string, cells_func, cells_nilFunc, cells_map, retK_ret, retK_normal, resL_tmp, resL_cell, resL_nil0, resL_nil1, resL_nil2, resL_nil3, resC_ptr, ex0, ex1, ex2, ex0p, ex1p, ex2p, HL.cond_true, HL.cond_false, thenK_normal, thenK_ret, thenK_exit, blockK_normal, blockK_ret, blockK_exit, scopeK_normal, scopeK_ret, scopeK_exit, wpH_pure, bin_add, bin_sub, bin_mul, bin_lss, bin_leq, bin_gtr, bin_geq, bin_quo, bin_rem, bin_quop, bin_remp, wrap_in, bin_addp, bin_subp, bin_mulp, bin_lssp, bin_leqp, bin_gtrp, bin_geqp, un_not, un_notp, un_neg, eq_int, ne_int, eq_intp, ne_intp, callV_fn, add_mk, upd_eq, upd_ne, cell_set_self, Nat.zero_add, Nat.add_zero, Option.some.injEq, exists_eq_left', List.getElem?_cons_succ, List.getElem?_cons_zero, true_and, and_true, bne_self_eq_false, beq_self_eq_true, Bool.not_true, Bool.not_false, Bool.and_true, Bool.and_self, Bool.and_false, Bool.true_and, List.length_cons, List.length_nil, ne_eq, not_false_eq_true, Nat.reduceAdd, Nat.reduceMul, if_true, if_false, oneCell_int, oneCell_bool, oneCell_ptr, oneCell_slice, oneCell_string, oneCell_func, oneCell_map, Int.toNat_natCast, List.set_cons_zero, List.set_cons_succ, Nat.lt_irrefl, Nat.zero_lt_succ, Nat.succ_lt_succ_iff, fa27_0, fa27_0p, fa27_1, fa27_1p, fa53_0, fa53_0p, fa55_0, fa55_0p, fa55_1, fa55_1p, fa63_0, fa63_0p, fa63_1, fa63_1p, fa63_2, fa63_2p, fa65_0, fa65_0p, fa65_1, fa65_1p, fa70_0, fa70_0p, fa70_1, fa70_1p, fa70_2, fa70_2p, fa72_0, fa72_0p, fa72_1, fa72_1p, ld3, ld3p, ld4, ld4p, ld9, ld9p, ld24, ld24p, ld27, ld27p, ld28, ld28p, ld39, ld39p, ld44, ld44p, ld55, ld55p, ld61, ld61p, ld65, ld65p, ld68, ld68p, ld72, ld72p, st3s, st4s, st9s, st27w, st44s, st55w, st61s, st65w, st68s, st72w, ix22, ix22p, ix31, ix31p, ix36, ix36p, ix44, ix44p, ix50, ix50p, ix61, ix61p, ix68, ix68p, ln9, ln9p, ln22, ln22p, ln31, ln31p, ln36, ln36p, ln44, ln44p, ln50, ln50p, ln61, ln61p, ln68, ln68p, al3, al27, al44, al55, al65, al72, cf10, cf11, cf12, cf13, cf14, cf15, cf16, cf17, cf18, cf19, cf20, cf21, cf22, cf23, cf24, cf25, cf26, cf27, cf28, cf29, cf30, cf31, cf32, cf33, cf34, cf35, cf36, cf37, cf38, cf39, cf40, cf41, cf42, cf43, cf44, cf45, cf46, cf47, bd27_, bd27_p, bd27_0_1, bd27_0_1p, bd53_, bd53_p, bd53_0, bd53_0p, bd63_0, bd63_0p, bd63_0_1_2, bd63_0_1_2p, bd65_, bd65_p, bd65_0_1, bd65_0_1p, bd70_0, bd70_0p, bd72_, bd72_p, bd72_0_1, bd72_0_1p, bd77_0_1, bd77_0_1p, bs61_1_0, bs68_1_0, bs44_1_0, bs61_0_, eq9, eq9p, eq24n, eq24np, eq24s, eq24sp, eq27, eq27p, eq28n, eq28np, eq28s, eq28sp, eq37n, eq37np, eq37s, eq37sp, eq39n, eq39np, eq39s, eq39sp, eq74n, eq74np, eq74s, eq74sp, ne4, ne4p, ne27, ne27p])
    · obtain ⟨x', hx'⟩ : ∃ x, Q[i - 1]? = some x := ⟨_, List.getElem?_eq_getElem (by omega)⟩
      obtain ⟨hiQ', hxe'⟩ := List.getElem?_eq_some_iff.1 hx'
      have hle := (List.pairwise_iff_getElem.1 hQs) (i - 1) i hiQ' hiQ (by omega)
      rw [hxe, hxe', le_iff] at hle
      obtain ⟨j', hj', rfl⟩ := hQm x' (List.mem_of_getElem? hx')
      generalize hkj' : K.getD j' 0 = kj' at *
      simp only at hle
      have hl2 : lastL Q i = (.int .i64 kj', .int .i64 j') := by unfold lastL; rw [if_neg hi0, hx']
      rw [hl2] at cz
      by_cases heq : kj = kj'
      · subst heq
        simp -implicitDefEqProofs (maxSteps := 2000000) (disch := first | with_reducible exact Nat.ne_of_beq_eq_false rfl | omega | rfl | (simp; done)) only [dec_f (show ¬(j : Int) < 0 by omega), g0, g5, g7, g6, pick_fp, gd_ff, pureW_sv, ln22p, fa27_1p, add_mk, Nat.zero_add, ld3p, cell_set_self, List.getElem?_cons_succ, List.getElem?_cons_zero, Option.some.injEq, exists_eq_left', bin_geqp, dec_f (show ¬(j : Int) ≥ K.length by omega), ix31p (Int.natCast_nonneg j) (show (j : Int) < K.length by omega), Int.toNat_natCast, Nat.mul_one, ld4p, cell_set_other nyw, cy, ix22p (Int.natCast_nonneg j) (show (j : Int) < K.length by omega), ca, fa27_0p, Nat.add_zero, ne_intp, bne_self_eq_false, bin_gtrp, dec_t (show (i : Int) > 0 by omega), pick_tp, gd_tt, cell_set_other nzw, cz, bin_lssp, dec_f (show ¬kj < kj by omega), eq_intp, beq_self_eq_true, dec_f (show ¬(j : Int) < j' by omega), HL.cond_false]
        exact fin _ (by simp -implicitDefEqProofs (maxSteps := 2000000) (disch := first | with_reducible exact Nat.ne_of_beq_eq_false rfl | omega | rfl | (simp; done)) only [upd_ne]) (by simp -implicitDefEqProofs (maxSteps := 2000000) (disch := first | with_reducible exact Nat.ne_of_beq_eq_false rfl | omega | rfl | (simp; done)) only [upd_ne]) (by simp -implicitDefEqProofs (maxSteps := 2000000) (disch := first | with_reducible exact Nat.ne_of_beq_eq_false rfl | omega | rfl | (simp; done)) only [upd_ne]) (by simp -implicitDefEqProofs (maxSteps := 2000000) (disch := first | with_reducible exact Nat.ne_of_beq_eq_false rfl | omega | rfl | (simp; done)) only [upd_ne]) (by simp -implicitDefEqProofs (maxSteps := 2000000) (disch := first | with_reducible exact Nat.ne_of_beq_eq_false rfl | omega | rfl | (simp; done)) only [opH_sv, opH_su, pureW_sv, opH_nil, pureW_nil, pick_t, pick_f, pick_tp, pick_fp, gd_tt, gd_ft, gd_tf, gd_ff, box_new, regs0, regs1, regs2, regs3, regs4, regs5, regs6, cells_agg, cells_int, cells_bool, cells_ptr, cells_slice, cells_string, cells_func, cells_nilFunc, cells_map, retK_ret, retK_normal, resL_tmp, resL_cell, resL_nil0, resL_nil1, resL_nil2, resL_nil3, resC_ptr, ex0, ex1, ex2, ex0p, ex1p, ex2p, HL.cond_true, HL.cond_false, thenK_normal, thenK_ret, thenK_exit, blockK_normal, blockK_ret, blockK_exit, scopeK_normal, scopeK_ret, scopeK_exit, wpH_pure, bin_add, bin_sub, bin_mul, bin_lss, bin_leq, bin_gtr, bin_geq, bin_quo, bin_rem, bin_quop, bin_remp, wrap_in, bin_addp, bin_subp, bin_mulp, bin_lssp, bin_leqp, bin_gtrp, bin_geqp, un_not, un_notp, un_neg, eq_int, ne_int, eq_intp, ne_intp, callV_fn, add_mk, upd_eq, upd_ne, cell_set_self, Nat.zero_add, Nat.add_zero, Option.some.injEq, exists_eq_left', List.getElem?_cons_succ, List.getElem?_cons_zero, true_and, and_true, bne_self_eq_false, beq_self_eq_true, Bool.not_true, Bool.not_false, Bool.and_true, Bool.and_self, Bool.and_false, Bool.true_and, List.length_cons, List.length_nil, ne_eq, not_false_eq_true, Nat.reduceAdd, Nat.reduceMul, if_true, if_false, oneCell_int, oneCell_bool, oneCell_ptr, oneCell_slice, oneCell_string, oneCell_func, oneCell_map, Int.toNat_natCast, List.set_cons_zero, List.set_cons_succ, Nat.lt_irrefl, Nat.zero_lt_succ, Nat.succ_lt_succ_iff, fa27_0, fa27_0p, fa27_1, fa27_1p, fa53_0, fa53_0p, fa55_0, fa55_0p, fa55_1, fa55_1p, fa63_0, fa63_0p, fa63_1, fa63_1p, fa63_2, fa63_2p, fa65_0, fa65_0p, fa65_1, fa65_1p, fa70_0, fa70_0p, fa70_1, fa70_1p, fa70_2, fa70_2p, fa72_0, fa72_0p, fa72_1, fa72_1p, ld3, ld3p, ld4, ld4p, ld9, ld9p, ld24, ld24p, ld27, ld27p, ld28, ld28p, ld39, ld39p, ld44, ld44p, ld55, ld55p, ld61, ld61p, ld65, ld65p, ld68, ld68p, ld72, ld72p, st3s, st4s, st9s, st27w, st44s, st55w, st61s, st65w, st68s, st72w, ix22, ix22p, ix31, ix31p, ix36, ix36p, ix44, ix44p, ix50, ix50p, ix61, ix61p, ix68, ix68p, ln9, ln9p, ln22, ln22p, ln31, ln31p, ln36, ln36p, ln44, ln44p, ln50, ln50p, ln61, ln61p, ln68, ln68p, al3, al27, al44, al55, al65, al72, cf10, cf11, cf12, cf13, cf14, cf15, cf16, cf17, cf18, cf19, cf20, cf21, cf22, cf23, cf24, cf25, cf26, cf27, cf28, cf29, cf30, cf31, cf32, cf33, cf34, cf35, cf36, cf37, cf38, cf39, cf40, cf41, cf42, cf43, cf44, cf45, cf46, cf47, bd27_, bd27_p, bd27_0_1, bd27_0_1p, bd53_, bd53_p, bd53_0, bd53_0p, bd63_0, bd63_0p, bd63_0_1_2, bd63_0_1_2p, bd65_, bd65_p, bd65_0_1, bd65_0_1p, bd70_0, bd70_0p, bd72_, bd72_p, bd72_0_1, bd72_0_1p, bd77_0_1, bd77_0_1p, bs61_1_0, bs68_1_0, bs44_1_0, bs61_0_, eq9, eq9p, eq24n, eq24np, eq24s, eq24sp, eq27, eq27p, eq28n, eq28np, eq28s, eq28sp, eq37n, eq37np, eq37s, eq37sp, eq39n, eq39np, eq39s, eq39sp, eq74n, eq74np, eq74s, eq74sp, ne4, ne4p, ne27, ne27p]) (by simp -implicitDefEqProofs (maxSteps := 2000000) (disch := first | with_reducible exact Nat.ne_of_beq_eq_false rfl | omega | rfl | (simp; done)) only [opH_sv, opH_su, pureW_sv, opH_nil, pureW_nil, pick_t, pick_f, pick_tp, pick_fp, gd_tt, gd_ft, gd_tf, gd_ff, box_new, regs0, regs1, regs2, regs3, regs4, regs5, regs6, cells_agg, cells_int, cells_bool, cells_ptr, cells_slice, cells_string, cells_func, cells_nilFunc, cells_map, retK_ret, retK_normal, resL_tmp, resL_cell, resL_nil0, resL_nil1, resL_nil2, resL_nil3, resC_ptr, ex0, ex1, ex2, ex0p, ex1p, ex2p, HL.cond_true, HL.cond_false, thenK_normal, thenK_ret, thenK_exit, blockK_normal, blockK_ret, blockK_exit, scopeK_normal, scopeK_ret, scopeK_exit, wpH_pure, bin_add, bin_sub, bin_mul, bin_lss, bin_leq, bin_gtr, bin_geq, bin_quo, bin_rem, bin_quop, bin_remp, wrap_in, bin_addp, bin_subp, bin_mulp, bin_lssp, bin_leqp, bin_gtrp, bin_geqp, un_not, un_notp, un_neg, eq_int, ne_int, eq_intp, ne_intp, callV_fn, add_mk, upd_eq, upd_ne, cell_set_self, Nat.zero_add, Nat.add_zero, Option.some.injEq, exists_eq_left', List.getElem?_cons_succ, List.getElem?_cons_zero, true_and, and_true, bne_self_eq_false, beq_self_eq_true, Bool.not_true, Bool.not_false, Bool.and_true, Bool.and_self, Bool.and_false, Bool.true_and, List.length_cons, List.length_nil, ne_eq, not_false_eq_true, Nat.reduceAdd, Nat.reduceMul, if_true, if_false, oneCell_int, oneCell_bool, oneCell_ptr, oneCell_slice, oneCell_string, oneCell_func, oneCell_map, Int.toNat_natCast, List.set_cons_zero, List.set_cons_succ, Nat.lt_irrefl, Nat.zero_lt_succ, Nat.succ_lt_succ_iff, fa27_0, fa27_0p, fa27_1, fa27_1p, fa53_0, fa53_0p, fa55_0, fa55_0p, fa55_1, fa55_1p, fa63_0, fa63_0p, fa63_1, fa63_1p, fa63_2, fa63_2p, fa65_0, fa65_0p, fa65_1, fa65_1p, fa70_0, fa70_0p, fa70_1, fa70_1p, fa70_2, fa70_2p, fa72_0, fa72_0p, fa72_1, fa72_1p, ld3, ld3p, ld4, ld4p, ld9, ld9p, ld24, ld24p, ld27, ld27p, ld28, ld28p, ld39, ld39p, ld44, ld44p, ld55, ld55p, ld61, ld61p, ld65, ld65p, ld68, ld68p, ld72, ld72p, st3s, st4s, st9s, st27w, st44s, st55w, st61s, st65w, st68s, st72w, ix22, ix22p, ix31, ix31p, ix36, ix36p, ix44, ix44p, ix50, ix50p, ix61, ix61p, ix68, ix68p, ln9, ln9p, ln22, ln22p, ln31, ln31p, ln36, ln36p, ln44, ln44p, ln50, ln50p, ln61, ln61p, ln68, ln68p, al3, al27, al44, al55, al65, al72, cf10, cf11, cf12, cf13, cf14, cf15, cf16, cf17, cf18, cf19, cf20, cf21, cf22, cf23, cf24, cf25, cf26, cf27, cf28, cf29, cf30, cf31, cf32, cf33, cf34, cf35, cf36, cf37, cf38, cf39, cf40, cf41, cf42, cf43, cf44, cf45, cf46, cf47, bd27_, bd27_p, bd27_0_1, bd27_0_1p, bd53_, bd53_p, bd53_0, bd53_0p, bd63_0, bd63_0p, bd63_0_1_2, bd63_0_1_2p, bd65_, bd65_p, bd65_0_1, bd65_0_1p, bd70_0, bd70_0p, bd72_, bd72_p, bd72_0_1, bd72_0_1p, bd77_0_1, bd77_0_1p, bs61_1_0, bs68_1_0, bs44_1_0, bs61_0_, eq9, eq9p, eq24n, eq24np, eq24s, eq24sp, eq27, eq27p, eq28n, eq28np, eq28s, eq28sp, eq37n, eq37np, eq37s, eq37sp, eq39n, eq39np, eq39s, eq39sp, eq74n, eq74np, eq74s, eq74sp, ne4, ne4p, ne27, ne27p])
      · simp -implicitDefEqProofs (maxSteps := 2000000) (disch := first | with_reducible exact Nat.ne_of_beq_eq_false rfl | omega | rfl | (simp; done)) only [dec_f (show ¬(j : Int) < 0 by omega), g0, g5, g7, g6, pick_fp, gd_ff, pureW_sv, ln22p, fa27_1p, add_mk, Nat.zero_add, ld3p, cell_set_self, List.getElem?_cons_succ, List.getElem?_cons_zero, Option.some.injEq, exists_eq_left', bin_geqp, dec_f (show ¬(j : Int) ≥ K.length by omega), ix31p (Int.natCast_nonneg j) (show (j : Int) < K.length by omega), Int.toNat_natCast, Nat.mul_one, ld4p, cell_set_other nyw, cy, ix22p (Int.natCast_nonneg j) (show (j : Int) < K.length by omega), ca, fa27_0p, Nat.add_zero, ne_intp, bne_self_eq_false, bin_gtrp, dec_t (show (i : Int) > 0 by omega), pick_tp, gd_tt, cell_set_other nzw, cz, bin_lssp, dec_f (show ¬kj < kj' by omega), eq_intp, beq_eq_false_iff_ne.2 heq, HL.cond_false, gd_ft]
        exact fin _ (by simp -implicitDefEqProofs (maxSteps := 2000000) (disch := first | with_reducible exact Nat.ne_of_beq_eq_false rfl | omega | rfl | (simp; done)) only [upd_ne]) (by simp -implicitDefEqProofs (maxSteps := 2000000) (disch := first | with_reducible exact Nat.ne_of_beq_eq_false rfl | omega | rfl | (simp; done)) only [upd_ne]) (by simp -implicitDefEqProofs (maxSteps := 2000000) (disch := first | with_reducible exact Nat.ne_of_beq_eq_false rfl | omega | rfl | (simp; done)) only [upd_ne]) (by simp -implicitDefEqProofs (maxSteps := 2000000) (disch := first | with_reducible exact Nat.ne_of_beq_eq_false rfl | omega | rfl | (simp; done)) only [upd_ne]) (by simp -implicitDefEqProofs (maxSteps := 2000000) (disch := first | with_reducible exact Nat.ne_of_beq_eq_false rfl | omega | rfl | (simp; done)) only [opH_sv, opH_su, pureW_sv, opH_nil, pureW_nil, pick_t, pick_f, pick_tp, pick_fp, gd_tt, gd_ft, gd_tf, gd_ff, box_new, regs0, regs1, regs2, regs3, regs4, regs5, regs6, cells_agg, cells_int, cells_bool, cells_ptr, cells_slice, cells_string, cells_func, cells_nilFunc, cells_map, retK_ret, retK_normal, resL_tmp, resL_cell, resL_nil0, resL_nil1, resL_nil2, resL_nil3, resC_ptr, ex0, ex1, ex2, ex0p, ex1p, ex2p, HL.cond_true, HL.cond_false, thenK_normal, thenK_ret, thenK_exit, blockK_normal, blockK_ret, blockK_exit, scopeK_normal, scopeK_ret, scopeK_exit, wpH_pure, bin_add, bin_sub, bin_mul, bin_lss, bin_leq, bin_gtr, bin_geq, bin_quo, bin_rem, bin_quop, bin_remp, wrap_in, bin_addp, bin_subp, bin_mulp, bin_lssp, bin_leqp, bin_gtrp, bin_geqp, un_not, un_notp, un_neg, eq_int, ne_int, eq_intp, ne_intp, callV_fn, add_mk, upd_eq, upd_ne, cell_set_self, Nat.zero_add, Nat.add_zero, Option.some.injEq, exists_eq_left', List.getElem?_cons_succ, List.getElem?_cons_zero, true_and, and_true, bne_self_eq_false, beq_self_eq_true, Bool.not_true, Bool.not_false, Bool.and_true, Bool.and_self, Bool.and_false, Bool.true_and, List.length_cons, List.length_nil, ne_eq, not_false_eq_true, Nat.reduceAdd, Nat.reduceMul, if_true, if_false, oneCell_int, oneCell_bool, oneCell_ptr, oneCell_slice, oneCell_string, oneCell_func, oneCell_map, Int.toNat_natCast, List.set_cons_zero, List.set_cons_succ, Nat.lt_irrefl, Nat.zero_lt_succ, Nat.succ_lt_succ_iff, fa27_0, fa27_0p, fa27_1, fa27_1p, fa53_0, fa53_0p, fa55_0, fa55_0p, fa55_1, fa55_1p, fa63_0, fa63_0p, fa63_1, fa63_1p, fa63_2, fa63_2p, fa65_0, fa65_0p, fa65_1, fa65_1p, fa70_0, fa70_0p, fa70_1, fa70_1p, fa70_2, fa70_2p, fa72_0, fa72_0p, fa72_1, fa72_1p, ld3, ld3p, ld4, ld4p, ld9, ld9p, ld24, ld24p, ld27, ld27p, ld28, ld28p, ld39, ld39p, ld44, ld44p, ld55, ld55p, ld61, ld61p, ld65, ld65p, ld68, ld68p, ld72, ld72p, st3s, st4s, st9s, st27w, st44s, st55w, st61s, st65w, st68s, st72w, ix22, ix22p, ix31, ix31p, ix36, ix36p, ix44, ix44p, ix50, ix50p, ix61, ix61p, ix68, ix68p, ln9, ln9p, ln22, ln22p, ln31, ln31p, ln36, ln36p, ln44, ln44p, ln50, ln50p, ln61, ln61p, ln68, ln68p, al3, al27, al44, al55, al65, al72, cf10, cf11, cf12, cf13, cf14, cf15, cf16, cf17, cf18, cf19, cf20, cf21, cf22, cf23, cf24, cf25, cf26, cf27, cf28, cf29, cf30, cf31, cf32, cf33, cf34, cf35, cf36, cf37, cf38, cf39, cf40, cf41, cf42, cf43, cf44, cf45, cf46, cf47, bd27_, bd27_p, bd27_0_1, bd27_0_1p, bd53_, bd53_p, bd53_0, bd53_0p, bd63_0, bd63_0p, bd63_0_1_2, bd63_0_1_2p, bd65_, bd65_p, bd65_0_1, bd65_0_1p, bd70_0, bd70_0p, bd72_, bd72_p, bd72_0_1, bd72_0_1p, bd77_0_1, bd77_0_1p, bs61_1_0, bs68_1_0, bs44_1_0, bs61_0_, eq9, eq9p, eq24n, eq24np, eq24s, eq24sp, eq27, eq27p, eq28n, eq28np, eq28s, eq28sp, eq37n, eq37np, eq37s, eq37sp, eq39n, eq39np, eq39s, eq39sp, eq74n, eq74np, eq74s, eq74sp, ne4, ne4p, ne27, ne27p]) (by simp -implicitDefEqProofs (maxSteps := 2000000) (disch := first | with_reducible exact Nat.ne_of_beq_eq_false rfl | omega | rfl | (simp; done)) only [opH_sv, opH_su, pureW_sv, opH_nil, pureW_nil, pick_t, pick_f, pick_tp, pick_fp, gd_tt, gd_ft, gd_tf, gd_ff, box_new, regs0, regs1, regs2, regs3, regs4, regs5, regs6, cells_agg, cells_int, cells_bool, cells_ptr, cells_slice, cells_string, cells_func, cells_nilFunc, cells_map, retK_ret, retK_normal, resL_tmp, resL_cell, resL_nil0, resL_nil1, resL_nil2, resL_nil3, resC_ptr, ex0, ex1, ex2, ex0p, ex1p, ex2p, HL.cond_true, HL.cond_false, thenK_normal, thenK_ret, thenK_exit, blockK_normal, blockK_ret, blockK_exit, scopeK_normal, scopeK_ret, scopeK_exit, wpH_pure, bin_add, bin_sub, bin_mul, bin_lss, bin_leq, bin_gtr, bin_geq, bin_quo, bin_rem, bin_quop, bin_remp, wrap_in, bin_addp, bin_subp, bin_mulp, bin_lssp, bin_leqp, bin_gtrp, bin_geqp, un_not, un_notp, un_neg, eq_int, ne_int, eq_intp, ne_intp, callV_fn, add_mk, upd_eq, upd_ne, cell_set_self, Nat.zero_add, Nat.add_zero, Option.some.injEq, exists_eq_left', List.getElem?_cons_succ, List.getElem?_cons_zero, true_and, and_true, bne_self_eq_false, beq_self_eq_true, Bool.not_true, Bool.not_false, Bool.and_true, Bool.and_self, Bool.and_false, Bool.true_and, List.length_cons, List.length_nil, ne_eq, not_false_eq_true, Nat.reduceAdd, Nat.reduceMul, if_true, if_false, oneCell_int, oneCell_bool, oneCell_ptr, oneCell_slice, oneCell_string, oneCell_func, oneCell_map, Int.toNat_natCast, List.set_cons_zero, List.set_cons_succ, Nat.lt_irrefl, Nat.zero_lt_succ, Nat.succ_lt_succ_iff, fa27_0, fa27_0p, fa27_1, fa27_1p, fa53_0, fa53_0p, fa55_0, fa55_0p, fa55_1, fa55_1p, fa63_0, fa63_0p, fa63_1, fa63_1p, fa63_2, fa63_2p, fa65_0, fa65_0p, fa65_1, fa65_1p, fa70_0, fa70_0p, fa70_1, fa70_1p, fa70_2, fa70_2p, fa72_0, fa72_0p, fa72_1, fa72_1p, ld3, ld3p, ld4, ld4p, ld9, ld9p, ld24, ld24p, ld27, ld27p, ld28, ld28p, ld39, ld39p, ld44, ld44p, ld55, ld55p, ld61, ld61p, ld65, ld65p, ld68, ld68p, ld72, ld72p, st3s, st4s, st9s, st27w, st44s, st55w, st61s, st65w, st68s, st72w, ix22, ix22p, ix31, ix31p, ix36, ix36p, ix44, ix44p, ix50, ix50p, ix61, ix61p, ix68, ix68p, ln9, ln9p, ln22, ln22p, ln31, ln31p, ln36, ln36p, ln44, ln44p, ln50, ln50p, ln61, ln61p, ln68, ln68p, al3, al27, al44, al55, al65, al72, cf10, cf11, cf12, cf13, cf14, cf15, cf16, cf17, cf18, cf19, cf20, cf21, cf22, cf23, cf24, cf25, cf26, cf27, cf28, cf29, cf30, cf31, cf32, cf33, cf34, cf35, cf36, cf37, cf38, cf39, cf40, cf41, cf42, cf43, cf44, cf45, cf46, cf47, bd27_, bd27_p, bd27_0_1, bd27_0_1p, bd53_, bd53_p, bd53_0, bd53_0p, bd63_0, bd63_0p, bd63_0_1_2, bd63_0_1_2p, bd65_, bd65_p, bd65_0_1, bd65_0_1p, bd70_0, bd70_0p, bd72_, bd72_p, bd72_0_1, bd72_0_1p, bd77_0_1, bd77_0_1p, bs61_1_0, bs68_1_0, bs44_1_0, bs61_0_, eq9, eq9p, eq24n, eq24np, eq24s, eq24sp, eq27, eq27p, eq28n, eq28np, eq28s, eq28sp, eq37n, eq37np, eq37s, eq37sp, eq39n, eq39np, eq39s, eq39sp, eq74n, eq74np, eq74s, eq74sp, ne4, ne4p, ne27, ne27p])
  · obtain rfl : i = K.length := by omega
    rw [List.drop_of_length_le (by omega)] at a
    exact H _ _ (by simp -implicitDefEqProofs (maxSteps := 2000000) (disch := first | with_reducible exact Nat.ne_of_beq_eq_false rfl | omega | rfl | (simp; done)) only [upd_ne, g3]) a


end Go.Proofs.Ytkekdpnlenpmiaa
