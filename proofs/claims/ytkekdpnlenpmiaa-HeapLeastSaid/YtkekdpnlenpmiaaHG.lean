/- HeapLeast: pushed and popped in turn. The walk. -/
import Derived.Test.YtkekdpnlenpmiaaHW
set_option linter.unusedSimpArgs false
set_option linter.unusedVariables false
namespace Go.Proofs.Ytkekdpnlenpmiaa
open Go Go.HL

def BoolR (cs : List Value) (b : Bool) : Prop := cs = [.bool b]

theorem count_set_t : ∀ {B : List Bool} {i : Nat}, B[i]? = some false → (B.set i true).count true = B.count true + 1
  | [], i, h => by simp at h
  | b :: B, 0, h => by simp at h; subst h; simp
  | b :: B, i + 1, h => by
    simp only [List.getElem?_cons_succ] at h
    simp only [List.set_cons_succ, List.count_cons, count_set_t h]
    omega
theorem count_set_f : ∀ {B : List Bool} {i : Nat}, B[i]? = some true → (B.set i false).count true + 1 = B.count true
  | [], i, h => by simp at h
  | b :: B, 0, h => by simp at h; subst h; simp
  | b :: B, i + 1, h => by
    simp only [List.getElem?_cons_succ] at h
    have := count_set_f h
    simp only [List.set_cons_succ, List.count_cons]
    omega

/-- Which are in. -/
structure InB (Q : List It) (B : List Bool) (n : Nat) : Prop where
  len : B.length = n
  at_ : ∀ j, j < n → B[j]? = some (decide (∃ x ∈ Q, x.n = (j : Int)))
  cnt : B.count true = Q.length

theorem InB.start (n : Nat) : InB [] (List.replicate n false) n :=
  ⟨by simp, fun j hj => by simp [List.getElem?_replicate, hj], by simp [List.count_replicate]⟩

theorem InB.push {Q : List It} {B : List Bool} {n i : Nat} (b : InB Q B n) (hi : i < n) (hQ : ∀ x ∈ Q, x.n < (i : Int)) {k m : Int} : InB (ins ⟨k, m, i⟩ Q) (B.set i true) n := by
  have hf : B[i]? = some false := by
    rw [b.at_ i hi]
    congr 1
    apply dec_f
    rintro ⟨x, hx, e⟩
    have := hQ x hx
    omega
  refine ⟨by simp [b.len], fun j hj => ?_, by rw [count_set_t hf, b.cnt, (ins_perm _ _).length_eq, List.length_cons]⟩
  rw [List.getElem?_set]
  split
  · rename_i e
    subst e
    rw [if_pos (by rw [b.len]; exact hj)]
    congr 1
    symm
    exact dec_t ⟨_, (ins_perm _ _).mem_iff.2 (.head _), rfl⟩
  · rename_i e
    rw [b.at_ j hj]
    congr 1
    apply decide_eq_decide.2
    constructor
    · rintro ⟨x, hx, q⟩; exact ⟨x, (ins_perm _ _).mem_iff.2 (.tail _ hx), q⟩
    · rintro ⟨x, hx, q⟩
      rcases List.mem_cons.1 ((ins_perm _ _).mem_iff.1 hx) with rfl | hx
      · simp only at q; omega
      · exact ⟨x, hx, q⟩

theorem InB.pop {x : It} {Q : List It} {B : List Bool} {n j : Nat} (b : InB (x :: Q) B n) (hj : j < n) (hx : x.n = (j : Int)) (hd : ((x :: Q).map It.n).Nodup) : B[j]? = some true ∧ InB Q (B.set j false) n := by
  have ht : B[j]? = some true := by
    rw [b.at_ j hj]
    congr 1
    exact dec_t ⟨x, .head _, hx⟩
  refine ⟨ht, by simp [b.len], fun i hi => ?_, by have := count_set_f ht; rw [b.cnt, List.length_cons] at this; omega⟩
  rw [List.map_cons, List.nodup_cons] at hd
  rw [List.getElem?_set]
  split
  · rename_i e
    subst e
    rw [if_pos (by rw [b.len]; exact hi)]
    congr 1
    symm
    apply dec_f
    rintro ⟨z, hz, q⟩
    exact hd.1 (List.mem_map.2 ⟨z, hz, by rw [q, hx]⟩)
  · rename_i e
    rw [b.at_ i hi]
    congr 1
    apply decide_eq_decide.2
    constructor
    · rintro ⟨z, hz, q⟩
      rcases List.mem_cons.1 hz with rfl | hz
      · omega
      · exact ⟨z, hz, q⟩
    · rintro ⟨z, hz, q⟩; exact ⟨z, .tail _ hz, q⟩

theorem bool_put {B : List Bool} {i : Nat} {b : Bool} (h : i < B.length) : (boolC.rows B).set i (.bool b) = boolC.rows (B.set i b) := by
  have := boolC.rows_put (t := []) (L := B) (i := i) (x := b) h
  simp only [List.append_nil] at this
  rw [← this]
  simp [boolC, putL]
theorem bool_get {B : List Bool} {i : Nat} {b : Bool} (h : B[i]? = some b) : (boolC.rows B)[i]? = some (.bool b) := by
  have := boolC.rows_get (t := []) h (j := 0) (by decide)
  simpa [boolC] using this
theorem bool_len {B : List Bool} : (boolC.rows B).length = B.length := by rw [boolC.rows_length]; simp [boolC]

/-- None that is in is ahead of what was told. -/
theorem least_look {G : Hp} {v : Value} {K : List Int} (hv : RdI G v K) (hK : K.length ≤ 200) {KK : Exit → Rg → Hp → Prop} {y w i j : Nat} {B : List Bool} (r : Rg) (h : Hp) (d : Dis G h) (hi : i < K.length) (hB : B.length = K.length) (hy : h y = some (.cells (boolC.rows B).toArray 4 (0, 0)))
    (hw : h w = some (.cells #[.int .i64 (K.getD j 0), .int .i64 j] 27 (0, 0)))
    (g0 : r 0 = v) (g6 : r 6 = .slice (some ⟨y, 0, none⟩) K.length K.length) (g7 : r 7 = .int .i64 i) (g10 : r 10 = .pointer (some ⟨w, 0, none⟩)) (g12 : r 12 = .int .i64 0)
    (hall : ∀ k, k ≤ i → B[k]? = some true → K.getD j 0 < K.getD k 0 ∨ (K.getD j 0 = K.getD k 0 ∧ j ≤ k))
    (H : ∀ r', (∀ t, t = 0 ∨ t = 1 ∨ t = 5 ∨ t = 6 ∨ t = 7 → r' t = r t) → KK (.exit 2) r' h) : loopP (S6_l7_l12 G) r h KK := by
  refine loop_I (fun m r' h' => ∃ (k : Nat), m = i + 1 - k ∧ k ≤ i + 1 ∧ h' = h ∧ (∀ t, t = 0 ∨ t = 1 ∨ t = 5 ∨ t = 6 ∨ t = 7 ∨ t = 10 → r' t = r t) ∧ r' 12 = .int .i64 k) ?_
    (m := i + 1) ⟨0, rfl, by omega, rfl, fun _ _ => rfl, g12⟩
  rintro m r' h' ⟨k, rfl, hk, rfl, hr, f12⟩ X HX
  obtain ⟨sa, cap, rfl, hc⟩ := hv
  have f0 := (hr 0 (by simp)).trans g0
  have f6 := (hr 6 (by simp)).trans g6
  have f7 := (hr 7 (by simp)).trans g7
  have f10 := (hr 10 (by simp)).trans g10
  unfold S6_l7_l12
  simp -implicitDefEqProofs (maxSteps := 2000000) (disch := first | with_reducible exact Nat.ne_of_beq_eq_false rfl | omega | rfl | (simp; done)) only [opH_sv, opH_su, pureW_sv, opH_nil, pureW_nil, pick_t, pick_f, pick_tp, pick_fp, gd_tt, gd_ft, gd_tf, gd_ff, box_new, regs0, regs1, regs2, regs3, regs4, regs5, regs6, cells_agg, cells_int, cells_bool, cells_ptr, cells_slice, cells_string, cells_func, cells_nilFunc, cells_map, retK_ret, retK_normal, resL_tmp, resL_cell, resL_nil0, resL_nil1, resL_nil2, resL_nil3, resC_ptr, ex0, ex1, ex2, ex0p, ex1p, ex2p, HL.cond_true, HL.cond_false, thenK_normal, thenK_ret, thenK_exit, blockK_normal, blockK_ret, blockK_exit, scopeK_normal, scopeK_ret, scopeK_exit, wpH_pure, bin_add, bin_sub, bin_mul, bin_lss, bin_leq, bin_gtr, bin_geq, bin_quo, bin_rem, bin_quop, bin_remp, wrap_in, bin_addp, bin_subp, bin_mulp, bin_lssp, bin_leqp, bin_gtrp, bin_geqp, un_not, un_notp, un_neg, eq_int, ne_int, eq_intp, ne_intp, callV_fn, add_mk, upd_eq, upd_ne, cell_set_self, Nat.zero_add, Nat.add_zero, Option.some.injEq, exists_eq_left', List.getElem?_cons_succ, List.getElem?_cons_zero, true_and, and_true, bne_self_eq_false, beq_self_eq_true, Bool.not_true, Bool.not_false, Bool.and_true, Bool.and_self, Bool.and_false, Bool.true_and, List.length_cons, List.length_nil, ne_eq, not_false_eq_true, Nat.reduceAdd, Nat.reduceMul, if_true, if_false, oneCell_int, oneCell_bool, oneCell_ptr, oneCell_slice, oneCell_string, oneCell_func, oneCell_map, Int.toNat_natCast, List.set_cons_zero, List.set_cons_succ, Nat.lt_irrefl, Nat.zero_lt_succ, Nat.succ_lt_succ_iff, fa27_0, fa27_0p, fa27_1, fa27_1p, fa53_0, fa53_0p, fa55_0, fa55_0p, fa55_1, fa55_1p, fa63_0, fa63_0p, fa63_1, fa63_1p, fa63_2, fa63_2p, fa65_0, fa65_0p, fa65_1, fa65_1p, fa70_0, fa70_0p, fa70_1, fa70_1p, fa70_2, fa70_2p, fa72_0, fa72_0p, fa72_1, fa72_1p, ld3, ld3p, ld4, ld4p, ld9, ld9p, ld24, ld24p, ld27, ld27p, ld28, ld28p, ld39, ld39p, ld44, ld44p, ld55, ld55p, ld61, ld61p, ld65, ld65p, ld68, ld68p, ld72, ld72p, st3s, st4s, st9s, st27w, st44s, st55w, st61s, st65w, st68s, st72w, ix22, ix22p, ix31, ix31p, ix36, ix36p, ix44, ix44p, ix50, ix50p, ix61, ix61p, ix68, ix68p, ln9, ln9p, ln22, ln22p, ln31, ln31p, ln36, ln36p, ln44, ln44p, ln50, ln50p, ln61, ln61p, ln68, ln68p, al3, al27, al44, al55, al65, al72, cf10, cf11, cf12, cf13, cf14, cf15, cf16, cf17, cf18, cf19, cf20, cf21, cf22, cf23, cf24, cf25, cf26, cf27, cf28, cf29, cf30, cf31, cf32, cf33, cf34, cf35, cf36, cf37, cf38, cf39, cf40, cf41, cf42, cf43, cf44, cf45, cf46, cf47, bd27_, bd27_p, bd27_0_1, bd27_0_1p, bd53_, bd53_p, bd53_0, bd53_0p, bd63_0, bd63_0p, bd63_0_1_2, bd63_0_1_2p, bd65_, bd65_p, bd65_0_1, bd65_0_1p, bd70_0, bd70_0p, bd72_, bd72_p, bd72_0_1, bd72_0_1p, bd77_0_1, bd77_0_1p, bs61_1_0, bs68_1_0, bs44_1_0, bs61_0_, eq9, eq9p, eq24n, eq24np, eq24s, eq24sp, eq27, eq27p, eq28n, eq28np, eq28s, eq28sp, eq37n, eq37np, eq37s, eq37sp, eq39n, eq39np, eq39s, eq39sp, eq74n, eq74np, eq74s, eq74sp, ne4, ne4p, ne27, ne27p, f12, f7]
  refine cond_dec (fun hle => ?_) (fun hge => ?_)
  · have hki : k < K.length := by omega
    rcases hc with rfl | ⟨ad, rfl, hc⟩
    · simp at hki
    have ck := hc _ d k hki
    have cw : ∀ q, cellIn G h' ⟨w, q, none⟩ = _ := fun q => cell_of (look_own hw)
    have cy : cellIn G h' ⟨y, k, none⟩ = (boolC.rows B)[k]? := cell_of (look_own hy)
    obtain ⟨b, hb⟩ : ∃ b, B[k]? = some b := ⟨_, List.getElem?_eq_getElem (by omega)⟩
    rw [bool_get hb] at cy
    have fin : ∀ r2, (∀ t, t = 0 ∨ t = 1 ∨ t = 5 ∨ t = 6 ∨ t = 7 ∨ t = 10 → r2 t = r' t) → r2 12 = r' 12 → S6_l7_l12_k14 G (thenK X KK) r2 h' := by
      intro r2 hr2 e12
      unfold S6_l7_l12_k14
      simp -implicitDefEqProofs (maxSteps := 2000000) (disch := first | with_reducible exact Nat.ne_of_beq_eq_false rfl | omega | rfl | (simp; done)) only [opH_sv, opH_su, pureW_sv, opH_nil, pureW_nil, pick_t, pick_f, pick_tp, pick_fp, gd_tt, gd_ft, gd_tf, gd_ff, box_new, regs0, regs1, regs2, regs3, regs4, regs5, regs6, cells_agg, cells_int, cells_bool, cells_ptr, cells_slice, cells_string, cells_func, cells_nilFunc, cells_map, retK_ret, retK_normal, resL_tmp, resL_cell, resL_nil0, resL_nil1, resL_nil2, resL_nil3, resC_ptr, ex0, ex1, ex2, ex0p, ex1p, ex2p, HL.cond_true, HL.cond_false, thenK_normal, thenK_ret, thenK_exit, blockK_normal, blockK_ret, blockK_exit, scopeK_normal, scopeK_ret, scopeK_exit, wpH_pure, bin_add, bin_sub, bin_mul, bin_lss, bin_leq, bin_gtr, bin_geq, bin_quo, bin_rem, bin_quop, bin_remp, wrap_in, bin_addp, bin_subp, bin_mulp, bin_lssp, bin_leqp, bin_gtrp, bin_geqp, un_not, un_notp, un_neg, eq_int, ne_int, eq_intp, ne_intp, callV_fn, add_mk, upd_eq, upd_ne, cell_set_self, Nat.zero_add, Nat.add_zero, Option.some.injEq, exists_eq_left', List.getElem?_cons_succ, List.getElem?_cons_zero, true_and, and_true, bne_self_eq_false, beq_self_eq_true, Bool.not_true, Bool.not_false, Bool.and_true, Bool.and_self, Bool.and_false, Bool.true_and, List.length_cons, List.length_nil, ne_eq, not_false_eq_true, Nat.reduceAdd, Nat.reduceMul, if_true, if_false, oneCell_int, oneCell_bool, oneCell_ptr, oneCell_slice, oneCell_string, oneCell_func, oneCell_map, Int.toNat_natCast, List.set_cons_zero, List.set_cons_succ, Nat.lt_irrefl, Nat.zero_lt_succ, Nat.succ_lt_succ_iff, fa27_0, fa27_0p, fa27_1, fa27_1p, fa53_0, fa53_0p, fa55_0, fa55_0p, fa55_1, fa55_1p, fa63_0, fa63_0p, fa63_1, fa63_1p, fa63_2, fa63_2p, fa65_0, fa65_0p, fa65_1, fa65_1p, fa70_0, fa70_0p, fa70_1, fa70_1p, fa70_2, fa70_2p, fa72_0, fa72_0p, fa72_1, fa72_1p, ld3, ld3p, ld4, ld4p, ld9, ld9p, ld24, ld24p, ld27, ld27p, ld28, ld28p, ld39, ld39p, ld44, ld44p, ld55, ld55p, ld61, ld61p, ld65, ld65p, ld68, ld68p, ld72, ld72p, st3s, st4s, st9s, st27w, st44s, st55w, st61s, st65w, st68s, st72w, ix22, ix22p, ix31, ix31p, ix36, ix36p, ix44, ix44p, ix50, ix50p, ix61, ix61p, ix68, ix68p, ln9, ln9p, ln22, ln22p, ln31, ln31p, ln36, ln36p, ln44, ln44p, ln50, ln50p, ln61, ln61p, ln68, ln68p, al3, al27, al44, al55, al65, al72, cf10, cf11, cf12, cf13, cf14, cf15, cf16, cf17, cf18, cf19, cf20, cf21, cf22, cf23, cf24, cf25, cf26, cf27, cf28, cf29, cf30, cf31, cf32, cf33, cf34, cf35, cf36, cf37, cf38, cf39, cf40, cf41, cf42, cf43, cf44, cf45, cf46, cf47, bd27_, bd27_p, bd27_0_1, bd27_0_1p, bd53_, bd53_p, bd53_0, bd53_0p, bd63_0, bd63_0p, bd63_0_1_2, bd63_0_1_2p, bd65_, bd65_p, bd65_0_1, bd65_0_1p, bd70_0, bd70_0p, bd72_, bd72_p, bd72_0_1, bd72_0_1p, bd77_0_1, bd77_0_1p, bs61_1_0, bs68_1_0, bs44_1_0, bs61_0_, eq9, eq9p, eq24n, eq24np, eq24s, eq24sp, eq27, eq27p, eq28n, eq28np, eq28s, eq28sp, eq37n, eq37np, eq37s, eq37sp, eq39n, eq39np, eq39s, eq39sp, eq74n, eq74np, eq74s, eq74sp, ne4, ne4p, ne27, ne27p, e12, f12]
      refine HX (i + 1 - (k + 1)) _ _ (by omega) ⟨k + 1, rfl, by omega, rfl, fun t ht => ?_, by simp -implicitDefEqProofs (maxSteps := 2000000) (disch := first | with_reducible exact Nat.ne_of_beq_eq_false rfl | omega | rfl | (simp; done)) only [opH_sv, opH_su, pureW_sv, opH_nil, pureW_nil, pick_t, pick_f, pick_tp, pick_fp, gd_tt, gd_ft, gd_tf, gd_ff, box_new, regs0, regs1, regs2, regs3, regs4, regs5, regs6, cells_agg, cells_int, cells_bool, cells_ptr, cells_slice, cells_string, cells_func, cells_nilFunc, cells_map, retK_ret, retK_normal, resL_tmp, resL_cell, resL_nil0, resL_nil1, resL_nil2, resL_nil3, resC_ptr, ex0, ex1, ex2, ex0p, ex1p, ex2p, HL.cond_true, HL.cond_false, thenK_normal, thenK_ret, thenK_exit, blockK_normal, blockK_ret, blockK_exit, scopeK_normal, scopeK_ret, scopeK_exit, wpH_pure, bin_add, bin_sub, bin_mul, bin_lss, bin_leq, bin_gtr, bin_geq, bin_quo, bin_rem, bin_quop, bin_remp, wrap_in, bin_addp, bin_subp, bin_mulp, bin_lssp, bin_leqp, bin_gtrp, bin_geqp, un_not, un_notp, un_neg, eq_int, ne_int, eq_intp, ne_intp, callV_fn, add_mk, upd_eq, upd_ne, cell_set_self, Nat.zero_add, Nat.add_zero, Option.some.injEq, exists_eq_left', List.getElem?_cons_succ, List.getElem?_cons_zero, true_and, and_true, bne_self_eq_false, beq_self_eq_true, Bool.not_true, Bool.not_false, Bool.and_true, Bool.and_self, Bool.and_false, Bool.true_and, List.length_cons, List.length_nil, ne_eq, not_false_eq_true, Nat.reduceAdd, Nat.reduceMul, if_true, if_false, oneCell_int, oneCell_bool, oneCell_ptr, oneCell_slice, oneCell_string, oneCell_func, oneCell_map, Int.toNat_natCast, List.set_cons_zero, List.set_cons_succ, Nat.lt_irrefl, Nat.zero_lt_succ, Nat.succ_lt_succ_iff, fa27_0, fa27_0p, fa27_1, fa27_1p, fa53_0, fa53_0p, fa55_0, fa55_0p, fa55_1, fa55_1p, fa63_0, fa63_0p, fa63_1, fa63_1p, fa63_2, fa63_2p, fa65_0, fa65_0p, fa65_1, fa65_1p, fa70_0, fa70_0p, fa70_1, fa70_1p, fa70_2, fa70_2p, fa72_0, fa72_0p, fa72_1, fa72_1p, ld3, ld3p, ld4, ld4p, ld9, ld9p, ld24, ld24p, ld27, ld27p, ld28, ld28p, ld39, ld39p, ld44, ld44p, ld55, ld55p, ld61, ld61p, ld65, ld65p, ld68, ld68p, ld72, ld72p, st3s, st4s, st9s, st27w, st44s, st55w, st61s, st65w, st68s, st72w, ix22, ix22p, ix31, ix31p, ix36, ix36p, ix44, ix44p, ix50, ix50p, ix61, ix61p, ix68, ix68p, ln9, ln9p, ln22, ln22p, ln31, ln31p, ln36, ln36p, ln44, ln44p, ln50, ln50p, ln61, ln61p, ln68, ln68p, al3, al27, al44, al55, al65, al72, cf10, cf11, cf12, cf13, cf14, cf15, cf16, cf17, cf18, cf19, cf20, cf21, cf22, cf23, cf24, cf25, cf26, cf27, cf28, cf29, cf30, cf31, cf32, cf33, cf34, cf35, cf36, cf37, cf38, cf39, cf40, cf41, cf42, cf43, cf44, cf45, cf46, cf47, bd27_, bd27_p, bd27_0_1, bd27_0_1p, bd53_, bd53_p, bd53_0, bd53_0p, bd63_0, bd63_0p, bd63_0_1_2, bd63_0_1_2p, bd65_, bd65_p, bd65_0_1, bd65_0_1p, bd70_0, bd70_0p, bd72_, bd72_p, bd72_0_1, bd72_0_1p, bd77_0_1, bd77_0_1p, bs61_1_0, bs68_1_0, bs44_1_0, bs61_0_, eq9, eq9p, eq24n, eq24np, eq24s, eq24sp, eq27, eq27p, eq28n, eq28np, eq28s, eq28sp, eq37n, eq37np, eq37s, eq37sp, eq39n, eq39np, eq39s, eq39sp, eq74n, eq74np, eq74s, eq74sp, ne4, ne4p, ne27, ne27p]; rfl⟩
      rw [upd_ne (by omega), upd_ne (by omega), upd_ne (by omega), hr2 t ht, hr t ht]
    have rest : ∀ r2 : Rg, (∀ t, t < 13 → r2 t = r' t) → S6_l7_l12_k14 G (thenK X KK) r2 h' := fun r2 h2 => fin r2 (fun t ht => h2 t (by omega)) (h2 12 (by omega))
    unfold S6_l7_l12_k13
    cases b with
    | false =>
      simp -implicitDefEqProofs (maxSteps := 2000000) (disch := first | with_reducible exact Nat.ne_of_beq_eq_false rfl | omega | rfl | (simp; done)) only [opH_sv, opH_su, pureW_sv, opH_nil, pureW_nil, pick_t, pick_f, pick_tp, pick_fp, gd_tt, gd_ft, gd_tf, gd_ff, box_new, regs0, regs1, regs2, regs3, regs4, regs5, regs6, cells_agg, cells_int, cells_bool, cells_ptr, cells_slice, cells_string, cells_func, cells_nilFunc, cells_map, retK_ret, retK_normal, resL_tmp, resL_cell, resL_nil0, resL_nil1, resL_nil2, resL_nil3, resC_ptr, ex0, ex1, ex2, ex0p, ex1p, ex2p, HL.cond_true, HL.cond_false, thenK_normal, thenK_ret, thenK_exit, blockK_normal, blockK_ret, blockK_exit, scopeK_normal, scopeK_ret, scopeK_exit, wpH_pure, bin_add, bin_sub, bin_mul, bin_lss, bin_leq, bin_gtr, bin_geq, bin_quo, bin_rem, bin_quop, bin_remp, wrap_in, bin_addp, bin_subp, bin_mulp, bin_lssp, bin_leqp, bin_gtrp, bin_geqp, un_not, un_notp, un_neg, eq_int, ne_int, eq_intp, ne_intp, callV_fn, add_mk, upd_eq, upd_ne, cell_set_self, Nat.zero_add, Nat.add_zero, Option.some.injEq, exists_eq_left', List.getElem?_cons_succ, List.getElem?_cons_zero, true_and, and_true, bne_self_eq_false, beq_self_eq_true, Bool.not_true, Bool.not_false, Bool.and_true, Bool.and_self, Bool.and_false, Bool.true_and, List.length_cons, List.length_nil, ne_eq, not_false_eq_true, Nat.reduceAdd, Nat.reduceMul, if_true, if_false, oneCell_int, oneCell_bool, oneCell_ptr, oneCell_slice, oneCell_string, oneCell_func, oneCell_map, Int.toNat_natCast, List.set_cons_zero, List.set_cons_succ, Nat.lt_irrefl, Nat.zero_lt_succ, Nat.succ_lt_succ_iff, fa27_0, fa27_0p, fa27_1, fa27_1p, fa53_0, fa53_0p, fa55_0, fa55_0p, fa55_1, fa55_1p, fa63_0, fa63_0p, fa63_1, fa63_1p, fa63_2, fa63_2p, fa65_0, fa65_0p, fa65_1, fa65_1p, fa70_0, fa70_0p, fa70_1, fa70_1p, fa70_2, fa70_2p, fa72_0, fa72_0p, fa72_1, fa72_1p, ld3, ld3p, ld4, ld4p, ld9, ld9p, ld24, ld24p, ld27, ld27p, ld28, ld28p, ld39, ld39p, ld44, ld44p, ld55, ld55p, ld61, ld61p, ld65, ld65p, ld68, ld68p, ld72, ld72p, st3s, st4s, st9s, st27w, st44s, st55w, st61s, st65w, st68s, st72w, ix22, ix22p, ix31, ix31p, ix36, ix36p, ix44, ix44p, ix50, ix50p, ix61, ix61p, ix68, ix68p, ln9, ln9p, ln22, ln22p, ln31, ln31p, ln36, ln36p, ln44, ln44p, ln50, ln50p, ln61, ln61p, ln68, ln68p, al3, al27, al44, al55, al65, al72, cf10, cf11, cf12, cf13, cf14, cf15, cf16, cf17, cf18, cf19, cf20, cf21, cf22, cf23, cf24, cf25, cf26, cf27, cf28, cf29, cf30, cf31, cf32, cf33, cf34, cf35, cf36, cf37, cf38, cf39, cf40, cf41, cf42, cf43, cf44, cf45, cf46, cf47, bd27_, bd27_p, bd27_0_1, bd27_0_1p, bd53_, bd53_p, bd53_0, bd53_0p, bd63_0, bd63_0p, bd63_0_1_2, bd63_0_1_2p, bd65_, bd65_p, bd65_0_1, bd65_0_1p, bd70_0, bd70_0p, bd72_, bd72_p, bd72_0_1, bd72_0_1p, bd77_0_1, bd77_0_1p, bs61_1_0, bs68_1_0, bs44_1_0, bs61_0_, eq9, eq9p, eq24n, eq24np, eq24s, eq24sp, eq27, eq27p, eq28n, eq28np, eq28s, eq28sp, eq37n, eq37np, eq37s, eq37sp, eq39n, eq39np, eq39s, eq39sp, eq74n, eq74np, eq74s, eq74sp, ne4, ne4p, ne27, ne27p, f0, f6, f7, f10, f12, ix31p (Int.natCast_nonneg k) (show (k : Int) < K.length by omega), Nat.mul_one, cy]
      refine rest _ fun t ht => ?_
      repeat rw [upd_ne (by omega)]
    | true =>
      have hcmp := hall k (by omega) hb
      rcases Int.lt_or_eq_of_le (show K.getD j 0 ≤ K.getD k 0 by omega) with hlt | heq
      · simp -implicitDefEqProofs (maxSteps := 2000000) (disch := first | with_reducible exact Nat.ne_of_beq_eq_false rfl | omega | rfl | (simp; done)) only [opH_sv, opH_su, pureW_sv, opH_nil, pureW_nil, pick_t, pick_f, pick_tp, pick_fp, gd_tt, gd_ft, gd_tf, gd_ff, box_new, regs0, regs1, regs2, regs3, regs4, regs5, regs6, cells_agg, cells_int, cells_bool, cells_ptr, cells_slice, cells_string, cells_func, cells_nilFunc, cells_map, retK_ret, retK_normal, resL_tmp, resL_cell, resL_nil0, resL_nil1, resL_nil2, resL_nil3, resC_ptr, ex0, ex1, ex2, ex0p, ex1p, ex2p, HL.cond_true, HL.cond_false, thenK_normal, thenK_ret, thenK_exit, blockK_normal, blockK_ret, blockK_exit, scopeK_normal, scopeK_ret, scopeK_exit, wpH_pure, bin_add, bin_sub, bin_mul, bin_lss, bin_leq, bin_gtr, bin_geq, bin_quo, bin_rem, bin_quop, bin_remp, wrap_in, bin_addp, bin_subp, bin_mulp, bin_lssp, bin_leqp, bin_gtrp, bin_geqp, un_not, un_notp, un_neg, eq_int, ne_int, eq_intp, ne_intp, callV_fn, add_mk, upd_eq, upd_ne, cell_set_self, Nat.zero_add, Nat.add_zero, Option.some.injEq, exists_eq_left', List.getElem?_cons_succ, List.getElem?_cons_zero, true_and, and_true, bne_self_eq_false, beq_self_eq_true, Bool.not_true, Bool.not_false, Bool.and_true, Bool.and_self, Bool.and_false, Bool.true_and, List.length_cons, List.length_nil, ne_eq, not_false_eq_true, Nat.reduceAdd, Nat.reduceMul, if_true, if_false, oneCell_int, oneCell_bool, oneCell_ptr, oneCell_slice, oneCell_string, oneCell_func, oneCell_map, Int.toNat_natCast, List.set_cons_zero, List.set_cons_succ, Nat.lt_irrefl, Nat.zero_lt_succ, Nat.succ_lt_succ_iff, fa27_0, fa27_0p, fa27_1, fa27_1p, fa53_0, fa53_0p, fa55_0, fa55_0p, fa55_1, fa55_1p, fa63_0, fa63_0p, fa63_1, fa63_1p, fa63_2, fa63_2p, fa65_0, fa65_0p, fa65_1, fa65_1p, fa70_0, fa70_0p, fa70_1, fa70_1p, fa70_2, fa70_2p, fa72_0, fa72_0p, fa72_1, fa72_1p, ld3, ld3p, ld4, ld4p, ld9, ld9p, ld24, ld24p, ld27, ld27p, ld28, ld28p, ld39, ld39p, ld44, ld44p, ld55, ld55p, ld61, ld61p, ld65, ld65p, ld68, ld68p, ld72, ld72p, st3s, st4s, st9s, st27w, st44s, st55w, st61s, st65w, st68s, st72w, ix22, ix22p, ix31, ix31p, ix36, ix36p, ix44, ix44p, ix50, ix50p, ix61, ix61p, ix68, ix68p, ln9, ln9p, ln22, ln22p, ln31, ln31p, ln36, ln36p, ln44, ln44p, ln50, ln50p, ln61, ln61p, ln68, ln68p, al3, al27, al44, al55, al65, al72, cf10, cf11, cf12, cf13, cf14, cf15, cf16, cf17, cf18, cf19, cf20, cf21, cf22, cf23, cf24, cf25, cf26, cf27, cf28, cf29, cf30, cf31, cf32, cf33, cf34, cf35, cf36, cf37, cf38, cf39, cf40, cf41, cf42, cf43, cf44, cf45, cf46, cf47, bd27_, bd27_p, bd27_0_1, bd27_0_1p, bd53_, bd53_p, bd53_0, bd53_0p, bd63_0, bd63_0p, bd63_0_1_2, bd63_0_1_2p, bd65_, bd65_p, bd65_0_1, bd65_0_1p, bd70_0, bd70_0p, bd72_, bd72_p, bd72_0_1, bd72_0_1p, bd77_0_1, bd77_0_1p, bs61_1_0, bs68_1_0, bs44_1_0, bs61_0_, eq9, eq9p, eq24n, eq24np, eq24s, eq24sp, eq27, eq27p, eq28n, eq28np, eq28s, eq28sp, eq37n, eq37np, eq37s, eq37sp, eq39n, eq39np, eq39s, eq39sp, eq74n, eq74np, eq74s, eq74sp, ne4, ne4p, ne27, ne27p, f0, f6, f7, f10, f12, ix31p (Int.natCast_nonneg k) (show (k : Int) < K.length by omega), ix22p (Int.natCast_nonneg k) (show (k : Int) < K.length by omega), Nat.mul_one, cy, cw, ck, dec_f (show ¬ K.getD k 0 < K.getD j 0 by omega), beq_eq_false_iff_ne.2 (show K.getD k 0 ≠ K.getD j 0 by omega)]
        refine rest _ fun t ht => ?_
        repeat rw [upd_ne (by omega)]
      · simp -implicitDefEqProofs (maxSteps := 2000000) (disch := first | with_reducible exact Nat.ne_of_beq_eq_false rfl | omega | rfl | (simp; done)) only [opH_sv, opH_su, pureW_sv, opH_nil, pureW_nil, pick_t, pick_f, pick_tp, pick_fp, gd_tt, gd_ft, gd_tf, gd_ff, box_new, regs0, regs1, regs2, regs3, regs4, regs5, regs6, cells_agg, cells_int, cells_bool, cells_ptr, cells_slice, cells_string, cells_func, cells_nilFunc, cells_map, retK_ret, retK_normal, resL_tmp, resL_cell, resL_nil0, resL_nil1, resL_nil2, resL_nil3, resC_ptr, ex0, ex1, ex2, ex0p, ex1p, ex2p, HL.cond_true, HL.cond_false, thenK_normal, thenK_ret, thenK_exit, blockK_normal, blockK_ret, blockK_exit, scopeK_normal, scopeK_ret, scopeK_exit, wpH_pure, bin_add, bin_sub, bin_mul, bin_lss, bin_leq, bin_gtr, bin_geq, bin_quo, bin_rem, bin_quop, bin_remp, wrap_in, bin_addp, bin_subp, bin_mulp, bin_lssp, bin_leqp, bin_gtrp, bin_geqp, un_not, un_notp, un_neg, eq_int, ne_int, eq_intp, ne_intp, callV_fn, add_mk, upd_eq, upd_ne, cell_set_self, Nat.zero_add, Nat.add_zero, Option.some.injEq, exists_eq_left', List.getElem?_cons_succ, List.getElem?_cons_zero, true_and, and_true, bne_self_eq_false, beq_self_eq_true, Bool.not_true, Bool.not_false, Bool.and_true, Bool.and_self, Bool.and_false, Bool.true_and, List.length_cons, List.length_nil, ne_eq, not_false_eq_true, Nat.reduceAdd, Nat.reduceMul, if_true, if_false, oneCell_int, oneCell_bool, oneCell_ptr, oneCell_slice, oneCell_string, oneCell_func, oneCell_map, Int.toNat_natCast, List.set_cons_zero, List.set_cons_succ, Nat.lt_irrefl, Nat.zero_lt_succ, Nat.succ_lt_succ_iff, fa27_0, fa27_0p, fa27_1, fa27_1p, fa53_0, fa53_0p, fa55_0, fa55_0p, fa55_1, fa55_1p, fa63_0, fa63_0p, fa63_1, fa63_1p, fa63_2, fa63_2p, fa65_0, fa65_0p, fa65_1, fa65_1p, fa70_0, fa70_0p, fa70_1, fa70_1p, fa70_2, fa70_2p, fa72_0, fa72_0p, fa72_1, fa72_1p, ld3, ld3p, ld4, ld4p, ld9, ld9p, ld24, ld24p, ld27, ld27p, ld28, ld28p, ld39, ld39p, ld44, ld44p, ld55, ld55p, ld61, ld61p, ld65, ld65p, ld68, ld68p, ld72, ld72p, st3s, st4s, st9s, st27w, st44s, st55w, st61s, st65w, st68s, st72w, ix22, ix22p, ix31, ix31p, ix36, ix36p, ix44, ix44p, ix50, ix50p, ix61, ix61p, ix68, ix68p, ln9, ln9p, ln22, ln22p, ln31, ln31p, ln36, ln36p, ln44, ln44p, ln50, ln50p, ln61, ln61p, ln68, ln68p, al3, al27, al44, al55, al65, al72, cf10, cf11, cf12, cf13, cf14, cf15, cf16, cf17, cf18, cf19, cf20, cf21, cf22, cf23, cf24, cf25, cf26, cf27, cf28, cf29, cf30, cf31, cf32, cf33, cf34, cf35, cf36, cf37, cf38, cf39, cf40, cf41, cf42, cf43, cf44, cf45, cf46, cf47, bd27_, bd27_p, bd27_0_1, bd27_0_1p, bd53_, bd53_p, bd53_0, bd53_0p, bd63_0, bd63_0p, bd63_0_1_2, bd63_0_1_2p, bd65_, bd65_p, bd65_0_1, bd65_0_1p, bd70_0, bd70_0p, bd72_, bd72_p, bd72_0_1, bd72_0_1p, bd77_0_1, bd77_0_1p, bs61_1_0, bs68_1_0, bs44_1_0, bs61_0_, eq9, eq9p, eq24n, eq24np, eq24s, eq24sp, eq27, eq27p, eq28n, eq28np, eq28s, eq28sp, eq37n, eq37np, eq37s, eq37sp, eq39n, eq39np, eq39s, eq39sp, eq74n, eq74np, eq74s, eq74sp, ne4, ne4p, ne27, ne27p, f0, f6, f7, f10, f12, ix31p (Int.natCast_nonneg k) (show (k : Int) < K.length by omega), ix22p (Int.natCast_nonneg k) (show (k : Int) < K.length by omega), Nat.mul_one, cy, cw, ck, dec_f (show ¬ K.getD k 0 < K.getD j 0 by omega), beq_iff_eq.2 (show K.getD k 0 = K.getD j 0 by omega), dec_f (show ¬ (k : Int) < j by omega)]
        refine rest _ fun t ht => ?_
        repeat rw [upd_ne (by omega)]
  · refine H _ fun t ht => ?_
    rw [upd_ne (by omega), upd_ne (by omega), upd_ne (by omega)]
    exact hr t (by omega)

end Go.Proofs.Ytkekdpnlenpmiaa
