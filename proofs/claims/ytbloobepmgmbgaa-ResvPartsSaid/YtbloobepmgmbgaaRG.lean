/- The table: ticks given back. -/
import Derived.Test.YtbloobepmgmbgaaRF
set_option linter.unusedSimpArgs false
set_option linter.unusedVariables false
set_option maxRecDepth 100000
namespace Go.Proofs.Ytbloobepmgmbgaa
open Go Go.HL Go.Proofs.Resv

def mapTo (f : List Slot → List Slot) (i : Nat) (T : Tb) : Tb := (T.take i).map f ++ T.drop i
theorem mapTo_len {f : List Slot → List Slot} {i : Nat} {T : Tb} (hi : i ≤ T.length) : (mapTo f i T).length = T.length := by
  unfold mapTo
  simp
  omega
theorem mapTo_get {f : List Slot → List Slot} {i : Nat} {T : Tb} {L : List Slot} (h : T[i]? = some L) : (mapTo f i T)[i]? = some L := by
  obtain ⟨hlt, rfl⟩ := List.getElem?_eq_some_iff.1 h
  unfold mapTo
  rw [List.getElem?_append_right (by simp; omega), List.length_map, List.length_take, Nat.min_eq_left (by omega), Nat.sub_self, List.getElem?_drop, Nat.add_zero, h]
theorem mapTo_set {f : List Slot → List Slot} {i : Nat} {T : Tb} {L : List Slot} (h : T[i]? = some L) : (mapTo f i T).set i (f L) = mapTo f (i + 1) T := by
  obtain ⟨hlt, e⟩ := List.getElem?_eq_some_iff.1 h
  unfold mapTo
  rw [List.set_append_right _ _ (by simp; omega), List.length_map, List.length_take, Nat.min_eq_left (by omega), Nat.sub_self, List.drop_eq_getElem_cons hlt, List.set_cons_zero, List.take_add_one, h]
  simp
theorem mapTo_all {f : List Slot → List Slot} {T : Tb} : mapTo f T.length T = T.map f := by unfold mapTo; simp

theorem cutL_take {p : Int → Bool} {u : Int} {L : List Slot} {i : Nat} {s : Slot} (hs : L[i]? = some s) : cutL p u (L.take (i + 1)) = cutL p u (L.take i) ++ (cutS p u s).toList := by
  unfold cutL
  rw [List.take_add_one, hs, List.filterMap_append]
  congr 1

theorem st3at {G h : Hp} {b i : Nat} {l : List Value} {e : TypeId} {n : Int} {K : Unit → Hp → Prop} (hb : h b = some (.cells l.toArray e (0, 0))) (hi : i < l.length) :
    wpH Try.prog G (Instr.storeAt 3 (.pointer (some ⟨b, i, none⟩)) (.int .i64 n)) h K = K () (h.set b (.cells (l.set i (.int .i64 n)).toArray e (0, 0))) := store1_eq sz3 rfl hb hi

set_option maxHeartbeats 4000000 in
theorem cut_walk {G h a : Hp} {R : List Hp} {tp b id : Nat} {T : Tb} {u : Int} {p : Int → Bool} {caps : Array Value} (tb : Tab 68 a tp T) (sp : HL.Sep (a :: R) h) (fw : Few T b) (hb : b ≤ 50000) (hT : T.length ≤ 1000)
    (hcf : ∀ (args : Array Value) (h : Hp) (K : Value → Hp → Prop), opH Try.prog G (callFunc id args) h K = HCalls Try.prog G id args h K)
    (hw : ∀ (r : Int) (a' h' : Hp), HL.Sep (a' :: R) h' → Dis G h' → HCalls Try.prog G id ((#[] ++ #[.int .i64 r]) ++ caps) h' (fun v h'' => v = .bool (p r) ∧ h'' = h')) :
    HCalls Try.prog G 47 #[.pointer (some ⟨tp, 0, none⟩), .int .i64 u, .func (.func id) #[] caps] h (fun v h' => v = .tuple #[] ∧ ∃ a', Tab 68 a' tp (cutT p u T) ∧ HL.Sep (a' :: R) h' ∧ Dis G h') := by
  refine HCalls.assume fun d => enter47 (by simp) ?_
  unfold S47
  simp -implicitDefEqProofs (maxSteps := 2000000) (disch := first | with_reducible exact Nat.ne_of_beq_eq_false rfl | exact oneCell_int | exact oneCell_bool | omega | rfl | (simp; done) | fail) only [regs0, retK_ret, resL_nil0, true_and, eq23s, HL.cond_false]
  unfold S47_k1
  obtain ⟨rb0, e0, _⟩ := tb.see (G := G) sp.hd
  simp -implicitDefEqProofs (maxSteps := 2000000) (disch := first | with_reducible exact Nat.ne_of_beq_eq_false rfl | exact oneCell_int | exact oneCell_bool | omega | rfl | (simp; done) | fail) only [upd_ne, regs0, opH_sv, opH_nil, fa68_0, add_mk, Nat.add_zero, ld66, e0, Option.some.injEq, exists_eq_left', ln66]
  generalize hKK : retK Try.prog G _ _ = KK
  refine loop_I (fun m q h3 => ∃ (i : Nat) (a' : Hp), m = T.length - i ∧ i ≤ T.length ∧ q 0 = .pointer (some ⟨tp, 0, none⟩) ∧ q 1 = .int .i64 u ∧ q 2 = .func (.func id) #[] caps ∧ q 16 = .int .i64 T.length ∧ q 17 = .int .i64 i ∧ Tab 68 a' tp (mapTo (cutL p u) i T) ∧ HL.Sep (a' :: R) h3 ∧ Dis G h3) ?_
    (m := T.length) ⟨0, a, rfl, Nat.zero_le _, by simp -implicitDefEqProofs (maxSteps := 2000000) (disch := first | with_reducible exact Nat.ne_of_beq_eq_false rfl | exact oneCell_int | exact oneCell_bool | omega | rfl | (simp; done) | fail) only [upd_ne, regs0], by simp -implicitDefEqProofs (maxSteps := 2000000) (disch := first | with_reducible exact Nat.ne_of_beq_eq_false rfl | exact oneCell_int | exact oneCell_bool | omega | rfl | (simp; done) | fail) only [upd_ne, regs1], by simp -implicitDefEqProofs (maxSteps := 2000000) (disch := first | with_reducible exact Nat.ne_of_beq_eq_false rfl | exact oneCell_int | exact oneCell_bool | omega | rfl | (simp; done) | fail) only [upd_ne, regs2], by simp -implicitDefEqProofs (maxSteps := 2000000) (disch := first | with_reducible exact Nat.ne_of_beq_eq_false rfl | exact oneCell_int | exact oneCell_bool | omega | rfl | (simp; done) | fail) only [upd_ne, upd_eq], by simp -implicitDefEqProofs (maxSteps := 2000000) (disch := first | with_reducible exact Nat.ne_of_beq_eq_false rfl | exact oneCell_int | exact oneCell_bool | omega | rfl | (simp; done) | fail) only [upd_eq] <;> rfl, by unfold mapTo; simpa using tb, sp, d⟩
  rintro m q h3 ⟨i, a3, rfl, hi, q0, q1, q2, q16, q17, t3, s3, d3⟩ X HX
  unfold S47_l2
  simp -implicitDefEqProofs (maxSteps := 2000000) (disch := first | with_reducible exact Nat.ne_of_beq_eq_false rfl | exact oneCell_int | exact oneCell_bool | omega | rfl | (simp; done) | fail) only [q17, q16, thenK_exit, blockK_exit, if_true, opH_sv, bin_lss]
  refine cond_dec (fun hlt => ?_) (fun hge => ?_)
  rotate_left
  · obtain rfl : i = T.length := by omega
    rw [mapTo_all] at t3
    rw [← hKK]
    simp -implicitDefEqProofs (maxSteps := 2000000) (disch := first | with_reducible exact Nat.ne_of_beq_eq_false rfl | exact oneCell_int | exact oneCell_bool | omega | rfl | (simp; done) | fail) only [retK_normal, resL_nil0, true_and]
    exact ⟨a3, t3, s3, d3⟩
  have hi' : i < T.length := by omega
  obtain ⟨L, hL⟩ : ∃ L, T[i]? = some L := ⟨_, List.getElem?_eq_getElem hi'⟩
  have hml := mapTo_len (f := cutL p u) hi
  have hmg := mapTo_get (f := cutL p u) hL
  have fL : L.length ≤ 50000 := Nat.le_trans (fw L (List.mem_of_getElem? hL)) hb
  obtain ⟨rb, e1, e2⟩ := t3.see (G := G) (Hp.le.refl a3)
  obtain ⟨sa, cap, e3, e4⟩ := e2 _ _ hmg
  rw [hml] at e1
  unfold S47_l2_k3
  simp -implicitDefEqProofs (maxSteps := 2000000) (disch := first | with_reducible exact Nat.ne_of_beq_eq_false rfl | exact oneCell_int | exact oneCell_bool | omega | rfl | (simp; done) | fail) only [upd_ne, q0, q17, opH_sv, opH_nil, fa68_0, add_mk, Nat.add_zero, ld66, cell_up s3.hd d3 e1, Option.some.injEq, exists_eq_left', ix66 (Int.natCast_nonneg i) hlt, Int.toNat_natCast, Nat.mul_one, Nat.zero_add, ld32, cell_up s3.hd d3 e3, ln32]
  refine loop_I (fun m q' h3 => ∃ (j : Nat) (io : Hp) (v : Value), m = L.length - j ∧ j ≤ L.length ∧ q' 0 = q 0 ∧ q' 1 = q 1 ∧ q' 2 = q 2 ∧ q' 16 = q 16 ∧ q' 17 = q 17 ∧ q' 6 = .int .i64 i ∧ q' 7 = v ∧ q' 26 = .slice sa L.length cap ∧ q' 27 = .int .i64 L.length ∧ q' 28 = .int .i64 j ∧ Slc slotC 35 io v (cutL p u (L.take j)) ∧ HL.Sep (io :: a3 :: R) h3 ∧ Dis G h3) ?_
    (m := L.length) ⟨0, noHp, _, rfl, Nat.zero_le _, by simp -implicitDefEqProofs (maxSteps := 2000000) (disch := first | with_reducible exact Nat.ne_of_beq_eq_false rfl | exact oneCell_int | exact oneCell_bool | omega | rfl | (simp; done) | fail) only [upd_ne], by simp -implicitDefEqProofs (maxSteps := 2000000) (disch := first | with_reducible exact Nat.ne_of_beq_eq_false rfl | exact oneCell_int | exact oneCell_bool | omega | rfl | (simp; done) | fail) only [upd_ne], by simp -implicitDefEqProofs (maxSteps := 2000000) (disch := first | with_reducible exact Nat.ne_of_beq_eq_false rfl | exact oneCell_int | exact oneCell_bool | omega | rfl | (simp; done) | fail) only [upd_ne], by simp -implicitDefEqProofs (maxSteps := 2000000) (disch := first | with_reducible exact Nat.ne_of_beq_eq_false rfl | exact oneCell_int | exact oneCell_bool | omega | rfl | (simp; done) | fail) only [upd_ne], by simp -implicitDefEqProofs (maxSteps := 2000000) (disch := first | with_reducible exact Nat.ne_of_beq_eq_false rfl | exact oneCell_int | exact oneCell_bool | omega | rfl | (simp; done) | fail) only [upd_ne], by simp -implicitDefEqProofs (maxSteps := 2000000) (disch := first | with_reducible exact Nat.ne_of_beq_eq_false rfl | exact oneCell_int | exact oneCell_bool | omega | rfl | (simp; done) | fail) only [upd_ne, upd_eq], rfl, by simp -implicitDefEqProofs (maxSteps := 2000000) (disch := first | with_reducible exact Nat.ne_of_beq_eq_false rfl | exact oneCell_int | exact oneCell_bool | omega | rfl | (simp; done) | fail) only [upd_ne, upd_eq], by simp -implicitDefEqProofs (maxSteps := 2000000) (disch := first | with_reducible exact Nat.ne_of_beq_eq_false rfl | exact oneCell_int | exact oneCell_bool | omega | rfl | (simp; done) | fail) only [upd_ne, upd_eq], by simp -implicitDefEqProofs (maxSteps := 2000000) (disch := first | with_reducible exact Nat.ne_of_beq_eq_false rfl | exact oneCell_int | exact oneCell_bool | omega | rfl | (simp; done) | fail) only [upd_eq] <;> rfl, by simp -implicitDefEqProofs (maxSteps := 2000000) (disch := first | with_reducible exact Nat.ne_of_beq_eq_false rfl | exact oneCell_int | exact oneCell_bool | omega | rfl | (simp; done) | fail) only [upd_ne, upd_eq]; exact Slc.nil, s3.none, d3⟩
  rintro m q' h5 ⟨j, io, v, rfl, hj, p0, p1, p2, p16, p17, p6, p7, p26, p27, p28, o5, s5, d5⟩ X' HX'
  unfold S47_l2_l6
  simp -implicitDefEqProofs (maxSteps := 2000000) (disch := first | with_reducible exact Nat.ne_of_beq_eq_false rfl | exact oneCell_int | exact oneCell_bool | omega | rfl | (simp; done) | fail) only [p28, p27, thenK_exit, blockK_exit, thenK_normal, scopeK_exit, if_true, opH_sv, bin_lss]
  refine cond_dec (fun hlt2 => ?_) (fun hge2 => ?_)
  rotate_left
  · -- the row is stored
    obtain rfl : j = L.length := by omega
    rw [List.take_of_length_le (Nat.le_refl _)] at o5
    try simp -implicitDefEqProofs (maxSteps := 2000000) (disch := first | with_reducible exact Nat.ne_of_beq_eq_false rfl | exact oneCell_int | exact oneCell_bool | omega | rfl | (simp; done) | fail) only [opH_sv, opH_su, pureW_sv, opH_nil, pureW_nil, pick_t, pick_f, pick_tp, pick_fp, gd_tt, gd_ft, gd_tf, gd_ff, box_new, regs0, regs1, regs2, regs3, regs4, regs5, regs6, cells_agg, cells_int, cells_bool, cells_ptr, cells_slice, cells_string, cells_func, cells_nilFunc, cells_map, retK_ret, retK_normal, resL_tmp, resL_cell, resL_nil0, resL_nil1, resL_nil2, resL_nil3, resC_ptr, ex0, ex1, ex2, ex0p, ex1p, ex2p, HL.cond_true, HL.cond_false, thenK_normal, thenK_ret, thenK_exit, blockK_normal, blockK_ret, blockK_exit, scopeK_normal, scopeK_ret, scopeK_exit, wpH_pure, bin_add, bin_sub, bin_mul, bin_lss, bin_leq, bin_gtr, bin_geq, bin_quo, bin_rem, bin_quop, bin_remp, wrap_in, bin_addp, bin_subp, bin_mulp, bin_lssp, bin_leqp, bin_gtrp, bin_geqp, un_not, un_notp, un_neg, eq_int, ne_int, eq_intp, ne_intp, callV_fn, add_mk, upd_eq, upd_ne, cell_set_self, Nat.zero_add, Nat.add_zero, Option.some.injEq, exists_eq_left', List.getElem?_cons_succ, List.getElem?_cons_zero, true_and, and_true, bne_self_eq_false, beq_self_eq_true, Bool.not_true, Bool.not_false, Bool.and_true, Bool.and_self, Bool.and_false, Bool.true_and, List.length_cons, List.length_nil, ne_eq, not_false_eq_true, Nat.reduceAdd, Nat.reduceMul, if_true, if_false, oneCell_int, oneCell_bool, oneCell_ptr, oneCell_slice, oneCell_string, oneCell_func, oneCell_map, Int.toNat_natCast, List.set_cons_zero, List.set_cons_succ, Nat.lt_irrefl, Nat.zero_lt_succ, Nat.succ_lt_succ_iff, fa30_0, fa30_0p, fa30_1, fa30_1p, fa30_2, fa30_2p, fa35_0, fa35_0p, fa35_1, fa35_1p, fa35_2, fa35_2p, fa51_0, fa51_0p, fa51_1, fa51_1p, fa51_2, fa51_2p, fa51_3, fa51_3p, fa51_4, fa51_4p, fa51_5, fa51_5p, fa68_0, fa68_0p, fa76_0, fa76_0p, fa88_0, fa88_0p, fa88_1, fa88_1p, fa88_2, fa88_2p, fa90_0, fa90_0p, fa90_1, fa90_1p, ld3, ld3p, ld22, ld22p, ld23, ld23p, ld30, ld30p, ld32, ld32p, ld35, ld35p, ld39, ld39p, ld51, ld51p, ld58, ld58p, ld66, ld66p, st3s, st30w, st32s, st35w, st39s, st51w, st58w, st88w, st90w, ix22, ix22p, ix32, ix32p, ix39, ix39p, ix46, ix46p, ix64, ix64p, ix66, ix66p, ix78, ix78p, ix81, ix81p, ln22, ln22p, ln32, ln32p, ln39, ln39p, ln46, ln46p, ln64, ln64p, ln66, ln66p, ln78, ln78p, ln81, ln81p, al30, al35, al39, al56, al58, cf12, cf13, cf14, cf15, cf16, cf17, cf18, cf19, cf20, cf21, cf22, cf23, cf24, cf25, cf26, cf27, cf28, cf29, cf30, cf31, cf32, cf33, cf34, cf35, cf36, cf37, cf38, cf39, cf40, cf41, cf42, cf43, cf44, cf45, cf46, cf47, cf48, cf49, cf50, cf51, cf52, cf53, cf54, cf55, cf56, cf57, cf58, cf60, cf61, cf62, cf63, cf64, bd30_0_1_2, bd30_0_1_2p, bd30_1, bd30_1p, bd30_1_2, bd30_1_2p, bd35_0, bd35_0p, bd35_0_1_2, bd35_0_1_2p, bd58_0_1, bd58_0_1p, bd68_0, bd68_0p, bd76_0, bd76_0p, bd88_0_1_2, bd88_0_1_2p, bd90_0_1, bd90_0_1p, bs22_1_0, bs32_1_0, bs39_1_0, bs78_1_0, bs81_1_0, eq4, eq4p, eq23n, eq23np, eq23s, eq23sp, eq37n, eq37np, eq37s, eq37sp, ne4, ne4p, ne23n, ne23np, ne23s, ne23sp, ne35, ne35p]
    unfold S47_l2_k5
    have l5 : a3.le h5 := s5.in 1 rfl
    obtain ⟨rb', l, e1', hrb, hcl, a', t', s7, d7⟩ := tab_store (c := i) t3 s5 d5 o5 (by rw [hml]; exact hi')
    rw [hml, e1] at e1'
    obtain rfl : rb = rb' := by simpa using e1'
    obtain ⟨sa6, cap6, rfl, _⟩ := o5.len (by decide)
    simp -implicitDefEqProofs (maxSteps := 2000000) (disch := first | with_reducible exact Nat.ne_of_beq_eq_false rfl | exact oneCell_int | exact oneCell_bool | omega | rfl | (simp; done) | fail) only [upd_ne, p0, q0, p6, p7, opH_su, opH_sv, opH_nil, fa68_0, add_mk, Nat.add_zero, ld66, cell_up l5 d5 e1, Option.some.injEq, exists_eq_left', ix66 (Int.natCast_nonneg i) hlt, Int.toNat_natCast, Nat.mul_one, Nat.zero_add]
    rw [store1_eq sz32 rfl hrb hcl]
    unfold S47_l2_k4
    simp -implicitDefEqProofs (maxSteps := 2000000) (disch := first | with_reducible exact Nat.ne_of_beq_eq_false rfl | exact oneCell_int | exact oneCell_bool | omega | rfl | (simp; done) | fail) only [upd_ne, p17, q17, thenK_normal, opH_sv, bin_add, wrap_in]
    rw [mapTo_set hL] at t'
    exact HX (T.length - (i + 1)) _ _ (by omega) ⟨i + 1, a', rfl, by omega, by simp -implicitDefEqProofs (maxSteps := 2000000) (disch := first | with_reducible exact Nat.ne_of_beq_eq_false rfl | exact oneCell_int | exact oneCell_bool | omega | rfl | (simp; done) | fail) only [upd_ne, p0, q0], by simp -implicitDefEqProofs (maxSteps := 2000000) (disch := first | with_reducible exact Nat.ne_of_beq_eq_false rfl | exact oneCell_int | exact oneCell_bool | omega | rfl | (simp; done) | fail) only [upd_ne, p1, q1], by simp -implicitDefEqProofs (maxSteps := 2000000) (disch := first | with_reducible exact Nat.ne_of_beq_eq_false rfl | exact oneCell_int | exact oneCell_bool | omega | rfl | (simp; done) | fail) only [upd_ne, p2, q2], by simp -implicitDefEqProofs (maxSteps := 2000000) (disch := first | with_reducible exact Nat.ne_of_beq_eq_false rfl | exact oneCell_int | exact oneCell_bool | omega | rfl | (simp; done) | fail) only [upd_ne, p16, q16], by simp -implicitDefEqProofs (maxSteps := 2000000) (disch := first | with_reducible exact Nat.ne_of_beq_eq_false rfl | exact oneCell_int | exact oneCell_bool | omega | rfl | (simp; done) | fail) only [upd_eq] <;> rfl, t', s7, d7⟩
  obtain ⟨s, hs⟩ : ∃ s, L[j]? = some s := ⟨_, List.getElem?_eq_getElem (by omega)⟩
  obtain ⟨b', of, rfl, z0, z1, z2⟩ := Sees.slot (e4.up (s5.in 1 rfl) d5) hs
  unfold S47_l2_l6_k7
  simp -implicitDefEqProofs (maxSteps := 2000000) (disch := first | with_reducible exact Nat.ne_of_beq_eq_false rfl | exact oneCell_int | exact oneCell_bool | omega | rfl | (simp; done) | fail) only [upd_ne, p26, p28, opH_sv, opH_su, al35, fa35_1, add_mk, Nat.zero_add, ld3, fa35_0, Nat.add_zero, fa35_2, ix32 (Int.natCast_nonneg j) hlt2, Int.toNat_natCast, ld35, z0, Option.some.injEq, z1, z2, exists_eq_left', st35w, cell_set_self, List.getElem?_cons_succ, List.getElem?_cons_zero]
  intro x hx gx
  simp -implicitDefEqProofs (maxSteps := 2000000) (disch := first | with_reducible exact Nat.ne_of_beq_eq_false rfl | exact oneCell_int | exact oneCell_bool | omega | rfl | (simp; done) | fail) only [p2, q2, callV_fn, hcf]
  generalize eh : Hp.set h5 x _ = h6
  obtain ⟨l6, d6, b6⟩ := boxed eh hx d5 gx
  have s6 : HL.Sep (io :: a3 :: R) h6 := by rw [← eh]; exact s5.past hx
  have sx : HL.Sep (noHp.set x (slotO s) :: io :: a3 :: R) h6 := by rw [← eh]; exact s5.new hx
  have cx : ∀ j, cellIn G h6 ⟨x, j, none⟩ = _ := fun j => cell_of (look_own b6)
  refine (hw s.r a3 h6 s6.drop d6).mono ?_
  rintro _ h6 ⟨rfl, rfl⟩
  -- it is kept, as it stands in the box
  have keep : ∀ (K0 : Exit → Rg → Hp → Prop) (q1' : Rg) (h7 : Hp) (s' : Slot), (∀ k, k ≤ 8 → q1' k = q' k) → q1' 16 = q' 16 → q1' 17 = q' 17 → q1' 26 = q' 26 → q1' 27 = q' 27 → q1' 28 = q' 28 → q1' 9 = .pointer (some ⟨x, 0, none⟩) → h7 x = some (slotO s') → HL.Sep (io :: a3 :: R) h7 → Dis G h7 → cutS p u s = some s' →
      S47_l2_l6_k9 G (thenK X' K0) q1' h7 := by
    intro K0 q1' h7 s' hk w16 w17 w26 w27 w28 w9 b7 s7 d7 hcs
    have c7 : ∀ j, cellIn G h7 ⟨x, j, none⟩ = _ := fun j => cell_of (look_own b7)
    unfold S47_l2_l6_k9
    simp -implicitDefEqProofs (maxSteps := 2000000) (disch := first | with_reducible exact Nat.ne_of_beq_eq_false rfl | exact oneCell_int | exact oneCell_bool | omega | rfl | (simp; done) | fail) only [w9, opH_sv, ld35, add_mk, Nat.add_zero, c7, List.getElem?_cons_zero, Option.some.injEq, Nat.zero_add, List.getElem?_cons_succ, bs32_1_0, exists_eq_left']
    intro y hy gy
    generalize ey : Hp.set h7 y _ = h8
    obtain ⟨l8, d8, b8⟩ := boxed ey hy d7 gy
    have s8 : HL.Sep (io :: a3 :: R) h8 := by rw [← ey]; exact s7.past hy
    rw [hk 7 (by decide), p7]
    have hcl := cut_len (p := p) (u := u) (L := L.take j)
    rw [List.length_take] at hcl
    refine append_piece slotC (by decide) un32 eoslot (by decide) (by decide) (M := [s']) s8 d8 o5 (Sees.row (c := slotC) (L := [s']) b8 rfl (Nat.le_refl _)) (by simp; omega) fun v' a' h' o' s' d' => ?_
    unfold S47_l2_l6_k8
    simp -implicitDefEqProofs (maxSteps := 2000000) (disch := first | with_reducible exact Nat.ne_of_beq_eq_false rfl | exact oneCell_int | exact oneCell_bool | omega | rfl | (simp; done) | fail) only [upd_ne, w28, p28, thenK_normal, opH_sv, bin_add, wrap_in]
    refine HX' (L.length - (j + 1)) _ _ (by omega) ⟨j + 1, a', v', rfl, by omega, by simp -implicitDefEqProofs (maxSteps := 2000000) (disch := first | with_reducible exact Nat.ne_of_beq_eq_false rfl | exact oneCell_int | exact oneCell_bool | omega | rfl | (simp; done) | fail) only [upd_ne, hk 0 (by decide), p0], by simp -implicitDefEqProofs (maxSteps := 2000000) (disch := first | with_reducible exact Nat.ne_of_beq_eq_false rfl | exact oneCell_int | exact oneCell_bool | omega | rfl | (simp; done) | fail) only [upd_ne, hk 1 (by decide), p1], by simp -implicitDefEqProofs (maxSteps := 2000000) (disch := first | with_reducible exact Nat.ne_of_beq_eq_false rfl | exact oneCell_int | exact oneCell_bool | omega | rfl | (simp; done) | fail) only [upd_ne, hk 2 (by decide), p2], by simp -implicitDefEqProofs (maxSteps := 2000000) (disch := first | with_reducible exact Nat.ne_of_beq_eq_false rfl | exact oneCell_int | exact oneCell_bool | omega | rfl | (simp; done) | fail) only [upd_ne, w16, p16], by simp -implicitDefEqProofs (maxSteps := 2000000) (disch := first | with_reducible exact Nat.ne_of_beq_eq_false rfl | exact oneCell_int | exact oneCell_bool | omega | rfl | (simp; done) | fail) only [upd_ne, w17, p17], by simp -implicitDefEqProofs (maxSteps := 2000000) (disch := first | with_reducible exact Nat.ne_of_beq_eq_false rfl | exact oneCell_int | exact oneCell_bool | omega | rfl | (simp; done) | fail) only [upd_ne, hk 6 (by decide), p6], by simp -implicitDefEqProofs (maxSteps := 2000000) (disch := first | with_reducible exact Nat.ne_of_beq_eq_false rfl | exact oneCell_int | exact oneCell_bool | omega | rfl | (simp; done) | fail) only [upd_ne, upd_eq], by simp -implicitDefEqProofs (maxSteps := 2000000) (disch := first | with_reducible exact Nat.ne_of_beq_eq_false rfl | exact oneCell_int | exact oneCell_bool | omega | rfl | (simp; done) | fail) only [upd_ne, w26, p26], by simp -implicitDefEqProofs (maxSteps := 2000000) (disch := first | with_reducible exact Nat.ne_of_beq_eq_false rfl | exact oneCell_int | exact oneCell_bool | omega | rfl | (simp; done) | fail) only [upd_ne, w27, p27], by simp -implicitDefEqProofs (maxSteps := 2000000) (disch := first | with_reducible exact Nat.ne_of_beq_eq_false rfl | exact oneCell_int | exact oneCell_bool | omega | rfl | (simp; done) | fail) only [upd_eq] <;> rfl, ?_, s', d'⟩
    rw [cutL_take hs, hcs]
    exact o'
  cases hp : p s.r with
  | false =>
    try simp -implicitDefEqProofs (maxSteps := 2000000) (disch := first | with_reducible exact Nat.ne_of_beq_eq_false rfl | exact oneCell_int | exact oneCell_bool | omega | rfl | (simp; done) | fail) only [HL.cond_false]
    exact keep _ _ _ s (fun k hk => by simp (disch := omega) only [upd_ne]) (by simp -implicitDefEqProofs (maxSteps := 2000000) (disch := first | with_reducible exact Nat.ne_of_beq_eq_false rfl | exact oneCell_int | exact oneCell_bool | omega | rfl | (simp; done) | fail) only [upd_ne]) (by simp -implicitDefEqProofs (maxSteps := 2000000) (disch := first | with_reducible exact Nat.ne_of_beq_eq_false rfl | exact oneCell_int | exact oneCell_bool | omega | rfl | (simp; done) | fail) only [upd_ne]) (by simp -implicitDefEqProofs (maxSteps := 2000000) (disch := first | with_reducible exact Nat.ne_of_beq_eq_false rfl | exact oneCell_int | exact oneCell_bool | omega | rfl | (simp; done) | fail) only [upd_ne]) (by simp -implicitDefEqProofs (maxSteps := 2000000) (disch := first | with_reducible exact Nat.ne_of_beq_eq_false rfl | exact oneCell_int | exact oneCell_bool | omega | rfl | (simp; done) | fail) only [upd_ne]) (by simp -implicitDefEqProofs (maxSteps := 2000000) (disch := first | with_reducible exact Nat.ne_of_beq_eq_false rfl | exact oneCell_int | exact oneCell_bool | omega | rfl | (simp; done) | fail) only [upd_ne]) (by simp -implicitDefEqProofs (maxSteps := 2000000) (disch := first | with_reducible exact Nat.ne_of_beq_eq_false rfl | exact oneCell_int | exact oneCell_bool | omega | rfl | (simp; done) | fail) only [upd_ne, upd_eq]) b6 s6 d6 (by unfold cutS; rw [if_neg (by simp [hp])])
  | true =>
  try simp -implicitDefEqProofs (maxSteps := 2000000) (disch := first | with_reducible exact Nat.ne_of_beq_eq_false rfl | exact oneCell_int | exact oneCell_bool | omega | rfl | (simp; done) | fail) only [cx, List.getElem?_cons_zero, Option.some.injEq, p1, q1, exists_eq_left', max_two, HL.cond_true]
  rw [st3at b6 (by simp)]
  have sx2 := sx.put (o := slotO ⟨max s.f u, s.t, s.r⟩) set_self
  rw [set_set] at sx2
  have e9 : (h6.set x (.cells (List.set [.int .i64 s.f, .int .i64 s.t, .int .i64 s.r] 0 (.int .i64 (max s.f u))).toArray 35 (0, 0))) = h6.set x (slotO ⟨max s.f u, s.t, s.r⟩) := rfl
  rw [e9]
  have d9 : Dis G (h6.set x (slotO ⟨max s.f u, s.t, s.r⟩)) := d6.set gx
  generalize e10 : Hp.set h6 x _ = h7 at sx2 d9 ⊢
  have b7 := set_is e10
  have c7 : ∀ j, cellIn G h7 ⟨x, j, none⟩ = _ := fun j => cell_of (look_own b7)
  try simp -implicitDefEqProofs (maxSteps := 2000000) (disch := first | with_reducible exact Nat.ne_of_beq_eq_false rfl | exact oneCell_int | exact oneCell_bool | omega | rfl | (simp; done) | fail) only [c7, List.getElem?_cons_zero, Option.some.injEq, List.getElem?_cons_succ, exists_eq_left', bin_geq]
  refine cond_dec (fun hdrop => ?_) (fun hkeep => ?_)
  · unfold S47_l2_l6_k8
    simp -implicitDefEqProofs (maxSteps := 2000000) (disch := first | with_reducible exact Nat.ne_of_beq_eq_false rfl | exact oneCell_int | exact oneCell_bool | omega | rfl | (simp; done) | fail) only [upd_ne, p28, thenK_normal, opH_sv, bin_add, wrap_in]
    refine HX' (L.length - (j + 1)) _ _ (by omega) ⟨j + 1, io, v, rfl, by omega, by simp -implicitDefEqProofs (maxSteps := 2000000) (disch := first | with_reducible exact Nat.ne_of_beq_eq_false rfl | exact oneCell_int | exact oneCell_bool | omega | rfl | (simp; done) | fail) only [upd_ne, p0], by simp -implicitDefEqProofs (maxSteps := 2000000) (disch := first | with_reducible exact Nat.ne_of_beq_eq_false rfl | exact oneCell_int | exact oneCell_bool | omega | rfl | (simp; done) | fail) only [upd_ne, p1], by simp -implicitDefEqProofs (maxSteps := 2000000) (disch := first | with_reducible exact Nat.ne_of_beq_eq_false rfl | exact oneCell_int | exact oneCell_bool | omega | rfl | (simp; done) | fail) only [upd_ne, p2], by simp -implicitDefEqProofs (maxSteps := 2000000) (disch := first | with_reducible exact Nat.ne_of_beq_eq_false rfl | exact oneCell_int | exact oneCell_bool | omega | rfl | (simp; done) | fail) only [upd_ne, p16], by simp -implicitDefEqProofs (maxSteps := 2000000) (disch := first | with_reducible exact Nat.ne_of_beq_eq_false rfl | exact oneCell_int | exact oneCell_bool | omega | rfl | (simp; done) | fail) only [upd_ne, p17], by simp -implicitDefEqProofs (maxSteps := 2000000) (disch := first | with_reducible exact Nat.ne_of_beq_eq_false rfl | exact oneCell_int | exact oneCell_bool | omega | rfl | (simp; done) | fail) only [upd_ne, p6], by simp -implicitDefEqProofs (maxSteps := 2000000) (disch := first | with_reducible exact Nat.ne_of_beq_eq_false rfl | exact oneCell_int | exact oneCell_bool | omega | rfl | (simp; done) | fail) only [upd_ne, p7], by simp -implicitDefEqProofs (maxSteps := 2000000) (disch := first | with_reducible exact Nat.ne_of_beq_eq_false rfl | exact oneCell_int | exact oneCell_bool | omega | rfl | (simp; done) | fail) only [upd_ne, p26], by simp -implicitDefEqProofs (maxSteps := 2000000) (disch := first | with_reducible exact Nat.ne_of_beq_eq_false rfl | exact oneCell_int | exact oneCell_bool | omega | rfl | (simp; done) | fail) only [upd_ne, p27], by simp -implicitDefEqProofs (maxSteps := 2000000) (disch := first | with_reducible exact Nat.ne_of_beq_eq_false rfl | exact oneCell_int | exact oneCell_bool | omega | rfl | (simp; done) | fail) only [upd_eq] <;> rfl, ?_, sx2.drop, d9⟩
    rw [cutL_take hs, show cutS p u s = none by unfold cutS; rw [if_pos hp, if_pos hdrop]]
    simpa using o5
  · exact keep _ _ _ ⟨max s.f u, s.t, s.r⟩ (fun k hk => by simp (disch := omega) only [upd_ne]) (by simp -implicitDefEqProofs (maxSteps := 2000000) (disch := first | with_reducible exact Nat.ne_of_beq_eq_false rfl | exact oneCell_int | exact oneCell_bool | omega | rfl | (simp; done) | fail) only [upd_ne]) (by simp -implicitDefEqProofs (maxSteps := 2000000) (disch := first | with_reducible exact Nat.ne_of_beq_eq_false rfl | exact oneCell_int | exact oneCell_bool | omega | rfl | (simp; done) | fail) only [upd_ne]) (by simp -implicitDefEqProofs (maxSteps := 2000000) (disch := first | with_reducible exact Nat.ne_of_beq_eq_false rfl | exact oneCell_int | exact oneCell_bool | omega | rfl | (simp; done) | fail) only [upd_ne]) (by simp -implicitDefEqProofs (maxSteps := 2000000) (disch := first | with_reducible exact Nat.ne_of_beq_eq_false rfl | exact oneCell_int | exact oneCell_bool | omega | rfl | (simp; done) | fail) only [upd_ne]) (by simp -implicitDefEqProofs (maxSteps := 2000000) (disch := first | with_reducible exact Nat.ne_of_beq_eq_false rfl | exact oneCell_int | exact oneCell_bool | omega | rfl | (simp; done) | fail) only [upd_ne]) (by simp -implicitDefEqProofs (maxSteps := 2000000) (disch := first | with_reducible exact Nat.ne_of_beq_eq_false rfl | exact oneCell_int | exact oneCell_bool | omega | rfl | (simp; done) | fail) only [upd_ne, upd_eq]) b7 sx2.drop d9 (by unfold cutS; rw [if_pos hp, if_neg hkeep])

theorem expire_spec {G h a : Hp} {R : List Hp} {tp b : Nat} {T : Tb} {u : Int} (tb : Tab 68 a tp T) (sp : HL.Sep (a :: R) h) (fw : Few T b) (hb : b ≤ 50000) (hT : T.length ≤ 1000) :
    HCalls Try.prog G 26 #[.pointer (some ⟨tp, 0, none⟩), .int .i64 u] h (fun v h' => v = .tuple #[] ∧ ∃ a', Tab 68 a' tp (cutT (fun _ => true) u T) ∧ HL.Sep (a' :: R) h' ∧ Dis G h') := by
  refine enter26 (by simp) ?_
  unfold S26
  simp -implicitDefEqProofs (maxSteps := 2000000) (disch := first | with_reducible exact Nat.ne_of_beq_eq_false rfl | exact oneCell_int | exact oneCell_bool | omega | rfl | (simp; done) | fail) only [regs0, regs1, retK_normal, resL_nil0, true_and, cf47]
  refine (cut_walk (p := fun _ => true) (u := u) (id := 48) tb sp fw hb hT (fun args h K => cf48) fun r a' h' s' d' => ?_).mono ?_
  · refine enter48 (by simp) ?_
    unfold S48
    simp -implicitDefEqProofs (maxSteps := 2000000) (disch := first | with_reducible exact Nat.ne_of_beq_eq_false rfl | exact oneCell_int | exact oneCell_bool | omega | rfl | (simp; done) | fail) only [retK_ret, resL_tmp, upd_eq, resL_nil1, and_true]
  · rintro _ h' ⟨rfl, a', t', s', d'⟩
    exact ⟨a', t', s', d'⟩

theorem release_spec {G h a : Hp} {R : List Hp} {tp b : Nat} {T : Tb} {r u : Int} (tb : Tab 68 a tp T) (sp : HL.Sep (a :: R) h) (fw : Few T b) (hb : b ≤ 50000) (hT : T.length ≤ 1000) :
    HCalls Try.prog G 27 #[.pointer (some ⟨tp, 0, none⟩), .int .i64 r, .int .i64 u] h (fun v h' => v = .tuple #[] ∧ ∃ a', Tab 68 a' tp (cutT (fun x => x == r) u T) ∧ HL.Sep (a' :: R) h' ∧ Dis G h') := by
  refine HCalls.assume fun d => enter27 (by simp) ?_
  unfold S27
  simp -implicitDefEqProofs (maxSteps := 2000000) (disch := first | with_reducible exact Nat.ne_of_beq_eq_false rfl | exact oneCell_int | exact oneCell_bool | omega | rfl | (simp; done) | fail) only [regs1, regs0, regs2, retK_normal, resL_nil0, true_and, cf47, opH_sv, box_new, cells_int]
  intro x hx gx
  generalize ex : Hp.set h x _ = h1
  obtain ⟨l1, d1, b1⟩ := boxed ex hx d gx
  have s1 : HL.Sep (a :: noHp.set x (.cells #[.int .i64 r] 3 (0, 0)) :: R) h1 := by rw [← ex]; exact (sp.new hx).swap
  try simp -implicitDefEqProofs (maxSteps := 2000000) (disch := first | with_reducible exact Nat.ne_of_beq_eq_false rfl | exact oneCell_int | exact oneCell_bool | omega | rfl | (simp; done) | fail) only [opH_sv, opH_su, pureW_sv, opH_nil, pureW_nil, pick_t, pick_f, pick_tp, pick_fp, gd_tt, gd_ft, gd_tf, gd_ff, box_new, regs0, regs1, regs2, regs3, regs4, regs5, regs6, cells_agg, cells_int, cells_bool, cells_ptr, cells_slice, cells_string, cells_func, cells_nilFunc, cells_map, retK_ret, retK_normal, resL_tmp, resL_cell, resL_nil0, resL_nil1, resL_nil2, resL_nil3, resC_ptr, ex0, ex1, ex2, ex0p, ex1p, ex2p, HL.cond_true, HL.cond_false, thenK_normal, thenK_ret, thenK_exit, blockK_normal, blockK_ret, blockK_exit, scopeK_normal, scopeK_ret, scopeK_exit, wpH_pure, bin_add, bin_sub, bin_mul, bin_lss, bin_leq, bin_gtr, bin_geq, bin_quo, bin_rem, bin_quop, bin_remp, wrap_in, bin_addp, bin_subp, bin_mulp, bin_lssp, bin_leqp, bin_gtrp, bin_geqp, un_not, un_notp, un_neg, eq_int, ne_int, eq_intp, ne_intp, callV_fn, add_mk, upd_eq, upd_ne, cell_set_self, Nat.zero_add, Nat.add_zero, Option.some.injEq, exists_eq_left', List.getElem?_cons_succ, List.getElem?_cons_zero, true_and, and_true, bne_self_eq_false, beq_self_eq_true, Bool.not_true, Bool.not_false, Bool.and_true, Bool.and_self, Bool.and_false, Bool.true_and, List.length_cons, List.length_nil, ne_eq, not_false_eq_true, Nat.reduceAdd, Nat.reduceMul, if_true, if_false, oneCell_int, oneCell_bool, oneCell_ptr, oneCell_slice, oneCell_string, oneCell_func, oneCell_map, Int.toNat_natCast, List.set_cons_zero, List.set_cons_succ, Nat.lt_irrefl, Nat.zero_lt_succ, Nat.succ_lt_succ_iff, fa30_0, fa30_0p, fa30_1, fa30_1p, fa30_2, fa30_2p, fa35_0, fa35_0p, fa35_1, fa35_1p, fa35_2, fa35_2p, fa51_0, fa51_0p, fa51_1, fa51_1p, fa51_2, fa51_2p, fa51_3, fa51_3p, fa51_4, fa51_4p, fa51_5, fa51_5p, fa68_0, fa68_0p, fa76_0, fa76_0p, fa88_0, fa88_0p, fa88_1, fa88_1p, fa88_2, fa88_2p, fa90_0, fa90_0p, fa90_1, fa90_1p, ld3, ld3p, ld22, ld22p, ld23, ld23p, ld30, ld30p, ld32, ld32p, ld35, ld35p, ld39, ld39p, ld51, ld51p, ld58, ld58p, ld66, ld66p, st3s, st30w, st32s, st35w, st39s, st51w, st58w, st88w, st90w, ix22, ix22p, ix32, ix32p, ix39, ix39p, ix46, ix46p, ix64, ix64p, ix66, ix66p, ix78, ix78p, ix81, ix81p, ln22, ln22p, ln32, ln32p, ln39, ln39p, ln46, ln46p, ln64, ln64p, ln66, ln66p, ln78, ln78p, ln81, ln81p, al30, al35, al39, al56, al58, cf12, cf13, cf14, cf15, cf16, cf17, cf18, cf19, cf20, cf21, cf22, cf23, cf24, cf25, cf26, cf27, cf28, cf29, cf30, cf31, cf32, cf33, cf34, cf35, cf36, cf37, cf38, cf39, cf40, cf41, cf42, cf43, cf44, cf45, cf46, cf47, cf48, cf49, cf50, cf51, cf52, cf53, cf54, cf55, cf56, cf57, cf58, cf60, cf61, cf62, cf63, cf64, bd30_0_1_2, bd30_0_1_2p, bd30_1, bd30_1p, bd30_1_2, bd30_1_2p, bd35_0, bd35_0p, bd35_0_1_2, bd35_0_1_2p, bd58_0_1, bd58_0_1p, bd68_0, bd68_0p, bd76_0, bd76_0p, bd88_0_1_2, bd88_0_1_2p, bd90_0_1, bd90_0_1p, bs22_1_0, bs32_1_0, bs39_1_0, bs78_1_0, bs81_1_0, eq4, eq4p, eq23n, eq23np, eq23s, eq23sp, eq37n, eq37np, eq37s, eq37sp, ne4, ne4p, ne23n, ne23np, ne23s, ne23sp, ne35, ne35p]
  refine (cut_walk (p := fun x => x == r) (u := u) (id := 49) tb s1 fw hb hT (fun args h K => cf49) fun r2 a' h' s' d' => ?_).mono ?_
  · refine enter49 (by simp) ?_
    unfold S49
    have cx : ∀ j, cellIn G h' ⟨x, j, none⟩ = _ := fun j => cell_of (look_own (s'.at 1 rfl set_self))
    simp -implicitDefEqProofs (maxSteps := 2000000) (disch := first | with_reducible exact Nat.ne_of_beq_eq_false rfl | exact oneCell_int | exact oneCell_bool | omega | rfl | (simp; done) | fail) only [show ((#[] ++ #[Value.int .i64 r2]) ++ #[Value.pointer (some ⟨x, 0, none⟩)] : Array Value) = #[.int .i64 r2, .pointer (some ⟨x, 0, none⟩)] from rfl, regs1, regs0, retK_ret, resL_tmp, upd_eq, resL_nil1, opH_sv, ld3, cx, List.getElem?_cons_zero, Option.some.injEq, exists_eq_left', eq_int, and_true]
  · rintro _ h' ⟨rfl, a', t', s', d'⟩
    exact ⟨a', t', s'.swap.drop, d'⟩

theorem clear_spec {G h a : Hp} {R : List Hp} {tp b : Nat} {T : Tb} {r : Int} (tb : Tab 68 a tp T) (sp : HL.Sep (a :: R) h) (fw : Few T b) (hb : b ≤ 50000) (hT : T.length ≤ 1000) :
    HCalls Try.prog G 28 #[.pointer (some ⟨tp, 0, none⟩), .int .i64 r] h (fun v h' => v = .tuple #[] ∧ ∃ a', Tab 68 a' tp (cutT (fun x => x == r) FV T) ∧ HL.Sep (a' :: R) h' ∧ Dis G h') := by
  refine enter28 (by simp) ?_
  unfold S28
  simp -implicitDefEqProofs (maxSteps := 2000000) (disch := first | with_reducible exact Nat.ne_of_beq_eq_false rfl | exact oneCell_int | exact oneCell_bool | omega | rfl | (simp; done) | fail) only [regs0, regs1, retK_normal, resL_nil0, true_and, cf27]
  refine (release_spec (r := r) (u := FV) tb sp fw hb hT).mono ?_
  rintro _ h' ⟨rfl, a', t', s', d'⟩
  exact ⟨a', t', s', d'⟩

end Go.Proofs.Ytbloobepmgmbgaa
