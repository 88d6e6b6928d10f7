/- A slot put into a row of one's own: slices.Insert. -/
import Derived.Test.YtbloobepmgmbgaaRB
set_option linter.unusedSimpArgs false
set_option linter.unusedVariables false
set_option maxRecDepth 100000
namespace Go.Proofs.Ytbloobepmgmbgaa
open Go Go.HL Go.Proofs.Resv

theorem f59_name : (Try.f59.name == "runtime.NumGoroutine") = false := by kernel_rfl
theorem f59_body : Try.f59.body.isNone = true := by kernel_rfl
theorem f59_next : (Extern.findNext Try.f59).isNone = true := by kernel_rfl
theorem f59_find : Extern.find Try.f59 = some (Extern.SlicesOverlaps.overlaps Try.f59.params Try.f59.resultTypes) := by kernel_rfl
theorem f59_params : Try.f59.params = #[32, 32] := by kernel_rfl

theorem over_eq {G h : Hp} {a b : Value} {K : Value → Hp → Prop} : opH Try.prog G (callFunc 59 #[a, b]) h K = wpH Try.prog G (Extern.SlicesOverlaps.overlaps Try.f59.params Try.f59.resultTypes #[a, b]) h K := by
  have hb' : ∀ (α β : Type) (s : Sem α) (g : α → Sem β), (s >>= g) = s.bind g := fun _ _ _ _ => rfl
  have hn : Extern.findNext Try.f59 = none := by simpa using f59_next
  have hx := Try.func59
  unfold opH callFunc
  simp only [hb', program, Sem.bind, wpH, hx, f59_name, f59_body, if_true, Bool.false_eq_true, if_false, mark, hn, f59_find, pure]
  rw [wpH_bind]
  rfl

theorem over_no {G h : Hp} {x b o la ca lb cb : Nat} {cs cs2 : Array Value} {e e2 : TypeId} (hx : h x = some (.cells cs e (0, 0))) (hb : h b = some (.cells cs2 e2 (0, 0))) (hne : x ≠ b) {K : Value → Hp → Prop} :
    opH Try.prog G (callFunc 59 #[.slice (some ⟨x, 0, none⟩) la ca, .slice (some ⟨b, o, none⟩) lb cb]) h K = K (.bool false) h := by
  rw [over_eq]
  have hb' : ∀ (α β : Type) (s : Sem α) (g : α → Sem β), (s >>= g) = s.bind g := fun _ _ _ _ => rfl
  have lx : HL.look G h x = some (.cells cs e (0, 0)) := look_own hx
  have lb' : HL.look G h b = some (.cells cs2 e2 (0, 0)) := look_own hb
  obtain ⟨i, z, hi, hsz, _⟩ := eoslot.get
  rw [f59_params]
  conv => lhs; arg 3; whnf
  simp only [hb', underlying, program, sizeOf, typeInfo, Sem.bind, pure, wpH, wpH_bind, un32, hi, List.getElem?_toArray, List.getElem?_cons_zero]
  rw [show (#[32, 32] : Array TypeId)[0] = 32 from rfl, un32]
  simp only [wpH, wpH_bind, hi]
  split
  · rfl
  · have hxb : (x != b) = true := by simpa using hne
    have hxb2 : (x == b) = false := by simpa using hne
    simp [frozen, noView, viewAt, mayBeOne, stringish, shape, wpH, wpH_bind, lx, lb', objFrozen, objShape, hxb, hxb2, bind, pure, getObj, Sem.bind]

theorem cap32 {G h : Hp} {a : Option Addr} {n c : Nat} {K : Value → Hp → Prop} : wpH Try.prog G (Builtin.cap_ #[32] 3 #[.slice a n c]) h K = K (.int .i64 c) h := by kernel_rfl
theorem splice_new {A D : List Slot} {x : Slot} {zs : List Value} {m : Nat} : ∃ rest, (((slotC.rows A ++ zs).take (A.length * 3) ++ slotC.rows [x] ++ (slotC.rows A ++ zs).drop (A.length * 3 + [x].length * slotC.n)).take ((A.length + 1) * 3) ++ slotC.rows D ++
    ((slotC.rows A ++ zs).take (A.length * 3) ++ slotC.rows [x] ++ (slotC.rows A ++ zs).drop (A.length * 3 + [x].length * slotC.n)).drop m) = slotC.rows (A ++ x :: D) ++ rest := by
  have e1 : (slotC.rows A ++ zs).take (A.length * 3) = slotC.rows A := List.take_left' (by rw [slotC.rows_length]; rfl)
  rw [e1, ← slotC.rows_append]
  rw [List.take_left' (l₁ := slotC.rows (A ++ [x])) (by rw [slotC.rows_length]; simp; rfl), ← slotC.rows_append]
  rw [show A ++ [x] ++ D = A ++ x :: D by simp]
  exact ⟨_, rfl⟩
theorem splice_in {L : List Slot} {i : Nat} {x : Slot} {t : List Value} (hi : i < L.length) {m : Nat} : ∃ rest, (((slotC.rows L ++ t).take ((i + 1) * 3) ++ slotC.rows (L.drop i) ++ (slotC.rows L ++ t).drop m).take (i * 3) ++ slotC.rows [x] ++
    ((slotC.rows L ++ t).take ((i + 1) * 3) ++ slotC.rows (L.drop i) ++ (slotC.rows L ++ t).drop m).drop (i * 3 + [x].length * slotC.n)) = slotC.rows (L.take i ++ x :: L.drop i) ++ rest := by
  refine ⟨(slotC.rows L ++ t).drop m, ?_⟩
  have e1 : (slotC.rows L ++ t).take ((i + 1) * 3) = slotC.rows (L.take (i + 1)) := slotC.rows_take (by omega)
  rw [e1, ← slotC.rows_append]
  have hlen : (L.take (i + 1) ++ L.drop i).length = L.length + 1 := by simp; omega
  have e2 := slotC.rows_take (L := L.take (i + 1) ++ L.drop i) (t := (slotC.rows L ++ t).drop m) (k := i) (by omega)
  have e3 := slotC.rows_drop (L := L.take (i + 1) ++ L.drop i) (t := (slotC.rows L ++ t).drop m) (k := i + 1) (by omega)
  rw [show slotC.n = 3 from rfl] at e2 e3 ⊢
  rw [e2, show i * 3 + [x].length * 3 = (i + 1) * 3 by simp; omega, e3]
  have t1 : (L.take (i + 1) ++ L.drop i).take i = L.take i := by
    rw [List.take_append_of_le_length (by simp; omega), List.take_take]
    congr 1; omega
  have t2 : (L.take (i + 1) ++ L.drop i).drop (i + 1) = L.drop i := List.drop_left' (by simp; omega)
  rw [t1, t2, ← slotC.rows_append, ← List.append_assoc, ← slotC.rows_append]
  simp

set_option maxHeartbeats 2000000 in
theorem insert_spec {G h a : Hp} {R : List Hp} {v : Value} {L : List Slot} {i xb : Nat} {x : Slot} (s : Sep (a :: R) h) (d : Dis G h) (o : Slc slotC 35 a v L) (hx : h xb = some (slotO x)) (hxa : a xb = none) (hi : i ≤ L.length) (hlen : L.length ≤ 100000) :
    HCalls Try.prog G 52 #[v, .int .i64 i, .slice (some ⟨xb, 0, none⟩) 1 1] h (fun u h' => ∃ a', Slc slotC 35 a' u (L.take i ++ x :: L.drop i) ∧ Sep (a' :: R) h' ∧ Dis G h') := by
  refine enter52 (by simp) ?_
  unfold S52
  have sx : Sees slotC G h (.slice (some ⟨xb, 0, none⟩) 1 1) [x] := Sees.row (c := slotC) (L := [x]) hx rfl (Nat.le_refl _)
  obtain ⟨ob, o⟩ := o
  cases ob with
  | none =>
    obtain ⟨rfl, rfl⟩ := o
    obtain rfl : i = 0 := by simpa using hi
    simp -implicitDefEqProofs (maxSteps := 2000000) (disch := first | with_reducible exact Nat.ne_of_beq_eq_false rfl | exact oneCell_int | exact oneCell_bool | omega | rfl | (simp; done) | fail) only [show ((0 : Nat) : Int) = 0 from rfl, regs0, regs1, regs2, retK_ret, resL_tmp, upd_eq, resL_nil1, opH_sv, ln32, eq_int, show (((1 : Nat) : Int) == 0) = false from rfl, HL.cond_false, slice_from0 un32 sz35]
    unfold S52_k1
    simp -implicitDefEqProofs (maxSteps := 2000000) (disch := first | with_reducible exact Nat.ne_of_beq_eq_false rfl | exact oneCell_int | exact oneCell_bool | omega | rfl | (simp; done) | fail) only [upd_ne, regs0, regs1, regs2, retK_ret, resL_tmp, upd_eq, resL_nil1, opH_sv, ln32, show ((0 : Nat) : Int) = 0 from rfl, eq_int, beq_self_eq_true, HL.cond_true]
    refine append_piece slotC (by decide) un32 eoslot (by decide) (by decide) (M := [x]) s d Slc.nil sx (by simp) fun v' a' h' o' s' d' => ?_
    try simp -implicitDefEqProofs (maxSteps := 2000000) (disch := first | with_reducible exact Nat.ne_of_beq_eq_false rfl | exact oneCell_int | exact oneCell_bool | omega | rfl | (simp; done) | fail) only [opH_sv, opH_su, pureW_sv, opH_nil, pureW_nil, pick_t, pick_f, pick_tp, pick_fp, gd_tt, gd_ft, gd_tf, gd_ff, box_new, regs0, regs1, regs2, regs3, regs4, regs5, regs6, cells_agg, cells_int, cells_bool, cells_ptr, cells_slice, cells_string, cells_func, cells_nilFunc, cells_map, retK_ret, retK_normal, resL_tmp, resL_cell, resL_nil0, resL_nil1, resL_nil2, resL_nil3, resC_ptr, ex0, ex1, ex2, ex0p, ex1p, ex2p, HL.cond_true, HL.cond_false, thenK_normal, thenK_ret, thenK_exit, blockK_normal, blockK_ret, blockK_exit, scopeK_normal, scopeK_ret, scopeK_exit, wpH_pure, bin_add, bin_sub, bin_mul, bin_lss, bin_leq, bin_gtr, bin_geq, bin_quo, bin_rem, bin_quop, bin_remp, wrap_in, bin_addp, bin_subp, bin_mulp, bin_lssp, bin_leqp, bin_gtrp, bin_geqp, un_not, un_notp, un_neg, eq_int, ne_int, eq_intp, ne_intp, callV_fn, add_mk, upd_eq, upd_ne, cell_set_self, Nat.zero_add, Nat.add_zero, Option.some.injEq, exists_eq_left', List.getElem?_cons_succ, List.getElem?_cons_zero, true_and, and_true, bne_self_eq_false, beq_self_eq_true, Bool.not_true, Bool.not_false, Bool.and_true, Bool.and_self, Bool.and_false, Bool.true_and, List.length_cons, List.length_nil, ne_eq, not_false_eq_true, Nat.reduceAdd, Nat.reduceMul, if_true, if_false, oneCell_int, oneCell_bool, oneCell_ptr, oneCell_slice, oneCell_string, oneCell_func, oneCell_map, Int.toNat_natCast, List.set_cons_zero, List.set_cons_succ, Nat.lt_irrefl, Nat.zero_lt_succ, Nat.succ_lt_succ_iff, fa30_0, fa30_0p, fa30_1, fa30_1p, fa30_2, fa30_2p, fa35_0, fa35_0p, fa35_1, fa35_1p, fa35_2, fa35_2p, fa51_0, fa51_0p, fa51_1, fa51_1p, fa51_2, fa51_2p, fa51_3, fa51_3p, fa51_4, fa51_4p, fa51_5, fa51_5p, fa68_0, fa68_0p, fa76_0, fa76_0p, fa88_0, fa88_0p, fa88_1, fa88_1p, fa88_2, fa88_2p, fa90_0, fa90_0p, fa90_1, fa90_1p, ld3, ld3p, ld22, ld22p, ld23, ld23p, ld30, ld30p, ld32, ld32p, ld35, ld35p, ld39, ld39p, ld51, ld51p, ld58, ld58p, ld66, ld66p, st3s, st30w, st32s, st35w, st39s, st51w, st58w, st88w, st90w, ix22, ix22p, ix32, ix32p, ix39, ix39p, ix46, ix46p, ix64, ix64p, ix66, ix66p, ix78, ix78p, ix81, ix81p, ln22, ln22p, ln32, ln32p, ln39, ln39p, ln46, ln46p, ln64, ln64p, ln66, ln66p, ln78, ln78p, ln81, ln81p, al30, al35, al39, al56, al58, cf12, cf13, cf14, cf15, cf16, cf17, cf18, cf19, cf20, cf21, cf22, cf23, cf24, cf25, cf26, cf27, cf28, cf29, cf30, cf31, cf32, cf33, cf34, cf35, cf36, cf37, cf38, cf39, cf40, cf41, cf42, cf43, cf44, cf45, cf46, cf47, cf48, cf49, cf50, cf51, cf52, cf53, cf54, cf55, cf56, cf57, cf58, cf60, cf61, cf62, cf63, cf64, bd30_0_1_2, bd30_0_1_2p, bd30_1, bd30_1p, bd30_1_2, bd30_1_2p, bd35_0, bd35_0p, bd35_0_1_2, bd35_0_1_2p, bd58_0_1, bd58_0_1p, bd68_0, bd68_0p, bd76_0, bd76_0p, bd88_0_1_2, bd88_0_1_2p, bd90_0_1, bd90_0_1p, bs22_1_0, bs32_1_0, bs39_1_0, bs78_1_0, bs81_1_0, eq4, eq4p, eq23n, eq23np, eq23s, eq23sp, eq37n, eq37np, eq37s, eq37sp, ne4, ne4p, ne23n, ne23np, ne23s, ne23sp, ne35, ne35p]
    exact ⟨a', o', s', d'⟩
  | some b =>
    obtain ⟨cap, t, rfl, hb, hl⟩ := o
    have hc : L.length ≤ cap := by
      have := congrArg (fun n => n) hl
      rw [List.length_append, slotC.rows_length] at hl
      have : slotC.n = 3 := rfl
      rw [this] at hl
      omega
    have ow : Slc slotC 35 a (.slice (some ⟨b, 0, none⟩) L.length cap) L := ⟨some b, cap, t, rfl, hb, hl⟩
    have sv := ow.sees (G := G) (by decide) s.hd
    have hbh := s.hd _ _ hb
    have hne : xb ≠ b := fun e => by rw [e, hb] at hxa; cases hxa
    simp -implicitDefEqProofs (maxSteps := 2000000) (disch := first | with_reducible exact Nat.ne_of_beq_eq_false rfl | exact oneCell_int | exact oneCell_bool | omega | rfl | (simp; done) | fail) only [regs0, regs1, regs2, retK_ret, resL_tmp, upd_eq, resL_nil1, opH_sv, ln32, eq_int, show (((1 : Nat) : Int) == 0) = false from rfl, HL.cond_false, slice_from un32 sz35 (Int.natCast_nonneg i) (show (i : Int) ≤ (L.length : Nat) by omega) hc, Int.toNat_natCast, add_mk, Nat.zero_add]
    unfold S52_k1
    simp -implicitDefEqProofs (maxSteps := 2000000) (disch := first | with_reducible exact Nat.ne_of_beq_eq_false rfl | exact oneCell_int | exact oneCell_bool | omega | rfl | (simp; done) | fail) only [upd_ne, regs0, regs1, regs2, retK_ret, resL_tmp, upd_eq, resL_nil1, opH_sv, ln32, eq_int]
    by_cases hin : i = L.length
    · subst hin
      simp -implicitDefEqProofs (maxSteps := 2000000) (disch := first | with_reducible exact Nat.ne_of_beq_eq_false rfl | exact oneCell_int | exact oneCell_bool | omega | rfl | (simp; done) | fail) only [beq_self_eq_true, HL.cond_true]
      refine append_piece slotC (by decide) un32 eoslot (by decide) (by decide) (M := [x]) s d ow sx (by simp; omega) fun v' a' h' o' s' d' => ?_
      try simp -implicitDefEqProofs (maxSteps := 2000000) (disch := first | with_reducible exact Nat.ne_of_beq_eq_false rfl | exact oneCell_int | exact oneCell_bool | omega | rfl | (simp; done) | fail) only [opH_sv, opH_su, pureW_sv, opH_nil, pureW_nil, pick_t, pick_f, pick_tp, pick_fp, gd_tt, gd_ft, gd_tf, gd_ff, box_new, regs0, regs1, regs2, regs3, regs4, regs5, regs6, cells_agg, cells_int, cells_bool, cells_ptr, cells_slice, cells_string, cells_func, cells_nilFunc, cells_map, retK_ret, retK_normal, resL_tmp, resL_cell, resL_nil0, resL_nil1, resL_nil2, resL_nil3, resC_ptr, ex0, ex1, ex2, ex0p, ex1p, ex2p, HL.cond_true, HL.cond_false, thenK_normal, thenK_ret, thenK_exit, blockK_normal, blockK_ret, blockK_exit, scopeK_normal, scopeK_ret, scopeK_exit, wpH_pure, bin_add, bin_sub, bin_mul, bin_lss, bin_leq, bin_gtr, bin_geq, bin_quo, bin_rem, bin_quop, bin_remp, wrap_in, bin_addp, bin_subp, bin_mulp, bin_lssp, bin_leqp, bin_gtrp, bin_geqp, un_not, un_notp, un_neg, eq_int, ne_int, eq_intp, ne_intp, callV_fn, add_mk, upd_eq, upd_ne, cell_set_self, Nat.zero_add, Nat.add_zero, Option.some.injEq, exists_eq_left', List.getElem?_cons_succ, List.getElem?_cons_zero, true_and, and_true, bne_self_eq_false, beq_self_eq_true, Bool.not_true, Bool.not_false, Bool.and_true, Bool.and_self, Bool.and_false, Bool.true_and, List.length_cons, List.length_nil, ne_eq, not_false_eq_true, Nat.reduceAdd, Nat.reduceMul, if_true, if_false, oneCell_int, oneCell_bool, oneCell_ptr, oneCell_slice, oneCell_string, oneCell_func, oneCell_map, Int.toNat_natCast, List.set_cons_zero, List.set_cons_succ, Nat.lt_irrefl, Nat.zero_lt_succ, Nat.succ_lt_succ_iff, fa30_0, fa30_0p, fa30_1, fa30_1p, fa30_2, fa30_2p, fa35_0, fa35_0p, fa35_1, fa35_1p, fa35_2, fa35_2p, fa51_0, fa51_0p, fa51_1, fa51_1p, fa51_2, fa51_2p, fa51_3, fa51_3p, fa51_4, fa51_4p, fa51_5, fa51_5p, fa68_0, fa68_0p, fa76_0, fa76_0p, fa88_0, fa88_0p, fa88_1, fa88_1p, fa88_2, fa88_2p, fa90_0, fa90_0p, fa90_1, fa90_1p, ld3, ld3p, ld22, ld22p, ld23, ld23p, ld30, ld30p, ld32, ld32p, ld35, ld35p, ld39, ld39p, ld51, ld51p, ld58, ld58p, ld66, ld66p, st3s, st30w, st32s, st35w, st39s, st51w, st58w, st88w, st90w, ix22, ix22p, ix32, ix32p, ix39, ix39p, ix46, ix46p, ix64, ix64p, ix66, ix66p, ix78, ix78p, ix81, ix81p, ln22, ln22p, ln32, ln32p, ln39, ln39p, ln46, ln46p, ln64, ln64p, ln66, ln66p, ln78, ln78p, ln81, ln81p, al30, al35, al39, al56, al58, cf12, cf13, cf14, cf15, cf16, cf17, cf18, cf19, cf20, cf21, cf22, cf23, cf24, cf25, cf26, cf27, cf28, cf29, cf30, cf31, cf32, cf33, cf34, cf35, cf36, cf37, cf38, cf39, cf40, cf41, cf42, cf43, cf44, cf45, cf46, cf47, cf48, cf49, cf50, cf51, cf52, cf53, cf54, cf55, cf56, cf57, cf58, cf60, cf61, cf62, cf63, cf64, bd30_0_1_2, bd30_0_1_2p, bd30_1, bd30_1p, bd30_1_2, bd30_1_2p, bd35_0, bd35_0p, bd35_0_1_2, bd35_0_1_2p, bd58_0_1, bd58_0_1p, bd68_0, bd68_0p, bd76_0, bd76_0p, bd88_0_1_2, bd88_0_1_2p, bd90_0_1, bd90_0_1p, bs22_1_0, bs32_1_0, bs39_1_0, bs78_1_0, bs81_1_0, eq4, eq4p, eq23n, eq23np, eq23s, eq23sp, eq37n, eq37np, eq37s, eq37sp, ne4, ne4p, ne23n, ne23np, ne23s, ne23sp, ne35, ne35p]
      refine ⟨a', ?_, s', d'⟩
      rw [List.take_of_length_le (Nat.le_refl _), List.drop_of_length_le (Nat.le_refl _)]
      exact o'
    have hin' : i < L.length := by omega
    simp -implicitDefEqProofs (maxSteps := 2000000) (disch := first | with_reducible exact Nat.ne_of_beq_eq_false rfl | exact oneCell_int | exact oneCell_bool | omega | rfl | (simp; done) | fail) only [show ((i : Int) == (L.length : Int)) = false by simp; omega, HL.cond_false]
    unfold S52_k2
    have w1 : IntKind.i64.wrap ((L.length : Int) + ((1 : Nat) : Int)) = ((L.length + 1 : Nat) : Int) := by rw [wrap_in (by omega) (by omega)]; omega
    simp -implicitDefEqProofs (maxSteps := 2000000) (disch := first | with_reducible exact Nat.ne_of_beq_eq_false rfl | exact oneCell_int | exact oneCell_bool | omega | rfl | (simp; done) | fail) only [upd_ne, upd_eq, regs0, regs1, regs2, retK_ret, resL_tmp, resL_nil1, opH_sv, pureW_sv, bin_addp, wrap_in, bin_add, w1, bin_sub, cap32, bin_gtr]
    refine cond_dec (fun hgt => ?_) (fun hle => ?_)
    · -- a new row
      have hcap : cap = L.length := by omega
      have lt1 : (L.take i).length = i := by rw [List.length_take]; omega
      have s0 : Src G h slotC.n (.slice (some ⟨b, 0, none⟩) i cap) i (slotC.rows (L.take i)) := by
        refine ⟨by rw [slotC.rows_length, lt1], .inr ⟨b, 0, cap, rfl, fun j hj => ?_⟩⟩
        rw [cell_of (look_own hbh), Nat.zero_add, slotC.rows_split L i, List.append_assoc, List.getElem?_append_left hj]
      have w2 : ((L.length + 1 : Nat) : Int) - (i : Int) = ((L.length + 1 - i : Nat) : Int) := by omega
      simp -implicitDefEqProofs (maxSteps := 2000000) (disch := first | with_reducible exact Nat.ne_of_beq_eq_false rfl | exact oneCell_int | exact oneCell_bool | omega | rfl | (simp; done) | fail) only [w2, slice_to un32 sz35 (Int.natCast_nonneg i) (show (i : Int) ≤ (cap : Nat) by omega), Int.toNat_natCast]
      refine append_made un32 (show Try.prog.underlying 3 = some (.int .i64) by kernel_rfl) eoslot (by decide) s0 (by omega) (by omega) (by omega) fun q cap' zs hq gq hcap' hzl => ?_
      have ei : i + (L.length + 1 - i) = L.length + 1 := by omega
      rw [ei] at hcap' ⊢
      have hzl' : zs.length = cap' * 3 - i * 3 := by
        rw [List.length_append, slotC.rows_length, lt1] at hzl
        have : slotC.n = 3 := rfl
        rw [this] at hzl
        omega
      generalize e2 : Hp.set h q _ = h2
      obtain ⟨l2, d2, b2⟩ := boxed e2 hq d gq
      have hw : (i : Int) + ((1 : Nat) : Int) = ((i + 1 : Nat) : Int) := by omega
      simp -implicitDefEqProofs (maxSteps := 2000000) (disch := first | with_reducible exact Nat.ne_of_beq_eq_false rfl | exact oneCell_int | exact oneCell_bool | omega | rfl | (simp; done) | fail) only [slice_from un32 sz35 (Int.natCast_nonneg i) (show (i : Int) ≤ (L.length + 1 : Nat) by omega) hcap', Int.toNat_natCast, add_mk, Nat.zero_add, if_neg (show ¬cap' = i by omega)]
      rw [copy_at slotC (by decide) un32 eoslot (M := [x]) b2 ((sx.up l2 d2).src (by decide) (by simp)) (by simp; omega) (by rw [hzl, show slotC.n = 3 from rfl, List.length_singleton]; omega)]
      generalize e3 : Hp.set h2 q _ = h3
      have b3 := set_is e3
      have hqb : q ≠ b := fun e => by rw [e, hbh] at hq; cases hq
      have hb3 : h3 b = some (.cells (slotC.rows L ++ t).toArray 35 (0, 0)) := by rw [set_is_ne e3 (Ne.symm hqb)]; exact l2 _ _ hbh
      simp -implicitDefEqProofs (maxSteps := 2000000) (disch := first | with_reducible exact Nat.ne_of_beq_eq_false rfl | exact oneCell_int | exact oneCell_bool | omega | rfl | (simp; done) | fail) only [hw, slice_fromp un32 sz35 (Int.natCast_nonneg i) (show (i : Int) ≤ (L.length : Nat) by omega) hc, Int.toNat_natCast, add_mk, Nat.zero_add, if_neg (show ¬cap = i by omega), slice_fromp un32 sz35 (Int.natCast_nonneg (i + 1)) (show ((i + 1 : Nat) : Int) ≤ (L.length + 1 : Nat) by omega) hcap', if_neg (show ¬cap' = i + 1 by omega)]
      have hdl : (L.drop i).length = L.length - i := List.length_drop
      rw [copy_part slotC (by decide) un32 eoslot (M := L.drop i) b3 (by rw [hdl]; exact Nat.min_eq_left (by omega)) (fun j hj => by
        rw [cell_of (look_own hb3), slotC.rows_split L i, List.append_assoc, List.getElem?_append_right (by rw [slotC.rows_length, lt1]; exact Nat.le_add_right _ _), slotC.rows_length, lt1, show i * 3 + j - i * slotC.n = j by rw [show slotC.n = 3 from rfl]; omega, List.getElem?_append_left hj]) (by
        rw [hdl, show slotC.n = 3 from rfl]
        simp only [List.length_append, List.length_take, List.length_drop, slotC.rows_length, lt1, show slotC.n = 3 from rfl, List.length_singleton, hzl']
        omega)]
      rw [show i * 3 = (L.take i).length * 3 by rw [lt1], show (i + 1) * 3 = ((L.take i).length + 1) * 3 by rw [lt1]]
      obtain ⟨rest, er⟩ := splice_new (A := L.take i) (D := L.drop i) (x := x) (zs := zs) (m := ((L.take i).length + 1) * 3 + (L.drop i).length * slotC.n)
      have hlr := congrArg List.length er
      rw [er]
      have sq : HL.Sep (noHp.set q (.cells (slotC.rows (L.take i ++ x :: L.drop i) ++ rest).toArray 35 (0, 0)) :: a :: R) (h3.set q (.cells (slotC.rows (L.take i ++ x :: L.drop i) ++ rest).toArray 35 (0, 0))) := by
        have s1 := s.new (o := .cells (slotC.rows (L.take i) ++ zs).toArray 35 (0, 0)) hq
        rw [e2] at s1
        have s2 := s1.put (o := Obj.cells (slotC.rows (L.take i ++ x :: L.drop i) ++ rest).toArray 35 (0, 0)) set_self
        rw [set_set] at s2
        rw [← e3, set_set]
        exact s2
      try simp -implicitDefEqProofs (maxSteps := 2000000) (disch := first | with_reducible exact Nat.ne_of_beq_eq_false rfl | exact oneCell_int | exact oneCell_bool | omega | rfl | (simp; done) | fail) only [opH_sv, opH_su, pureW_sv, opH_nil, pureW_nil, pick_t, pick_f, pick_tp, pick_fp, gd_tt, gd_ft, gd_tf, gd_ff, box_new, regs0, regs1, regs2, regs3, regs4, regs5, regs6, cells_agg, cells_int, cells_bool, cells_ptr, cells_slice, cells_string, cells_func, cells_nilFunc, cells_map, retK_ret, retK_normal, resL_tmp, resL_cell, resL_nil0, resL_nil1, resL_nil2, resL_nil3, resC_ptr, ex0, ex1, ex2, ex0p, ex1p, ex2p, HL.cond_true, HL.cond_false, thenK_normal, thenK_ret, thenK_exit, blockK_normal, blockK_ret, blockK_exit, scopeK_normal, scopeK_ret, scopeK_exit, wpH_pure, bin_add, bin_sub, bin_mul, bin_lss, bin_leq, bin_gtr, bin_geq, bin_quo, bin_rem, bin_quop, bin_remp, wrap_in, bin_addp, bin_subp, bin_mulp, bin_lssp, bin_leqp, bin_gtrp, bin_geqp, un_not, un_notp, un_neg, eq_int, ne_int, eq_intp, ne_intp, callV_fn, add_mk, upd_eq, upd_ne, cell_set_self, Nat.zero_add, Nat.add_zero, Option.some.injEq, exists_eq_left', List.getElem?_cons_succ, List.getElem?_cons_zero, true_and, and_true, bne_self_eq_false, beq_self_eq_true, Bool.not_true, Bool.not_false, Bool.and_true, Bool.and_self, Bool.and_false, Bool.true_and, List.length_cons, List.length_nil, ne_eq, not_false_eq_true, Nat.reduceAdd, Nat.reduceMul, if_true, if_false, oneCell_int, oneCell_bool, oneCell_ptr, oneCell_slice, oneCell_string, oneCell_func, oneCell_map, Int.toNat_natCast, List.set_cons_zero, List.set_cons_succ, Nat.lt_irrefl, Nat.zero_lt_succ, Nat.succ_lt_succ_iff, fa30_0, fa30_0p, fa30_1, fa30_1p, fa30_2, fa30_2p, fa35_0, fa35_0p, fa35_1, fa35_1p, fa35_2, fa35_2p, fa51_0, fa51_0p, fa51_1, fa51_1p, fa51_2, fa51_2p, fa51_3, fa51_3p, fa51_4, fa51_4p, fa51_5, fa51_5p, fa68_0, fa68_0p, fa76_0, fa76_0p, fa88_0, fa88_0p, fa88_1, fa88_1p, fa88_2, fa88_2p, fa90_0, fa90_0p, fa90_1, fa90_1p, ld3, ld3p, ld22, ld22p, ld23, ld23p, ld30, ld30p, ld32, ld32p, ld35, ld35p, ld39, ld39p, ld51, ld51p, ld58, ld58p, ld66, ld66p, st3s, st30w, st32s, st35w, st39s, st51w, st58w, st88w, st90w, ix22, ix22p, ix32, ix32p, ix39, ix39p, ix46, ix46p, ix64, ix64p, ix66, ix66p, ix78, ix78p, ix81, ix81p, ln22, ln22p, ln32, ln32p, ln39, ln39p, ln46, ln46p, ln64, ln64p, ln66, ln66p, ln78, ln78p, ln81, ln81p, al30, al35, al39, al56, al58, cf12, cf13, cf14, cf15, cf16, cf17, cf18, cf19, cf20, cf21, cf22, cf23, cf24, cf25, cf26, cf27, cf28, cf29, cf30, cf31, cf32, cf33, cf34, cf35, cf36, cf37, cf38, cf39, cf40, cf41, cf42, cf43, cf44, cf45, cf46, cf47, cf48, cf49, cf50, cf51, cf52, cf53, cf54, cf55, cf56, cf57, cf58, cf60, cf61, cf62, cf63, cf64, bd30_0_1_2, bd30_0_1_2p, bd30_1, bd30_1p, bd30_1_2, bd30_1_2p, bd35_0, bd35_0p, bd35_0_1_2, bd35_0_1_2p, bd58_0_1, bd58_0_1p, bd68_0, bd68_0p, bd76_0, bd76_0p, bd88_0_1_2, bd88_0_1_2p, bd90_0_1, bd90_0_1p, bs22_1_0, bs32_1_0, bs39_1_0, bs78_1_0, bs81_1_0, eq4, eq4p, eq23n, eq23np, eq23s, eq23sp, eq37n, eq37np, eq37s, eq37sp, ne4, ne4p, ne23n, ne23np, ne23s, ne23sp, ne35, ne35p]
      refine ⟨_, ⟨some q, cap', rest, ?_, set_self, ?_⟩, sq.swap.drop, ?_⟩
      · rw [List.length_append, List.length_cons, lt1, hdl, show i + (L.length - i + 1) = L.length + 1 by omega]
      · rw [← hlr]
        simp only [List.length_append, List.length_take, List.length_drop, slotC.rows_length, lt1, show slotC.n = 3 from rfl, List.length_singleton, hzl', hdl]
        omega
      · have d3 : Dis G h3 := by rw [← e3]; exact d2.set gq
        exact d3.set gq
    · -- room in the row
      have hcap : L.length + 1 ≤ cap := by omega
      have hl3 : (slotC.rows L ++ t).length = cap * 3 := hl
      unfold S52_k3
      have hw : (i : Int) + ((1 : Nat) : Int) = ((i + 1 : Nat) : Int) := by omega
      simp -implicitDefEqProofs (maxSteps := 2000000) (disch := first | with_reducible exact Nat.ne_of_beq_eq_false rfl | exact oneCell_int | exact oneCell_bool | omega | rfl | (simp; done) | fail) only [upd_ne, upd_eq, regs0, regs1, regs2, retK_ret, resL_tmp, resL_nil1, opH_sv, pureW_sv, bin_addp, hw, wrap_in, bin_add, w1, slice_to un32 sz35 (Int.natCast_nonneg (L.length + 1)) (show ((L.length + 1 : Nat) : Int) ≤ (cap : Nat) by omega), Int.toNat_natCast, slice_from un32 sz35 (Int.natCast_nonneg (i + 1)) (show ((i + 1 : Nat) : Int) ≤ (L.length + 1 : Nat) by omega) hcap, add_mk, Nat.zero_add, if_neg (show ¬cap = i + 1 by omega)]
      rw [over_no hx hbh hne]
      simp -implicitDefEqProofs (maxSteps := 2000000) (disch := first | with_reducible exact Nat.ne_of_beq_eq_false rfl | exact oneCell_int | exact oneCell_bool | omega | rfl | (simp; done) | fail) only [slice_fromp un32 sz35 (Int.natCast_nonneg i) (show ((i : Nat) : Int) ≤ (L.length + 1 : Nat) by omega) hcap, Int.toNat_natCast, add_mk, Nat.zero_add, if_neg (show ¬cap = i by omega), slice_fromp un32 sz35 (Int.natCast_nonneg (i + 1)) (show ((i + 1 : Nat) : Int) ≤ (L.length + 1 : Nat) by omega) hcap, if_neg (show ¬cap = i + 1 by omega), un_not, Bool.not_false, HL.cond_true]
      have hdl : (L.drop i).length = L.length - i := List.length_drop
      have lt1 : (L.take i).length = i := by rw [List.length_take]; omega
      rw [copy_part slotC (by decide) un32 eoslot (M := L.drop i) hbh (by rw [hdl]; show min (L.length + 1 - i) (L.length + 1 - (i + 1)) = L.length - i; omega) (fun j hj => by
        rw [cell_of (look_own hbh), slotC.rows_split L i, List.append_assoc, List.getElem?_append_right (by rw [slotC.rows_length, lt1]; exact Nat.le_add_right _ _), slotC.rows_length, lt1, show i * 3 + j - i * slotC.n = j by rw [show slotC.n = 3 from rfl]; omega, List.getElem?_append_left hj]) (by
        rw [hdl, show slotC.n = 3 from rfl, hl3]
        omega)]
      generalize e3 : Hp.set h b _ = h3
      have b3 := set_is e3
      have d3 : Dis G h3 := by rw [← e3]; exact d.set (d _ _ hbh)
      have hx3 : h3 xb = some (slotO x) := by rw [set_is_ne e3 hne]; exact hx
      have sx3 : Sees slotC G h3 (.slice (some ⟨xb, 0, none⟩) 1 1) [x] := Sees.row (c := slotC) (L := [x]) hx3 rfl (Nat.le_refl _)
      simp -implicitDefEqProofs (maxSteps := 2000000) (disch := first | with_reducible exact Nat.ne_of_beq_eq_false rfl | exact oneCell_int | exact oneCell_bool | omega | rfl | (simp; done) | fail) only [slice_from un32 sz35 (Int.natCast_nonneg i) (show ((i : Nat) : Int) ≤ (L.length + 1 : Nat) by omega) hcap, Int.toNat_natCast, add_mk, Nat.zero_add, if_neg (show ¬cap = i by omega)]
      rw [copy_at slotC (by decide) un32 eoslot (M := [x]) b3 (sx3.src (by decide) (by simp)) (by simp; omega) (by
        simp only [List.length_append, List.length_take, List.length_drop, slotC.rows_length, lt1, show slotC.n = 3 from rfl, List.length_singleton, hdl]
        rw [List.length_append, slotC.rows_length, show slotC.n = 3 from rfl] at hl3
        omega)]
      obtain ⟨rest, er⟩ := splice_in (L := L) (i := i) (x := x) (t := t) hin' (m := (i + 1) * 3 + (L.drop i).length * slotC.n)
      have hlr := congrArg List.length er
      rw [er]
      try simp -implicitDefEqProofs (maxSteps := 2000000) (disch := first | with_reducible exact Nat.ne_of_beq_eq_false rfl | exact oneCell_int | exact oneCell_bool | omega | rfl | (simp; done) | fail) only [opH_sv, opH_su, pureW_sv, opH_nil, pureW_nil, pick_t, pick_f, pick_tp, pick_fp, gd_tt, gd_ft, gd_tf, gd_ff, box_new, regs0, regs1, regs2, regs3, regs4, regs5, regs6, cells_agg, cells_int, cells_bool, cells_ptr, cells_slice, cells_string, cells_func, cells_nilFunc, cells_map, retK_ret, retK_normal, resL_tmp, resL_cell, resL_nil0, resL_nil1, resL_nil2, resL_nil3, resC_ptr, ex0, ex1, ex2, ex0p, ex1p, ex2p, HL.cond_true, HL.cond_false, thenK_normal, thenK_ret, thenK_exit, blockK_normal, blockK_ret, blockK_exit, scopeK_normal, scopeK_ret, scopeK_exit, wpH_pure, bin_add, bin_sub, bin_mul, bin_lss, bin_leq, bin_gtr, bin_geq, bin_quo, bin_rem, bin_quop, bin_remp, wrap_in, bin_addp, bin_subp, bin_mulp, bin_lssp, bin_leqp, bin_gtrp, bin_geqp, un_not, un_notp, un_neg, eq_int, ne_int, eq_intp, ne_intp, callV_fn, add_mk, upd_eq, upd_ne, cell_set_self, Nat.zero_add, Nat.add_zero, Option.some.injEq, exists_eq_left', List.getElem?_cons_succ, List.getElem?_cons_zero, true_and, and_true, bne_self_eq_false, beq_self_eq_true, Bool.not_true, Bool.not_false, Bool.and_true, Bool.and_self, Bool.and_false, Bool.true_and, List.length_cons, List.length_nil, ne_eq, not_false_eq_true, Nat.reduceAdd, Nat.reduceMul, if_true, if_false, oneCell_int, oneCell_bool, oneCell_ptr, oneCell_slice, oneCell_string, oneCell_func, oneCell_map, Int.toNat_natCast, List.set_cons_zero, List.set_cons_succ, Nat.lt_irrefl, Nat.zero_lt_succ, Nat.succ_lt_succ_iff, fa30_0, fa30_0p, fa30_1, fa30_1p, fa30_2, fa30_2p, fa35_0, fa35_0p, fa35_1, fa35_1p, fa35_2, fa35_2p, fa51_0, fa51_0p, fa51_1, fa51_1p, fa51_2, fa51_2p, fa51_3, fa51_3p, fa51_4, fa51_4p, fa51_5, fa51_5p, fa68_0, fa68_0p, fa76_0, fa76_0p, fa88_0, fa88_0p, fa88_1, fa88_1p, fa88_2, fa88_2p, fa90_0, fa90_0p, fa90_1, fa90_1p, ld3, ld3p, ld22, ld22p, ld23, ld23p, ld30, ld30p, ld32, ld32p, ld35, ld35p, ld39, ld39p, ld51, ld51p, ld58, ld58p, ld66, ld66p, st3s, st30w, st32s, st35w, st39s, st51w, st58w, st88w, st90w, ix22, ix22p, ix32, ix32p, ix39, ix39p, ix46, ix46p, ix64, ix64p, ix66, ix66p, ix78, ix78p, ix81, ix81p, ln22, ln22p, ln32, ln32p, ln39, ln39p, ln46, ln46p, ln64, ln64p, ln66, ln66p, ln78, ln78p, ln81, ln81p, al30, al35, al39, al56, al58, cf12, cf13, cf14, cf15, cf16, cf17, cf18, cf19, cf20, cf21, cf22, cf23, cf24, cf25, cf26, cf27, cf28, cf29, cf30, cf31, cf32, cf33, cf34, cf35, cf36, cf37, cf38, cf39, cf40, cf41, cf42, cf43, cf44, cf45, cf46, cf47, cf48, cf49, cf50, cf51, cf52, cf53, cf54, cf55, cf56, cf57, cf58, cf60, cf61, cf62, cf63, cf64, bd30_0_1_2, bd30_0_1_2p, bd30_1, bd30_1p, bd30_1_2, bd30_1_2p, bd35_0, bd35_0p, bd35_0_1_2, bd35_0_1_2p, bd58_0_1, bd58_0_1p, bd68_0, bd68_0p, bd76_0, bd76_0p, bd88_0_1_2, bd88_0_1_2p, bd90_0_1, bd90_0_1p, bs22_1_0, bs32_1_0, bs39_1_0, bs78_1_0, bs81_1_0, eq4, eq4p, eq23n, eq23np, eq23s, eq23sp, eq37n, eq37np, eq37s, eq37sp, ne4, ne4p, ne23n, ne23np, ne23s, ne23sp, ne35, ne35p]
      have sq := s.put (o := Obj.cells (slotC.rows (L.take i ++ x :: L.drop i) ++ rest).toArray 35 (0, 0)) hb
      rw [← e3, set_set]
      refine ⟨_, ⟨some b, cap, rest, ?_, set_self, ?_⟩, sq, d.set (d _ _ hbh)⟩
      · rw [List.length_append, List.length_cons, lt1, hdl, show i + (L.length - i + 1) = L.length + 1 by omega]
      · rw [← hlr]
        simp only [List.length_append, List.length_take, List.length_drop, slotC.rows_length, lt1, show slotC.n = 3 from rfl, List.length_singleton, hdl]
        rw [List.length_append, slotC.rows_length, show slotC.n = 3 from rfl] at hl3
        omega

end Go.Proofs.Ytbloobepmgmbgaa
