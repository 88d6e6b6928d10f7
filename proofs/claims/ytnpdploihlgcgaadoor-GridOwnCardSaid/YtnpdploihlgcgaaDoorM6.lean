/- Texts of the proof, one behind the other. -/
import Derived.Test.YtnpdploihlgcgaaDoorM1
import Derived.Test.YtnpdploihlgcgaaDoorM5
import Derived.Test.YtnpdploihlgcgaaDoorHZ
import Derived.Test.YtnpdploihlgcgaaDoorH4
import Derived.Test.YtnpdploihlgcgaaDoorH3
import Derived.Test.YtnpdploihlgcgaaDoorH2
import Derived.Test.YtnpdploihlgcgaaDoorRows
import Derived.Test.YtnpdploihlgcgaaDoorTie
import Derived.JoinedOf
import Derived.Handed
import Derived.LaidMore
import Derived.LaidHandle
import Derived.LaidLaws
import Derived.MakeChecks
section
/- slices.Compact of cells; the cells that a move sweeps. -/
set_option linter.unusedSimpArgs false
set_option linter.unusedVariables false
set_option maxRecDepth 100000
namespace Go.Proofs.YtnpdploihlgcgaaDoor
open Go Go.HL

/-- clear of a part of a row of one's own: what lies ahead stays. -/
theorem clear_own {P : Program} {G h : Hp} {α : Type} (c : Cod α) (d0 : α) {T e : TypeId} (hu : P.underlying T = some (.slice e)) (hn : 0 < c.n) (hz : ((P.info? e).bind (·.zero)).map (·.cells.toList) = some (c.enc d0)) {ty : TypeId} {b off n cap : Nat} {l : List Value} {e' : TypeId}
    (hb : h b = some (.cells l.toArray e' (0, 0))) (h0 : 0 < n) (hfit : off + n * c.n ≤ l.length) {K : Value → Hp → Prop}
    (H : ∀ l' : List Value, l'.length = l.length → l'.take off = l.take off → K (.tuple #[]) (h.set b (.cells l'.toArray e' (0, 0)))) :
    wpH P G (Builtin.clear_ #[T] ty #[.slice (some ⟨b, off, none⟩) n cap]) h K := by
  cases hi : P.info? e with
  | none => rw [hi] at hz; cases hz
  | some inf =>
  rw [hi] at hz
  simp only [Option.bind_some] at hz
  cases hzz : inf.zero with
  | none => rw [hzz] at hz; cases hz
  | some z =>
  rw [hzz] at hz
  simp only [Option.map_some, Option.some.injEq] at hz
  obtain ⟨n', rfl⟩ : ∃ n', n = n' + 1 := ⟨n - 1, by omega⟩
  have hrow := rows_replicate c d0 (n' + 1) z.cells hz.symm hn
  have hsz : z.cells.size = c.n := by rw [← Array.length_toList, hz, c.len]
  have hcells : (Builtin.zeroCells z.cells (n' + 1)).toList = c.rows (List.replicate (n' + 1) d0) := by
    refine Eq.trans ?_ ((congrArg Array.toList hrow).trans (by simp))
    rw [← hsz]
    rfl
  have key : wpH P G (storeCells ⟨b, off, none⟩ (c.rows (List.replicate (n' + 1) d0))) h (fun _ h' => K (.tuple #[]) h') := by
    rw [storeCells_eq _ (k := 0) hb (by rw [c.rows_length, List.length_replicate]; omega) (c.rows_one _)]
    exact H _ (putL_length _ _ _) (by
      rw [putL_eq _ _ _ (by rw [c.rows_length, List.length_replicate]; omega), List.append_assoc, List.take_append_of_le_length (by rw [List.length_take]; omega), Nat.add_zero, List.take_take, Nat.min_self])
  unfold Builtin.clear_ underlying
  simp only [List.getElem?_toArray, List.getElem?_cons_zero, bind, wpH_bind, program, wpH, hu, pure]
  simp only [zeroValue, typeInfo, program, bind, wpH_bind, wpH, hi, hzz, pure]
  rw [hcells]
  exact key

theorem comp_snoc {y x : Cell} : ∀ {T : List Cell}, compactL (T ++ [y, x]) = if y = x then compactL (T ++ [y]) else compactL (T ++ [y]) ++ [x]
  | [] => by
    show compactL (y :: [x]) = if y = x then compactL [y] else compactL [y] ++ [x]
    rw [compact_cons]
    by_cases h : y = x <;> simp [h, compactL]
  | [a] => by
    show compactL (a :: y :: [x]) = if y = x then compactL (a :: y :: []) else compactL (a :: y :: []) ++ [x]
    simp only [compact_cons]
    by_cases h1 : a = y <;> by_cases h2 : y = x <;> simp [h1, h2, compactL]
  | a :: b :: T => by
    show compactL (a :: b :: (T ++ [y, x])) = if y = x then compactL (a :: b :: (T ++ [y])) else compactL (a :: b :: (T ++ [y])) ++ [x]
    rw [compact_cons, compact_cons]
    have ih := comp_snoc (y := y) (x := x) (T := b :: T)
    simp only [List.cons_append] at ih
    rw [ih]
    by_cases h1 : a = b <;> by_cases h2 : y = x <;> simp [h1, h2]
theorem comp_step {L : List Cell} {k : Nat} {y x : Cell} (hk : 1 ≤ k) (hy : L[k - 1]? = some y) (hx : L[k]? = some x) : compactL (L.take (k + 1)) = if y = x then compactL (L.take k) else compactL (L.take k) ++ [x] := by
  obtain ⟨j, rfl⟩ : ∃ j, k = j + 1 := ⟨k - 1, by omega⟩
  rw [Nat.add_sub_cancel] at hy
  rw [List.take_add_one, List.take_add_one, hx, hy]
  simp only [Option.toList, List.append_assoc, List.cons_append, List.nil_append]
  exact comp_snoc
theorem comp_short {L : List Cell} (h : L.length < 2) : compactL L = L := by
  match L, h with
  | [], _ => rfl
  | [a], _ => rfl

theorem st_elem {G h : Hp} {b i : Nat} {M : List Cell} {t : List Value} {x : Cell} {K : Unit → Hp → Prop} (hb : h b = some (.cells (cellC.rows M ++ t).toArray 28 (0, 0))) (hi : i < M.length) :
    wpH Tryd.prog G (Instr.storeAt 28 (.pointer (some ⟨b, i * 2, none⟩)) (.agg #[.int .i64 x.1, .int .i64 x.2])) h K = K () (h.set b (.cells (cellC.rows (M.set i x) ++ t).toArray 28 (0, 0))) := by
  rw [store_eq (n := 2) sz28 hb rfl (by rw [List.length_append, cellC.rows_length, show cellC.n = 2 from rfl]; omega) (by intro v hv; simp [Value.cells] at hv; rcases hv with rfl | rfl <;> rfl)]
  have := cellC.rows_put (t := t) (x := x) hi
  rw [← this]
  rfl
theorem row_cell {G h : Hp} {b : Nat} {M : List Cell} {t : List Value} (hb : HL.look G h b = some (.cells (cellC.rows M ++ t).toArray 28 (0, 0))) {i : Nat} {x : Cell} (hx : M[i]? = some x) : cellIn G h ⟨b, i * 2, none⟩ = some (.int .i64 x.1) ∧ cellIn G h ⟨b, i * 2 + 1, none⟩ = some (.int .i64 x.2) := by
  have g0 := cellC.rows_get (t := t) hx (j := 0) (by decide)
  have g1 := cellC.rows_get (t := t) hx (j := 1) (by decide)
  rw [show cellC.n = 2 from rfl] at g0 g1
  exact ⟨(cell_of hb).trans g0, (cell_of hb).trans g1⟩

set_option maxHeartbeats 8000000 in
theorem compact_spec {G h a : Hp} {R : List Hp} {v : Value} {L : List Cell} (s : HL.Sep (a :: R) h) (o : Slc cellC 28 a v L) (hL : L.length ≤ 100000) : HCalls Tryd.prog G 71 #[v] h (fun u h' => ∃ a', Slc cellC 28 a' u (compactL L) ∧ HL.Sep (a' :: R) h' ∧ Dis G h') := by
  refine HCalls.assume fun d => enter71 (by simp) ?_
  unfold S71
  obtain ⟨sa, cap, rfl, hcap⟩ := o.len (by decide)
  simp -implicitDefEqProofs only [regs0, retK_ret, resL_tmp, upd_eq, resL_nil1, opH_sv, ln22, bin_lss]
  refine cond_dec (fun hlt => ?_) (fun hge => ?_)
  · try simp -implicitDefEqProofs only [opH_sv, opH_su, pureW_sv, opH_nil, pureW_nil, pick_t, pick_f, pick_tp, pick_fp, gd_tt, gd_ft, gd_tf, gd_ff, box_new, regs0, regs1, regs2, regs3, regs4, regs5, regs6, cells_agg, cells_int, cells_bool, cells_ptr, cells_slice, cells_string, cells_func, cells_nilFunc, cells_map, retK_ret, retK_normal, resL_tmp, resL_cell, resL_nil0, resL_nil1, resL_nil2, resL_nil3, resC_ptr, ex0, ex1, ex2, ex0p, ex1p, ex2p, HL.cond_true, HL.cond_false, thenK_normal, thenK_ret, thenK_exit, blockK_normal, blockK_ret, blockK_exit, scopeK_normal, scopeK_ret, scopeK_exit, wpH_pure, bin_add, bin_sub, bin_mul, bin_lss, bin_leq, bin_gtr, bin_geq, bin_quo, bin_rem, bin_quop, bin_remp, wrap_in, bin_addp, bin_subp, bin_mulp, bin_lssp, bin_leqp, bin_gtrp, bin_geqp, un_not, un_notp, un_neg, eq_int, ne_int, eq_intp, ne_intp, callV_fn, add_mk, upd_eq, upd_ne, cell_set_self, Nat.zero_add, Nat.add_zero, Option.some.injEq, exists_eq_left', List.getElem?_cons_succ, List.getElem?_cons_zero, true_and, and_true, bne_self_eq_false, beq_self_eq_true, Bool.not_true, Bool.not_false, Bool.and_true, Bool.and_self, Bool.and_false, Bool.true_and, List.length_cons, List.length_nil, ne_eq, not_false_eq_true, Nat.reduceAdd, Nat.reduceMul, if_true, if_false, oneCell_int, oneCell_bool, oneCell_ptr, oneCell_slice, oneCell_string, oneCell_func, oneCell_map, Int.toNat_natCast, List.set_cons_zero, List.set_cons_succ, Nat.lt_irrefl, Nat.zero_lt_succ, Nat.succ_lt_succ_iff, fa26_0, fa26_0p, fa26_1, fa26_1p, fa26_10, fa26_10p, fa26_11, fa26_11p, fa26_12, fa26_12p, fa26_13, fa26_13p, fa26_14, fa26_14p, fa26_2, fa26_2p, fa26_3, fa26_3p, fa26_4, fa26_4p, fa26_5, fa26_5p, fa26_6, fa26_6p, fa26_7, fa26_7p, fa26_8, fa26_8p, fa26_9, fa26_9p, fa28_0, fa28_0p, fa28_1, fa28_1p, fa30_0, fa30_0p, fa30_1, fa30_1p, fa46_0, fa46_0p, fa46_1, fa46_1p, fa46_2, fa46_2p, fa46_3, fa46_3p, fa46_4, fa46_4p, fa46_5, fa46_5p, fa46_6, fa46_6p, fa86_0, fa86_0p, fa86_1, fa86_1p, fa86_2, fa86_2p, fa95_0, fa95_0p, fa95_1, fa95_1p, ld3, ld3p, ld4, ld4p, ld22, ld22p, ld23, ld23p, ld24, ld24p, ld26, ld26p, ld28, ld28p, ld30, ld30p, ld31, ld31p, ld46, ld46p, ld47, ld47p, ld52, ld52p, ld55, ld55p, ld57, ld57p, ld95, ld95p, st3s, st4s, st22s, st23s, st24s, st26w, st28w, st30w, st46w, st47s, st55s, st95w, ix22, ix22p, ix23, ix23p, ix24, ix24p, ix47, ix47p, ix56, ix56p, ix57, ix57p, ix101, ix101p, ln22, ln22p, ln23, ln23p, ln24, ln24p, ln47, ln47p, ln56, ln56p, ln57, ln57p, al22, al26, al28, al30, al46, al47, al95, cf14, cf15, cf16, cf17, cf18, cf19, cf20, cf21, cf22, cf23, cf24, cf25, cf26, cf27, cf28, cf29, cf30, cf31, cf32, cf33, cf34, cf35, cf36, cf37, cf38, cf39, cf40, cf41, cf42, cf43, cf44, cf45, cf46, cf47, cf48, cf49, cf50, cf51, cf52, cf53, cf54, cf55, cf56, cf57, cf58, cf59, cf60, cf61, cf62, cf63, cf64, cf65, cf66, cf67, cf68, cf69, cf70, cf71, cf72, cf73, cf74, cf75, cf76, cf77, cf78, cf79, cf80, bd26_0_1_2_7_8_9_10_11_12_13_14, bd26_0_1_2_7_8_9_10_11_12_13_14p, bd28_0, bd28_0p, bd28_0_1, bd28_0_1p, bd30_, bd30_p, bd30_0_1, bd30_0_1p, bd30_0, bd30_0p, bd46_0_1_2_3_4, bd46_0_1_2_3_4p, bd46_0_3_4, bd46_0_3_4p, bd86_0_1_2, bd86_0_1_2p, bd87_0_1_2_3, bd87_0_1_2_3p, bd95_0_1, bd95_0_1p, bs22_2_0_1, bs47_1_0, bs22_1_0, bs57_6_0_1_2_3_4_5, bs24_1_0, bs22_4_0_1_2_3, bs56_11_0_1_2_3_4_5_6_7_8_9_10, bs57_11_0_1_2_3_4_5_6_7_8_9_10, eq4, eq4p, eq28, eq28p, eq30, eq30p, eq31n, eq31np, eq31s, eq31sp, eq46, eq46p, eq50n, eq50np, eq50s, eq50sp, eq67n, eq67np, eq67s, eq67sp, ne4, ne4p, ne28, ne28p, ne30, ne30p, ne31n, ne31np, ne31s, ne31sp, ne46, ne46p, al76]
    exact ⟨a, by rw [comp_short (by omega)]; exact o, s, d⟩
  unfold S71_k1
  obtain ⟨ob, o'⟩ := id o
  cases ob with
  | none => exact absurd o'.2 (fun e => by rw [e] at hge; simp at hge)
  | some b =>
  obtain ⟨cap', t, e9, hb, hbl⟩ := o'
  simp only [Value.slice.injEq, true_and] at e9
  obtain ⟨rfl, rfl⟩ := e9
  have hbh := s.at 0 rfl hb
  have rd := fun {i : Nat} {x : Cell} (hx : L[i]? = some x) => row_cell (G := G) (look_own hbh) hx
  try simp -implicitDefEqProofs only [opH_sv, opH_su, pureW_sv, opH_nil, pureW_nil, pick_t, pick_f, pick_tp, pick_fp, gd_tt, gd_ft, gd_tf, gd_ff, box_new, regs0, regs1, regs2, regs3, regs4, regs5, regs6, cells_agg, cells_int, cells_bool, cells_ptr, cells_slice, cells_string, cells_func, cells_nilFunc, cells_map, retK_ret, retK_normal, resL_tmp, resL_cell, resL_nil0, resL_nil1, resL_nil2, resL_nil3, resC_ptr, ex0, ex1, ex2, ex0p, ex1p, ex2p, HL.cond_true, HL.cond_false, thenK_normal, thenK_ret, thenK_exit, blockK_normal, blockK_ret, blockK_exit, scopeK_normal, scopeK_ret, scopeK_exit, wpH_pure, bin_add, bin_sub, bin_mul, bin_lss, bin_leq, bin_gtr, bin_geq, bin_quo, bin_rem, bin_quop, bin_remp, wrap_in, bin_addp, bin_subp, bin_mulp, bin_lssp, bin_leqp, bin_gtrp, bin_geqp, un_not, un_notp, un_neg, eq_int, ne_int, eq_intp, ne_intp, callV_fn, add_mk, upd_eq, upd_ne, cell_set_self, Nat.zero_add, Nat.add_zero, Option.some.injEq, exists_eq_left', List.getElem?_cons_succ, List.getElem?_cons_zero, true_and, and_true, bne_self_eq_false, beq_self_eq_true, Bool.not_true, Bool.not_false, Bool.and_true, Bool.and_self, Bool.and_false, Bool.true_and, List.length_cons, List.length_nil, ne_eq, not_false_eq_true, Nat.reduceAdd, Nat.reduceMul, if_true, if_false, oneCell_int, oneCell_bool, oneCell_ptr, oneCell_slice, oneCell_string, oneCell_func, oneCell_map, Int.toNat_natCast, List.set_cons_zero, List.set_cons_succ, Nat.lt_irrefl, Nat.zero_lt_succ, Nat.succ_lt_succ_iff, fa26_0, fa26_0p, fa26_1, fa26_1p, fa26_10, fa26_10p, fa26_11, fa26_11p, fa26_12, fa26_12p, fa26_13, fa26_13p, fa26_14, fa26_14p, fa26_2, fa26_2p, fa26_3, fa26_3p, fa26_4, fa26_4p, fa26_5, fa26_5p, fa26_6, fa26_6p, fa26_7, fa26_7p, fa26_8, fa26_8p, fa26_9, fa26_9p, fa28_0, fa28_0p, fa28_1, fa28_1p, fa30_0, fa30_0p, fa30_1, fa30_1p, fa46_0, fa46_0p, fa46_1, fa46_1p, fa46_2, fa46_2p, fa46_3, fa46_3p, fa46_4, fa46_4p, fa46_5, fa46_5p, fa46_6, fa46_6p, fa86_0, fa86_0p, fa86_1, fa86_1p, fa86_2, fa86_2p, fa95_0, fa95_0p, fa95_1, fa95_1p, ld3, ld3p, ld4, ld4p, ld22, ld22p, ld23, ld23p, ld24, ld24p, ld26, ld26p, ld28, ld28p, ld30, ld30p, ld31, ld31p, ld46, ld46p, ld47, ld47p, ld52, ld52p, ld55, ld55p, ld57, ld57p, ld95, ld95p, st3s, st4s, st22s, st23s, st24s, st26w, st28w, st30w, st46w, st47s, st55s, st95w, ix22, ix22p, ix23, ix23p, ix24, ix24p, ix47, ix47p, ix56, ix56p, ix57, ix57p, ix101, ix101p, ln22, ln22p, ln23, ln23p, ln24, ln24p, ln47, ln47p, ln56, ln56p, ln57, ln57p, al22, al26, al28, al30, al46, al47, al95, cf14, cf15, cf16, cf17, cf18, cf19, cf20, cf21, cf22, cf23, cf24, cf25, cf26, cf27, cf28, cf29, cf30, cf31, cf32, cf33, cf34, cf35, cf36, cf37, cf38, cf39, cf40, cf41, cf42, cf43, cf44, cf45, cf46, cf47, cf48, cf49, cf50, cf51, cf52, cf53, cf54, cf55, cf56, cf57, cf58, cf59, cf60, cf61, cf62, cf63, cf64, cf65, cf66, cf67, cf68, cf69, cf70, cf71, cf72, cf73, cf74, cf75, cf76, cf77, cf78, cf79, cf80, bd26_0_1_2_7_8_9_10_11_12_13_14, bd26_0_1_2_7_8_9_10_11_12_13_14p, bd28_0, bd28_0p, bd28_0_1, bd28_0_1p, bd30_, bd30_p, bd30_0_1, bd30_0_1p, bd30_0, bd30_0p, bd46_0_1_2_3_4, bd46_0_1_2_3_4p, bd46_0_3_4, bd46_0_3_4p, bd86_0_1_2, bd86_0_1_2p, bd87_0_1_2_3, bd87_0_1_2_3p, bd95_0_1, bd95_0_1p, bs22_2_0_1, bs47_1_0, bs22_1_0, bs57_6_0_1_2_3_4_5, bs24_1_0, bs22_4_0_1_2_3, bs56_11_0_1_2_3_4_5_6_7_8_9_10, bs57_11_0_1_2_3_4_5_6_7_8_9_10, eq4, eq4p, eq28, eq28p, eq30, eq30p, eq31n, eq31np, eq31s, eq31sp, eq46, eq46p, eq50n, eq50np, eq50s, eq50sp, eq67n, eq67np, eq67s, eq67sp, ne4, ne4p, ne28, ne28p, ne30, ne30p, ne31n, ne31np, ne31s, ne31sp, ne46, ne46p, al76]
  generalize hKK : retK Tryd.prog G _ _ = KK
  refine loop_I (fun m q h3 => ∃ k : Nat, m = L.length - k ∧ 1 ≤ k ∧ k ≤ L.length ∧ q 0 = .slice (some ⟨b, 0, none⟩) L.length cap ∧ q 3 = .int .i64 k ∧ h3 = h ∧ compactL (L.take k) = L.take k) ?_
    (m := L.length - 1) ⟨1, rfl, Nat.le_refl _, by omega, by simp -implicitDefEqProofs (disch := first | with_reducible exact Nat.ne_of_beq_eq_false rfl | omega) only [upd_ne, regs0], by simp -implicitDefEqProofs only [upd_eq] <;> rfl, rfl, comp_short (by rw [List.length_take]; omega)⟩
  rintro m q h3 ⟨k, rfl, h1, hk, q0, q3, rfl, hc⟩ X HX
  unfold S71_l3
  simp -implicitDefEqProofs only [q0, q3, thenK_exit, blockK_exit, thenK_normal, if_true, opH_sv, ln22, bin_lss]
  refine cond_dec (fun hlt => ?_) (fun hge2 => ?_)
  rotate_left
  · obtain rfl : k = L.length := by omega
    rw [List.take_of_length_le (Nat.le_refl _)] at hc
    try simp -implicitDefEqProofs only [opH_sv, opH_su, pureW_sv, opH_nil, pureW_nil, pick_t, pick_f, pick_tp, pick_fp, gd_tt, gd_ft, gd_tf, gd_ff, box_new, regs0, regs1, regs2, regs3, regs4, regs5, regs6, cells_agg, cells_int, cells_bool, cells_ptr, cells_slice, cells_string, cells_func, cells_nilFunc, cells_map, retK_ret, retK_normal, resL_tmp, resL_cell, resL_nil0, resL_nil1, resL_nil2, resL_nil3, resC_ptr, ex0, ex1, ex2, ex0p, ex1p, ex2p, HL.cond_true, HL.cond_false, thenK_normal, thenK_ret, thenK_exit, blockK_normal, blockK_ret, blockK_exit, scopeK_normal, scopeK_ret, scopeK_exit, wpH_pure, bin_add, bin_sub, bin_mul, bin_lss, bin_leq, bin_gtr, bin_geq, bin_quo, bin_rem, bin_quop, bin_remp, wrap_in, bin_addp, bin_subp, bin_mulp, bin_lssp, bin_leqp, bin_gtrp, bin_geqp, un_not, un_notp, un_neg, eq_int, ne_int, eq_intp, ne_intp, callV_fn, add_mk, upd_eq, upd_ne, cell_set_self, Nat.zero_add, Nat.add_zero, Option.some.injEq, exists_eq_left', List.getElem?_cons_succ, List.getElem?_cons_zero, true_and, and_true, bne_self_eq_false, beq_self_eq_true, Bool.not_true, Bool.not_false, Bool.and_true, Bool.and_self, Bool.and_false, Bool.true_and, List.length_cons, List.length_nil, ne_eq, not_false_eq_true, Nat.reduceAdd, Nat.reduceMul, if_true, if_false, oneCell_int, oneCell_bool, oneCell_ptr, oneCell_slice, oneCell_string, oneCell_func, oneCell_map, Int.toNat_natCast, List.set_cons_zero, List.set_cons_succ, Nat.lt_irrefl, Nat.zero_lt_succ, Nat.succ_lt_succ_iff, fa26_0, fa26_0p, fa26_1, fa26_1p, fa26_10, fa26_10p, fa26_11, fa26_11p, fa26_12, fa26_12p, fa26_13, fa26_13p, fa26_14, fa26_14p, fa26_2, fa26_2p, fa26_3, fa26_3p, fa26_4, fa26_4p, fa26_5, fa26_5p, fa26_6, fa26_6p, fa26_7, fa26_7p, fa26_8, fa26_8p, fa26_9, fa26_9p, fa28_0, fa28_0p, fa28_1, fa28_1p, fa30_0, fa30_0p, fa30_1, fa30_1p, fa46_0, fa46_0p, fa46_1, fa46_1p, fa46_2, fa46_2p, fa46_3, fa46_3p, fa46_4, fa46_4p, fa46_5, fa46_5p, fa46_6, fa46_6p, fa86_0, fa86_0p, fa86_1, fa86_1p, fa86_2, fa86_2p, fa95_0, fa95_0p, fa95_1, fa95_1p, ld3, ld3p, ld4, ld4p, ld22, ld22p, ld23, ld23p, ld24, ld24p, ld26, ld26p, ld28, ld28p, ld30, ld30p, ld31, ld31p, ld46, ld46p, ld47, ld47p, ld52, ld52p, ld55, ld55p, ld57, ld57p, ld95, ld95p, st3s, st4s, st22s, st23s, st24s, st26w, st28w, st30w, st46w, st47s, st55s, st95w, ix22, ix22p, ix23, ix23p, ix24, ix24p, ix47, ix47p, ix56, ix56p, ix57, ix57p, ix101, ix101p, ln22, ln22p, ln23, ln23p, ln24, ln24p, ln47, ln47p, ln56, ln56p, ln57, ln57p, al22, al26, al28, al30, al46, al47, al95, cf14, cf15, cf16, cf17, cf18, cf19, cf20, cf21, cf22, cf23, cf24, cf25, cf26, cf27, cf28, cf29, cf30, cf31, cf32, cf33, cf34, cf35, cf36, cf37, cf38, cf39, cf40, cf41, cf42, cf43, cf44, cf45, cf46, cf47, cf48, cf49, cf50, cf51, cf52, cf53, cf54, cf55, cf56, cf57, cf58, cf59, cf60, cf61, cf62, cf63, cf64, cf65, cf66, cf67, cf68, cf69, cf70, cf71, cf72, cf73, cf74, cf75, cf76, cf77, cf78, cf79, cf80, bd26_0_1_2_7_8_9_10_11_12_13_14, bd26_0_1_2_7_8_9_10_11_12_13_14p, bd28_0, bd28_0p, bd28_0_1, bd28_0_1p, bd30_, bd30_p, bd30_0_1, bd30_0_1p, bd30_0, bd30_0p, bd46_0_1_2_3_4, bd46_0_1_2_3_4p, bd46_0_3_4, bd46_0_3_4p, bd86_0_1_2, bd86_0_1_2p, bd87_0_1_2_3, bd87_0_1_2_3p, bd95_0_1, bd95_0_1p, bs22_2_0_1, bs47_1_0, bs22_1_0, bs57_6_0_1_2_3_4_5, bs24_1_0, bs22_4_0_1_2_3, bs56_11_0_1_2_3_4_5_6_7_8_9_10, bs57_11_0_1_2_3_4_5_6_7_8_9_10, eq4, eq4p, eq28, eq28p, eq30, eq30p, eq31n, eq31np, eq31s, eq31sp, eq46, eq46p, eq50n, eq50np, eq50s, eq50sp, eq67n, eq67np, eq67s, eq67sp, ne4, ne4p, ne28, ne28p, ne30, ne30p, ne31n, ne31np, ne31s, ne31sp, ne46, ne46p, al76]
    unfold S71_k2
    rw [← hKK]
    try simp -implicitDefEqProofs (disch := first | with_reducible exact Nat.ne_of_beq_eq_false rfl | omega) only [upd_ne, q0, retK_ret, resL_tmp, upd_eq, resL_nil1]
    exact ⟨a, by rw [hc]; exact o, s, d⟩
  obtain ⟨x, hx⟩ : ∃ x, L[k]? = some x := ⟨_, List.getElem?_eq_getElem (by omega)⟩
  obtain ⟨y, hy⟩ : ∃ y, L[k - 1]? = some y := ⟨_, List.getElem?_eq_getElem (by omega)⟩
  obtain ⟨x0, x1⟩ := rd hx
  obtain ⟨y0, y1⟩ := rd hy
  have ek : (k : Int) - 1 = ((k - 1 : Nat) : Int) := by omega
  unfold S71_l3_k4
  try simp -implicitDefEqProofs (disch := first | with_reducible exact Nat.ne_of_beq_eq_false rfl | omega) only [upd_ne, q0, q3, opH_sv, pureW_sv, bin_subp, ek, wrap_in, ix22p (Int.natCast_nonneg (k - 1)) (show ((k - 1 : Nat) : Int) < (L.length : Nat) by omega), Int.toNat_natCast, add_mk, Nat.zero_add, ld28p, Nat.add_zero, y0, Option.some.injEq, y1, exists_eq_left', ix22p (Int.natCast_nonneg k) hlt, x0, x1, eq28p, Bool.and_true, cell_beq]
  refine cond_bool (fun hb2 => ?_) (fun hb2 => ?_)
  rotate_left
  · unfold S71_l3_k5
    try simp -implicitDefEqProofs (disch := first | with_reducible exact Nat.ne_of_beq_eq_false rfl | omega) only [upd_ne, q3, thenK_normal, opH_sv, bin_add, wrap_in]
    refine HX (L.length - (k + 1)) _ _ (by omega) ⟨k + 1, rfl, by omega, by omega, by simp -implicitDefEqProofs (disch := first | with_reducible exact Nat.ne_of_beq_eq_false rfl | omega) only [upd_ne, q0], by simp -implicitDefEqProofs (disch := first | with_reducible exact Nat.ne_of_beq_eq_false rfl | omega) only [upd_eq] <;> rfl, rfl, ?_⟩
    rw [comp_step h1 hy hx, if_neg (fun e => by rw [e, beq_self_eq_true] at hb2; cases hb2), hc, List.take_add_one, hx]
    rfl
  have exy : y = x := (eq_of_beq hb2).symm
  try simp -implicitDefEqProofs only [opH_sv, opH_su, pureW_sv, opH_nil, pureW_nil, pick_t, pick_f, pick_tp, pick_fp, gd_tt, gd_ft, gd_tf, gd_ff, box_new, regs0, regs1, regs2, regs3, regs4, regs5, regs6, cells_agg, cells_int, cells_bool, cells_ptr, cells_slice, cells_string, cells_func, cells_nilFunc, cells_map, retK_ret, retK_normal, resL_tmp, resL_cell, resL_nil0, resL_nil1, resL_nil2, resL_nil3, resC_ptr, ex0, ex1, ex2, ex0p, ex1p, ex2p, HL.cond_true, HL.cond_false, thenK_normal, thenK_ret, thenK_exit, blockK_normal, blockK_ret, blockK_exit, scopeK_normal, scopeK_ret, scopeK_exit, wpH_pure, bin_add, bin_sub, bin_mul, bin_lss, bin_leq, bin_gtr, bin_geq, bin_quo, bin_rem, bin_quop, bin_remp, wrap_in, bin_addp, bin_subp, bin_mulp, bin_lssp, bin_leqp, bin_gtrp, bin_geqp, un_not, un_notp, un_neg, eq_int, ne_int, eq_intp, ne_intp, callV_fn, add_mk, upd_eq, upd_ne, cell_set_self, Nat.zero_add, Nat.add_zero, Option.some.injEq, exists_eq_left', List.getElem?_cons_succ, List.getElem?_cons_zero, true_and, and_true, bne_self_eq_false, beq_self_eq_true, Bool.not_true, Bool.not_false, Bool.and_true, Bool.and_self, Bool.and_false, Bool.true_and, List.length_cons, List.length_nil, ne_eq, not_false_eq_true, Nat.reduceAdd, Nat.reduceMul, if_true, if_false, oneCell_int, oneCell_bool, oneCell_ptr, oneCell_slice, oneCell_string, oneCell_func, oneCell_map, Int.toNat_natCast, List.set_cons_zero, List.set_cons_succ, Nat.lt_irrefl, Nat.zero_lt_succ, Nat.succ_lt_succ_iff, fa26_0, fa26_0p, fa26_1, fa26_1p, fa26_10, fa26_10p, fa26_11, fa26_11p, fa26_12, fa26_12p, fa26_13, fa26_13p, fa26_14, fa26_14p, fa26_2, fa26_2p, fa26_3, fa26_3p, fa26_4, fa26_4p, fa26_5, fa26_5p, fa26_6, fa26_6p, fa26_7, fa26_7p, fa26_8, fa26_8p, fa26_9, fa26_9p, fa28_0, fa28_0p, fa28_1, fa28_1p, fa30_0, fa30_0p, fa30_1, fa30_1p, fa46_0, fa46_0p, fa46_1, fa46_1p, fa46_2, fa46_2p, fa46_3, fa46_3p, fa46_4, fa46_4p, fa46_5, fa46_5p, fa46_6, fa46_6p, fa86_0, fa86_0p, fa86_1, fa86_1p, fa86_2, fa86_2p, fa95_0, fa95_0p, fa95_1, fa95_1p, ld3, ld3p, ld4, ld4p, ld22, ld22p, ld23, ld23p, ld24, ld24p, ld26, ld26p, ld28, ld28p, ld30, ld30p, ld31, ld31p, ld46, ld46p, ld47, ld47p, ld52, ld52p, ld55, ld55p, ld57, ld57p, ld95, ld95p, st3s, st4s, st22s, st23s, st24s, st26w, st28w, st30w, st46w, st47s, st55s, st95w, ix22, ix22p, ix23, ix23p, ix24, ix24p, ix47, ix47p, ix56, ix56p, ix57, ix57p, ix101, ix101p, ln22, ln22p, ln23, ln23p, ln24, ln24p, ln47, ln47p, ln56, ln56p, ln57, ln57p, al22, al26, al28, al30, al46, al47, al95, cf14, cf15, cf16, cf17, cf18, cf19, cf20, cf21, cf22, cf23, cf24, cf25, cf26, cf27, cf28, cf29, cf30, cf31, cf32, cf33, cf34, cf35, cf36, cf37, cf38, cf39, cf40, cf41, cf42, cf43, cf44, cf45, cf46, cf47, cf48, cf49, cf50, cf51, cf52, cf53, cf54, cf55, cf56, cf57, cf58, cf59, cf60, cf61, cf62, cf63, cf64, cf65, cf66, cf67, cf68, cf69, cf70, cf71, cf72, cf73, cf74, cf75, cf76, cf77, cf78, cf79, cf80, bd26_0_1_2_7_8_9_10_11_12_13_14, bd26_0_1_2_7_8_9_10_11_12_13_14p, bd28_0, bd28_0p, bd28_0_1, bd28_0_1p, bd30_, bd30_p, bd30_0_1, bd30_0_1p, bd30_0, bd30_0p, bd46_0_1_2_3_4, bd46_0_1_2_3_4p, bd46_0_3_4, bd46_0_3_4p, bd86_0_1_2, bd86_0_1_2p, bd87_0_1_2_3, bd87_0_1_2_3p, bd95_0_1, bd95_0_1p, bs22_2_0_1, bs47_1_0, bs22_1_0, bs57_6_0_1_2_3_4_5, bs24_1_0, bs22_4_0_1_2_3, bs56_11_0_1_2_3_4_5_6_7_8_9_10, bs57_11_0_1_2_3_4_5_6_7_8_9_10, eq4, eq4p, eq28, eq28p, eq30, eq30p, eq31n, eq31np, eq31s, eq31sp, eq46, eq46p, eq50n, eq50np, eq50s, eq50sp, eq67n, eq67np, eq67s, eq67sp, ne4, ne4p, ne28, ne28p, ne30, ne30p, ne31n, ne31np, ne31s, ne31sp, ne46, ne46p, al76, q0, q3]
  rw [slice_from un22 sz28 (by omega) (by omega) hcap]
  rw [Int.toNat_natCast, if_neg (show ¬ cap = k by omega), add_mk, Nat.zero_add]
  have hmax : (cellC.rows L ++ t).length = cap * 2 := hbl
  try simp -implicitDefEqProofs (disch := first | with_reducible exact Nat.ne_of_beq_eq_false rfl | omega) only [opH_sv, opH_su, pureW_sv, opH_nil, pureW_nil, pick_t, pick_f, pick_tp, pick_fp, gd_tt, gd_ft, gd_tf, gd_ff, box_new, regs0, regs1, regs2, regs3, regs4, regs5, regs6, cells_agg, cells_int, cells_bool, cells_ptr, cells_slice, cells_string, cells_func, cells_nilFunc, cells_map, retK_ret, retK_normal, resL_tmp, resL_cell, resL_nil0, resL_nil1, resL_nil2, resL_nil3, resC_ptr, ex0, ex1, ex2, ex0p, ex1p, ex2p, HL.cond_true, HL.cond_false, thenK_normal, thenK_ret, thenK_exit, blockK_normal, blockK_ret, blockK_exit, scopeK_normal, scopeK_ret, scopeK_exit, wpH_pure, bin_add, bin_sub, bin_mul, bin_lss, bin_leq, bin_gtr, bin_geq, bin_quo, bin_rem, bin_quop, bin_remp, wrap_in, bin_addp, bin_subp, bin_mulp, bin_lssp, bin_leqp, bin_gtrp, bin_geqp, un_not, un_notp, un_neg, eq_int, ne_int, eq_intp, ne_intp, callV_fn, add_mk, upd_eq, upd_ne, cell_set_self, Nat.zero_add, Nat.add_zero, Option.some.injEq, exists_eq_left', List.getElem?_cons_succ, List.getElem?_cons_zero, true_and, and_true, bne_self_eq_false, beq_self_eq_true, Bool.not_true, Bool.not_false, Bool.and_true, Bool.and_self, Bool.and_false, Bool.true_and, List.length_cons, List.length_nil, ne_eq, not_false_eq_true, Nat.reduceAdd, Nat.reduceMul, if_true, if_false, oneCell_int, oneCell_bool, oneCell_ptr, oneCell_slice, oneCell_string, oneCell_func, oneCell_map, Int.toNat_natCast, List.set_cons_zero, List.set_cons_succ, Nat.lt_irrefl, Nat.zero_lt_succ, Nat.succ_lt_succ_iff, fa26_0, fa26_0p, fa26_1, fa26_1p, fa26_10, fa26_10p, fa26_11, fa26_11p, fa26_12, fa26_12p, fa26_13, fa26_13p, fa26_14, fa26_14p, fa26_2, fa26_2p, fa26_3, fa26_3p, fa26_4, fa26_4p, fa26_5, fa26_5p, fa26_6, fa26_6p, fa26_7, fa26_7p, fa26_8, fa26_8p, fa26_9, fa26_9p, fa28_0, fa28_0p, fa28_1, fa28_1p, fa30_0, fa30_0p, fa30_1, fa30_1p, fa46_0, fa46_0p, fa46_1, fa46_1p, fa46_2, fa46_2p, fa46_3, fa46_3p, fa46_4, fa46_4p, fa46_5, fa46_5p, fa46_6, fa46_6p, fa86_0, fa86_0p, fa86_1, fa86_1p, fa86_2, fa86_2p, fa95_0, fa95_0p, fa95_1, fa95_1p, ld3, ld3p, ld4, ld4p, ld22, ld22p, ld23, ld23p, ld24, ld24p, ld26, ld26p, ld28, ld28p, ld30, ld30p, ld31, ld31p, ld46, ld46p, ld47, ld47p, ld52, ld52p, ld55, ld55p, ld57, ld57p, ld95, ld95p, st3s, st4s, st22s, st23s, st24s, st26w, st28w, st30w, st46w, st47s, st55s, st95w, ix22, ix22p, ix23, ix23p, ix24, ix24p, ix47, ix47p, ix56, ix56p, ix57, ix57p, ix101, ix101p, ln22, ln22p, ln23, ln23p, ln24, ln24p, ln47, ln47p, ln56, ln56p, ln57, ln57p, al22, al26, al28, al30, al46, al47, al95, cf14, cf15, cf16, cf17, cf18, cf19, cf20, cf21, cf22, cf23, cf24, cf25, cf26, cf27, cf28, cf29, cf30, cf31, cf32, cf33, cf34, cf35, cf36, cf37, cf38, cf39, cf40, cf41, cf42, cf43, cf44, cf45, cf46, cf47, cf48, cf49, cf50, cf51, cf52, cf53, cf54, cf55, cf56, cf57, cf58, cf59, cf60, cf61, cf62, cf63, cf64, cf65, cf66, cf67, cf68, cf69, cf70, cf71, cf72, cf73, cf74, cf75, cf76, cf77, cf78, cf79, cf80, bd26_0_1_2_7_8_9_10_11_12_13_14, bd26_0_1_2_7_8_9_10_11_12_13_14p, bd28_0, bd28_0p, bd28_0_1, bd28_0_1p, bd30_, bd30_p, bd30_0_1, bd30_0_1p, bd30_0, bd30_0p, bd46_0_1_2_3_4, bd46_0_1_2_3_4p, bd46_0_3_4, bd46_0_3_4p, bd86_0_1_2, bd86_0_1_2p, bd87_0_1_2_3, bd87_0_1_2_3p, bd95_0_1, bd95_0_1p, bs22_2_0_1, bs47_1_0, bs22_1_0, bs57_6_0_1_2_3_4_5, bs24_1_0, bs22_4_0_1_2_3, bs56_11_0_1_2_3_4_5_6_7_8_9_10, bs57_11_0_1_2_3_4_5_6_7_8_9_10, eq4, eq4p, eq28, eq28p, eq30, eq30p, eq31n, eq31np, eq31s, eq31sp, eq46, eq46p, eq50n, eq50np, eq50s, eq50sp, eq67n, eq67np, eq67s, eq67sp, ne4, ne4p, ne28, ne28p, ne30, ne30p, ne31n, ne31np, ne31s, ne31sp, ne46, ne46p, al76]
  refine loop_I (fun m q h4 => ∃ (w j : Nat) (M : List Cell) (a : Hp), m = L.length - j ∧ k ≤ w ∧ w < j ∧ k + 1 ≤ j ∧ j ≤ L.length ∧ M.length = L.length ∧ q 0 = .slice (some ⟨b, 0, none⟩) L.length cap ∧ q 3 = .int .i64 w ∧ q 4 = .slice (some ⟨b, k * 2, none⟩) (L.length - k) (cap - k) ∧ q 5 = .int .i64 (((j - k : Nat) : Nat) : Int) ∧
      a b = some (.cells (cellC.rows M ++ t).toArray 28 (0, 0)) ∧ HL.Sep (a :: R) h4 ∧ Dis G h4 ∧ M.take w = compactL (L.take j) ∧ ∀ p, j - 1 ≤ p → M[p]? = L[p]?) ?_
    (m := L.length - (k + 1)) ⟨k, k + 1, L, a, rfl, Nat.le_refl _, by omega, Nat.le_refl _, by omega, rfl, by simp -implicitDefEqProofs (disch := first | with_reducible exact Nat.ne_of_beq_eq_false rfl | omega) only [upd_ne, q0], by simp -implicitDefEqProofs (disch := first | with_reducible exact Nat.ne_of_beq_eq_false rfl | omega) only [upd_ne, q3], by simp -implicitDefEqProofs (disch := first | with_reducible exact Nat.ne_of_beq_eq_false rfl | omega) only [upd_ne, upd_eq], by simp -implicitDefEqProofs (disch := first | with_reducible exact Nat.ne_of_beq_eq_false rfl | omega) only [upd_eq] <;> (rw [show k + 1 - k = 1 by omega]; rfl), hb, s, d, by rw [comp_step h1 hy hx, if_pos exy, hc], fun p _ => rfl⟩
  clear HX q0 q3 x0 x1 y0 y1 hc hx hy exy hb2 ek rd hbh hb o s d
  rintro m q h4 ⟨w, j, M, a, rfl, hkw, hwj, hkj, hj, hM, q0, q3, q4, q5, hb, s, d, htk, hsame⟩ X HX
  have hbh := s.at 0 rfl hb
  have rd := fun {i : Nat} {x : Cell} (hx : M[i]? = some x) => row_cell (G := G) (look_own hbh) hx
  unfold S71_l3_l7
  simp -implicitDefEqProofs (maxSteps := 2000000) (disch := first | with_reducible exact Nat.ne_of_beq_eq_false rfl | exact oneCell_int | exact oneCell_bool | omega | rfl | (simp; done) | fail) only [q4, q5, thenK_exit, blockK_exit, thenK_normal, if_true, opH_sv, ln22, bin_lss]
  refine cond_dec (fun hlt2 => ?_) (fun hge3 => ?_)
  · obtain ⟨x, hx⟩ : ∃ x, L[j]? = some x := ⟨_, List.getElem?_eq_getElem (by omega)⟩
    obtain ⟨y, hy⟩ : ∃ y, L[j - 1]? = some y := ⟨_, List.getElem?_eq_getElem (by omega)⟩
    obtain ⟨x0, x1⟩ := rd ((hsame j (by omega)).trans hx)
    obtain ⟨y0, y1⟩ := rd ((hsame (j - 1) (Nat.le_refl _)).trans hy)
    have ej : j * 2 = k * 2 + (j - k) * 2 := by omega
    have ej1 : (j - 1) * 2 = k * 2 + (j - k - 1) * 2 := by omega
    rw [ej] at x0 x1
    rw [ej1] at y0 y1
    have e5 : (((j - k : Nat) : Nat) : Int) - 1 = ((j - k - 1 : Nat) : Int) := by omega
    unfold S71_l3_l7_k8
    try simp -implicitDefEqProofs (maxSteps := 2000000) (disch := first | with_reducible exact Nat.ne_of_beq_eq_false rfl | exact oneCell_int | exact oneCell_bool | omega | rfl | (simp; done) | fail) only [upd_ne, q4, q5, opH_sv, opH_su, ix22, Int.toNat_natCast, add_mk, ld28, Nat.add_zero, pureW_sv, bin_subp, e5, wrap_in, ix22p (Int.natCast_nonneg (j - k - 1)) (show ((j - k - 1 : Nat) : Int) < ((L.length - k : Nat) : Int) by omega), ld28p, y0, Option.some.injEq, y1, exists_eq_left', ix22p (Int.natCast_nonneg (j - k)) hlt2, x0, x1, ne28p, Bool.and_true, cell_beq]
    have nxt : (((j - k : Nat) : Nat) : Int) + 1 = ((j + 1 - k : Nat) : Int) := by omega
    cases hxy : (x == y) with
    | true =>
      try simp -implicitDefEqProofs (maxSteps := 2000000) (disch := first | with_reducible exact Nat.ne_of_beq_eq_false rfl | exact oneCell_int | exact oneCell_bool | omega | rfl | (simp; done) | fail) only [Bool.not_true, HL.cond_false]
      unfold S71_l3_l7_k9
      try simp -implicitDefEqProofs (maxSteps := 2000000) (disch := first | with_reducible exact Nat.ne_of_beq_eq_false rfl | exact oneCell_int | exact oneCell_bool | omega | rfl | (simp; done) | fail) only [upd_ne, q5, thenK_normal, opH_sv, bin_add, wrap_in]
      refine HX (L.length - (j + 1)) _ _ (by omega) ⟨w, j + 1, M, a, rfl, hkw, by omega, by omega, by omega, hM, by simp -implicitDefEqProofs (maxSteps := 2000000) (disch := first | with_reducible exact Nat.ne_of_beq_eq_false rfl | exact oneCell_int | exact oneCell_bool | omega | rfl | (simp; done) | fail) only [upd_ne, q0], by simp -implicitDefEqProofs (maxSteps := 2000000) (disch := first | with_reducible exact Nat.ne_of_beq_eq_false rfl | exact oneCell_int | exact oneCell_bool | omega | rfl | (simp; done) | fail) only [upd_ne, q3], by simp -implicitDefEqProofs (maxSteps := 2000000) (disch := first | with_reducible exact Nat.ne_of_beq_eq_false rfl | exact oneCell_int | exact oneCell_bool | omega | rfl | (simp; done) | fail) only [upd_ne, q4], by simp -implicitDefEqProofs (maxSteps := 2000000) (disch := first | with_reducible exact Nat.ne_of_beq_eq_false rfl | exact oneCell_int | exact oneCell_bool | omega | rfl | (simp; done) | fail) only [upd_eq] <;> rw [nxt], hb, s, d, ?_, fun p hp => hsame p (by omega)⟩
      rw [htk, comp_step (by omega) hy hx, if_pos (eq_of_beq hxy).symm]
    | false =>
      have hwl : (w : Int) < (L.length : Nat) := by omega
      try simp -implicitDefEqProofs (maxSteps := 2000000) (disch := first | with_reducible exact Nat.ne_of_beq_eq_false rfl | exact oneCell_int | exact oneCell_bool | omega | rfl | (simp; done) | fail) only [Bool.not_false, q0, q3, bin_add, wrap_in, ix22 (Int.natCast_nonneg w) hwl, Int.toNat_natCast, add_mk, Nat.zero_add, HL.cond_true]
      rw [st_elem (x := x) hbh (by omega)]
      have s5 := s.put (o := .cells (cellC.rows (M.set w x) ++ t).toArray 28 (0, 0)) hb
      have d5 := d.set (o := .cells (cellC.rows (M.set w x) ++ t).toArray 28 (0, 0)) (d _ _ hbh)
      generalize Hp.set h4 b _ = h5 at s5 d5 ⊢
      try simp -implicitDefEqProofs (disch := first | with_reducible exact Nat.ne_of_beq_eq_false rfl | omega) only [opH_sv, opH_su, pureW_sv, opH_nil, pureW_nil, pick_t, pick_f, pick_tp, pick_fp, gd_tt, gd_ft, gd_tf, gd_ff, box_new, regs0, regs1, regs2, regs3, regs4, regs5, regs6, cells_agg, cells_int, cells_bool, cells_ptr, cells_slice, cells_string, cells_func, cells_nilFunc, cells_map, retK_ret, retK_normal, resL_tmp, resL_cell, resL_nil0, resL_nil1, resL_nil2, resL_nil3, resC_ptr, ex0, ex1, ex2, ex0p, ex1p, ex2p, HL.cond_true, HL.cond_false, thenK_normal, thenK_ret, thenK_exit, blockK_normal, blockK_ret, blockK_exit, scopeK_normal, scopeK_ret, scopeK_exit, wpH_pure, bin_add, bin_sub, bin_mul, bin_lss, bin_leq, bin_gtr, bin_geq, bin_quo, bin_rem, bin_quop, bin_remp, wrap_in, bin_addp, bin_subp, bin_mulp, bin_lssp, bin_leqp, bin_gtrp, bin_geqp, un_not, un_notp, un_neg, eq_int, ne_int, eq_intp, ne_intp, callV_fn, add_mk, upd_eq, upd_ne, cell_set_self, Nat.zero_add, Nat.add_zero, Option.some.injEq, exists_eq_left', List.getElem?_cons_succ, List.getElem?_cons_zero, true_and, and_true, bne_self_eq_false, beq_self_eq_true, Bool.not_true, Bool.not_false, Bool.and_true, Bool.and_self, Bool.and_false, Bool.true_and, List.length_cons, List.length_nil, ne_eq, not_false_eq_true, Nat.reduceAdd, Nat.reduceMul, if_true, if_false, oneCell_int, oneCell_bool, oneCell_ptr, oneCell_slice, oneCell_string, oneCell_func, oneCell_map, Int.toNat_natCast, List.set_cons_zero, List.set_cons_succ, Nat.lt_irrefl, Nat.zero_lt_succ, Nat.succ_lt_succ_iff, fa26_0, fa26_0p, fa26_1, fa26_1p, fa26_10, fa26_10p, fa26_11, fa26_11p, fa26_12, fa26_12p, fa26_13, fa26_13p, fa26_14, fa26_14p, fa26_2, fa26_2p, fa26_3, fa26_3p, fa26_4, fa26_4p, fa26_5, fa26_5p, fa26_6, fa26_6p, fa26_7, fa26_7p, fa26_8, fa26_8p, fa26_9, fa26_9p, fa28_0, fa28_0p, fa28_1, fa28_1p, fa30_0, fa30_0p, fa30_1, fa30_1p, fa46_0, fa46_0p, fa46_1, fa46_1p, fa46_2, fa46_2p, fa46_3, fa46_3p, fa46_4, fa46_4p, fa46_5, fa46_5p, fa46_6, fa46_6p, fa86_0, fa86_0p, fa86_1, fa86_1p, fa86_2, fa86_2p, fa95_0, fa95_0p, fa95_1, fa95_1p, ld3, ld3p, ld4, ld4p, ld22, ld22p, ld23, ld23p, ld24, ld24p, ld26, ld26p, ld28, ld28p, ld30, ld30p, ld31, ld31p, ld46, ld46p, ld47, ld47p, ld52, ld52p, ld55, ld55p, ld57, ld57p, ld95, ld95p, st3s, st4s, st22s, st23s, st24s, st26w, st28w, st30w, st46w, st47s, st55s, st95w, ix22, ix22p, ix23, ix23p, ix24, ix24p, ix47, ix47p, ix56, ix56p, ix57, ix57p, ix101, ix101p, ln22, ln22p, ln23, ln23p, ln24, ln24p, ln47, ln47p, ln56, ln56p, ln57, ln57p, al22, al26, al28, al30, al46, al47, al95, cf14, cf15, cf16, cf17, cf18, cf19, cf20, cf21, cf22, cf23, cf24, cf25, cf26, cf27, cf28, cf29, cf30, cf31, cf32, cf33, cf34, cf35, cf36, cf37, cf38, cf39, cf40, cf41, cf42, cf43, cf44, cf45, cf46, cf47, cf48, cf49, cf50, cf51, cf52, cf53, cf54, cf55, cf56, cf57, cf58, cf59, cf60, cf61, cf62, cf63, cf64, cf65, cf66, cf67, cf68, cf69, cf70, cf71, cf72, cf73, cf74, cf75, cf76, cf77, cf78, cf79, cf80, bd26_0_1_2_7_8_9_10_11_12_13_14, bd26_0_1_2_7_8_9_10_11_12_13_14p, bd28_0, bd28_0p, bd28_0_1, bd28_0_1p, bd30_, bd30_p, bd30_0_1, bd30_0_1p, bd30_0, bd30_0p, bd46_0_1_2_3_4, bd46_0_1_2_3_4p, bd46_0_3_4, bd46_0_3_4p, bd86_0_1_2, bd86_0_1_2p, bd87_0_1_2_3, bd87_0_1_2_3p, bd95_0_1, bd95_0_1p, bs22_2_0_1, bs47_1_0, bs22_1_0, bs57_6_0_1_2_3_4_5, bs24_1_0, bs22_4_0_1_2_3, bs56_11_0_1_2_3_4_5_6_7_8_9_10, bs57_11_0_1_2_3_4_5_6_7_8_9_10, eq4, eq4p, eq28, eq28p, eq30, eq30p, eq31n, eq31np, eq31s, eq31sp, eq46, eq46p, eq50n, eq50np, eq50s, eq50sp, eq67n, eq67np, eq67s, eq67sp, ne4, ne4p, ne28, ne28p, ne30, ne30p, ne31n, ne31np, ne31s, ne31sp, ne46, ne46p, al76, q3]
      unfold S71_l3_l7_k9
      try simp -implicitDefEqProofs (disch := first | with_reducible exact Nat.ne_of_beq_eq_false rfl | omega) only [upd_ne, q5, thenK_normal, opH_sv, bin_add, wrap_in]
      refine HX (L.length - (j + 1)) _ _ (by omega) ⟨w + 1, j + 1, M.set w x, _, rfl, by omega, by omega, by omega, by omega, by rw [List.length_set, hM], by simp -implicitDefEqProofs (disch := first | with_reducible exact Nat.ne_of_beq_eq_false rfl | omega) only [upd_ne, q0], by simp -implicitDefEqProofs (disch := first | with_reducible exact Nat.ne_of_beq_eq_false rfl | omega) only [upd_ne, upd_eq] <;> rfl, by simp -implicitDefEqProofs (disch := first | with_reducible exact Nat.ne_of_beq_eq_false rfl | omega) only [upd_ne, q4], by simp -implicitDefEqProofs (disch := first | with_reducible exact Nat.ne_of_beq_eq_false rfl | omega) only [upd_eq] <;> rw [nxt], set_self, s5, d5, ?_, fun p hp => ?_⟩
      · rw [comp_step (by omega) hy hx, if_neg (fun e => by rw [e, beq_self_eq_true] at hxy; cases hxy), ← htk, List.take_add_one, List.getElem?_set_self (by omega), List.take_set_of_le (Nat.le_refl _)]
        rfl
      · rw [List.getElem?_set_ne (by omega)]
        exact hsame p (by omega)
  · obtain rfl : j = L.length := by omega
    rw [List.take_of_length_le (Nat.le_refl _)] at htk
    clear HX
    have hwl : w < L.length := hwj
    try simp -implicitDefEqProofs (disch := first | with_reducible exact Nat.ne_of_beq_eq_false rfl | omega) only [opH_sv, opH_su, pureW_sv, opH_nil, pureW_nil, pick_t, pick_f, pick_tp, pick_fp, gd_tt, gd_ft, gd_tf, gd_ff, box_new, regs0, regs1, regs2, regs3, regs4, regs5, regs6, cells_agg, cells_int, cells_bool, cells_ptr, cells_slice, cells_string, cells_func, cells_nilFunc, cells_map, retK_ret, retK_normal, resL_tmp, resL_cell, resL_nil0, resL_nil1, resL_nil2, resL_nil3, resC_ptr, ex0, ex1, ex2, ex0p, ex1p, ex2p, HL.cond_true, HL.cond_false, thenK_normal, thenK_ret, thenK_exit, blockK_normal, blockK_ret, blockK_exit, scopeK_normal, scopeK_ret, scopeK_exit, wpH_pure, bin_add, bin_sub, bin_mul, bin_lss, bin_leq, bin_gtr, bin_geq, bin_quo, bin_rem, bin_quop, bin_remp, wrap_in, bin_addp, bin_subp, bin_mulp, bin_lssp, bin_leqp, bin_gtrp, bin_geqp, un_not, un_notp, un_neg, eq_int, ne_int, eq_intp, ne_intp, callV_fn, add_mk, upd_eq, upd_ne, cell_set_self, Nat.zero_add, Nat.add_zero, Option.some.injEq, exists_eq_left', List.getElem?_cons_succ, List.getElem?_cons_zero, true_and, and_true, bne_self_eq_false, beq_self_eq_true, Bool.not_true, Bool.not_false, Bool.and_true, Bool.and_self, Bool.and_false, Bool.true_and, List.length_cons, List.length_nil, ne_eq, not_false_eq_true, Nat.reduceAdd, Nat.reduceMul, if_true, if_false, oneCell_int, oneCell_bool, oneCell_ptr, oneCell_slice, oneCell_string, oneCell_func, oneCell_map, Int.toNat_natCast, List.set_cons_zero, List.set_cons_succ, Nat.lt_irrefl, Nat.zero_lt_succ, Nat.succ_lt_succ_iff, fa26_0, fa26_0p, fa26_1, fa26_1p, fa26_10, fa26_10p, fa26_11, fa26_11p, fa26_12, fa26_12p, fa26_13, fa26_13p, fa26_14, fa26_14p, fa26_2, fa26_2p, fa26_3, fa26_3p, fa26_4, fa26_4p, fa26_5, fa26_5p, fa26_6, fa26_6p, fa26_7, fa26_7p, fa26_8, fa26_8p, fa26_9, fa26_9p, fa28_0, fa28_0p, fa28_1, fa28_1p, fa30_0, fa30_0p, fa30_1, fa30_1p, fa46_0, fa46_0p, fa46_1, fa46_1p, fa46_2, fa46_2p, fa46_3, fa46_3p, fa46_4, fa46_4p, fa46_5, fa46_5p, fa46_6, fa46_6p, fa86_0, fa86_0p, fa86_1, fa86_1p, fa86_2, fa86_2p, fa95_0, fa95_0p, fa95_1, fa95_1p, ld3, ld3p, ld4, ld4p, ld22, ld22p, ld23, ld23p, ld24, ld24p, ld26, ld26p, ld28, ld28p, ld30, ld30p, ld31, ld31p, ld46, ld46p, ld47, ld47p, ld52, ld52p, ld55, ld55p, ld57, ld57p, ld95, ld95p, st3s, st4s, st22s, st23s, st24s, st26w, st28w, st30w, st46w, st47s, st55s, st95w, ix22, ix22p, ix23, ix23p, ix24, ix24p, ix47, ix47p, ix56, ix56p, ix57, ix57p, ix101, ix101p, ln22, ln22p, ln23, ln23p, ln24, ln24p, ln47, ln47p, ln56, ln56p, ln57, ln57p, al22, al26, al28, al30, al46, al47, al95, cf14, cf15, cf16, cf17, cf18, cf19, cf20, cf21, cf22, cf23, cf24, cf25, cf26, cf27, cf28, cf29, cf30, cf31, cf32, cf33, cf34, cf35, cf36, cf37, cf38, cf39, cf40, cf41, cf42, cf43, cf44, cf45, cf46, cf47, cf48, cf49, cf50, cf51, cf52, cf53, cf54, cf55, cf56, cf57, cf58, cf59, cf60, cf61, cf62, cf63, cf64, cf65, cf66, cf67, cf68, cf69, cf70, cf71, cf72, cf73, cf74, cf75, cf76, cf77, cf78, cf79, cf80, bd26_0_1_2_7_8_9_10_11_12_13_14, bd26_0_1_2_7_8_9_10_11_12_13_14p, bd28_0, bd28_0p, bd28_0_1, bd28_0_1p, bd30_, bd30_p, bd30_0_1, bd30_0_1p, bd30_0, bd30_0p, bd46_0_1_2_3_4, bd46_0_1_2_3_4p, bd46_0_3_4, bd46_0_3_4p, bd86_0_1_2, bd86_0_1_2p, bd87_0_1_2_3, bd87_0_1_2_3p, bd95_0_1, bd95_0_1p, bs22_2_0_1, bs47_1_0, bs22_1_0, bs57_6_0_1_2_3_4_5, bs24_1_0, bs22_4_0_1_2_3, bs56_11_0_1_2_3_4_5_6_7_8_9_10, bs57_11_0_1_2_3_4_5_6_7_8_9_10, eq4, eq4p, eq28, eq28p, eq30, eq30p, eq31n, eq31np, eq31s, eq31sp, eq46, eq46p, eq50n, eq50np, eq50s, eq50sp, eq67n, eq67np, eq67s, eq67sp, ne4, ne4p, ne28, ne28p, ne30, ne30p, ne31n, ne31np, ne31s, ne31sp, ne46, ne46p, al76]
    unfold S71_l3_k6
    try simp -implicitDefEqProofs (disch := first | with_reducible exact Nat.ne_of_beq_eq_false rfl | omega) only [upd_ne, q0, q3, thenK_ret, blockK_ret, opH_sv]
    rw [slice_from un22 sz28 (by omega) (by omega) hcap]
    rw [Int.toNat_natCast, if_neg (show ¬ cap = w by omega), add_mk, Nat.zero_add]
    try simp -implicitDefEqProofs only [opH_sv, opH_su, pureW_sv, opH_nil, pureW_nil, pick_t, pick_f, pick_tp, pick_fp, gd_tt, gd_ft, gd_tf, gd_ff, box_new, regs0, regs1, regs2, regs3, regs4, regs5, regs6, cells_agg, cells_int, cells_bool, cells_ptr, cells_slice, cells_string, cells_func, cells_nilFunc, cells_map, retK_ret, retK_normal, resL_tmp, resL_cell, resL_nil0, resL_nil1, resL_nil2, resL_nil3, resC_ptr, ex0, ex1, ex2, ex0p, ex1p, ex2p, HL.cond_true, HL.cond_false, thenK_normal, thenK_ret, thenK_exit, blockK_normal, blockK_ret, blockK_exit, scopeK_normal, scopeK_ret, scopeK_exit, wpH_pure, bin_add, bin_sub, bin_mul, bin_lss, bin_leq, bin_gtr, bin_geq, bin_quo, bin_rem, bin_quop, bin_remp, wrap_in, bin_addp, bin_subp, bin_mulp, bin_lssp, bin_leqp, bin_gtrp, bin_geqp, un_not, un_notp, un_neg, eq_int, ne_int, eq_intp, ne_intp, callV_fn, add_mk, upd_eq, upd_ne, cell_set_self, Nat.zero_add, Nat.add_zero, Option.some.injEq, exists_eq_left', List.getElem?_cons_succ, List.getElem?_cons_zero, true_and, and_true, bne_self_eq_false, beq_self_eq_true, Bool.not_true, Bool.not_false, Bool.and_true, Bool.and_self, Bool.and_false, Bool.true_and, List.length_cons, List.length_nil, ne_eq, not_false_eq_true, Nat.reduceAdd, Nat.reduceMul, if_true, if_false, oneCell_int, oneCell_bool, oneCell_ptr, oneCell_slice, oneCell_string, oneCell_func, oneCell_map, Int.toNat_natCast, List.set_cons_zero, List.set_cons_succ, Nat.lt_irrefl, Nat.zero_lt_succ, Nat.succ_lt_succ_iff, fa26_0, fa26_0p, fa26_1, fa26_1p, fa26_10, fa26_10p, fa26_11, fa26_11p, fa26_12, fa26_12p, fa26_13, fa26_13p, fa26_14, fa26_14p, fa26_2, fa26_2p, fa26_3, fa26_3p, fa26_4, fa26_4p, fa26_5, fa26_5p, fa26_6, fa26_6p, fa26_7, fa26_7p, fa26_8, fa26_8p, fa26_9, fa26_9p, fa28_0, fa28_0p, fa28_1, fa28_1p, fa30_0, fa30_0p, fa30_1, fa30_1p, fa46_0, fa46_0p, fa46_1, fa46_1p, fa46_2, fa46_2p, fa46_3, fa46_3p, fa46_4, fa46_4p, fa46_5, fa46_5p, fa46_6, fa46_6p, fa86_0, fa86_0p, fa86_1, fa86_1p, fa86_2, fa86_2p, fa95_0, fa95_0p, fa95_1, fa95_1p, ld3, ld3p, ld4, ld4p, ld22, ld22p, ld23, ld23p, ld24, ld24p, ld26, ld26p, ld28, ld28p, ld30, ld30p, ld31, ld31p, ld46, ld46p, ld47, ld47p, ld52, ld52p, ld55, ld55p, ld57, ld57p, ld95, ld95p, st3s, st4s, st22s, st23s, st24s, st26w, st28w, st30w, st46w, st47s, st55s, st95w, ix22, ix22p, ix23, ix23p, ix24, ix24p, ix47, ix47p, ix56, ix56p, ix57, ix57p, ix101, ix101p, ln22, ln22p, ln23, ln23p, ln24, ln24p, ln47, ln47p, ln56, ln56p, ln57, ln57p, al22, al26, al28, al30, al46, al47, al95, cf14, cf15, cf16, cf17, cf18, cf19, cf20, cf21, cf22, cf23, cf24, cf25, cf26, cf27, cf28, cf29, cf30, cf31, cf32, cf33, cf34, cf35, cf36, cf37, cf38, cf39, cf40, cf41, cf42, cf43, cf44, cf45, cf46, cf47, cf48, cf49, cf50, cf51, cf52, cf53, cf54, cf55, cf56, cf57, cf58, cf59, cf60, cf61, cf62, cf63, cf64, cf65, cf66, cf67, cf68, cf69, cf70, cf71, cf72, cf73, cf74, cf75, cf76, cf77, cf78, cf79, cf80, bd26_0_1_2_7_8_9_10_11_12_13_14, bd26_0_1_2_7_8_9_10_11_12_13_14p, bd28_0, bd28_0p, bd28_0_1, bd28_0_1p, bd30_, bd30_p, bd30_0_1, bd30_0_1p, bd30_0, bd30_0p, bd46_0_1_2_3_4, bd46_0_1_2_3_4p, bd46_0_3_4, bd46_0_3_4p, bd86_0_1_2, bd86_0_1_2p, bd87_0_1_2_3, bd87_0_1_2_3p, bd95_0_1, bd95_0_1p, bs22_2_0_1, bs47_1_0, bs22_1_0, bs57_6_0_1_2_3_4_5, bs24_1_0, bs22_4_0_1_2_3, bs56_11_0_1_2_3_4_5_6_7_8_9_10, bs57_11_0_1_2_3_4_5_6_7_8_9_10, eq4, eq4p, eq28, eq28p, eq30, eq30p, eq31n, eq31np, eq31s, eq31sp, eq46, eq46p, eq50n, eq50np, eq50s, eq50sp, eq67n, eq67np, eq67s, eq67sp, ne4, ne4p, ne28, ne28p, ne30, ne30p, ne31n, ne31np, ne31s, ne31sp, ne46, ne46p, al76]
    have hlen : (cellC.rows M ++ t).length = cap * 2 := by
      rw [List.length_append, cellC.rows_length, hM, ← cellC.rows_length, ← List.length_append, hmax]
    refine clear_own cellC ((0, 0) : Cell) un22 (by decide) (by kernel_rfl) hbh (by omega) (by rw [hlen, show cellC.n = 2 from rfl]; omega) fun l' hl1 hl2 => ?_
    have s5 := s.put (o := .cells l'.toArray 28 (0, 0)) hb
    have d5 := d.set (o := .cells l'.toArray 28 (0, 0)) (d _ _ hbh)
    generalize Hp.set h4 b _ = h5 at s5 d5 ⊢
    try simp -implicitDefEqProofs only [opH_sv, opH_su, pureW_sv, opH_nil, pureW_nil, pick_t, pick_f, pick_tp, pick_fp, gd_tt, gd_ft, gd_tf, gd_ff, box_new, regs0, regs1, regs2, regs3, regs4, regs5, regs6, cells_agg, cells_int, cells_bool, cells_ptr, cells_slice, cells_string, cells_func, cells_nilFunc, cells_map, retK_ret, retK_normal, resL_tmp, resL_cell, resL_nil0, resL_nil1, resL_nil2, resL_nil3, resC_ptr, ex0, ex1, ex2, ex0p, ex1p, ex2p, HL.cond_true, HL.cond_false, thenK_normal, thenK_ret, thenK_exit, blockK_normal, blockK_ret, blockK_exit, scopeK_normal, scopeK_ret, scopeK_exit, wpH_pure, bin_add, bin_sub, bin_mul, bin_lss, bin_leq, bin_gtr, bin_geq, bin_quo, bin_rem, bin_quop, bin_remp, wrap_in, bin_addp, bin_subp, bin_mulp, bin_lssp, bin_leqp, bin_gtrp, bin_geqp, un_not, un_notp, un_neg, eq_int, ne_int, eq_intp, ne_intp, callV_fn, add_mk, upd_eq, upd_ne, cell_set_self, Nat.zero_add, Nat.add_zero, Option.some.injEq, exists_eq_left', List.getElem?_cons_succ, List.getElem?_cons_zero, true_and, and_true, bne_self_eq_false, beq_self_eq_true, Bool.not_true, Bool.not_false, Bool.and_true, Bool.and_self, Bool.and_false, Bool.true_and, List.length_cons, List.length_nil, ne_eq, not_false_eq_true, Nat.reduceAdd, Nat.reduceMul, if_true, if_false, oneCell_int, oneCell_bool, oneCell_ptr, oneCell_slice, oneCell_string, oneCell_func, oneCell_map, Int.toNat_natCast, List.set_cons_zero, List.set_cons_succ, Nat.lt_irrefl, Nat.zero_lt_succ, Nat.succ_lt_succ_iff, fa26_0, fa26_0p, fa26_1, fa26_1p, fa26_10, fa26_10p, fa26_11, fa26_11p, fa26_12, fa26_12p, fa26_13, fa26_13p, fa26_14, fa26_14p, fa26_2, fa26_2p, fa26_3, fa26_3p, fa26_4, fa26_4p, fa26_5, fa26_5p, fa26_6, fa26_6p, fa26_7, fa26_7p, fa26_8, fa26_8p, fa26_9, fa26_9p, fa28_0, fa28_0p, fa28_1, fa28_1p, fa30_0, fa30_0p, fa30_1, fa30_1p, fa46_0, fa46_0p, fa46_1, fa46_1p, fa46_2, fa46_2p, fa46_3, fa46_3p, fa46_4, fa46_4p, fa46_5, fa46_5p, fa46_6, fa46_6p, fa86_0, fa86_0p, fa86_1, fa86_1p, fa86_2, fa86_2p, fa95_0, fa95_0p, fa95_1, fa95_1p, ld3, ld3p, ld4, ld4p, ld22, ld22p, ld23, ld23p, ld24, ld24p, ld26, ld26p, ld28, ld28p, ld30, ld30p, ld31, ld31p, ld46, ld46p, ld47, ld47p, ld52, ld52p, ld55, ld55p, ld57, ld57p, ld95, ld95p, st3s, st4s, st22s, st23s, st24s, st26w, st28w, st30w, st46w, st47s, st55s, st95w, ix22, ix22p, ix23, ix23p, ix24, ix24p, ix47, ix47p, ix56, ix56p, ix57, ix57p, ix101, ix101p, ln22, ln22p, ln23, ln23p, ln24, ln24p, ln47, ln47p, ln56, ln56p, ln57, ln57p, al22, al26, al28, al30, al46, al47, al95, cf14, cf15, cf16, cf17, cf18, cf19, cf20, cf21, cf22, cf23, cf24, cf25, cf26, cf27, cf28, cf29, cf30, cf31, cf32, cf33, cf34, cf35, cf36, cf37, cf38, cf39, cf40, cf41, cf42, cf43, cf44, cf45, cf46, cf47, cf48, cf49, cf50, cf51, cf52, cf53, cf54, cf55, cf56, cf57, cf58, cf59, cf60, cf61, cf62, cf63, cf64, cf65, cf66, cf67, cf68, cf69, cf70, cf71, cf72, cf73, cf74, cf75, cf76, cf77, cf78, cf79, cf80, bd26_0_1_2_7_8_9_10_11_12_13_14, bd26_0_1_2_7_8_9_10_11_12_13_14p, bd28_0, bd28_0p, bd28_0_1, bd28_0_1p, bd30_, bd30_p, bd30_0_1, bd30_0_1p, bd30_0, bd30_0p, bd46_0_1_2_3_4, bd46_0_1_2_3_4p, bd46_0_3_4, bd46_0_3_4p, bd86_0_1_2, bd86_0_1_2p, bd87_0_1_2_3, bd87_0_1_2_3p, bd95_0_1, bd95_0_1p, bs22_2_0_1, bs47_1_0, bs22_1_0, bs57_6_0_1_2_3_4_5, bs24_1_0, bs22_4_0_1_2_3, bs56_11_0_1_2_3_4_5_6_7_8_9_10, bs57_11_0_1_2_3_4_5_6_7_8_9_10, eq4, eq4p, eq28, eq28p, eq30, eq30p, eq31n, eq31np, eq31s, eq31sp, eq46, eq46p, eq50n, eq50np, eq50s, eq50sp, eq67n, eq67np, eq67s, eq67sp, ne4, ne4p, ne28, ne28p, ne30, ne30p, ne31n, ne31np, ne31s, ne31sp, ne46, ne46p, al76, q0, q3]
    rw [slice_to un22 sz28 (by omega) (by omega)]
    rw [Int.toNat_natCast]
    rw [← hKK]
    try simp -implicitDefEqProofs only [retK_ret, resL_tmp, upd_eq, resL_nil1]
    have hcl : compactL L = M.take w := htk.symm
    have hml : (M.take w).length = w := by rw [List.length_take]; omega
    have hl3 : l' = cellC.rows (compactL L) ++ l'.drop (w * 2) := by
      rw [hcl]
      have := cellC.rows_take (L := M) (t := t) (k := w) (by omega)
      rw [show cellC.n = 2 from rfl] at this
      rw [← this, ← hl2, List.take_append_drop]
    refine ⟨_, ⟨some b, cap, l'.drop (w * 2), by rw [hcl, hml], ?_, ?_⟩, s5, d5⟩
    · rw [← hl3]; exact set_self
    · rw [← hl3, hl1, hlen]; rfl

end Go.Proofs.YtnpdploihlgcgaaDoor
end

section
/- slices.SortFunc of cells: where the library's text lies in this program (printed by the shelf's own layer). -/
set_option linter.unusedVariables false
set_option maxRecDepth 100000
namespace Go.Proofs.YtnpdploihlgcgaaDoor
open Go Go.HL Go.Proofs
def sortCells_ren : Go.Shelf.Ren := ⟨fun | 6 => 69 | 15 => 79 | 14 => 78 | 28 => 89 | 29 => 90 | 20 => 81 | 21 => 82 | 22 => 83 | 23 => 84 | 24 => 85 | 25 => 86 | 26 => 87 | 27 => 88 | 46 => 91 | 47 => 92 | 48 => 93 | 49 => 94 | 50 => 95 | 57 => 96 | n => n, fun | 22 => 22 | 24 => 28 | 25 => 64 | 3 => 3 | 39 => 100 | 0 => 0 | 53 => 112 | 55 => 114 | 4 => 4 | 46 => 105 | 45 => 104 | 50 => 109 | 5 => 5 | 9 => 9 | 66 => 115 | 70 => 55 | 76 => 120 | 77 => 121 | n => n, fun | n => n⟩
theorem sortCells : Go.Proofs.SlLaysF0.n6 Tryd.prog sortCells_ren where
  mixed := by kernel_rfl
  f6 := ⟨ "slices.SortFunc[[]skep/api.Cell,skep/api.Cell]", by decide, Tryd.func69.trans (congrArg some (by kernel_rfl))⟩
  f14 := ⟨ "slices.pdqsortCmpFunc[skep/api.Cell]", by decide, Tryd.func78.trans (congrArg some (by kernel_rfl))⟩
  f15 := Tryd.func79.trans (congrArg some (by kernel_rfl))
  f20 := ⟨ "slices.insertionSortCmpFunc[skep/api.Cell]", by decide, Tryd.func81.trans (congrArg some (by kernel_rfl))⟩
  f21 := ⟨ "slices.heapSortCmpFunc[skep/api.Cell]", by decide, Tryd.func82.trans (congrArg some (by kernel_rfl))⟩
  f22 := ⟨ "slices.breakPatternsCmpFunc[skep/api.Cell]", by decide, Tryd.func83.trans (congrArg some (by kernel_rfl))⟩
  f23 := ⟨ "slices.choosePivotCmpFunc[skep/api.Cell]", by decide, Tryd.func84.trans (congrArg some (by kernel_rfl))⟩
  f24 := ⟨ "slices.reverseRangeCmpFunc[skep/api.Cell]", by decide, Tryd.func85.trans (congrArg some (by kernel_rfl))⟩
  f25 := ⟨ "slices.partialInsertionSortCmpFunc[skep/api.Cell]", by decide, Tryd.func86.trans (congrArg some (by kernel_rfl))⟩
  f26 := ⟨ "slices.partitionEqualCmpFunc[skep/api.Cell]", by decide, Tryd.func87.trans (congrArg some (by kernel_rfl))⟩
  f27 := ⟨ "slices.partitionCmpFunc[skep/api.Cell]", by decide, Tryd.func88.trans (congrArg some (by kernel_rfl))⟩
  f28 := Tryd.func89.trans (congrArg some (by kernel_rfl))
  f29 := Tryd.func90.trans (congrArg some (by kernel_rfl))
  f46 := ⟨ "slices.siftDownCmpFunc[skep/api.Cell]", by decide, Tryd.func91.trans (congrArg some (by kernel_rfl))⟩
  f47 := Tryd.func92.trans (congrArg some (by kernel_rfl))
  f48 := Tryd.func93.trans (congrArg some (by kernel_rfl))
  f49 := ⟨ "slices.medianAdjacentCmpFunc[skep/api.Cell]", by decide, Tryd.func94.trans (congrArg some (by kernel_rfl))⟩
  f50 := ⟨ "slices.medianCmpFunc[skep/api.Cell]", by decide, Tryd.func95.trans (congrArg some (by kernel_rfl))⟩
  f57 := ⟨ "slices.order2CmpFunc[skep/api.Cell]", by decide, Tryd.func96.trans (congrArg some (by kernel_rfl))⟩
  t0 := Tryd.underlying0
  a0 := Tryd.isAgg0
  z0 := Tryd.sizeOf0
  v0 := Tryd.zeroValue0
  t3 := Tryd.underlying3
  a3 := Tryd.isAgg3
  z3 := Tryd.sizeOf3
  v3 := Tryd.zeroValue3
  t4 := Tryd.underlying4
  a4 := Tryd.isAgg4
  z4 := Tryd.sizeOf4
  v4 := Tryd.zeroValue4
  t5 := Tryd.underlying5
  a5 := Tryd.isAgg5
  z5 := Tryd.sizeOf5
  v5 := Tryd.zeroValue5
  t9 := Tryd.underlying9
  a9 := Tryd.isAgg9
  z9 := Tryd.sizeOf9
  v9 := Tryd.zeroValue9
  t22 := Tryd.underlying22
  a22 := Tryd.isAgg22
  z22 := Tryd.sizeOf22
  v22 := Tryd.zeroValue22
  t25 := Tryd.underlying64
  a25 := Tryd.isAgg64
  z25 := Tryd.sizeOf64
  v25 := Tryd.zeroValue64
  t39 := Tryd.underlying100
  a39 := Tryd.isAgg100
  z39 := Tryd.sizeOf100
  v39 := Tryd.zeroValue100
  t45 := Tryd.underlying104
  a45 := Tryd.isAgg104
  z45 := Tryd.sizeOf104
  v45 := Tryd.zeroValue104
  t46 := Tryd.underlying105
  a46 := Tryd.isAgg105
  z46 := Tryd.sizeOf105
  v46 := Tryd.zeroValue105
  t50 := Tryd.underlying109
  a50 := Tryd.isAgg109
  z50 := Tryd.sizeOf109
  v50 := Tryd.zeroValue109
  t53 := Tryd.underlying112
  a53 := Tryd.isAgg112
  z53 := Tryd.sizeOf112
  v53 := Tryd.zeroValue112
  t55 := Tryd.underlying114
  a55 := Tryd.isAgg114
  z55 := Tryd.sizeOf114
  v55 := Tryd.zeroValue114
  t66 := Tryd.underlying115
  a66 := Tryd.isAgg115
  z66 := Tryd.sizeOf115
  v66 := Tryd.zeroValue115
  t70 := Tryd.underlying55
  a70 := Tryd.isAgg55
  z70 := Tryd.sizeOf55
  v70 := Tryd.zeroValue55
  t76 := Tryd.underlying120
  a76 := Tryd.isAgg120
  z76 := Tryd.sizeOf120
  v76 := Tryd.zeroValue120
  t77 := Tryd.underlying121
  a77 := Tryd.isAgg121
  z77 := Tryd.sizeOf121
  v77 := Tryd.zeroValue121
end Go.Proofs.YtnpdploihlgcgaaDoor
end

section
/- The cells that a move sweeps: the program's, the reference's. -/
set_option linter.unusedSimpArgs false
set_option linter.unusedVariables false
set_option maxRecDepth 100000
namespace Go.Proofs.YtnpdploihlgcgaaDoor
open Go Go.HL

theorem open_in {w k : Nat} {f : Nat → Nat → Int} {c : Cell} (h : openW w k f c = true) : inW w k c = true := by
  unfold openW at h
  rw [Bool.and_eq_true] at h
  exact h.1
theorem way_in {w k : Nat} {f : Nat → Nat → Int} {m : Move} (h : wayB w k f m = true) : ∀ c ∈ wayL m, inW w k c = true := by
  intro c hc
  unfold wayB at h
  unfold wayL at hc
  rw [Bool.and_eq_true] at h
  obtain ⟨hf, h⟩ := h
  by_cases h1 : m.k = 1
  · rw [if_pos h1] at h hc
    simp only [Bool.and_eq_true, List.all_eq_true, List.mem_flatMap] at h hc
    obtain ⟨i, hi, hc⟩ := hc
    have := h.2.1 i hi
    unfold stepB at this
    rw [Bool.and_eq_true] at this
    exact (fits_cells this.2 c hc).1
  · rw [if_neg h1] at h hc
    by_cases h2 : m.k = 2
    · rw [if_pos h2] at h hc
      simp only [Bool.and_eq_true, List.all_eq_true] at h
      exact open_in (h.2.1 c hc)
    · rw [if_neg h2] at hc
      exact (fits_cells hf c hc).1
theorem flat_two {D : Nat → List Cell} (h : ∀ i, (D i).length = 2) : ∀ n, ((List.range n).flatMap D).length = 2 * n
  | 0 => rfl
  | n + 1 => by
    rw [List.range_succ, List.flatMap_append, List.length_append, flat_two h n]
    simp [h]
    omega
theorem way_len {w k : Nat} {f : Nat → Nat → Int} {m : Move} (h : wayB w k f m = true) : (wayL m).length ≤ 34 ∧ wayL m ≠ [] := by
  unfold wayB at h
  rw [Bool.and_eq_true] at h
  obtain ⟨hf, h⟩ := h
  unfold wayL
  by_cases h1 : m.k = 1
  · rw [if_pos h1] at h ⊢
    simp only [Bool.and_eq_true, List.all_eq_true, List.mem_range, decide_eq_true_eq] at h
    have := h.2.1 m.n.toNat (by omega)
    unfold stepB okS at this
    simp only [Bool.and_eq_true] at this
    have hn := withinB_iff.1 this.1.1
    have e := flat_two (D := fun (i : Nat) => cellsP (shiftP m.f m.d i)) (fun i => rfl) (m.n.toNat + 1)
    refine ⟨by rw [e]; omega, fun hn => ?_⟩
    rw [hn] at e
    simp at e
  · rw [if_neg h1]
    split
    · exact ⟨by simp [squareL], by simp [squareL]⟩
    · exact ⟨by simp [cellsP], by simp [cellsP]⟩

theorem numI_in {w k : Nat} {c : Cell} (h : inW w k c = true) : numI w k c = numW w c := by
  unfold numI numW
  rw [if_pos h]
theorem in_bd {w k : Nat} {c : Cell} (h : inW w k c = true) : 0 ≤ c.1 ∧ c.1 < w ∧ 0 ≤ c.2 ∧ c.2 < k := by
  unfold inW at h
  rw [Bool.and_eq_true] at h
  have h1 := withinB_iff.1 h.1
  have h2 := withinB_iff.1 h.2
  omega
theorem numI_bd {w k : Nat} {c : Cell} (hw : w ≤ 16) (hk : k ≤ 16) : -1 ≤ numI w k c ∧ numI w k c ≤ 1000 := by
  unfold numI
  split
  · rename_i h
    obtain ⟨a, b, c1, d⟩ := in_bd h
    have h1 : 0 ≤ c.2 * (w : Int) := Int.mul_nonneg c1 (by omega)
    have h2 : c.2 * (w : Int) ≤ 16 * 16 := Int.mul_le_mul (by omega) (by omega) (by omega) (by omega)
    omega
  · omega

theorem cmp_spec {G h : Hp} {v0 w k : Nat} {f : Nat → Nat → Int} {g : Value} {a b : Cell} (hv : ∀ j, cellIn G h ⟨v0, j, none⟩ = [g][j]?) (gs : GS G h g w k f) : HCalls Tryd.prog G 70 #[cellV a, cellV b, .pointer (some ⟨v0, 0, none⟩)] h (fun u h' => u = .int .i64 (numI w k a - numI w k b) ∧ h' = h) := by
  obtain ⟨gp, kb, hgp, _⟩ := gs.ex
  refine HCalls.assume fun d => quietly (enter70 (by simp) ?_)
  unfold S70
  simp -implicitDefEqProofs only [regs0, regs1, regs2, retK_ret, resL_tmp, upd_eq, resL_nil1, pureW_sv, cf37, ld31p, opH_sv, box_new, cells_agg, ld28p, add_mk, Nat.add_zero, cell_set_self, List.getElem?_cons_zero, Option.some.injEq, Nat.zero_add, List.getElem?_cons_succ, exists_eq_left']
  intro x hx gx
  generalize e1 : Hp.set h x _ = h1
  obtain ⟨l1, d1, b1⟩ := boxed e1 hx d gx
  intro y hy gy
  generalize e2 : Hp.set h1 y _ = h2
  obtain ⟨l2, d2, b2⟩ := boxed e2 hy d1 gy
  have cx : ∀ j, cellIn G h2 ⟨x, j, none⟩ = _ := fun j => cell_of (look_own (l2 _ _ b1))
  have cy : ∀ j, cellIn G h2 ⟨y, j, none⟩ = _ := fun j => cell_of (look_own b2)
  have l02 := l1.trans l2
  have cv : cellIn G h2 ⟨v0, 0, none⟩ = some g := cell_up l02 d2 (hv 0)
  have gs2 := gs.up l02 d2
  subst hgp
  try simp -implicitDefEqProofs only [cv, Option.some.injEq, cx, List.getElem?_cons_zero, List.getElem?_cons_succ, exists_eq_left']
  refine (num_spec (c := a) gs2).mono ?_
  rintro _ h3 ⟨rfl, rfl⟩
  refine ⟨Hp.le.refl _, ?_⟩
  try simp -implicitDefEqProofs only [opH_sv, opH_su, pureW_sv, opH_nil, pureW_nil, pick_t, pick_f, pick_tp, pick_fp, gd_tt, gd_ft, gd_tf, gd_ff, box_new, regs0, regs1, regs2, regs3, regs4, regs5, regs6, cells_agg, cells_int, cells_bool, cells_ptr, cells_slice, cells_string, cells_func, cells_nilFunc, cells_map, retK_ret, retK_normal, resL_tmp, resL_cell, resL_nil0, resL_nil1, resL_nil2, resL_nil3, resC_ptr, ex0, ex1, ex2, ex0p, ex1p, ex2p, HL.cond_true, HL.cond_false, thenK_normal, thenK_ret, thenK_exit, blockK_normal, blockK_ret, blockK_exit, scopeK_normal, scopeK_ret, scopeK_exit, wpH_pure, bin_add, bin_sub, bin_mul, bin_lss, bin_leq, bin_gtr, bin_geq, bin_quo, bin_rem, bin_quop, bin_remp, wrap_in, bin_addp, bin_subp, bin_mulp, bin_lssp, bin_leqp, bin_gtrp, bin_geqp, un_not, un_notp, un_neg, eq_int, ne_int, eq_intp, ne_intp, callV_fn, add_mk, upd_eq, upd_ne, cell_set_self, Nat.zero_add, Nat.add_zero, Option.some.injEq, exists_eq_left', List.getElem?_cons_succ, List.getElem?_cons_zero, true_and, and_true, bne_self_eq_false, beq_self_eq_true, Bool.not_true, Bool.not_false, Bool.and_true, Bool.and_self, Bool.and_false, Bool.true_and, List.length_cons, List.length_nil, ne_eq, not_false_eq_true, Nat.reduceAdd, Nat.reduceMul, if_true, if_false, oneCell_int, oneCell_bool, oneCell_ptr, oneCell_slice, oneCell_string, oneCell_func, oneCell_map, Int.toNat_natCast, List.set_cons_zero, List.set_cons_succ, Nat.lt_irrefl, Nat.zero_lt_succ, Nat.succ_lt_succ_iff, fa26_0, fa26_0p, fa26_1, fa26_1p, fa26_10, fa26_10p, fa26_11, fa26_11p, fa26_12, fa26_12p, fa26_13, fa26_13p, fa26_14, fa26_14p, fa26_2, fa26_2p, fa26_3, fa26_3p, fa26_4, fa26_4p, fa26_5, fa26_5p, fa26_6, fa26_6p, fa26_7, fa26_7p, fa26_8, fa26_8p, fa26_9, fa26_9p, fa28_0, fa28_0p, fa28_1, fa28_1p, fa30_0, fa30_0p, fa30_1, fa30_1p, fa46_0, fa46_0p, fa46_1, fa46_1p, fa46_2, fa46_2p, fa46_3, fa46_3p, fa46_4, fa46_4p, fa46_5, fa46_5p, fa46_6, fa46_6p, fa86_0, fa86_0p, fa86_1, fa86_1p, fa86_2, fa86_2p, fa95_0, fa95_0p, fa95_1, fa95_1p, ld3, ld3p, ld4, ld4p, ld22, ld22p, ld23, ld23p, ld24, ld24p, ld26, ld26p, ld28, ld28p, ld30, ld30p, ld31, ld31p, ld46, ld46p, ld47, ld47p, ld52, ld52p, ld55, ld55p, ld57, ld57p, ld95, ld95p, st3s, st4s, st22s, st23s, st24s, st26w, st28w, st30w, st46w, st47s, st55s, st95w, ix22, ix22p, ix23, ix23p, ix24, ix24p, ix47, ix47p, ix56, ix56p, ix57, ix57p, ix101, ix101p, ln22, ln22p, ln23, ln23p, ln24, ln24p, ln47, ln47p, ln56, ln56p, ln57, ln57p, al22, al26, al28, al30, al46, al47, al95, cf14, cf15, cf16, cf17, cf18, cf19, cf20, cf21, cf22, cf23, cf24, cf25, cf26, cf27, cf28, cf29, cf30, cf31, cf32, cf33, cf34, cf35, cf36, cf37, cf38, cf39, cf40, cf41, cf42, cf43, cf44, cf45, cf46, cf47, cf48, cf49, cf50, cf51, cf52, cf53, cf54, cf55, cf56, cf57, cf58, cf59, cf60, cf61, cf62, cf63, cf64, cf65, cf66, cf67, cf68, cf69, cf70, cf71, cf72, cf73, cf74, cf75, cf76, cf77, cf78, cf79, cf80, bd26_0_1_2_7_8_9_10_11_12_13_14, bd26_0_1_2_7_8_9_10_11_12_13_14p, bd28_0, bd28_0p, bd28_0_1, bd28_0_1p, bd30_, bd30_p, bd30_0_1, bd30_0_1p, bd30_0, bd30_0p, bd46_0_1_2_3_4, bd46_0_1_2_3_4p, bd46_0_3_4, bd46_0_3_4p, bd86_0_1_2, bd86_0_1_2p, bd87_0_1_2_3, bd87_0_1_2_3p, bd95_0_1, bd95_0_1p, bs22_2_0_1, bs47_1_0, bs22_1_0, bs57_6_0_1_2_3_4_5, bs24_1_0, bs22_4_0_1_2_3, bs56_11_0_1_2_3_4_5_6_7_8_9_10, bs57_11_0_1_2_3_4_5_6_7_8_9_10, eq4, eq4p, eq28, eq28p, eq30, eq30p, eq31n, eq31np, eq31s, eq31sp, eq46, eq46p, eq50n, eq50np, eq50s, eq50sp, eq67n, eq67np, eq67s, eq67sp, ne4, ne4p, ne28, ne28p, ne30, ne30p, ne31n, ne31np, ne31s, ne31sp, ne46, ne46p, al76, cx, cy, cv]
  refine (num_spec (c := b) gs2).mono ?_
  rintro _ h3 ⟨rfl, rfl⟩
  have ba := numI_bd (c := a) gs.w2 gs.k2
  have bb := numI_bd (c := b) gs.w2 gs.k2
  try simp -implicitDefEqProofs (disch := first | with_reducible exact Nat.ne_of_beq_eq_false rfl | omega) only [bin_subp, wrap_in, true_and]
  first | exact l02 | exact ⟨rfl, l02⟩

instance : Inhabited Cell := ⟨(0, 0)⟩
theorem swo_num (n : Cell → Int) : Go.Sort.SWO (Go.Proofs.ltOf fun a b => n a - n b) := by
  refine ⟨fun x => ?_, fun x y z h1 h2 => ?_, fun x y z h1 h2 => ?_⟩ <;> simp only [Go.Proofs.ltOf, decide_eq_true_eq, decide_eq_false_iff_not] at * <;> omega

/-- What the move sweeps, told. -/
def sweptM (w k : Nat) (f : Nat → Nat → Int) (m : Move) : List Cell := if wayB w k f m = true then sweptL w k (wayL m) else []

set_option maxHeartbeats 4000000 in
theorem swept_spec {G h : Hp} {g : Value} {w k : Nat} {f : Nat → Nat → Int} {m : Move} (gs : GS G h g w k f) (st : Steps G) (mb : MB m) : HCalls Tryd.prog G 47 #[g, moveV m] h (fun u h' => ∃ ip, Slc cellC 28 ip u (sweptM w k f m) ∧ HL.Sep [ip, h] h' ∧ Dis G h') := by
  obtain ⟨gp, kb, hgp, _⟩ := gs.ex
  subst hgp
  refine HCalls.assume fun d => enter47 (by simp) ?_
  unfold S47
  simp -implicitDefEqProofs only [regs0, regs1, retK_ret, resL_tmp, upd_eq, resL_nil1, opH_sv, cf63, box_new, cells_agg, ld46, add_mk, Nat.add_zero, Nat.zero_add, cells_ptr, ld31, cell_set_self, List.getElem?_cons_zero, Option.some.injEq, List.getElem?_cons_succ, exists_eq_left']
  intro x hx gx
  generalize e1 : Hp.set h x _ = h1
  obtain ⟨l1, d1, b1⟩ := boxed e1 hx d gx
  intro y hy gy
  generalize e2 : Hp.set h1 y _ = h2
  obtain ⟨l2, d2, b2⟩ := boxed e2 hy d1 gy
  have cx : ∀ j, cellIn G h2 ⟨x, j, none⟩ = _ := fun j => cell_of (look_own (l2 _ _ b1))
  have cy : ∀ j, cellIn G h2 ⟨y, j, none⟩ = _ := fun j => cell_of (look_own b2)
  have l02 := l1.trans l2
  have gs2 := gs.up l02 d2
  try simp -implicitDefEqProofs only [cx, List.getElem?_cons_zero, Option.some.injEq, exists_eq_left']
  refine (way_spec (m := m) gs2 st mb).mono ?_
  rintro _ h3 ⟨ip, v, L, rfl, o, s3, d3, hL⟩
  try simp -implicitDefEqProofs only [ex1, un_not, ex0]
  cases hw : wayB w k f m with
  | false =>
    try simp -implicitDefEqProofs only [Bool.not_false, HL.cond_true]
    refine ⟨noHp, ?_, (s3.drop.cut l02).none, d3⟩
    unfold sweptM
    rw [hw]
    exact Slc.nil
  | true =>
    obtain rfl := hL hw
    obtain ⟨wl, wn⟩ := way_len hw
    try simp -implicitDefEqProofs only [Bool.not_true, HL.cond_false]
    unfold S47_k1
    obtain ⟨ob, o'⟩ := o
    cases ob with
    | none => exact absurd o'.2 wn
    | some b =>
    obtain ⟨cap, t, rfl, hb, hbl⟩ := o'
    try simp -implicitDefEqProofs only [upd_ne, upd_eq, retK_ret, resL_tmp, resL_nil1, cf71, cf69]
    have hx3 : h2 x = some _ := l2 _ _ b1
    refine HCalls.mono (f := 69) (sort_call (ρ := sortCells_ren) sortCells cellC (by decide) Tryd.isAgg28 Tryd.sizeOf28 (swo_num (numI w k)) (g := 70) (cb := #[.pointer (some ⟨x, 0, none⟩)])
      (enters_of Tryd.func70 (by kernel_rfl) rfl) s3 d3 hb (fun p q h' s' d' => cmp_spec (a := p) (b := q) (fun j => by rw [cell_of (look_own (s'.in 0 rfl _ _ hx3))]) (gs2.up (s'.in 0 rfl) d')) (by omega)) ?_
    rintro _ h4 ⟨rfl, S, hp, hs, rfl⟩
    have s4 := s3.put (o := .cells (cellC.rows S ++ t).toArray 28 (0, 0)) hb
    have d4 := d3.set (o := .cells (cellC.rows S ++ t).toArray 28 (0, 0)) (d3 _ _ (s3.at 0 rfl hb))
    have hlS : S.length = (wayL m).length := hp.length_eq
    have o4 : Slc cellC 28 (ip.set b (.cells (cellC.rows S ++ t).toArray 28 (0, 0))) (.slice (some ⟨b, 0, none⟩) (wayL m).length cap) S := ⟨some b, cap, t, by rw [hlS], set_self, by rw [← hbl, List.length_append, List.length_append, cellC.rows_length, cellC.rows_length, hlS]⟩
    generalize Hp.set h3 b _ = h4 at s4 d4 ⊢
    generalize Hp.set ip b _ = ip4 at s4 o4
    try simp -implicitDefEqProofs only [opH_sv, opH_su, pureW_sv, opH_nil, pureW_nil, pick_t, pick_f, pick_tp, pick_fp, gd_tt, gd_ft, gd_tf, gd_ff, box_new, regs0, regs1, regs2, regs3, regs4, regs5, regs6, cells_agg, cells_int, cells_bool, cells_ptr, cells_slice, cells_string, cells_func, cells_nilFunc, cells_map, retK_ret, retK_normal, resL_tmp, resL_cell, resL_nil0, resL_nil1, resL_nil2, resL_nil3, resC_ptr, ex0, ex1, ex2, ex0p, ex1p, ex2p, HL.cond_true, HL.cond_false, thenK_normal, thenK_ret, thenK_exit, blockK_normal, blockK_ret, blockK_exit, scopeK_normal, scopeK_ret, scopeK_exit, wpH_pure, bin_add, bin_sub, bin_mul, bin_lss, bin_leq, bin_gtr, bin_geq, bin_quo, bin_rem, bin_quop, bin_remp, wrap_in, bin_addp, bin_subp, bin_mulp, bin_lssp, bin_leqp, bin_gtrp, bin_geqp, un_not, un_notp, un_neg, eq_int, ne_int, eq_intp, ne_intp, callV_fn, add_mk, upd_eq, upd_ne, cell_set_self, Nat.zero_add, Nat.add_zero, Option.some.injEq, exists_eq_left', List.getElem?_cons_succ, List.getElem?_cons_zero, true_and, and_true, bne_self_eq_false, beq_self_eq_true, Bool.not_true, Bool.not_false, Bool.and_true, Bool.and_self, Bool.and_false, Bool.true_and, List.length_cons, List.length_nil, ne_eq, not_false_eq_true, Nat.reduceAdd, Nat.reduceMul, if_true, if_false, oneCell_int, oneCell_bool, oneCell_ptr, oneCell_slice, oneCell_string, oneCell_func, oneCell_map, Int.toNat_natCast, List.set_cons_zero, List.set_cons_succ, Nat.lt_irrefl, Nat.zero_lt_succ, Nat.succ_lt_succ_iff, fa26_0, fa26_0p, fa26_1, fa26_1p, fa26_10, fa26_10p, fa26_11, fa26_11p, fa26_12, fa26_12p, fa26_13, fa26_13p, fa26_14, fa26_14p, fa26_2, fa26_2p, fa26_3, fa26_3p, fa26_4, fa26_4p, fa26_5, fa26_5p, fa26_6, fa26_6p, fa26_7, fa26_7p, fa26_8, fa26_8p, fa26_9, fa26_9p, fa28_0, fa28_0p, fa28_1, fa28_1p, fa30_0, fa30_0p, fa30_1, fa30_1p, fa46_0, fa46_0p, fa46_1, fa46_1p, fa46_2, fa46_2p, fa46_3, fa46_3p, fa46_4, fa46_4p, fa46_5, fa46_5p, fa46_6, fa46_6p, fa86_0, fa86_0p, fa86_1, fa86_1p, fa86_2, fa86_2p, fa95_0, fa95_0p, fa95_1, fa95_1p, ld3, ld3p, ld4, ld4p, ld22, ld22p, ld23, ld23p, ld24, ld24p, ld26, ld26p, ld28, ld28p, ld30, ld30p, ld31, ld31p, ld46, ld46p, ld47, ld47p, ld52, ld52p, ld55, ld55p, ld57, ld57p, ld95, ld95p, st3s, st4s, st22s, st23s, st24s, st26w, st28w, st30w, st46w, st47s, st55s, st95w, ix22, ix22p, ix23, ix23p, ix24, ix24p, ix47, ix47p, ix56, ix56p, ix57, ix57p, ix101, ix101p, ln22, ln22p, ln23, ln23p, ln24, ln24p, ln47, ln47p, ln56, ln56p, ln57, ln57p, al22, al26, al28, al30, al46, al47, al95, cf14, cf15, cf16, cf17, cf18, cf19, cf20, cf21, cf22, cf23, cf24, cf25, cf26, cf27, cf28, cf29, cf30, cf31, cf32, cf33, cf34, cf35, cf36, cf37, cf38, cf39, cf40, cf41, cf42, cf43, cf44, cf45, cf46, cf47, cf48, cf49, cf50, cf51, cf52, cf53, cf54, cf55, cf56, cf57, cf58, cf59, cf60, cf61, cf62, cf63, cf64, cf65, cf66, cf67, cf68, cf69, cf70, cf71, cf72, cf73, cf74, cf75, cf76, cf77, cf78, cf79, cf80, bd26_0_1_2_7_8_9_10_11_12_13_14, bd26_0_1_2_7_8_9_10_11_12_13_14p, bd28_0, bd28_0p, bd28_0_1, bd28_0_1p, bd30_, bd30_p, bd30_0_1, bd30_0_1p, bd30_0, bd30_0p, bd46_0_1_2_3_4, bd46_0_1_2_3_4p, bd46_0_3_4, bd46_0_3_4p, bd86_0_1_2, bd86_0_1_2p, bd87_0_1_2_3, bd87_0_1_2_3p, bd95_0_1, bd95_0_1p, bs22_2_0_1, bs47_1_0, bs22_1_0, bs57_6_0_1_2_3_4_5, bs24_1_0, bs22_4_0_1_2_3, bs56_11_0_1_2_3_4_5_6_7_8_9_10, bs57_11_0_1_2_3_4_5_6_7_8_9_10, eq4, eq4p, eq28, eq28p, eq30, eq30p, eq31n, eq31np, eq31s, eq31sp, eq46, eq46p, eq50n, eq50np, eq50s, eq50sp, eq67n, eq67np, eq67s, eq67sp, ne4, ne4p, ne28, ne28p, ne30, ne30p, ne31n, ne31np, ne31s, ne31sp, ne46, ne46p, al76]
    refine (compact_spec s4 o4 (by omega)).mono ?_
    rintro u5 h5 ⟨a5, o5, s5, d5⟩
    try simp -implicitDefEqProofs only [opH_sv, opH_su, pureW_sv, opH_nil, pureW_nil, pick_t, pick_f, pick_tp, pick_fp, gd_tt, gd_ft, gd_tf, gd_ff, box_new, regs0, regs1, regs2, regs3, regs4, regs5, regs6, cells_agg, cells_int, cells_bool, cells_ptr, cells_slice, cells_string, cells_func, cells_nilFunc, cells_map, retK_ret, retK_normal, resL_tmp, resL_cell, resL_nil0, resL_nil1, resL_nil2, resL_nil3, resC_ptr, ex0, ex1, ex2, ex0p, ex1p, ex2p, HL.cond_true, HL.cond_false, thenK_normal, thenK_ret, thenK_exit, blockK_normal, blockK_ret, blockK_exit, scopeK_normal, scopeK_ret, scopeK_exit, wpH_pure, bin_add, bin_sub, bin_mul, bin_lss, bin_leq, bin_gtr, bin_geq, bin_quo, bin_rem, bin_quop, bin_remp, wrap_in, bin_addp, bin_subp, bin_mulp, bin_lssp, bin_leqp, bin_gtrp, bin_geqp, un_not, un_notp, un_neg, eq_int, ne_int, eq_intp, ne_intp, callV_fn, add_mk, upd_eq, upd_ne, cell_set_self, Nat.zero_add, Nat.add_zero, Option.some.injEq, exists_eq_left', List.getElem?_cons_succ, List.getElem?_cons_zero, true_and, and_true, bne_self_eq_false, beq_self_eq_true, Bool.not_true, Bool.not_false, Bool.and_true, Bool.and_self, Bool.and_false, Bool.true_and, List.length_cons, List.length_nil, ne_eq, not_false_eq_true, Nat.reduceAdd, Nat.reduceMul, if_true, if_false, oneCell_int, oneCell_bool, oneCell_ptr, oneCell_slice, oneCell_string, oneCell_func, oneCell_map, Int.toNat_natCast, List.set_cons_zero, List.set_cons_succ, Nat.lt_irrefl, Nat.zero_lt_succ, Nat.succ_lt_succ_iff, fa26_0, fa26_0p, fa26_1, fa26_1p, fa26_10, fa26_10p, fa26_11, fa26_11p, fa26_12, fa26_12p, fa26_13, fa26_13p, fa26_14, fa26_14p, fa26_2, fa26_2p, fa26_3, fa26_3p, fa26_4, fa26_4p, fa26_5, fa26_5p, fa26_6, fa26_6p, fa26_7, fa26_7p, fa26_8, fa26_8p, fa26_9, fa26_9p, fa28_0, fa28_0p, fa28_1, fa28_1p, fa30_0, fa30_0p, fa30_1, fa30_1p, fa46_0, fa46_0p, fa46_1, fa46_1p, fa46_2, fa46_2p, fa46_3, fa46_3p, fa46_4, fa46_4p, fa46_5, fa46_5p, fa46_6, fa46_6p, fa86_0, fa86_0p, fa86_1, fa86_1p, fa86_2, fa86_2p, fa95_0, fa95_0p, fa95_1, fa95_1p, ld3, ld3p, ld4, ld4p, ld22, ld22p, ld23, ld23p, ld24, ld24p, ld26, ld26p, ld28, ld28p, ld30, ld30p, ld31, ld31p, ld46, ld46p, ld47, ld47p, ld52, ld52p, ld55, ld55p, ld57, ld57p, ld95, ld95p, st3s, st4s, st22s, st23s, st24s, st26w, st28w, st30w, st46w, st47s, st55s, st95w, ix22, ix22p, ix23, ix23p, ix24, ix24p, ix47, ix47p, ix56, ix56p, ix57, ix57p, ix101, ix101p, ln22, ln22p, ln23, ln23p, ln24, ln24p, ln47, ln47p, ln56, ln56p, ln57, ln57p, al22, al26, al28, al30, al46, al47, al95, cf14, cf15, cf16, cf17, cf18, cf19, cf20, cf21, cf22, cf23, cf24, cf25, cf26, cf27, cf28, cf29, cf30, cf31, cf32, cf33, cf34, cf35, cf36, cf37, cf38, cf39, cf40, cf41, cf42, cf43, cf44, cf45, cf46, cf47, cf48, cf49, cf50, cf51, cf52, cf53, cf54, cf55, cf56, cf57, cf58, cf59, cf60, cf61, cf62, cf63, cf64, cf65, cf66, cf67, cf68, cf69, cf70, cf71, cf72, cf73, cf74, cf75, cf76, cf77, cf78, cf79, cf80, bd26_0_1_2_7_8_9_10_11_12_13_14, bd26_0_1_2_7_8_9_10_11_12_13_14p, bd28_0, bd28_0p, bd28_0_1, bd28_0_1p, bd30_, bd30_p, bd30_0_1, bd30_0_1p, bd30_0, bd30_0p, bd46_0_1_2_3_4, bd46_0_1_2_3_4p, bd46_0_3_4, bd46_0_3_4p, bd86_0_1_2, bd86_0_1_2p, bd87_0_1_2_3, bd87_0_1_2_3p, bd95_0_1, bd95_0_1p, bs22_2_0_1, bs47_1_0, bs22_1_0, bs57_6_0_1_2_3_4_5, bs24_1_0, bs22_4_0_1_2_3, bs56_11_0_1_2_3_4_5_6_7_8_9_10, bs57_11_0_1_2_3_4_5_6_7_8_9_10, eq4, eq4p, eq28, eq28p, eq30, eq30p, eq31n, eq31np, eq31s, eq31sp, eq46, eq46p, eq50n, eq50np, eq50s, eq50sp, eq67n, eq67np, eq67s, eq67sp, ne4, ne4p, ne28, ne28p, ne30, ne30p, ne31n, ne31np, ne31s, ne31sp, ne46, ne46p, al76]
    refine ⟨a5, ?_, ((s5.pick 1 rfl rfl).cut l02).pick 1 rfl rfl, d5⟩
    have hin := way_in hw
    have e := compact_swept (w := w) (k := k) (W := wayL m) (S := S) (by have := gs.w1; omega) (fun c hc => in_bd (hin c hc)) hp (hs.imp_of_mem fun {a b} ha hb h => by
      rw [numI_in (hin a (hp.mem_iff.1 ha)), numI_in (hin b (hp.mem_iff.1 hb))] at h
      omega)
    unfold sweptM
    rw [hw, if_pos rfl, ← e]
    exact o5

end Go.Proofs.YtnpdploihlgcgaaDoor
end

section
/- The reference's moves and stack cells: the walks. -/
set_option linter.unusedSimpArgs false
set_option linter.unusedVariables false
set_option maxRecDepth 100000
namespace Go.Proofs.YtnpdploihlgcgaaDoor
open Go Go.HL

theorem dirsL_len {α : Type} {D : Nat → List α} {b : Nat} (h : ∀ i, (D i).length ≤ b) : ∀ {k i : Nat}, (dirsL D i k).length ≤ k * b
  | 0, i => by simp [dirsL]
  | k + 1, i => by
    unfold dirsL
    have := dirsL_len h (k := k) (i := i + 1)
    have := h i
    rw [List.length_append, Nat.succ_mul]
    omega

theorem pickFrom_len {α : Type} {p : Nat → Bool} {mk : Nat → α} : ∀ {k n : Nat}, (pickFrom p mk n k).length ≤ k
  | 0, n => Nat.le_refl _
  | k + 1, n => by
    rw [pick_succ]
    have := pickFrom_len (p := p) (mk := mk) (k := k) (n := n + 1)
    split <;> (try simp only [List.length_cons]) <;> omega

end Go.Proofs.YtnpdploihlgcgaaDoor
end

section
/- The cells that a move sweeps, as the reference tells them. -/
set_option linter.unusedSimpArgs false
set_option linter.unusedVariables false
set_option maxRecDepth 100000
namespace Go.Proofs.YtnpdploihlgcgaaDoor
open Go Go.HL

def rwayL (m : Move) : List Cell := if m.k = 1 then (List.range (m.n.toNat + 1)).flatMap (fun (i : Nat) => cellsP (shiftR m.f m.d i)) else if m.k = 2 then squareL (m.f.x, m.f.y) else cellsP m.f
def rsweptM (C : Conf) (m : Move) : List Cell := if legalR C m = true then sweptL (wC C) (kC C) (rwayL m) else []

theorem swept_len {w k : Nat} {W : List Cell} (hw : w ≤ 16) (hk : k ≤ 16) : (sweptL w k W).length ≤ 256 := by
  have := dirsL_len (D := fun y => pickFrom (fun x => decide ((((x : Nat) : Int), ((y : Nat) : Int)) ∈ W)) (fun x => (((x : Nat) : Int), ((y : Nat) : Int))) 0 w) (b := 16) (fun i => Nat.le_trans pickFrom_len hw) (k := k) (i := 0)
  have h2 : k * 16 ≤ 16 * 16 := Nat.mul_le_mul_right _ hk
  unfold sweptL
  omega

/-- The last part: through all cells. -/
theorem rswept_end {G h hb : Hp} {C : Conf} {x : Nat} {av : Value} {A : List Cell} {r : Rg} {KK : Exit → Rg → Hp → Prop} (d : Dis G h)
    (hx : ∀ hh, h.le hh → Dis G hh → cellIn G hh ⟨x, 0, none⟩ = some (.int .i64 C.w) ∧ cellIn G hh ⟨x, 1, none⟩ = some (.int .i64 C.h)) (ha : Sees cellC G h av A) (hA : A.length ≤ 100000) (ew : C.w = (wC C : Int)) (ek : C.h = (kC C : Int)) (w16 : wC C ≤ 16) (k16 : kC C ≤ 16)
    (g2 : r 2 = .pointer (some ⟨x, 0, none⟩)) (g5 : r 5 = av)
    (H : ∀ (r' : Rg) (hh ip : Hp) (u : Value), Slc cellC 28 ip u (sweptL (wC C) (kC C) A) → HL.Sep [ip, h] hh → Dis G hh → r' 7 = u → S48_k3 G KK r' hh) : S48_k2 G KK r h := by
  generalize hT : sweptL (wC C) (kC C) A = T at H
  have hlenT : T.length ≤ 256 := by rw [← hT]; exact swept_len w16 k16
  unfold sweptL at hT
  unfold S48_k2
  refine loop_I (fun m r h3 => ∃ (i : Nat) (ip : Hp) (u : Value) (M : List Cell), m = kC C - i ∧ i ≤ kC C ∧ r 2 = .pointer (some ⟨x, 0, none⟩) ∧ r 5 = av ∧ r 7 = u ∧ r 8 = .int .i64 i ∧ Slc cellC 28 ip u M ∧ M ++ dirsL (fun y => pickFrom (fun x => decide ((((x : Nat) : Int), ((y : Nat) : Int)) ∈ A)) (fun x => (((x : Nat) : Int), ((y : Nat) : Int))) 0 (wC C)) i (kC C - i) = T ∧ HL.Sep [ip, h] h3 ∧ Dis G h3) ?_
    (m := kC C) ⟨0, noHp, .slice none 0 0, [], rfl, Nat.zero_le _, by simp -implicitDefEqProofs (disch := first | with_reducible exact Nat.ne_of_beq_eq_false rfl | omega) only [upd_ne, g2], by simp -implicitDefEqProofs (disch := first | with_reducible exact Nat.ne_of_beq_eq_false rfl | omega) only [upd_ne, g5], by simp -implicitDefEqProofs (disch := first | with_reducible exact Nat.ne_of_beq_eq_false rfl | omega) only [upd_ne, upd_eq], by simp -implicitDefEqProofs only [upd_eq] <;> rfl, Slc.nil, hT, Sep.one.none, d⟩
  rintro m r h3 ⟨i, ip, u, M, rfl, hi, q2, q5, q7, q8, o, hM, s3, d3⟩ X HX
  have cx0 := (hx h3 (s3.in 1 rfl) d3).1
  have cx1 := (hx h3 (s3.in 1 rfl) d3).2
  unfold S48_l4
  simp -implicitDefEqProofs only [q2, q8, thenK_exit, blockK_exit, thenK_normal, if_true, opH_sv, fa26_1, add_mk, Nat.zero_add, ld3, cx1, ek, Option.some.injEq, exists_eq_left', bin_lss]
  refine cond_dec (fun hlt => ?_) (fun hge => ?_)
  rotate_left
  · obtain rfl : i = kC C := by omega
    rw [Nat.sub_self] at hM
    unfold dirsL at hM
    rw [List.append_nil] at hM
    subst hM
    try simp -implicitDefEqProofs only [opH_sv, opH_su, pureW_sv, opH_nil, pureW_nil, pick_t, pick_f, pick_tp, pick_fp, gd_tt, gd_ft, gd_tf, gd_ff, box_new, regs0, regs1, regs2, regs3, regs4, regs5, regs6, cells_agg, cells_int, cells_bool, cells_ptr, cells_slice, cells_string, cells_func, cells_nilFunc, cells_map, retK_ret, retK_normal, resL_tmp, resL_cell, resL_nil0, resL_nil1, resL_nil2, resL_nil3, resC_ptr, ex0, ex1, ex2, ex0p, ex1p, ex2p, HL.cond_true, HL.cond_false, thenK_normal, thenK_ret, thenK_exit, blockK_normal, blockK_ret, blockK_exit, scopeK_normal, scopeK_ret, scopeK_exit, wpH_pure, bin_add, bin_sub, bin_mul, bin_lss, bin_leq, bin_gtr, bin_geq, bin_quo, bin_rem, bin_quop, bin_remp, wrap_in, bin_addp, bin_subp, bin_mulp, bin_lssp, bin_leqp, bin_gtrp, bin_geqp, un_not, un_notp, un_neg, eq_int, ne_int, eq_intp, ne_intp, callV_fn, add_mk, upd_eq, upd_ne, cell_set_self, Nat.zero_add, Nat.add_zero, Option.some.injEq, exists_eq_left', List.getElem?_cons_succ, List.getElem?_cons_zero, true_and, and_true, bne_self_eq_false, beq_self_eq_true, Bool.not_true, Bool.not_false, Bool.and_true, Bool.and_self, Bool.and_false, Bool.true_and, List.length_cons, List.length_nil, ne_eq, not_false_eq_true, Nat.reduceAdd, Nat.reduceMul, if_true, if_false, oneCell_int, oneCell_bool, oneCell_ptr, oneCell_slice, oneCell_string, oneCell_func, oneCell_map, Int.toNat_natCast, List.set_cons_zero, List.set_cons_succ, Nat.lt_irrefl, Nat.zero_lt_succ, Nat.succ_lt_succ_iff, fa26_0, fa26_0p, fa26_1, fa26_1p, fa26_10, fa26_10p, fa26_11, fa26_11p, fa26_12, fa26_12p, fa26_13, fa26_13p, fa26_14, fa26_14p, fa26_2, fa26_2p, fa26_3, fa26_3p, fa26_4, fa26_4p, fa26_5, fa26_5p, fa26_6, fa26_6p, fa26_7, fa26_7p, fa26_8, fa26_8p, fa26_9, fa26_9p, fa28_0, fa28_0p, fa28_1, fa28_1p, fa30_0, fa30_0p, fa30_1, fa30_1p, fa46_0, fa46_0p, fa46_1, fa46_1p, fa46_2, fa46_2p, fa46_3, fa46_3p, fa46_4, fa46_4p, fa46_5, fa46_5p, fa46_6, fa46_6p, fa86_0, fa86_0p, fa86_1, fa86_1p, fa86_2, fa86_2p, fa95_0, fa95_0p, fa95_1, fa95_1p, ld3, ld3p, ld4, ld4p, ld22, ld22p, ld23, ld23p, ld24, ld24p, ld26, ld26p, ld28, ld28p, ld30, ld30p, ld31, ld31p, ld46, ld46p, ld47, ld47p, ld52, ld52p, ld55, ld55p, ld57, ld57p, ld95, ld95p, st3s, st4s, st22s, st23s, st24s, st26w, st28w, st30w, st46w, st47s, st55s, st95w, ix22, ix22p, ix23, ix23p, ix24, ix24p, ix47, ix47p, ix56, ix56p, ix57, ix57p, ix101, ix101p, ln22, ln22p, ln23, ln23p, ln24, ln24p, ln47, ln47p, ln56, ln56p, ln57, ln57p, al22, al26, al28, al30, al46, al47, al95, cf14, cf15, cf16, cf17, cf18, cf19, cf20, cf21, cf22, cf23, cf24, cf25, cf26, cf27, cf28, cf29, cf30, cf31, cf32, cf33, cf34, cf35, cf36, cf37, cf38, cf39, cf40, cf41, cf42, cf43, cf44, cf45, cf46, cf47, cf48, cf49, cf50, cf51, cf52, cf53, cf54, cf55, cf56, cf57, cf58, cf59, cf60, cf61, cf62, cf63, cf64, cf65, cf66, cf67, cf68, cf69, cf70, cf71, cf72, cf73, cf74, cf75, cf76, cf77, cf78, cf79, cf80, bd26_0_1_2_7_8_9_10_11_12_13_14, bd26_0_1_2_7_8_9_10_11_12_13_14p, bd28_0, bd28_0p, bd28_0_1, bd28_0_1p, bd30_, bd30_p, bd30_0_1, bd30_0_1p, bd30_0, bd30_0p, bd46_0_1_2_3_4, bd46_0_1_2_3_4p, bd46_0_3_4, bd46_0_3_4p, bd86_0_1_2, bd86_0_1_2p, bd87_0_1_2_3, bd87_0_1_2_3p, bd95_0_1, bd95_0_1p, bs22_2_0_1, bs47_1_0, bs22_1_0, bs57_6_0_1_2_3_4_5, bs24_1_0, bs22_4_0_1_2_3, bs56_11_0_1_2_3_4_5_6_7_8_9_10, bs57_11_0_1_2_3_4_5_6_7_8_9_10, eq4, eq4p, eq28, eq28p, eq30, eq30p, eq31n, eq31np, eq31s, eq31sp, eq46, eq46p, eq50n, eq50np, eq50s, eq50sp, eq67n, eq67np, eq67s, eq67sp, ne4, ne4p, ne28, ne28p, ne30, ne30p, ne31n, ne31np, ne31s, ne31sp, ne46, ne46p, al76]
    exact H _ _ ip u o s3 d3 (by simp -implicitDefEqProofs (disch := first | with_reducible exact Nat.ne_of_beq_eq_false rfl | omega) only [upd_ne, q7])
  have hlt' : i < kC C := by omega
  unfold S48_l4_k5
  refine loop_I (fun m r2 h3 => ∃ (n : Nat) (ip : Hp) (u : Value) (M : List Cell), m = wC C - n ∧ n ≤ wC C ∧ r2 2 = .pointer (some ⟨x, 0, none⟩) ∧ r2 5 = av ∧ r2 7 = u ∧ r2 8 = .int .i64 i ∧ r2 9 = .int .i64 n ∧ Slc cellC 28 ip u M ∧ M ++ (pickFrom (fun x => decide ((((x : Nat) : Int), ((i : Nat) : Int)) ∈ A)) (fun x => (((x : Nat) : Int), ((i : Nat) : Int))) n (wC C - n) ++ dirsL (fun y => pickFrom (fun x => decide ((((x : Nat) : Int), ((y : Nat) : Int)) ∈ A)) (fun x => (((x : Nat) : Int), ((y : Nat) : Int))) 0 (wC C)) (i + 1) (kC C - (i + 1))) = T ∧ HL.Sep [ip, h] h3 ∧ Dis G h3) ?_
    (m := wC C) ⟨0, ip, u, M, rfl, Nat.zero_le _, by simp -implicitDefEqProofs (disch := first | with_reducible exact Nat.ne_of_beq_eq_false rfl | omega) only [upd_ne, q2], by simp -implicitDefEqProofs (disch := first | with_reducible exact Nat.ne_of_beq_eq_false rfl | omega) only [upd_ne, q5], by simp -implicitDefEqProofs (disch := first | with_reducible exact Nat.ne_of_beq_eq_false rfl | omega) only [upd_ne, q7], by simp -implicitDefEqProofs (disch := first | with_reducible exact Nat.ne_of_beq_eq_false rfl | omega) only [upd_ne, q8], by simp -implicitDefEqProofs only [upd_eq] <;> rfl, o, by rw [← hM, show kC C - i = (kC C - (i + 1)) + 1 by omega]; rfl, s3, d3⟩
  clear q2 q5 q7 q8 o hM s3 d3 cx0 cx1
  rintro m r2 h3 ⟨n, ip, u, M, rfl, hn, q2, q5, q7, q8, q9, o, hM, s3, d3⟩ X2 HX2
  have cx0 := (hx h3 (s3.in 1 rfl) d3).1
  have hlenM : M.length ≤ 256 := by
    have : M.length ≤ T.length := by rw [← hM, List.length_append]; omega
    omega
  unfold S48_l4_l7
  simp -implicitDefEqProofs only [q2, q9, thenK_exit, blockK_exit, blockK_normal, thenK_normal, if_true, opH_sv, fa26_0, add_mk, Nat.add_zero, ld3, cx0, ew, Option.some.injEq, exists_eq_left', bin_lss]
  refine cond_dec (fun hlt => ?_) (fun hge => ?_)
  rotate_left
  · obtain rfl : n = wC C := by omega
    rw [Nat.sub_self, show ∀ (p : Nat → Bool) (mk : Nat → Cell), pickFrom p mk (wC C) 0 = [] from fun _ _ => rfl, List.nil_append] at hM
    try simp -implicitDefEqProofs only [opH_sv, opH_su, pureW_sv, opH_nil, pureW_nil, pick_t, pick_f, pick_tp, pick_fp, gd_tt, gd_ft, gd_tf, gd_ff, box_new, regs0, regs1, regs2, regs3, regs4, regs5, regs6, cells_agg, cells_int, cells_bool, cells_ptr, cells_slice, cells_string, cells_func, cells_nilFunc, cells_map, retK_ret, retK_normal, resL_tmp, resL_cell, resL_nil0, resL_nil1, resL_nil2, resL_nil3, resC_ptr, ex0, ex1, ex2, ex0p, ex1p, ex2p, HL.cond_true, HL.cond_false, thenK_normal, thenK_ret, thenK_exit, blockK_normal, blockK_ret, blockK_exit, scopeK_normal, scopeK_ret, scopeK_exit, wpH_pure, bin_add, bin_sub, bin_mul, bin_lss, bin_leq, bin_gtr, bin_geq, bin_quo, bin_rem, bin_quop, bin_remp, wrap_in, bin_addp, bin_subp, bin_mulp, bin_lssp, bin_leqp, bin_gtrp, bin_geqp, un_not, un_notp, un_neg, eq_int, ne_int, eq_intp, ne_intp, callV_fn, add_mk, upd_eq, upd_ne, cell_set_self, Nat.zero_add, Nat.add_zero, Option.some.injEq, exists_eq_left', List.getElem?_cons_succ, List.getElem?_cons_zero, true_and, and_true, bne_self_eq_false, beq_self_eq_true, Bool.not_true, Bool.not_false, Bool.and_true, Bool.and_self, Bool.and_false, Bool.true_and, List.length_cons, List.length_nil, ne_eq, not_false_eq_true, Nat.reduceAdd, Nat.reduceMul, if_true, if_false, oneCell_int, oneCell_bool, oneCell_ptr, oneCell_slice, oneCell_string, oneCell_func, oneCell_map, Int.toNat_natCast, List.set_cons_zero, List.set_cons_succ, Nat.lt_irrefl, Nat.zero_lt_succ, Nat.succ_lt_succ_iff, fa26_0, fa26_0p, fa26_1, fa26_1p, fa26_10, fa26_10p, fa26_11, fa26_11p, fa26_12, fa26_12p, fa26_13, fa26_13p, fa26_14, fa26_14p, fa26_2, fa26_2p, fa26_3, fa26_3p, fa26_4, fa26_4p, fa26_5, fa26_5p, fa26_6, fa26_6p, fa26_7, fa26_7p, fa26_8, fa26_8p, fa26_9, fa26_9p, fa28_0, fa28_0p, fa28_1, fa28_1p, fa30_0, fa30_0p, fa30_1, fa30_1p, fa46_0, fa46_0p, fa46_1, fa46_1p, fa46_2, fa46_2p, fa46_3, fa46_3p, fa46_4, fa46_4p, fa46_5, fa46_5p, fa46_6, fa46_6p, fa86_0, fa86_0p, fa86_1, fa86_1p, fa86_2, fa86_2p, fa95_0, fa95_0p, fa95_1, fa95_1p, ld3, ld3p, ld4, ld4p, ld22, ld22p, ld23, ld23p, ld24, ld24p, ld26, ld26p, ld28, ld28p, ld30, ld30p, ld31, ld31p, ld46, ld46p, ld47, ld47p, ld52, ld52p, ld55, ld55p, ld57, ld57p, ld95, ld95p, st3s, st4s, st22s, st23s, st24s, st26w, st28w, st30w, st46w, st47s, st55s, st95w, ix22, ix22p, ix23, ix23p, ix24, ix24p, ix47, ix47p, ix56, ix56p, ix57, ix57p, ix101, ix101p, ln22, ln22p, ln23, ln23p, ln24, ln24p, ln47, ln47p, ln56, ln56p, ln57, ln57p, al22, al26, al28, al30, al46, al47, al95, cf14, cf15, cf16, cf17, cf18, cf19, cf20, cf21, cf22, cf23, cf24, cf25, cf26, cf27, cf28, cf29, cf30, cf31, cf32, cf33, cf34, cf35, cf36, cf37, cf38, cf39, cf40, cf41, cf42, cf43, cf44, cf45, cf46, cf47, cf48, cf49, cf50, cf51, cf52, cf53, cf54, cf55, cf56, cf57, cf58, cf59, cf60, cf61, cf62, cf63, cf64, cf65, cf66, cf67, cf68, cf69, cf70, cf71, cf72, cf73, cf74, cf75, cf76, cf77, cf78, cf79, cf80, bd26_0_1_2_7_8_9_10_11_12_13_14, bd26_0_1_2_7_8_9_10_11_12_13_14p, bd28_0, bd28_0p, bd28_0_1, bd28_0_1p, bd30_, bd30_p, bd30_0_1, bd30_0_1p, bd30_0, bd30_0p, bd46_0_1_2_3_4, bd46_0_1_2_3_4p, bd46_0_3_4, bd46_0_3_4p, bd86_0_1_2, bd86_0_1_2p, bd87_0_1_2_3, bd87_0_1_2_3p, bd95_0_1, bd95_0_1p, bs22_2_0_1, bs47_1_0, bs22_1_0, bs57_6_0_1_2_3_4_5, bs24_1_0, bs22_4_0_1_2_3, bs56_11_0_1_2_3_4_5_6_7_8_9_10, bs57_11_0_1_2_3_4_5_6_7_8_9_10, eq4, eq4p, eq28, eq28p, eq30, eq30p, eq31n, eq31np, eq31s, eq31sp, eq46, eq46p, eq50n, eq50np, eq50s, eq50sp, eq67n, eq67np, eq67s, eq67sp, ne4, ne4p, ne28, ne28p, ne30, ne30p, ne31n, ne31np, ne31s, ne31sp, ne46, ne46p, al76]
    unfold S48_l4_k6
    try simp -implicitDefEqProofs (disch := first | with_reducible exact Nat.ne_of_beq_eq_false rfl | omega) only [upd_ne, q8, thenK_normal, opH_sv, bin_add, wrap_in]
    exact HX (kC C - (i + 1)) _ _ (by omega) ⟨i + 1, ip, u, M, rfl, hlt', by simp -implicitDefEqProofs (maxSteps := 2000000) (disch := first | with_reducible exact Nat.ne_of_beq_eq_false rfl | exact oneCell_int | exact oneCell_bool | omega | rfl | (simp; done) | fail) only [upd_ne, q2], by simp -implicitDefEqProofs (maxSteps := 2000000) (disch := first | with_reducible exact Nat.ne_of_beq_eq_false rfl | exact oneCell_int | exact oneCell_bool | omega | rfl | (simp; done) | fail) only [upd_ne, q5], by simp -implicitDefEqProofs (maxSteps := 2000000) (disch := first | with_reducible exact Nat.ne_of_beq_eq_false rfl | exact oneCell_int | exact oneCell_bool | omega | rfl | (simp; done) | fail) only [upd_ne, q7], by simp -implicitDefEqProofs (maxSteps := 2000000) (disch := first | with_reducible exact Nat.ne_of_beq_eq_false rfl | exact oneCell_int | exact oneCell_bool | omega | rfl | (simp; done) | fail) only [upd_eq] <;> rfl, o, hM, s3, d3⟩
  have hnw : n < wC C := by omega
  rw [show wC C - n = (wC C - (n + 1)) + 1 by omega, pick_succ] at hM
  unfold S48_l4_l7_k8
  try simp -implicitDefEqProofs (disch := first | with_reducible exact Nat.ne_of_beq_eq_false rfl | omega) only [upd_ne, q9, q8, q5, opH_sv, bd28_0_1, bs22_1_0, cf53]
  refine (among_spec (c := ((n : Int), (i : Int))) (ha.up (s3.in 1 rfl) d3) (by omega)).mono ?_
  rintro _ h3 ⟨rfl, rfl⟩
  have next : ∀ (r3 : Rg) (h5 ip : Hp) (u : Value) (M : List Cell), r3 2 = r2 2 → r3 5 = r2 5 → r3 7 = u → r3 8 = r2 8 → r3 9 = r2 9 → Slc cellC 28 ip u M → M ++ (pickFrom (fun x => decide ((((x : Nat) : Int), ((i : Nat) : Int)) ∈ A)) (fun x => (((x : Nat) : Int), ((i : Nat) : Int))) (n + 1) (wC C - (n + 1)) ++ dirsL (fun y => pickFrom (fun x => decide ((((x : Nat) : Int), ((y : Nat) : Int)) ∈ A)) (fun x => (((x : Nat) : Int), ((y : Nat) : Int))) 0 (wC C)) (i + 1) (kC C - (i + 1))) = T → HL.Sep [ip, h] h5 → Dis G h5 →
      ∀ KK, S48_l4_l7_k9 G (thenK X2 KK) r3 h5 := by
    intro r3 h5 ip u M v2 v5 v7 v8 v9 o5 hM5 s5 d5 KK
    unfold S48_l4_l7_k9
    have v9' := v9.trans q9
    simp -implicitDefEqProofs (disch := first | with_reducible exact Nat.ne_of_beq_eq_false rfl | omega) only [v9', thenK_normal, opH_sv, bin_add, wrap_in]
    exact HX2 (wC C - (n + 1)) _ _ (by omega) ⟨n + 1, ip, u, M, rfl, hnw, by simp -implicitDefEqProofs (disch := first | with_reducible exact Nat.ne_of_beq_eq_false rfl | omega) only [upd_ne, v2, q2], by simp -implicitDefEqProofs (disch := first | with_reducible exact Nat.ne_of_beq_eq_false rfl | omega) only [upd_ne, v5, q5], by simp -implicitDefEqProofs (disch := first | with_reducible exact Nat.ne_of_beq_eq_false rfl | omega) only [upd_ne, v7], by simp -implicitDefEqProofs (disch := first | with_reducible exact Nat.ne_of_beq_eq_false rfl | omega) only [upd_ne, v8, q8], by simp -implicitDefEqProofs (disch := first | with_reducible exact Nat.ne_of_beq_eq_false rfl | omega) only [upd_eq] <;> rfl, o5, hM5, s5, d5⟩
  by_cases hb : ((n : Int), (i : Int)) ∈ A
  · have hc : ((A.count ((n : Int), (i : Int)) : Nat) : Int) > 0 := by have := List.count_pos_iff.2 hb; omega
    rw [if_pos (decide_eq_true hb), List.cons_append] at hM
    try simp -implicitDefEqProofs (disch := first | with_reducible exact Nat.ne_of_beq_eq_false rfl | omega) only [q7, bin_gtr, decide_eq_true hc, HL.cond_true]
    intro b hbb gb
    have s5 := s3.past (o := cellO ((n : Int), (i : Int))) hbb
    have d5 := d3.set (o := cellO ((n : Int), (i : Int))) gb
    have hb5 : (h3.set b (cellO ((n : Int), (i : Int)))) b = some (cellO ((n : Int), (i : Int))) := set_self
    generalize Hp.set h3 b _ = h5 at s5 d5 hb5 ⊢
    refine append_piece cellC (by decide) un22 eocell (by decide) (by decide) (M := [((n : Int), (i : Int))]) s5 d5 o (Sees.row (c := cellC) (L := [((n : Int), (i : Int))]) hb5 rfl (Nat.le_refl _)) (by simp; omega) fun v6 a6 h6 o6 s6 d6 => ?_
    exact next _ _ a6 v6 (M ++ [((n : Int), (i : Int))]) (by simp -implicitDefEqProofs (disch := first | with_reducible exact Nat.ne_of_beq_eq_false rfl | omega) only [upd_ne]) (by simp -implicitDefEqProofs (disch := first | with_reducible exact Nat.ne_of_beq_eq_false rfl | omega) only [upd_ne]) (by simp -implicitDefEqProofs (disch := first | with_reducible exact Nat.ne_of_beq_eq_false rfl | omega) only [upd_eq]) (by simp -implicitDefEqProofs (disch := first | with_reducible exact Nat.ne_of_beq_eq_false rfl | omega) only [upd_ne]) (by simp -implicitDefEqProofs (disch := first | with_reducible exact Nat.ne_of_beq_eq_false rfl | omega) only [upd_ne]) o6 (by rw [List.append_assoc]; exact hM) s6 d6 _
  · have hc : ¬ (((A.count ((n : Int), (i : Int)) : Nat) : Int) > 0) := by have := List.count_eq_zero.2 hb; omega
    rw [if_neg (by simpa using hb)] at hM
    try simp -implicitDefEqProofs (disch := first | with_reducible exact Nat.ne_of_beq_eq_false rfl | omega) only [bin_gtr, decide_eq_false hc, HL.cond_false]
    exact next _ _ ip u M (by simp -implicitDefEqProofs (disch := first | with_reducible exact Nat.ne_of_beq_eq_false rfl | omega) only [upd_ne]) (by simp -implicitDefEqProofs (disch := first | with_reducible exact Nat.ne_of_beq_eq_false rfl | omega) only [upd_ne]) (by simp -implicitDefEqProofs (disch := first | with_reducible exact Nat.ne_of_beq_eq_false rfl | omega) only [upd_ne, q7]) (by simp -implicitDefEqProofs (disch := first | with_reducible exact Nat.ne_of_beq_eq_false rfl | omega) only [upd_ne]) (by simp -implicitDefEqProofs (disch := first | with_reducible exact Nat.ne_of_beq_eq_false rfl | omega) only [upd_ne]) o hM s3 d3 _

set_option maxHeartbeats 4000000 in
theorem rswept_spec {G h : Hp} {v : Value} {C : Conf} {m : Move} (hv : CV G h v C) (hL : C.bl.length ≤ 100000000000000) (ew : C.w = (wC C : Int)) (ek : C.h = (kC C : Int)) (w16 : wC C ≤ 16) (k16 : kC C ≤ 16) : HCalls Tryd.prog G 48 #[v, moveV m] h (fun u h' => ∃ ip, Slc cellC 28 ip u (rsweptM C m) ∧ HL.Sep [ip, h] h' ∧ Dis G h') := by
  have hv0 := hv
  obtain ⟨ab, cb, ap, cp, ar, cr, az, cs, rfl, ca⟩ := hv
  refine HCalls.assume fun d => enter48 (by simp) ?_
  unfold S48
  simp -implicitDefEqProofs only [regs0, regs1, retK_ret, resL_tmp, upd_eq, resL_nil1, opH_sv, cf46, box_new, cells_agg, ld46, add_mk, Nat.add_zero, Nat.zero_add, ld26, cell_set_self, List.getElem?_cons_zero, Option.some.injEq, List.getElem?_cons_succ, exists_eq_left']
  intro x hx gx
  generalize e1 : Hp.set h x _ = h1
  obtain ⟨l1, d1, b1⟩ := boxed e1 hx d gx
  intro y hy gy
  generalize e2 : Hp.set h1 y _ = h2
  obtain ⟨l2, d2, b2⟩ := boxed e2 hy d1 gy
  have cx : ∀ j, cellIn G h2 ⟨x, j, none⟩ = _ := fun j => cell_of (look_own (l2 _ _ b1))
  have cy : ∀ j, cellIn G h2 ⟨y, j, none⟩ = _ := fun j => cell_of (look_own b2)
  have l02 := l1.trans l2
  try simp -implicitDefEqProofs only [cx, List.getElem?_cons_zero, Option.some.injEq, List.getElem?_cons_succ, exists_eq_left']
  refine (rlegal_spec (m := m) (hv0.up l02 d2) hL).mono ?_
  rintro _ h2 ⟨rfl, rfl⟩
  cases hl : legalR C m with
  | false =>
    try simp -implicitDefEqProofs only [un_not, Bool.not_false, HL.cond_true]
    refine ⟨noHp, ?_, ((Sep.one (h := h2)).cut l02).none, d2⟩
    unfold rsweptM
    rw [hl]
    exact Slc.nil
  | true =>
  try simp -implicitDefEqProofs only [un_not, Bool.not_true, HL.cond_false]
  unfold S48_k1
  generalize hKK : retK Tryd.prog G _ _ = KK
  have fin : ∀ (hh : Hp) (av : Value) (A : List Cell) (r : Rg), h2.le hh → Dis G hh → Sees cellC G hh av A → A.length ≤ 100000 → A = rwayL m → r 2 = .pointer (some ⟨x, 0, none⟩) → r 5 = av → S48_k2 G KK r hh := by
    intro hh av A r l dd ha hA eA g2 g5
    refine rswept_end (hb := h) dd (fun h3 l3 d3 => ?_) ha hA ew ek w16 k16 g2 g5 fun r' h3 ip u o s3 d3 g7 => ?_
    · have b3 := l3 _ _ (l _ _ (l2 _ _ b1))
      exact ⟨cell_of (look_own b3), cell_of (look_own b3)⟩
    · unfold S48_k3
      rw [← hKK]
      try simp -implicitDefEqProofs only [g7, retK_ret, resL_tmp, upd_eq, resL_nil1]
      refine ⟨ip, ?_, ((s3.pick 1 rfl rfl).cut (l02.trans l)).pick 1 rfl rfl, d3⟩
      unfold rsweptM
      rw [hl, if_pos rfl, ← eA]
      exact o
  have hlg := hl
  unfold legalR at hlg
  rw [Bool.and_eq_true] at hlg
  by_cases hk1 : (m.k == 1) = true
  · have ek1 : m.k = 1 := eq_of_beq hk1
    rw [if_pos ek1, Bool.and_eq_true] at hlg
    have hn := withinB_iff.1 hlg.2.1
    have eA : rwayL m = (List.range (m.n.toNat + 1)).flatMap (fun (i : Nat) => cellsP (shiftR m.f m.d i)) := by unfold rwayL; rw [if_pos ek1]
    try simp -implicitDefEqProofs (maxSteps := 2000000) (disch := first | with_reducible exact Nat.ne_of_beq_eq_false rfl | exact oneCell_int | exact oneCell_bool | omega | rfl | (simp; done) | fail) only [upd_ne, upd_eq, cf68, opH_sv, fa46_3, add_mk, Nat.zero_add, ld30, Nat.add_zero, Nat.reduceAdd, cf22, fa46_0, ld3, cy, List.getElem?_cons_zero, Option.some.injEq, exists_eq_left', eq_int, hk1, List.getElem?_cons_succ, HL.cond_true]
    refine loop_I (fun mm r h3 => ∃ (i : Nat) (ip : Hp) (u : Value), mm = m.n.toNat + 1 - i ∧ i ≤ m.n.toNat + 1 ∧ r 2 = .pointer (some ⟨x, 0, none⟩) ∧ r 3 = .pointer (some ⟨y, 0, none⟩) ∧ r 5 = u ∧ r 6 = .int .i64 i ∧ Slc cellC 28 ip u ((List.range i).flatMap (fun (i : Nat) => cellsP (shiftR m.f m.d i))) ∧ HL.Sep [ip, h2] h3 ∧ Dis G h3) ?_
      (m := m.n.toNat + 1) ⟨0, noHp, .slice none 0 0, rfl, Nat.zero_le _, by simp -implicitDefEqProofs (maxSteps := 2000000) (disch := first | with_reducible exact Nat.ne_of_beq_eq_false rfl | exact oneCell_int | exact oneCell_bool | omega | rfl | (simp; done) | fail) only [upd_ne, upd_eq], by simp -implicitDefEqProofs (maxSteps := 2000000) (disch := first | with_reducible exact Nat.ne_of_beq_eq_false rfl | exact oneCell_int | exact oneCell_bool | omega | rfl | (simp; done) | fail) only [upd_ne, upd_eq], by simp -implicitDefEqProofs (maxSteps := 2000000) (disch := first | with_reducible exact Nat.ne_of_beq_eq_false rfl | exact oneCell_int | exact oneCell_bool | omega | rfl | (simp; done) | fail) only [upd_ne, upd_eq], by simp -implicitDefEqProofs (maxSteps := 2000000) (disch := first | with_reducible exact Nat.ne_of_beq_eq_false rfl | exact oneCell_int | exact oneCell_bool | omega | rfl | (simp; done) | fail) only [upd_eq] <;> rfl, Slc.nil, Sep.one.none, d2⟩
    rintro mm r h3 ⟨i, ip, u, rfl, hi, q2, q3, q5, q6, o, s3, d3⟩ X HX
    have l3 := s3.in 1 rfl
    have cy3 : ∀ j, cellIn G h3 ⟨y, j, none⟩ = _ := fun j => cell_of (look_own (l3 _ _ b2))
    have hlen := flat_two (D := fun (i : Nat) => cellsP (shiftR m.f m.d i)) (fun i => rfl) i
    unfold S48_l10
    simp -implicitDefEqProofs (disch := first | with_reducible exact Nat.ne_of_beq_eq_false rfl | omega) only [q3, q6, thenK_exit, blockK_exit, blockK_normal, thenK_normal, if_true, opH_sv, fa46_2, add_mk, Nat.zero_add, ld3, cy3, List.getElem?_cons_succ, List.getElem?_cons_zero, Option.some.injEq, exists_eq_left', bin_leq]
    refine cond_dec (fun hlt => ?_) (fun hge => ?_)
    · unfold S48_l10_k11
      try simp -implicitDefEqProofs (disch := first | with_reducible exact Nat.ne_of_beq_eq_false rfl | omega) only [upd_ne, q3, q6, opH_sv, cf22, cf59, fa46_1, add_mk, Nat.zero_add, ld3, fa46_3, ld30, Nat.add_zero, cy3, List.getElem?_cons_succ, List.getElem?_cons_zero, Option.some.injEq, Nat.reduceAdd, exists_eq_left']
      refine (rshift_spec (p := m.f) (dir := m.d) (n := (i : Int))).mono ?_
      rintro _ h3 ⟨rfl, rfl⟩
      try simp -implicitDefEqProofs (disch := first | with_reducible exact Nat.ne_of_beq_eq_false rfl | omega) only [opH_sv, opH_su, pureW_sv, opH_nil, pureW_nil, pick_t, pick_f, pick_tp, pick_fp, gd_tt, gd_ft, gd_tf, gd_ff, box_new, regs0, regs1, regs2, regs3, regs4, regs5, regs6, cells_agg, cells_int, cells_bool, cells_ptr, cells_slice, cells_string, cells_func, cells_nilFunc, cells_map, retK_ret, retK_normal, resL_tmp, resL_cell, resL_nil0, resL_nil1, resL_nil2, resL_nil3, resC_ptr, ex0, ex1, ex2, ex0p, ex1p, ex2p, HL.cond_true, HL.cond_false, thenK_normal, thenK_ret, thenK_exit, blockK_normal, blockK_ret, blockK_exit, scopeK_normal, scopeK_ret, scopeK_exit, wpH_pure, bin_add, bin_sub, bin_mul, bin_lss, bin_leq, bin_gtr, bin_geq, bin_quo, bin_rem, bin_quop, bin_remp, wrap_in, bin_addp, bin_subp, bin_mulp, bin_lssp, bin_leqp, bin_gtrp, bin_geqp, un_not, un_notp, un_neg, eq_int, ne_int, eq_intp, ne_intp, callV_fn, add_mk, upd_eq, upd_ne, cell_set_self, Nat.zero_add, Nat.add_zero, Option.some.injEq, exists_eq_left', List.getElem?_cons_succ, List.getElem?_cons_zero, true_and, and_true, bne_self_eq_false, beq_self_eq_true, Bool.not_true, Bool.not_false, Bool.and_true, Bool.and_self, Bool.and_false, Bool.true_and, List.length_cons, List.length_nil, ne_eq, not_false_eq_true, Nat.reduceAdd, Nat.reduceMul, if_true, if_false, oneCell_int, oneCell_bool, oneCell_ptr, oneCell_slice, oneCell_string, oneCell_func, oneCell_map, Int.toNat_natCast, List.set_cons_zero, List.set_cons_succ, Nat.lt_irrefl, Nat.zero_lt_succ, Nat.succ_lt_succ_iff, fa26_0, fa26_0p, fa26_1, fa26_1p, fa26_10, fa26_10p, fa26_11, fa26_11p, fa26_12, fa26_12p, fa26_13, fa26_13p, fa26_14, fa26_14p, fa26_2, fa26_2p, fa26_3, fa26_3p, fa26_4, fa26_4p, fa26_5, fa26_5p, fa26_6, fa26_6p, fa26_7, fa26_7p, fa26_8, fa26_8p, fa26_9, fa26_9p, fa28_0, fa28_0p, fa28_1, fa28_1p, fa30_0, fa30_0p, fa30_1, fa30_1p, fa46_0, fa46_0p, fa46_1, fa46_1p, fa46_2, fa46_2p, fa46_3, fa46_3p, fa46_4, fa46_4p, fa46_5, fa46_5p, fa46_6, fa46_6p, fa86_0, fa86_0p, fa86_1, fa86_1p, fa86_2, fa86_2p, fa95_0, fa95_0p, fa95_1, fa95_1p, ld3, ld3p, ld4, ld4p, ld22, ld22p, ld23, ld23p, ld24, ld24p, ld26, ld26p, ld28, ld28p, ld30, ld30p, ld31, ld31p, ld46, ld46p, ld47, ld47p, ld52, ld52p, ld55, ld55p, ld57, ld57p, ld95, ld95p, st3s, st4s, st22s, st23s, st24s, st26w, st28w, st30w, st46w, st47s, st55s, st95w, ix22, ix22p, ix23, ix23p, ix24, ix24p, ix47, ix47p, ix56, ix56p, ix57, ix57p, ix101, ix101p, ln22, ln22p, ln23, ln23p, ln24, ln24p, ln47, ln47p, ln56, ln56p, ln57, ln57p, al22, al26, al28, al30, al46, al47, al95, cf14, cf15, cf16, cf17, cf18, cf19, cf20, cf21, cf22, cf23, cf24, cf25, cf26, cf27, cf28, cf29, cf30, cf31, cf32, cf33, cf34, cf35, cf36, cf37, cf38, cf39, cf40, cf41, cf42, cf43, cf44, cf45, cf46, cf47, cf48, cf49, cf50, cf51, cf52, cf53, cf54, cf55, cf56, cf57, cf58, cf59, cf60, cf61, cf62, cf63, cf64, cf65, cf66, cf67, cf68, cf69, cf70, cf71, cf72, cf73, cf74, cf75, cf76, cf77, cf78, cf79, cf80, bd26_0_1_2_7_8_9_10_11_12_13_14, bd26_0_1_2_7_8_9_10_11_12_13_14p, bd28_0, bd28_0p, bd28_0_1, bd28_0_1p, bd30_, bd30_p, bd30_0_1, bd30_0_1p, bd30_0, bd30_0p, bd46_0_1_2_3_4, bd46_0_1_2_3_4p, bd46_0_3_4, bd46_0_3_4p, bd86_0_1_2, bd86_0_1_2p, bd87_0_1_2_3, bd87_0_1_2_3p, bd95_0_1, bd95_0_1p, bs22_2_0_1, bs47_1_0, bs22_1_0, bs57_6_0_1_2_3_4_5, bs24_1_0, bs22_4_0_1_2_3, bs56_11_0_1_2_3_4_5_6_7_8_9_10, bs57_11_0_1_2_3_4_5_6_7_8_9_10, eq4, eq4p, eq28, eq28p, eq30, eq30p, eq31n, eq31np, eq31s, eq31sp, eq46, eq46p, eq50n, eq50np, eq50s, eq50sp, eq67n, eq67np, eq67s, eq67sp, ne4, ne4p, ne28, ne28p, ne30, ne30p, ne31n, ne31np, ne31s, ne31sp, ne46, ne46p, al76]
      refine (rcells_spec (p := shiftR m.f m.d i)).mono ?_
      rintro _ _ ⟨b, rfl, hb, gb, rfl⟩
      have s4 := s3.past (o := .cells #[.int .i64 (shiftR m.f m.d i).x, .int .i64 (shiftR m.f m.d i).y, .int .i64 (east (shiftR m.f m.d i)).1, .int .i64 (east (shiftR m.f m.d i)).2] 28 (0, 0)) hb
      have d4 := d3.set (o := .cells #[.int .i64 (shiftR m.f m.d i).x, .int .i64 (shiftR m.f m.d i).y, .int .i64 (east (shiftR m.f m.d i)).1, .int .i64 (east (shiftR m.f m.d i)).2] 28 (0, 0)) gb
      have b4 : (h3.set b (.cells #[.int .i64 (shiftR m.f m.d i).x, .int .i64 (shiftR m.f m.d i).y, .int .i64 (east (shiftR m.f m.d i)).1, .int .i64 (east (shiftR m.f m.d i)).2] 28 (0, 0))) b = _ := set_self
      generalize Hp.set h3 b _ = h4 at s4 d4 b4 ⊢
      try simp -implicitDefEqProofs (disch := first | with_reducible exact Nat.ne_of_beq_eq_false rfl | omega) only [q5]
      refine append_piece cellC (by decide) un22 eocell (by decide) (by decide) (M := cellsP (shiftR m.f m.d i)) s4 d4 o (Sees.row (c := cellC) (L := cellsP (shiftR m.f m.d i)) b4 rfl (Nat.le_refl _)) (by rw [hlen, show (cellsP (shiftR m.f m.d i)).length = 2 from rfl]; omega) fun v5 a5 h5 o5 s5 d5 => ?_
      unfold S48_l10_k12
      try simp -implicitDefEqProofs (disch := first | with_reducible exact Nat.ne_of_beq_eq_false rfl | omega) only [upd_ne, q6, thenK_normal, opH_sv, bin_add, wrap_in]
      exact HX (m.n.toNat + 1 - (i + 1)) _ _ (by omega) ⟨i + 1, a5, v5, rfl, by omega, by simp -implicitDefEqProofs (disch := first | with_reducible exact Nat.ne_of_beq_eq_false rfl | omega) only [upd_ne, q2], by simp -implicitDefEqProofs (disch := first | with_reducible exact Nat.ne_of_beq_eq_false rfl | omega) only [upd_ne, q3], by simp -implicitDefEqProofs (disch := first | with_reducible exact Nat.ne_of_beq_eq_false rfl | omega) only [upd_ne, upd_eq], by simp -implicitDefEqProofs (maxSteps := 2000000) (disch := first | with_reducible exact Nat.ne_of_beq_eq_false rfl | exact oneCell_int | exact oneCell_bool | omega | rfl | (simp; done) | fail) only [upd_eq] <;> rfl, by rw [List.range_succ, List.flatMap_append]; simpa using o5, s5, d5⟩
    · obtain rfl : i = m.n.toNat + 1 := by omega
      try simp -implicitDefEqProofs (disch := first | with_reducible exact Nat.ne_of_beq_eq_false rfl | omega) only [opH_sv, opH_su, pureW_sv, opH_nil, pureW_nil, pick_t, pick_f, pick_tp, pick_fp, gd_tt, gd_ft, gd_tf, gd_ff, box_new, regs0, regs1, regs2, regs3, regs4, regs5, regs6, cells_agg, cells_int, cells_bool, cells_ptr, cells_slice, cells_string, cells_func, cells_nilFunc, cells_map, retK_ret, retK_normal, resL_tmp, resL_cell, resL_nil0, resL_nil1, resL_nil2, resL_nil3, resC_ptr, ex0, ex1, ex2, ex0p, ex1p, ex2p, HL.cond_true, HL.cond_false, thenK_normal, thenK_ret, thenK_exit, blockK_normal, blockK_ret, blockK_exit, scopeK_normal, scopeK_ret, scopeK_exit, wpH_pure, bin_add, bin_sub, bin_mul, bin_lss, bin_leq, bin_gtr, bin_geq, bin_quo, bin_rem, bin_quop, bin_remp, wrap_in, bin_addp, bin_subp, bin_mulp, bin_lssp, bin_leqp, bin_gtrp, bin_geqp, un_not, un_notp, un_neg, eq_int, ne_int, eq_intp, ne_intp, callV_fn, add_mk, upd_eq, upd_ne, cell_set_self, Nat.zero_add, Nat.add_zero, Option.some.injEq, exists_eq_left', List.getElem?_cons_succ, List.getElem?_cons_zero, true_and, and_true, bne_self_eq_false, beq_self_eq_true, Bool.not_true, Bool.not_false, Bool.and_true, Bool.and_self, Bool.and_false, Bool.true_and, List.length_cons, List.length_nil, ne_eq, not_false_eq_true, Nat.reduceAdd, Nat.reduceMul, if_true, if_false, oneCell_int, oneCell_bool, oneCell_ptr, oneCell_slice, oneCell_string, oneCell_func, oneCell_map, Int.toNat_natCast, List.set_cons_zero, List.set_cons_succ, Nat.lt_irrefl, Nat.zero_lt_succ, Nat.succ_lt_succ_iff, fa26_0, fa26_0p, fa26_1, fa26_1p, fa26_10, fa26_10p, fa26_11, fa26_11p, fa26_12, fa26_12p, fa26_13, fa26_13p, fa26_14, fa26_14p, fa26_2, fa26_2p, fa26_3, fa26_3p, fa26_4, fa26_4p, fa26_5, fa26_5p, fa26_6, fa26_6p, fa26_7, fa26_7p, fa26_8, fa26_8p, fa26_9, fa26_9p, fa28_0, fa28_0p, fa28_1, fa28_1p, fa30_0, fa30_0p, fa30_1, fa30_1p, fa46_0, fa46_0p, fa46_1, fa46_1p, fa46_2, fa46_2p, fa46_3, fa46_3p, fa46_4, fa46_4p, fa46_5, fa46_5p, fa46_6, fa46_6p, fa86_0, fa86_0p, fa86_1, fa86_1p, fa86_2, fa86_2p, fa95_0, fa95_0p, fa95_1, fa95_1p, ld3, ld3p, ld4, ld4p, ld22, ld22p, ld23, ld23p, ld24, ld24p, ld26, ld26p, ld28, ld28p, ld30, ld30p, ld31, ld31p, ld46, ld46p, ld47, ld47p, ld52, ld52p, ld55, ld55p, ld57, ld57p, ld95, ld95p, st3s, st4s, st22s, st23s, st24s, st26w, st28w, st30w, st46w, st47s, st55s, st95w, ix22, ix22p, ix23, ix23p, ix24, ix24p, ix47, ix47p, ix56, ix56p, ix57, ix57p, ix101, ix101p, ln22, ln22p, ln23, ln23p, ln24, ln24p, ln47, ln47p, ln56, ln56p, ln57, ln57p, al22, al26, al28, al30, al46, al47, al95, cf14, cf15, cf16, cf17, cf18, cf19, cf20, cf21, cf22, cf23, cf24, cf25, cf26, cf27, cf28, cf29, cf30, cf31, cf32, cf33, cf34, cf35, cf36, cf37, cf38, cf39, cf40, cf41, cf42, cf43, cf44, cf45, cf46, cf47, cf48, cf49, cf50, cf51, cf52, cf53, cf54, cf55, cf56, cf57, cf58, cf59, cf60, cf61, cf62, cf63, cf64, cf65, cf66, cf67, cf68, cf69, cf70, cf71, cf72, cf73, cf74, cf75, cf76, cf77, cf78, cf79, cf80, bd26_0_1_2_7_8_9_10_11_12_13_14, bd26_0_1_2_7_8_9_10_11_12_13_14p, bd28_0, bd28_0p, bd28_0_1, bd28_0_1p, bd30_, bd30_p, bd30_0_1, bd30_0_1p, bd30_0, bd30_0p, bd46_0_1_2_3_4, bd46_0_1_2_3_4p, bd46_0_3_4, bd46_0_3_4p, bd86_0_1_2, bd86_0_1_2p, bd87_0_1_2_3, bd87_0_1_2_3p, bd95_0_1, bd95_0_1p, bs22_2_0_1, bs47_1_0, bs22_1_0, bs57_6_0_1_2_3_4_5, bs24_1_0, bs22_4_0_1_2_3, bs56_11_0_1_2_3_4_5_6_7_8_9_10, bs57_11_0_1_2_3_4_5_6_7_8_9_10, eq4, eq4p, eq28, eq28p, eq30, eq30p, eq31n, eq31np, eq31s, eq31sp, eq46, eq46p, eq50n, eq50np, eq50s, eq50sp, eq67n, eq67np, eq67s, eq67sp, ne4, ne4p, ne28, ne28p, ne30, ne30p, ne31n, ne31np, ne31s, ne31sp, ne46, ne46p, al76]
      exact fin _ u _ _ l3 d3 (o.sees (by decide) (s3.in 0 rfl)) (by rw [hlen]; omega) eA.symm (by simp -implicitDefEqProofs (disch := first | with_reducible exact Nat.ne_of_beq_eq_false rfl | omega) only [upd_ne, q2]) (by simp -implicitDefEqProofs (disch := first | with_reducible exact Nat.ne_of_beq_eq_false rfl | omega) only [upd_ne, q5])
  have hk1' : (m.k == 1) = false := by simpa using hk1
  have nk1 : ¬ m.k = 1 := fun e => hk1 (by rw [e]; rfl)
  by_cases hk2 : (m.k == 2) = true
  · have ek2 : m.k = 2 := eq_of_beq hk2
    try simp -implicitDefEqProofs (disch := first | with_reducible exact Nat.ne_of_beq_eq_false rfl | omega) only [upd_ne, upd_eq, cf68, opH_sv, fa46_3, add_mk, Nat.zero_add, ld30, Nat.add_zero, Nat.reduceAdd, cf22, fa46_0, ld3, cy, List.getElem?_cons_zero, Option.some.injEq, exists_eq_left', eq_int, hk2, HL.cond_true, hk1', List.getElem?_cons_succ, HL.cond_false]
    refine (rsquare_spec (p := m.f)).mono ?_
    rintro _ h3 ⟨ip, sl, rfl, o, s3, d3⟩
    try simp -implicitDefEqProofs (disch := first | with_reducible exact Nat.ne_of_beq_eq_false rfl | omega) only [opH_sv, opH_su, pureW_sv, opH_nil, pureW_nil, pick_t, pick_f, pick_tp, pick_fp, gd_tt, gd_ft, gd_tf, gd_ff, box_new, regs0, regs1, regs2, regs3, regs4, regs5, regs6, cells_agg, cells_int, cells_bool, cells_ptr, cells_slice, cells_string, cells_func, cells_nilFunc, cells_map, retK_ret, retK_normal, resL_tmp, resL_cell, resL_nil0, resL_nil1, resL_nil2, resL_nil3, resC_ptr, ex0, ex1, ex2, ex0p, ex1p, ex2p, HL.cond_true, HL.cond_false, thenK_normal, thenK_ret, thenK_exit, blockK_normal, blockK_ret, blockK_exit, scopeK_normal, scopeK_ret, scopeK_exit, wpH_pure, bin_add, bin_sub, bin_mul, bin_lss, bin_leq, bin_gtr, bin_geq, bin_quo, bin_rem, bin_quop, bin_remp, wrap_in, bin_addp, bin_subp, bin_mulp, bin_lssp, bin_leqp, bin_gtrp, bin_geqp, un_not, un_notp, un_neg, eq_int, ne_int, eq_intp, ne_intp, callV_fn, add_mk, upd_eq, upd_ne, cell_set_self, Nat.zero_add, Nat.add_zero, Option.some.injEq, exists_eq_left', List.getElem?_cons_succ, List.getElem?_cons_zero, true_and, and_true, bne_self_eq_false, beq_self_eq_true, Bool.not_true, Bool.not_false, Bool.and_true, Bool.and_self, Bool.and_false, Bool.true_and, List.length_cons, List.length_nil, ne_eq, not_false_eq_true, Nat.reduceAdd, Nat.reduceMul, if_true, if_false, oneCell_int, oneCell_bool, oneCell_ptr, oneCell_slice, oneCell_string, oneCell_func, oneCell_map, Int.toNat_natCast, List.set_cons_zero, List.set_cons_succ, Nat.lt_irrefl, Nat.zero_lt_succ, Nat.succ_lt_succ_iff, fa26_0, fa26_0p, fa26_1, fa26_1p, fa26_10, fa26_10p, fa26_11, fa26_11p, fa26_12, fa26_12p, fa26_13, fa26_13p, fa26_14, fa26_14p, fa26_2, fa26_2p, fa26_3, fa26_3p, fa26_4, fa26_4p, fa26_5, fa26_5p, fa26_6, fa26_6p, fa26_7, fa26_7p, fa26_8, fa26_8p, fa26_9, fa26_9p, fa28_0, fa28_0p, fa28_1, fa28_1p, fa30_0, fa30_0p, fa30_1, fa30_1p, fa46_0, fa46_0p, fa46_1, fa46_1p, fa46_2, fa46_2p, fa46_3, fa46_3p, fa46_4, fa46_4p, fa46_5, fa46_5p, fa46_6, fa46_6p, fa86_0, fa86_0p, fa86_1, fa86_1p, fa86_2, fa86_2p, fa95_0, fa95_0p, fa95_1, fa95_1p, ld3, ld3p, ld4, ld4p, ld22, ld22p, ld23, ld23p, ld24, ld24p, ld26, ld26p, ld28, ld28p, ld30, ld30p, ld31, ld31p, ld46, ld46p, ld47, ld47p, ld52, ld52p, ld55, ld55p, ld57, ld57p, ld95, ld95p, st3s, st4s, st22s, st23s, st24s, st26w, st28w, st30w, st46w, st47s, st55s, st95w, ix22, ix22p, ix23, ix23p, ix24, ix24p, ix47, ix47p, ix56, ix56p, ix57, ix57p, ix101, ix101p, ln22, ln22p, ln23, ln23p, ln24, ln24p, ln47, ln47p, ln56, ln56p, ln57, ln57p, al22, al26, al28, al30, al46, al47, al95, cf14, cf15, cf16, cf17, cf18, cf19, cf20, cf21, cf22, cf23, cf24, cf25, cf26, cf27, cf28, cf29, cf30, cf31, cf32, cf33, cf34, cf35, cf36, cf37, cf38, cf39, cf40, cf41, cf42, cf43, cf44, cf45, cf46, cf47, cf48, cf49, cf50, cf51, cf52, cf53, cf54, cf55, cf56, cf57, cf58, cf59, cf60, cf61, cf62, cf63, cf64, cf65, cf66, cf67, cf68, cf69, cf70, cf71, cf72, cf73, cf74, cf75, cf76, cf77, cf78, cf79, cf80, bd26_0_1_2_7_8_9_10_11_12_13_14, bd26_0_1_2_7_8_9_10_11_12_13_14p, bd28_0, bd28_0p, bd28_0_1, bd28_0_1p, bd30_, bd30_p, bd30_0_1, bd30_0_1p, bd30_0, bd30_0p, bd46_0_1_2_3_4, bd46_0_1_2_3_4p, bd46_0_3_4, bd46_0_3_4p, bd86_0_1_2, bd86_0_1_2p, bd87_0_1_2_3, bd87_0_1_2_3p, bd95_0_1, bd95_0_1p, bs22_2_0_1, bs47_1_0, bs22_1_0, bs57_6_0_1_2_3_4_5, bs24_1_0, bs22_4_0_1_2_3, bs56_11_0_1_2_3_4_5_6_7_8_9_10, bs57_11_0_1_2_3_4_5_6_7_8_9_10, eq4, eq4p, eq28, eq28p, eq30, eq30p, eq31n, eq31np, eq31s, eq31sp, eq46, eq46p, eq50n, eq50np, eq50s, eq50sp, eq67n, eq67np, eq67s, eq67sp, ne4, ne4p, ne28, ne28p, ne30, ne30p, ne31n, ne31np, ne31s, ne31sp, ne46, ne46p, al76]
    exact fin _ _ (squareL (m.f.x, m.f.y)) _ (s3.in 1 rfl) d3 (o.sees (by decide) (s3.in 0 rfl)) (by simp [squareL]) (by unfold rwayL; rw [if_neg nk1, if_pos ek2]) (by simp -implicitDefEqProofs (disch := first | with_reducible exact Nat.ne_of_beq_eq_false rfl | omega) only [upd_ne, upd_eq]) (by simp -implicitDefEqProofs only [upd_eq])
  have hk2' : (m.k == 2) = false := by simpa using hk2
  have nk2 : ¬ m.k = 2 := fun e => hk2 (by rw [e]; rfl)
  try simp -implicitDefEqProofs (disch := first | with_reducible exact Nat.ne_of_beq_eq_false rfl | omega) only [upd_ne, upd_eq, cf68, opH_sv, fa46_3, add_mk, Nat.zero_add, ld30, Nat.add_zero, Nat.reduceAdd, cf22, fa46_0, ld3, cy, List.getElem?_cons_zero, Option.some.injEq, exists_eq_left', eq_int, hk2', HL.cond_false, hk1', List.getElem?_cons_succ]
  refine (rcells_spec (p := m.f)).mono ?_
  rintro _ _ ⟨b, rfl, hb, gb, rfl⟩
  try simp -implicitDefEqProofs (disch := first | with_reducible exact Nat.ne_of_beq_eq_false rfl | omega) only [opH_sv, opH_su, pureW_sv, opH_nil, pureW_nil, pick_t, pick_f, pick_tp, pick_fp, gd_tt, gd_ft, gd_tf, gd_ff, box_new, regs0, regs1, regs2, regs3, regs4, regs5, regs6, cells_agg, cells_int, cells_bool, cells_ptr, cells_slice, cells_string, cells_func, cells_nilFunc, cells_map, retK_ret, retK_normal, resL_tmp, resL_cell, resL_nil0, resL_nil1, resL_nil2, resL_nil3, resC_ptr, ex0, ex1, ex2, ex0p, ex1p, ex2p, HL.cond_true, HL.cond_false, thenK_normal, thenK_ret, thenK_exit, blockK_normal, blockK_ret, blockK_exit, scopeK_normal, scopeK_ret, scopeK_exit, wpH_pure, bin_add, bin_sub, bin_mul, bin_lss, bin_leq, bin_gtr, bin_geq, bin_quo, bin_rem, bin_quop, bin_remp, wrap_in, bin_addp, bin_subp, bin_mulp, bin_lssp, bin_leqp, bin_gtrp, bin_geqp, un_not, un_notp, un_neg, eq_int, ne_int, eq_intp, ne_intp, callV_fn, add_mk, upd_eq, upd_ne, cell_set_self, Nat.zero_add, Nat.add_zero, Option.some.injEq, exists_eq_left', List.getElem?_cons_succ, List.getElem?_cons_zero, true_and, and_true, bne_self_eq_false, beq_self_eq_true, Bool.not_true, Bool.not_false, Bool.and_true, Bool.and_self, Bool.and_false, Bool.true_and, List.length_cons, List.length_nil, ne_eq, not_false_eq_true, Nat.reduceAdd, Nat.reduceMul, if_true, if_false, oneCell_int, oneCell_bool, oneCell_ptr, oneCell_slice, oneCell_string, oneCell_func, oneCell_map, Int.toNat_natCast, List.set_cons_zero, List.set_cons_succ, Nat.lt_irrefl, Nat.zero_lt_succ, Nat.succ_lt_succ_iff, fa26_0, fa26_0p, fa26_1, fa26_1p, fa26_10, fa26_10p, fa26_11, fa26_11p, fa26_12, fa26_12p, fa26_13, fa26_13p, fa26_14, fa26_14p, fa26_2, fa26_2p, fa26_3, fa26_3p, fa26_4, fa26_4p, fa26_5, fa26_5p, fa26_6, fa26_6p, fa26_7, fa26_7p, fa26_8, fa26_8p, fa26_9, fa26_9p, fa28_0, fa28_0p, fa28_1, fa28_1p, fa30_0, fa30_0p, fa30_1, fa30_1p, fa46_0, fa46_0p, fa46_1, fa46_1p, fa46_2, fa46_2p, fa46_3, fa46_3p, fa46_4, fa46_4p, fa46_5, fa46_5p, fa46_6, fa46_6p, fa86_0, fa86_0p, fa86_1, fa86_1p, fa86_2, fa86_2p, fa95_0, fa95_0p, fa95_1, fa95_1p, ld3, ld3p, ld4, ld4p, ld22, ld22p, ld23, ld23p, ld24, ld24p, ld26, ld26p, ld28, ld28p, ld30, ld30p, ld31, ld31p, ld46, ld46p, ld47, ld47p, ld52, ld52p, ld55, ld55p, ld57, ld57p, ld95, ld95p, st3s, st4s, st22s, st23s, st24s, st26w, st28w, st30w, st46w, st47s, st55s, st95w, ix22, ix22p, ix23, ix23p, ix24, ix24p, ix47, ix47p, ix56, ix56p, ix57, ix57p, ix101, ix101p, ln22, ln22p, ln23, ln23p, ln24, ln24p, ln47, ln47p, ln56, ln56p, ln57, ln57p, al22, al26, al28, al30, al46, al47, al95, cf14, cf15, cf16, cf17, cf18, cf19, cf20, cf21, cf22, cf23, cf24, cf25, cf26, cf27, cf28, cf29, cf30, cf31, cf32, cf33, cf34, cf35, cf36, cf37, cf38, cf39, cf40, cf41, cf42, cf43, cf44, cf45, cf46, cf47, cf48, cf49, cf50, cf51, cf52, cf53, cf54, cf55, cf56, cf57, cf58, cf59, cf60, cf61, cf62, cf63, cf64, cf65, cf66, cf67, cf68, cf69, cf70, cf71, cf72, cf73, cf74, cf75, cf76, cf77, cf78, cf79, cf80, bd26_0_1_2_7_8_9_10_11_12_13_14, bd26_0_1_2_7_8_9_10_11_12_13_14p, bd28_0, bd28_0p, bd28_0_1, bd28_0_1p, bd30_, bd30_p, bd30_0_1, bd30_0_1p, bd30_0, bd30_0p, bd46_0_1_2_3_4, bd46_0_1_2_3_4p, bd46_0_3_4, bd46_0_3_4p, bd86_0_1_2, bd86_0_1_2p, bd87_0_1_2_3, bd87_0_1_2_3p, bd95_0_1, bd95_0_1p, bs22_2_0_1, bs47_1_0, bs22_1_0, bs57_6_0_1_2_3_4_5, bs24_1_0, bs22_4_0_1_2_3, bs56_11_0_1_2_3_4_5_6_7_8_9_10, bs57_11_0_1_2_3_4_5_6_7_8_9_10, eq4, eq4p, eq28, eq28p, eq30, eq30p, eq31n, eq31np, eq31s, eq31sp, eq46, eq46p, eq50n, eq50np, eq50s, eq50sp, eq67n, eq67np, eq67s, eq67sp, ne4, ne4p, ne28, ne28p, ne30, ne30p, ne31n, ne31np, ne31s, ne31sp, ne46, ne46p, al76]
  exact fin _ _ (cellsP m.f) _ (le_set hb) (d2.set gb) (Sees.row (c := cellC) (L := cellsP m.f) set_self rfl (Nat.le_refl _)) (by simp [cellsP]) (by unfold rwayL; rw [if_neg nk1, if_neg nk2]) (by simp -implicitDefEqProofs (disch := first | with_reducible exact Nat.ne_of_beq_eq_false rfl | omega) only [upd_ne, upd_eq]) (by simp -implicitDefEqProofs only [upd_eq] <;> rfl)

theorem rway_eq {C : Conf} {m : Move} (hp : PB m.f) (hl : legalR C m = true) : rwayL m = wayL m := by
  unfold rwayL wayL
  by_cases h1 : m.k = 1
  · rw [if_pos h1, if_pos h1]
    unfold legalR at hl
    rw [Bool.and_eq_true, if_pos h1] at hl
    simp only [Bool.and_eq_true] at hl
    have hd := withinB_iff.1 hl.2.2.1
    congr 1
    funext i
    rw [shiftR_eq hp hd]
  · rw [if_neg h1, if_neg h1]
theorem swept_eq {C : Conf} (mk : MadeOk C) {m : Move} (hp : PB m.f) : sweptM (wC C) (kC C) (f3C C) m = rsweptM C m := by
  unfold sweptM rsweptM
  rw [legal_eq mk hp]
  cases hl : legalR C m with
  | false => rfl
  | true => rw [if_pos rfl, if_pos rfl, rway_eq hp hl]

end Go.Proofs.YtnpdploihlgcgaaDoor
end

section
/- The document's example is awake. -/
set_option linter.unusedSimpArgs false
set_option linter.unusedVariables false
set_option maxRecDepth 100000
namespace Go.Proofs.YtnpdploihlgcgaaDoor
open Go Go.HL

def C0 : Conf := ⟨2, 2, 1, [], [], [], [], 1, 1, 1, 1, 1, 1, 1, 1, false⟩

theorem conf_spec {G h : Hp} : HCalls Tryd.prog G 29 #[] h (fun u h' => u = confV C0 none 0 none 0 none 0 none 0 ∧ h' = h) := by
  refine HCalls.assume fun d => quietly (enter29 (by simp) ?_)
  unfold S29
  simp -implicitDefEqProofs (maxSteps := 2000000) (disch := first | with_reducible exact Nat.ne_of_beq_eq_false rfl | exact oneCell_int | exact oneCell_bool | omega | rfl | (simp; done) | fail) only [retK_ret, resL_cell, upd_ne, upd_eq, resL_nil1, opH_su, opH_sv, bd26_0_1_2_7_8_9_10_11_12_13_14, al26, resC_ptr, ld26, add_mk, Nat.add_zero, Nat.zero_add, st26w, cell_set_self, List.getElem?_cons_zero, Option.some.injEq, List.getElem?_cons_succ, exists_eq_left']
  intro x hx gx
  try simp -implicitDefEqProofs (maxSteps := 2000000) (disch := first | with_reducible exact Nat.ne_of_beq_eq_false rfl | exact oneCell_int | exact oneCell_bool | omega | rfl | (simp; done) | fail) only [opH_sv, opH_su, pureW_sv, opH_nil, pureW_nil, pick_t, pick_f, pick_tp, pick_fp, gd_tt, gd_ft, gd_tf, gd_ff, box_new, regs0, regs1, regs2, regs3, regs4, regs5, regs6, cells_agg, cells_int, cells_bool, cells_ptr, cells_slice, cells_string, cells_func, cells_nilFunc, cells_map, retK_ret, retK_normal, resL_tmp, resL_cell, resL_nil0, resL_nil1, resL_nil2, resL_nil3, resC_ptr, ex0, ex1, ex2, ex0p, ex1p, ex2p, HL.cond_true, HL.cond_false, thenK_normal, thenK_ret, thenK_exit, blockK_normal, blockK_ret, blockK_exit, scopeK_normal, scopeK_ret, scopeK_exit, wpH_pure, bin_add, bin_sub, bin_mul, bin_lss, bin_leq, bin_gtr, bin_geq, bin_quo, bin_rem, bin_quop, bin_remp, wrap_in, bin_addp, bin_subp, bin_mulp, bin_lssp, bin_leqp, bin_gtrp, bin_geqp, un_not, un_notp, un_neg, eq_int, ne_int, eq_intp, ne_intp, callV_fn, add_mk, upd_eq, upd_ne, cell_set_self, Nat.zero_add, Nat.add_zero, Option.some.injEq, exists_eq_left', List.getElem?_cons_succ, List.getElem?_cons_zero, true_and, and_true, bne_self_eq_false, beq_self_eq_true, Bool.not_true, Bool.not_false, Bool.and_true, Bool.and_self, Bool.and_false, Bool.true_and, List.length_cons, List.length_nil, ne_eq, not_false_eq_true, Nat.reduceAdd, Nat.reduceMul, if_true, if_false, oneCell_int, oneCell_bool, oneCell_ptr, oneCell_slice, oneCell_string, oneCell_func, oneCell_map, Int.toNat_natCast, List.set_cons_zero, List.set_cons_succ, Nat.lt_irrefl, Nat.zero_lt_succ, Nat.succ_lt_succ_iff, fa26_0, fa26_0p, fa26_1, fa26_1p, fa26_10, fa26_10p, fa26_11, fa26_11p, fa26_12, fa26_12p, fa26_13, fa26_13p, fa26_14, fa26_14p, fa26_2, fa26_2p, fa26_3, fa26_3p, fa26_4, fa26_4p, fa26_5, fa26_5p, fa26_6, fa26_6p, fa26_7, fa26_7p, fa26_8, fa26_8p, fa26_9, fa26_9p, fa28_0, fa28_0p, fa28_1, fa28_1p, fa30_0, fa30_0p, fa30_1, fa30_1p, fa46_0, fa46_0p, fa46_1, fa46_1p, fa46_2, fa46_2p, fa46_3, fa46_3p, fa46_4, fa46_4p, fa46_5, fa46_5p, fa46_6, fa46_6p, fa86_0, fa86_0p, fa86_1, fa86_1p, fa86_2, fa86_2p, fa95_0, fa95_0p, fa95_1, fa95_1p, ld3, ld3p, ld4, ld4p, ld22, ld22p, ld23, ld23p, ld24, ld24p, ld26, ld26p, ld28, ld28p, ld30, ld30p, ld31, ld31p, ld46, ld46p, ld47, ld47p, ld52, ld52p, ld55, ld55p, ld57, ld57p, ld95, ld95p, st3s, st4s, st22s, st23s, st24s, st26w, st28w, st30w, st46w, st47s, st55s, st95w, ix22, ix22p, ix23, ix23p, ix24, ix24p, ix47, ix47p, ix56, ix56p, ix57, ix57p, ix101, ix101p, ln22, ln22p, ln23, ln23p, ln24, ln24p, ln47, ln47p, ln56, ln56p, ln57, ln57p, al22, al26, al28, al30, al46, al47, al95, cf14, cf15, cf16, cf17, cf18, cf19, cf20, cf21, cf22, cf23, cf24, cf25, cf26, cf27, cf28, cf29, cf30, cf31, cf32, cf33, cf34, cf35, cf36, cf37, cf38, cf39, cf40, cf41, cf42, cf43, cf44, cf45, cf46, cf47, cf48, cf49, cf50, cf51, cf52, cf53, cf54, cf55, cf56, cf57, cf58, cf59, cf60, cf61, cf62, cf63, cf64, cf65, cf66, cf67, cf68, cf69, cf70, cf71, cf72, cf73, cf74, cf75, cf76, cf77, cf78, cf79, cf80, bd26_0_1_2_7_8_9_10_11_12_13_14, bd26_0_1_2_7_8_9_10_11_12_13_14p, bd28_0, bd28_0p, bd28_0_1, bd28_0_1p, bd30_, bd30_p, bd30_0_1, bd30_0_1p, bd30_0, bd30_0p, bd46_0_1_2_3_4, bd46_0_1_2_3_4p, bd46_0_3_4, bd46_0_3_4p, bd86_0_1_2, bd86_0_1_2p, bd87_0_1_2_3, bd87_0_1_2_3p, bd95_0_1, bd95_0_1p, bs22_2_0_1, bs47_1_0, bs22_1_0, bs57_6_0_1_2_3_4_5, bs24_1_0, bs22_4_0_1_2_3, bs56_11_0_1_2_3_4_5_6_7_8_9_10, bs57_11_0_1_2_3_4_5_6_7_8_9_10, eq4, eq4p, eq28, eq28p, eq30, eq30p, eq31n, eq31np, eq31s, eq31sp, eq46, eq46p, eq50n, eq50np, eq50s, eq50sp, eq67n, eq67np, eq67s, eq67sp, ne4, ne4p, ne28, ne28p, ne30, ne30p, ne31n, ne31np, ne31s, ne31sp, ne46, ne46p]
  first | exact le_set hx | exact ⟨rfl, le_set hx⟩

theorem ca_nil {G h : Hp} {C : Conf} (h1 : C.bl = []) (h2 : C.po = []) (h3 : C.ro = []) (h4 : C.st = []) : CA G h C none 0 none 0 none 0 none 0 := by
  obtain ⟨w, hh, ht, bl, po, ro, st, un, ac, sp, tu, ho, qu, re, bu, back⟩ := C
  subst h1 h2 h3 h4
  exact ⟨Slc.nil.sees (e := 28) (a := noHp) (by decide) (fun _ _ e => by cases e), Slc.nil.sees (e := 28) (a := noHp) (by decide) (fun _ _ e => by cases e), Slc.nil.sees (e := 30) (a := noHp) (by decide) (fun _ _ e => by cases e), [], Slc.nil.sees (e := 95) (a := noHp) (by decide) (fun _ _ e => by cases e), by simp⟩

theorem may_nil {C : Conf} (h1 : C.bl = []) (h2 : C.po = []) (h3 : C.ro = []) (h4 : C.st = []) : MayOk C ↔ numbersB C = true := by
  refine ⟨fun m => m.nums, fun n => ⟨n, by simp [h2], by simp [h3], by simp [h1], by simp [h1], by simp [h2], by simp [h3], by simp [h3], ?_⟩⟩
  exact ⟨by simp [h4], by simp [h4], by simp [h4], by simp [h4], by simp [h4], by simp [h4]⟩

theorem made0 : MadeOk C0 := by
  rw [made_may, may_nil rfl rfl rfl rfl]
  rfl

theorem moves0 : movesW (wC C0) (kC C0) (f3C C0) ⟨0, 0, false⟩ = [⟨1, 2, 1, ⟨0, 0, false⟩, ⟨0, 1, false⟩, 0, 0⟩, ⟨2, 0, 0, ⟨0, 0, false⟩, ⟨0, 0, true⟩, 0, 0⟩] := by decide +kernel

theorem Sees.move {G h : Hp} {sa : Option Addr} {cap n : Nat} {L : List Move} (s : Sees moveC G h (.slice sa n cap) L) {i : Nat} {x : Move} (hx : L[i]? = some x) :
    ∃ b o, sa = some ⟨b, o, none⟩ ∧ ∀ j, j < 11 → cellIn G h ⟨b, o + i * 11 + j, none⟩ = (moveC.enc x)[j]? := by
  obtain ⟨b, o, c, e1, e2⟩ := s.get hx
  simp only [Value.slice.injEq] at e1
  exact ⟨b, o, e1.1, e2⟩

set_option maxHeartbeats 4000000 in
theorem awake_spec {G h : Hp} (st : Steps G) : HCalls Tryd.prog G 17 #[] h (fun u h' => u = .bool true ∧ h' = h) := by
  refine HCalls.assume fun d => quietly (enter17 (by simp) ?_)
  unfold S17
  simp -implicitDefEqProofs (maxSteps := 2000000) (disch := first | with_reducible exact Nat.ne_of_beq_eq_false rfl | exact oneCell_int | exact oneCell_bool | omega | rfl | (simp; done) | fail) only [retK_ret, resL_tmp, upd_eq, resL_nil1, opH_sv, cf14, cf29]
  refine conf_spec.mono ?_
  rintro _ h0 ⟨rfl, rfl⟩
  refine (new_spec (C := C0) (ca_nil rfl rfl rfl rfl).cv st (by intro p hp; cases hp) (by decide)).mono ?_
  rintro _ h1 ⟨l1, d1, ⟨hm, ga, gp, kb, rfl, go, s1⟩ | ⟨hm, rfl⟩⟩
  rotate_left
  · exact absurd made0 hm
  simp -implicitDefEqProofs (maxSteps := 2000000) (disch := first | with_reducible exact Nat.ne_of_beq_eq_false rfl | exact oneCell_int | exact oneCell_bool | omega | rfl | (simp; done) | fail) only [ex1, ne_int, bne_self_eq_false, pick_f, gd_ff, ex0, eq31s, HL.cond_false]
  unfold S17_k1
  try simp -implicitDefEqProofs (maxSteps := 2000000) (disch := first | with_reducible exact Nat.ne_of_beq_eq_false rfl | exact oneCell_int | exact oneCell_bool | omega | rfl | (simp; done) | fail) only [upd_ne, upd_eq, retK_ret, resL_tmp, resL_nil1, opH_sv, cf25, cf26, bd30_]
  have pb : PB ⟨0, 0, false⟩ := ⟨⟨by decide, by decide⟩, ⟨by decide, by decide⟩⟩
  have gs1 : GS G h1 (.pointer (some ⟨gp, 0, none⟩)) (wC C0) (kC C0) (f3C C0) := (go.gs (G := G)).up (s1.in 0 rfl) d1
  refine (moves26_spec (gp := gp) (p := ⟨0, 0, false⟩)).mono ?_
  rintro _ h2 ⟨b1, b2, rfl, l2, d2, e1, e2⟩
  have gs2 := gs1.up l2 d2
  refine (moves25_spec (most := 9) e1 e2 gs2 st pb (by decide) (by decide)).mono ?_
  rintro u h3 ⟨ip, o, s3, d3⟩
  rw [moves0] at o
  change Slc moveC 46 ip u [⟨1, 2, 1, ⟨0, 0, false⟩, ⟨0, 1, false⟩, 0, 0⟩, ⟨2, 0, 0, ⟨0, 0, false⟩, ⟨0, 0, true⟩, 0, 0⟩] at o
  obtain ⟨sa, cap, rfl, hc⟩ := o.len (by decide)
  have gs3 := gs2.up (s3.in 1 rfl) d3
  have sv := o.sees (G := G) (by decide) (s3.in 0 rfl)
  obtain ⟨b, ofs, rfl, z⟩ := Sees.move (i := 0) sv rfl
  obtain ⟨b', ofs', eb, z'⟩ := Sees.move (i := 1) sv rfl
  cases eb
  have z00 := z 0 (by decide)
  have z01 := z 1 (by decide)
  have z02 := z 2 (by decide)
  have z10 := z' 0 (by decide)
  simp only [moveC, Nat.zero_mul, Nat.add_zero, Nat.one_mul, List.getElem?_cons_zero, List.getElem?_cons_succ] at z00 z01 z02 z10
  try simp -implicitDefEqProofs (maxSteps := 2000000) (disch := first | with_reducible exact Nat.ne_of_beq_eq_false rfl | exact oneCell_int | exact oneCell_bool | omega | rfl | (simp; done) | fail) only [List.length_cons, List.length_nil, Nat.zero_add, Nat.reduceAdd, ln47, eq_int]
  try simp -implicitDefEqProofs (maxSteps := 2000000) (disch := first | with_reducible exact Nat.ne_of_beq_eq_false rfl | exact oneCell_int | exact oneCell_bool | omega | rfl | (simp; done) | fail) only [show (((2 : Nat) : Int) == 2) = true from rfl, pick_t, gd_tt, opH_sv, ix47 (by decide : (0 : Int) ≤ 0) (by decide : (0 : Int) < (2 : Nat)), show Int.toNat 0 = 0 from rfl, Nat.zero_mul, add_mk, Nat.add_zero, fa46_0, ld3, z00, Option.some.injEq, exists_eq_left', eq_int, beq_self_eq_true, fa46_1, z01, fa46_2, z02, ix47 (by decide : (0 : Int) ≤ 1) (by decide : (1 : Int) < (2 : Nat)), Int.toNat_one, Nat.one_mul, z10, cf37, bd28_0_1]
  refine (num_spec (c := (1, 1)) gs3).mono ?_
  rintro _ _ ⟨rfl, rfl⟩
  try simp -implicitDefEqProofs (maxSteps := 2000000) (disch := first | with_reducible exact Nat.ne_of_beq_eq_false rfl | exact oneCell_int | exact oneCell_bool | omega | rfl | (simp; done) | fail) only [show numI (wC C0) (kC C0) (1, 1) = 3 from rfl, eq_int, beq_self_eq_true, true_and]
  first | exact (l1.trans l2).trans (s3.in 1 rfl) | exact ⟨rfl, (l1.trans l2).trans (s3.in 1 rfl)⟩

end Go.Proofs.YtnpdploihlgcgaaDoor
end

section
/- A config copied, in new memory. -/
set_option linter.unusedSimpArgs false
set_option linter.unusedVariables false
set_option maxRecDepth 100000
namespace Go.Proofs.YtnpdploihlgcgaaDoor
open Go Go.HL

theorem eoraw : ElemOk Tryd.prog 95 rawC.n 40 := ⟨by kernel_rfl, by kernel_rfl, by kernel_rfl⟩
theorem eopose : ElemOk Tryd.prog 30 poseC.n 24 := ⟨by kernel_rfl, by kernel_rfl, by kernel_rfl⟩

/-- So many elements of so many bytes find room. -/
def Room (n bytes : Nat) : Prop := (2 * n + 192) * bytes ≤ 281474976710656

theorem copyints_spec {G h : Hp} {v : Value} {L : List Int} (sv : Sees icC G h v L) (hl : Room L.length 8) : HCalls Tryd.prog G 75 #[v] h (fun u h' => ∃ ip, Slc icC 3 ip u L ∧ Sep [ip, h] h' ∧ Dis G h') := by
  refine HCalls.assume fun d => enter75 (by simp) ?_
  unfold S75
  simp -implicitDefEqProofs (maxSteps := 2000000) (disch := first | with_reducible exact Nat.ne_of_beq_eq_false rfl | exact oneCell_int | exact oneCell_bool | omega | rfl | (simp; done) | fail) only [regs0, retK_ret, resL_tmp, upd_eq, resL_nil1, opH_sv]
  refine append_big icC (by decide) un57 eoint (by decide) (Sep.one (h := h)).none d Slc.nil sv (by simpa [Room] using hl) fun v' a' h' o' s' d' => ?_
  try simp -implicitDefEqProofs (maxSteps := 2000000) (disch := first | with_reducible exact Nat.ne_of_beq_eq_false rfl | exact oneCell_int | exact oneCell_bool | omega | rfl | (simp; done) | fail) only [opH_sv, opH_su, pureW_sv, opH_nil, pureW_nil, pick_t, pick_f, pick_tp, pick_fp, gd_tt, gd_ft, gd_tf, gd_ff, box_new, regs0, regs1, regs2, regs3, regs4, regs5, regs6, cells_agg, cells_int, cells_bool, cells_ptr, cells_slice, cells_string, cells_func, cells_nilFunc, cells_map, retK_ret, retK_normal, resL_tmp, resL_cell, resL_nil0, resL_nil1, resL_nil2, resL_nil3, resC_ptr, ex0, ex1, ex2, ex0p, ex1p, ex2p, HL.cond_true, HL.cond_false, thenK_normal, thenK_ret, thenK_exit, blockK_normal, blockK_ret, blockK_exit, scopeK_normal, scopeK_ret, scopeK_exit, wpH_pure, bin_add, bin_sub, bin_mul, bin_lss, bin_leq, bin_gtr, bin_geq, bin_quo, bin_rem, bin_quop, bin_remp, wrap_in, bin_addp, bin_subp, bin_mulp, bin_lssp, bin_leqp, bin_gtrp, bin_geqp, un_not, un_notp, un_neg, eq_int, ne_int, eq_intp, ne_intp, callV_fn, add_mk, upd_eq, upd_ne, cell_set_self, Nat.zero_add, Nat.add_zero, Option.some.injEq, exists_eq_left', List.getElem?_cons_succ, List.getElem?_cons_zero, true_and, and_true, bne_self_eq_false, beq_self_eq_true, Bool.not_true, Bool.not_false, Bool.and_true, Bool.and_self, Bool.and_false, Bool.true_and, List.length_cons, List.length_nil, ne_eq, not_false_eq_true, Nat.reduceAdd, Nat.reduceMul, if_true, if_false, oneCell_int, oneCell_bool, oneCell_ptr, oneCell_slice, oneCell_string, oneCell_func, oneCell_map, Int.toNat_natCast, List.set_cons_zero, List.set_cons_succ, Nat.lt_irrefl, Nat.zero_lt_succ, Nat.succ_lt_succ_iff, fa26_0, fa26_0p, fa26_1, fa26_1p, fa26_10, fa26_10p, fa26_11, fa26_11p, fa26_12, fa26_12p, fa26_13, fa26_13p, fa26_14, fa26_14p, fa26_2, fa26_2p, fa26_3, fa26_3p, fa26_4, fa26_4p, fa26_5, fa26_5p, fa26_6, fa26_6p, fa26_7, fa26_7p, fa26_8, fa26_8p, fa26_9, fa26_9p, fa28_0, fa28_0p, fa28_1, fa28_1p, fa30_0, fa30_0p, fa30_1, fa30_1p, fa46_0, fa46_0p, fa46_1, fa46_1p, fa46_2, fa46_2p, fa46_3, fa46_3p, fa46_4, fa46_4p, fa46_5, fa46_5p, fa46_6, fa46_6p, fa86_0, fa86_0p, fa86_1, fa86_1p, fa86_2, fa86_2p, fa95_0, fa95_0p, fa95_1, fa95_1p, ld3, ld3p, ld4, ld4p, ld22, ld22p, ld23, ld23p, ld24, ld24p, ld26, ld26p, ld28, ld28p, ld30, ld30p, ld31, ld31p, ld46, ld46p, ld47, ld47p, ld52, ld52p, ld55, ld55p, ld57, ld57p, ld95, ld95p, st3s, st4s, st22s, st23s, st24s, st26w, st28w, st30w, st46w, st47s, st55s, st95w, ix22, ix22p, ix23, ix23p, ix24, ix24p, ix47, ix47p, ix56, ix56p, ix57, ix57p, ix101, ix101p, ln22, ln22p, ln23, ln23p, ln24, ln24p, ln47, ln47p, ln56, ln56p, ln57, ln57p, al22, al26, al28, al30, al46, al47, al95, cf14, cf15, cf16, cf17, cf18, cf19, cf20, cf21, cf22, cf23, cf24, cf25, cf26, cf27, cf28, cf29, cf30, cf31, cf32, cf33, cf34, cf35, cf36, cf37, cf38, cf39, cf40, cf41, cf42, cf43, cf44, cf45, cf46, cf47, cf48, cf49, cf50, cf51, cf52, cf53, cf54, cf55, cf56, cf57, cf58, cf59, cf60, cf61, cf62, cf63, cf64, cf65, cf66, cf67, cf68, cf69, cf70, cf71, cf72, cf73, cf74, cf75, cf76, cf77, cf78, cf79, cf80, bd26_0_1_2_7_8_9_10_11_12_13_14, bd26_0_1_2_7_8_9_10_11_12_13_14p, bd28_0, bd28_0p, bd28_0_1, bd28_0_1p, bd30_, bd30_p, bd30_0_1, bd30_0_1p, bd30_0, bd30_0p, bd46_0_1_2_3_4, bd46_0_1_2_3_4p, bd46_0_3_4, bd46_0_3_4p, bd86_0_1_2, bd86_0_1_2p, bd87_0_1_2_3, bd87_0_1_2_3p, bd95_0_1, bd95_0_1p, bs22_2_0_1, bs47_1_0, bs22_1_0, bs57_6_0_1_2_3_4_5, bs24_1_0, bs22_4_0_1_2_3, bs56_11_0_1_2_3_4_5_6_7_8_9_10, bs57_11_0_1_2_3_4_5_6_7_8_9_10, eq4, eq4p, eq28, eq28p, eq30, eq30p, eq31n, eq31np, eq31s, eq31sp, eq46, eq46p, eq50n, eq50np, eq50s, eq50sp, eq67n, eq67np, eq67s, eq67sp, ne4, ne4p, ne28, ne28p, ne30, ne30p, ne31n, ne31np, ne31s, ne31sp, ne46, ne46p]
  exact ⟨a', o', s', d'⟩

def Rel (pb : Hp) (raws : List Raw) (st : List (Cell × List Int)) : Prop := ∀ (i : Nat) (r : Raw) (s : Cell × List Int), raws[i]? = some r → st[i]? = some s → (r.x, r.y) = s.1 ∧ r.n = s.2.length ∧ Slc icC 3 pb (.slice r.a s.2.length r.c) s.2
/-- Stacks of one's own. -/
def StkO (pz : Hp) (v : Value) (st : List (Cell × List Int)) : Prop := ∃ raws pr pb, Slc rawC 95 pr v raws ∧ Sep [pr, pb] pz ∧ raws.length = st.length ∧ Rel pb raws st

theorem Rel.le {pb pb' : Hp} {raws : List Raw} {st : List (Cell × List Int)} (r : Rel pb raws st) (l : pb.le pb') : Rel pb' raws st := fun i x s h1 h2 => let ⟨a, b, c⟩ := r i x s h1 h2; ⟨a, b, c.le l⟩

set_option maxHeartbeats 2000000 in
theorem copystacks_spec {G h : Hp} {C : Conf} {ab : Option Addr} {cb : Nat} {ap : Option Addr} {cp : Nat} {ar : Option Addr} {cr : Nat} {az : Option Addr} {cs : Nat} (ca : CA G h C ab cb ap cp ar cr az cs)
    (hst : Room C.st.length 40) (hb : ∀ s ∈ C.st, Room s.2.length 8) : HCalls Tryd.prog G 50 #[.slice az C.st.length cs] h (fun u h' => ∃ pz, StkO pz u C.st ∧ Sep [pz, h] h' ∧ Dis G h') := by
  refine HCalls.assume fun d => enter50 (by simp) ?_
  unfold S50
  have hlb : C.st.length ≤ 7036874417664 := by unfold Room at hst; omega
  refine loop_I (fun m r h3 => ∃ (i : Nat) (raws : List Raw) (pr pb : Hp) (v : Value), m = C.st.length - i ∧ i ≤ C.st.length ∧ r 0 = .slice az C.st.length cs ∧ r 3 = v ∧ r 4 = .int .i64 i ∧ Slc rawC 95 pr v raws ∧ raws.length = i ∧ Rel pb raws C.st ∧ Sep [pr, pb, h] h3 ∧ Dis G h3) ?_
    (m := C.st.length) ⟨0, [], noHp, noHp, _, rfl, Nat.zero_le _, by simp -implicitDefEqProofs (maxSteps := 2000000) (disch := first | with_reducible exact Nat.ne_of_beq_eq_false rfl | exact oneCell_int | exact oneCell_bool | omega | rfl | (simp; done) | fail) only [upd_ne, regs0], by simp -implicitDefEqProofs (maxSteps := 2000000) (disch := first | with_reducible exact Nat.ne_of_beq_eq_false rfl | exact oneCell_int | exact oneCell_bool | omega | rfl | (simp; done) | fail) only [upd_ne, upd_eq], by simp -implicitDefEqProofs (maxSteps := 2000000) (disch := first | with_reducible exact Nat.ne_of_beq_eq_false rfl | exact oneCell_int | exact oneCell_bool | omega | rfl | (simp; done) | fail) only [upd_eq] <;> rfl, Slc.nil, rfl, fun i r s h1 => by simp at h1, (Sep.one.none).none, d⟩
  rintro m r h3 ⟨i, raws, pr, pb, v, rfl, hi, g0, g3, g4, o, hlen, rel, s3, d3⟩ X HX
  unfold S50_l2
  simp -implicitDefEqProofs (maxSteps := 2000000) (disch := first | with_reducible exact Nat.ne_of_beq_eq_false rfl | exact oneCell_int | exact oneCell_bool | omega | rfl | (simp; done) | fail) only [g0, g4, thenK_exit, blockK_exit, thenK_normal, if_true, opH_sv, ln24, bin_lss]
  refine cond_dec (fun hlt => ?_) (fun hge => ?_)
  rotate_left
  · obtain rfl : i = C.st.length := by omega
    try simp -implicitDefEqProofs (maxSteps := 2000000) (disch := first | with_reducible exact Nat.ne_of_beq_eq_false rfl | exact oneCell_int | exact oneCell_bool | omega | rfl | (simp; done) | fail) only [opH_sv, opH_su, pureW_sv, opH_nil, pureW_nil, pick_t, pick_f, pick_tp, pick_fp, gd_tt, gd_ft, gd_tf, gd_ff, box_new, regs0, regs1, regs2, regs3, regs4, regs5, regs6, cells_agg, cells_int, cells_bool, cells_ptr, cells_slice, cells_string, cells_func, cells_nilFunc, cells_map, retK_ret, retK_normal, resL_tmp, resL_cell, resL_nil0, resL_nil1, resL_nil2, resL_nil3, resC_ptr, ex0, ex1, ex2, ex0p, ex1p, ex2p, HL.cond_true, HL.cond_false, thenK_normal, thenK_ret, thenK_exit, blockK_normal, blockK_ret, blockK_exit, scopeK_normal, scopeK_ret, scopeK_exit, wpH_pure, bin_add, bin_sub, bin_mul, bin_lss, bin_leq, bin_gtr, bin_geq, bin_quo, bin_rem, bin_quop, bin_remp, wrap_in, bin_addp, bin_subp, bin_mulp, bin_lssp, bin_leqp, bin_gtrp, bin_geqp, un_not, un_notp, un_neg, eq_int, ne_int, eq_intp, ne_intp, callV_fn, add_mk, upd_eq, upd_ne, cell_set_self, Nat.zero_add, Nat.add_zero, Option.some.injEq, exists_eq_left', List.getElem?_cons_succ, List.getElem?_cons_zero, true_and, and_true, bne_self_eq_false, beq_self_eq_true, Bool.not_true, Bool.not_false, Bool.and_true, Bool.and_self, Bool.and_false, Bool.true_and, List.length_cons, List.length_nil, ne_eq, not_false_eq_true, Nat.reduceAdd, Nat.reduceMul, if_true, if_false, oneCell_int, oneCell_bool, oneCell_ptr, oneCell_slice, oneCell_string, oneCell_func, oneCell_map, Int.toNat_natCast, List.set_cons_zero, List.set_cons_succ, Nat.lt_irrefl, Nat.zero_lt_succ, Nat.succ_lt_succ_iff, fa26_0, fa26_0p, fa26_1, fa26_1p, fa26_10, fa26_10p, fa26_11, fa26_11p, fa26_12, fa26_12p, fa26_13, fa26_13p, fa26_14, fa26_14p, fa26_2, fa26_2p, fa26_3, fa26_3p, fa26_4, fa26_4p, fa26_5, fa26_5p, fa26_6, fa26_6p, fa26_7, fa26_7p, fa26_8, fa26_8p, fa26_9, fa26_9p, fa28_0, fa28_0p, fa28_1, fa28_1p, fa30_0, fa30_0p, fa30_1, fa30_1p, fa46_0, fa46_0p, fa46_1, fa46_1p, fa46_2, fa46_2p, fa46_3, fa46_3p, fa46_4, fa46_4p, fa46_5, fa46_5p, fa46_6, fa46_6p, fa86_0, fa86_0p, fa86_1, fa86_1p, fa86_2, fa86_2p, fa95_0, fa95_0p, fa95_1, fa95_1p, ld3, ld3p, ld4, ld4p, ld22, ld22p, ld23, ld23p, ld24, ld24p, ld26, ld26p, ld28, ld28p, ld30, ld30p, ld31, ld31p, ld46, ld46p, ld47, ld47p, ld52, ld52p, ld55, ld55p, ld57, ld57p, ld95, ld95p, st3s, st4s, st22s, st23s, st24s, st26w, st28w, st30w, st46w, st47s, st55s, st95w, ix22, ix22p, ix23, ix23p, ix24, ix24p, ix47, ix47p, ix56, ix56p, ix57, ix57p, ix101, ix101p, ln22, ln22p, ln23, ln23p, ln24, ln24p, ln47, ln47p, ln56, ln56p, ln57, ln57p, al22, al26, al28, al30, al46, al47, al95, cf14, cf15, cf16, cf17, cf18, cf19, cf20, cf21, cf22, cf23, cf24, cf25, cf26, cf27, cf28, cf29, cf30, cf31, cf32, cf33, cf34, cf35, cf36, cf37, cf38, cf39, cf40, cf41, cf42, cf43, cf44, cf45, cf46, cf47, cf48, cf49, cf50, cf51, cf52, cf53, cf54, cf55, cf56, cf57, cf58, cf59, cf60, cf61, cf62, cf63, cf64, cf65, cf66, cf67, cf68, cf69, cf70, cf71, cf72, cf73, cf74, cf75, cf76, cf77, cf78, cf79, cf80, bd26_0_1_2_7_8_9_10_11_12_13_14, bd26_0_1_2_7_8_9_10_11_12_13_14p, bd28_0, bd28_0p, bd28_0_1, bd28_0_1p, bd30_, bd30_p, bd30_0_1, bd30_0_1p, bd30_0, bd30_0p, bd46_0_1_2_3_4, bd46_0_1_2_3_4p, bd46_0_3_4, bd46_0_3_4p, bd86_0_1_2, bd86_0_1_2p, bd87_0_1_2_3, bd87_0_1_2_3p, bd95_0_1, bd95_0_1p, bs22_2_0_1, bs47_1_0, bs22_1_0, bs57_6_0_1_2_3_4_5, bs24_1_0, bs22_4_0_1_2_3, bs56_11_0_1_2_3_4_5_6_7_8_9_10, bs57_11_0_1_2_3_4_5_6_7_8_9_10, eq4, eq4p, eq28, eq28p, eq30, eq30p, eq31n, eq31np, eq31s, eq31sp, eq46, eq46p, eq50n, eq50np, eq50s, eq50sp, eq67n, eq67np, eq67s, eq67sp, ne4, ne4p, ne28, ne28p, ne30, ne30p, ne31n, ne31np, ne31s, ne31sp, ne46, ne46p]
    unfold S50_k1
    try simp -implicitDefEqProofs (maxSteps := 2000000) (disch := first | with_reducible exact Nat.ne_of_beq_eq_false rfl | exact oneCell_int | exact oneCell_bool | omega | rfl | (simp; done) | fail) only [upd_ne, g3, retK_ret, resL_tmp, upd_eq, resL_nil1]
    obtain ⟨pz, s4, t4⟩ := s3.pack2
    exact ⟨pz, ⟨raws, pr, pb, o, t4, hlen, rel⟩, s4, d3⟩
  have hlt' : i < C.st.length := by omega
  obtain ⟨s, hs⟩ : ∃ s, C.st[i]? = some s := ⟨_, List.getElem?_eq_getElem hlt'⟩
  have ca3 := ca.up (s3.in 2 rfl) d3
  obtain ⟨b, ofs, a, c, rfl, z0, z1, z2, sv⟩ := ca3.stk hs
  unfold S50_l2_k3
  refine ⟨h3, Hp.le.refl _, ?_⟩
  try simp -implicitDefEqProofs (maxSteps := 2000000) (disch := first | with_reducible exact Nat.ne_of_beq_eq_false rfl | exact oneCell_int | exact oneCell_bool | omega | rfl | (simp; done) | fail) only [upd_ne, g0, g4, opH_sv, pureW_sv, cf75, ix24p (Int.natCast_nonneg i) hlt, Int.toNat_natCast, add_mk, fa95_1p, ld57p, z2, Option.some.injEq, exists_eq_left', fa95_0p, Nat.add_zero, ld28p, z0, z1]
  refine (copyints_spec sv (hb s (List.mem_of_getElem? hs))).mono ?_
  rintro u h4 ⟨ip, o4, s4, d4⟩
  refine ⟨s4.in 1 rfl, ?_⟩
  obtain ⟨sa, cap, rfl, hcap⟩ := o4.len (by decide)
  try simp -implicitDefEqProofs (maxSteps := 2000000) (disch := first | with_reducible exact Nat.ne_of_beq_eq_false rfl | exact oneCell_int | exact oneCell_bool | omega | rfl | (simp; done) | fail) only [bd95_0_1p, bs24_1_0]
  intro x hx gx
  have s5 : Sep [ip, pr, pb, h] h4 := by
    have := s4.split s3
    simpa using this
  let rw0 : Raw := ⟨s.1.1, s.1.2, sa, s.2.length, cap⟩
  have s6 : Sep [pr, ip, pb, h] (h4.set x (.cells #[.int .i64 s.1.1, .int .i64 s.1.2, .slice sa s.2.length cap] 95 (0, 0))) := (s5.past hx).pick 1 rfl rfl
  have d6 : Dis G (h4.set x (.cells #[.int .i64 s.1.1, .int .i64 s.1.2, .slice sa s.2.length cap] 95 (0, 0))) := d4.set gx
  have b6 : (h4.set x (.cells #[.int .i64 s.1.1, .int .i64 s.1.2, .slice sa s.2.length cap] 95 (0, 0))) x = some (.cells #[.int .i64 s.1.1, .int .i64 s.1.2, .slice sa s.2.length cap] 95 (0, 0)) := set_self
  generalize Hp.set h4 x _ = h6 at s6 d6 b6 ⊢
  rw [g3]
  refine append_big rawC (by decide) un24 eoraw (by decide) (M := [rw0]) s6 d6 o (Sees.row (c := rawC) (L := [rw0]) b6 rfl (Nat.le_refl _)) (by
    unfold Room at hst
    refine Nat.le_trans (Nat.mul_le_mul_right _ ?_) hst
    rw [hlen, List.length_singleton]
    omega) fun v7 pr7 h7 o7 s7 d7 => ?_
  have s7' : Sep [ip, pb, pr7, h] h7 := (s7.pick 2 rfl rfl).pick 2 rfl rfl
  obtain ⟨pb7, s8, t8⟩ := s7'.pack2
  unfold S50_l2_k4
  try simp -implicitDefEqProofs (maxSteps := 2000000) (disch := first | with_reducible exact Nat.ne_of_beq_eq_false rfl | exact oneCell_int | exact oneCell_bool | omega | rfl | (simp; done) | fail) only [upd_ne, g4, thenK_normal, opH_sv, bin_add, wrap_in]
  refine HX (C.st.length - (i + 1)) _ _ (by omega) ⟨i + 1, raws ++ [rw0], pr7, pb7, v7, rfl, hlt', by simp -implicitDefEqProofs (maxSteps := 2000000) (disch := first | with_reducible exact Nat.ne_of_beq_eq_false rfl | exact oneCell_int | exact oneCell_bool | omega | rfl | (simp; done) | fail) only [upd_ne, g0], by simp -implicitDefEqProofs (maxSteps := 2000000) (disch := first | with_reducible exact Nat.ne_of_beq_eq_false rfl | exact oneCell_int | exact oneCell_bool | omega | rfl | (simp; done) | fail) only [upd_ne, upd_eq], by simp -implicitDefEqProofs (maxSteps := 2000000) (disch := first | with_reducible exact Nat.ne_of_beq_eq_false rfl | exact oneCell_int | exact oneCell_bool | omega | rfl | (simp; done) | fail) only [upd_eq] <;> rfl, o7, by simp [hlen], ?_, s8.pick 1 rfl rfl, d7⟩
  intro j r' s' hr' hs'
  by_cases hj : j < i
  · rw [List.getElem?_append_left (by omega)] at hr'
    exact (rel.le (t8.in 1 rfl)) j r' s' hr' hs'
  · have hj2 : j < (raws ++ [rw0]).length := (List.getElem?_eq_some_iff.1 hr').1
    obtain rfl : j = i := by simp at hj2; omega
    rw [List.getElem?_append_right (by omega), hlen, Nat.sub_self] at hr'
    cases hr'
    rw [hs] at hs'
    cases hs'
    exact ⟨rfl, rfl, o4.le (t8.in 0 rfl)⟩

abbrev confO (C : Conf) (vb vp vr vz : Value) : Obj := .cells #[.int .i64 C.w, .int .i64 C.h, .int .i64 C.ht, vb, vp, vr, vz, .int .i64 C.un, .int .i64 C.ac, .int .i64 C.sp, .int .i64 C.tu, .int .i64 C.ho, .int .i64 C.qu, .int .i64 C.re, .int .i64 C.bu, .bool C.back] 26 (0, 0)
abbrev confA (C : Conf) (vb vp vr vz : Value) : Value := .agg #[.int .i64 C.w, .int .i64 C.h, .int .i64 C.ht, vb, vp, vr, vz, .int .i64 C.un, .int .i64 C.ac, .int .i64 C.sp, .int .i64 C.tu, .int .i64 C.ho, .int .i64 C.qu, .int .i64 C.re, .int .i64 C.bu, .bool C.back]

theorem store26 {G h : Hp} {y : Nat} {C : Conf} {D : Conf} {v1 v2 v3 v4 : Value} {a1 a2 a3 a4 : Option Addr} {n1 n2 n3 n4 c1 c2 c3 c4 : Nat} {K : Unit → Hp → Prop} (hb : h y = some (confO D v1 v2 v3 v4)) :
    wpH Tryd.prog G (Instr.storeAt 26 (.pointer (some ⟨y, 0, none⟩)) (confA C (.slice a1 n1 c1) (.slice a2 n2 c2) (.slice a3 n3 c3) (.slice a4 n4 c4))) h K = K () (h.set y (confO C (.slice a1 n1 c1) (.slice a2 n2 c2) (.slice a3 n3 c3) (.slice a4 n4 c4))) := by
  conv => lhs; rw [← set_same hb]
  exact st26w

structure Fit0 (C : Conf) : Prop where
  bl : Room C.bl.length 16
  po : Room C.po.length 16
  ro : Room C.ro.length 24
  st : Room C.st.length 40
  bins : ∀ s ∈ C.st, Room s.2.length 8

def Cz : Conf := ⟨0, 0, 0, [], [], [], [], 0, 0, 0, 0, 0, 0, 0, 0, false⟩
abbrev nilV : Value := .slice none 0 0

/-- A config of one's own. -/
structure CO (h : Hp) (C : Conf) (u : Value) (h' pb pp pr pz : Hp) (vb vp vr vz : Value) : Prop where
  v : u = confA C vb vp vr vz
  bl : Slc cellC 28 pb vb C.bl
  po : Slc cellC 28 pp vp C.po
  ro : Slc poseC 30 pr vr C.ro
  st : StkO pz vz C.st
  sep : Sep [pb, pp, pr, pz, h] h'

def CopyR (G h : Hp) (C : Conf) (u : Value) (h' : Hp) : Prop := (∃ pb pp pr pz vb vp vr vz, CO h C u h' pb pp pr pz vb vp vr vz) ∧ Dis G h'

set_option maxHeartbeats 2000000 in
theorem copyconf_spec {G h : Hp} {v : Value} {C : Conf} (hv : CV G h v C) (fit : Fit0 C) : HCalls Tryd.prog G 15 #[v] h (CopyR G h C) := by
  obtain ⟨ab, cb, ap, cp, ar, cr, az, cs, rfl, ca⟩ := hv
  refine HCalls.assume fun d => enter15 (by simp) ?_
  unfold S15
  simp -implicitDefEqProofs (maxSteps := 2000000) (disch := first | with_reducible exact Nat.ne_of_beq_eq_false rfl | exact oneCell_int | exact oneCell_bool | omega | rfl | (simp; done) | fail) only [regs0, retK_ret, resL_cell, upd_ne, upd_eq, resL_nil1, opH_su, opH_sv, cf50, al26, resC_ptr, ld26, add_mk, Nat.add_zero, Nat.zero_add, box_new, cells_agg, fa26_6, ld24, fa26_5, ld23, fa26_4, ld22, fa26_3]
  intro x hx gx y hy gy
  have exy := ne_of_set hy
  have s2 : Sep [noHp, noHp.set x (confO C (.slice ab C.bl.length cb) (.slice ap C.po.length cp) (.slice ar C.ro.length cr) (.slice az C.st.length cs)), noHp.set y (confO Cz nilV nilV nilV nilV), h] _ := (((Sep.one (h := h)).new (o := confO C (.slice ab C.bl.length cb) (.slice ap C.po.length cp) (.slice ar C.ro.length cr) (.slice az C.st.length cs)) hx).new (o := confO Cz nilV nilV nilV nilV) hy).swap.none
  have d2 := (d.set (o := confO C (.slice ab C.bl.length cb) (.slice ap C.po.length cp) (.slice ar C.ro.length cr) (.slice az C.st.length cs)) gx).set (o := confO Cz nilV nilV nilV nilV) gy
  unfold Cz at s2 d2
  generalize Hp.set (Hp.set h x _) y _ = h2 at s2 d2 ⊢
  have cx : ∀ j, cellIn G h2 ⟨x, j, none⟩ = _ := fun j => cell_of (look_own (s2.at 1 rfl set_self))
  have ca2 := ca.up (s2.in 3 rfl) d2
  try simp -implicitDefEqProofs (maxSteps := 2000000) (disch := first | with_reducible exact Nat.ne_of_beq_eq_false rfl | exact oneCell_int | exact oneCell_bool | omega | rfl | (simp; done) | fail) only [cx, List.getElem?_cons_succ, List.getElem?_cons_zero, Option.some.injEq, exists_eq_left']
  refine append_big cellC (by decide) un22 eocell (by decide) s2 d2 Slc.nil ca2.bl (by simpa [Room] using fit.bl) fun vb pb h3 ob s3 d3 => ?_
  obtain ⟨sb, cpb, rfl, _⟩ := ob.len (by decide)
  rw [List.nil_append] at ob
  have hx3 := s3.at 1 rfl set_self
  try simp -implicitDefEqProofs (maxSteps := 2000000) (disch := first | with_reducible exact Nat.ne_of_beq_eq_false rfl | exact oneCell_int | exact oneCell_bool | omega | rfl | (simp; done) | fail) only [opH_sv, opH_su, pureW_sv, opH_nil, pureW_nil, pick_t, pick_f, pick_tp, pick_fp, gd_tt, gd_ft, gd_tf, gd_ff, box_new, regs0, regs1, regs2, regs3, regs4, regs5, regs6, cells_agg, cells_int, cells_bool, cells_ptr, cells_slice, cells_string, cells_func, cells_nilFunc, cells_map, retK_ret, retK_normal, resL_tmp, resL_cell, resL_nil0, resL_nil1, resL_nil2, resL_nil3, resC_ptr, ex0, ex1, ex2, ex0p, ex1p, ex2p, HL.cond_true, HL.cond_false, thenK_normal, thenK_ret, thenK_exit, blockK_normal, blockK_ret, blockK_exit, scopeK_normal, scopeK_ret, scopeK_exit, wpH_pure, bin_add, bin_sub, bin_mul, bin_lss, bin_leq, bin_gtr, bin_geq, bin_quo, bin_rem, bin_quop, bin_remp, wrap_in, bin_addp, bin_subp, bin_mulp, bin_lssp, bin_leqp, bin_gtrp, bin_geqp, un_not, un_notp, un_neg, eq_int, ne_int, eq_intp, ne_intp, callV_fn, add_mk, upd_eq, upd_ne, cell_set_self, Nat.zero_add, Nat.add_zero, Option.some.injEq, exists_eq_left', List.getElem?_cons_succ, List.getElem?_cons_zero, true_and, and_true, bne_self_eq_false, beq_self_eq_true, Bool.not_true, Bool.not_false, Bool.and_true, Bool.and_self, Bool.and_false, Bool.true_and, List.length_cons, List.length_nil, ne_eq, not_false_eq_true, Nat.reduceAdd, Nat.reduceMul, if_true, if_false, oneCell_int, oneCell_bool, oneCell_ptr, oneCell_slice, oneCell_string, oneCell_func, oneCell_map, Int.toNat_natCast, List.set_cons_zero, List.set_cons_succ, Nat.lt_irrefl, Nat.zero_lt_succ, Nat.succ_lt_succ_iff, fa26_0, fa26_0p, fa26_1, fa26_1p, fa26_10, fa26_10p, fa26_11, fa26_11p, fa26_12, fa26_12p, fa26_13, fa26_13p, fa26_14, fa26_14p, fa26_2, fa26_2p, fa26_3, fa26_3p, fa26_4, fa26_4p, fa26_5, fa26_5p, fa26_6, fa26_6p, fa26_7, fa26_7p, fa26_8, fa26_8p, fa26_9, fa26_9p, fa28_0, fa28_0p, fa28_1, fa28_1p, fa30_0, fa30_0p, fa30_1, fa30_1p, fa46_0, fa46_0p, fa46_1, fa46_1p, fa46_2, fa46_2p, fa46_3, fa46_3p, fa46_4, fa46_4p, fa46_5, fa46_5p, fa46_6, fa46_6p, fa86_0, fa86_0p, fa86_1, fa86_1p, fa86_2, fa86_2p, fa95_0, fa95_0p, fa95_1, fa95_1p, ld3, ld3p, ld4, ld4p, ld22, ld22p, ld23, ld23p, ld24, ld24p, ld26, ld26p, ld28, ld28p, ld30, ld30p, ld31, ld31p, ld46, ld46p, ld47, ld47p, ld52, ld52p, ld55, ld55p, ld57, ld57p, ld95, ld95p, st3s, st4s, st22s, st23s, st24s, st26w, st28w, st30w, st46w, st47s, st55s, st95w, ix22, ix22p, ix23, ix23p, ix24, ix24p, ix47, ix47p, ix56, ix56p, ix57, ix57p, ix101, ix101p, ln22, ln22p, ln23, ln23p, ln24, ln24p, ln47, ln47p, ln56, ln56p, ln57, ln57p, al22, al26, al28, al30, al46, al47, al95, cf14, cf15, cf16, cf17, cf18, cf19, cf20, cf21, cf22, cf23, cf24, cf25, cf26, cf27, cf28, cf29, cf30, cf31, cf32, cf33, cf34, cf35, cf36, cf37, cf38, cf39, cf40, cf41, cf42, cf43, cf44, cf45, cf46, cf47, cf48, cf49, cf50, cf51, cf52, cf53, cf54, cf55, cf56, cf57, cf58, cf59, cf60, cf61, cf62, cf63, cf64, cf65, cf66, cf67, cf68, cf69, cf70, cf71, cf72, cf73, cf74, cf75, cf76, cf77, cf78, cf79, cf80, bd26_0_1_2_7_8_9_10_11_12_13_14, bd26_0_1_2_7_8_9_10_11_12_13_14p, bd28_0, bd28_0p, bd28_0_1, bd28_0_1p, bd30_, bd30_p, bd30_0_1, bd30_0_1p, bd30_0, bd30_0p, bd46_0_1_2_3_4, bd46_0_1_2_3_4p, bd46_0_3_4, bd46_0_3_4p, bd86_0_1_2, bd86_0_1_2p, bd87_0_1_2_3, bd87_0_1_2_3p, bd95_0_1, bd95_0_1p, bs22_2_0_1, bs47_1_0, bs22_1_0, bs57_6_0_1_2_3_4_5, bs24_1_0, bs22_4_0_1_2_3, bs56_11_0_1_2_3_4_5_6_7_8_9_10, bs57_11_0_1_2_3_4_5_6_7_8_9_10, eq4, eq4p, eq28, eq28p, eq30, eq30p, eq31n, eq31np, eq31s, eq31sp, eq46, eq46p, eq50n, eq50np, eq50s, eq50sp, eq67n, eq67np, eq67s, eq67sp, ne4, ne4p, ne28, ne28p, ne30, ne30p, ne31n, ne31np, ne31s, ne31sp, ne46, ne46p]
  rw [store1_eq sz22 rfl hx3 (by simp)]
  have s4 : Sep [noHp, noHp.set x (confO C (.slice sb C.bl.length cpb) (.slice ap C.po.length cp) (.slice ar C.ro.length cr) (.slice az C.st.length cs)), pb, noHp.set y (confO ⟨0, 0, 0, [], [], [], [], 0, 0, 0, 0, 0, 0, 0, 0, false⟩ nilV nilV nilV nilV), h] (h3.set x (confO C (.slice sb C.bl.length cpb) (.slice ap C.po.length cp) (.slice ar C.ro.length cr) (.slice az C.st.length cs))) := by
    have := (s3.pick 1 rfl rfl).put (o := confO C (.slice sb C.bl.length cpb) (.slice ap C.po.length cp) (.slice ar C.ro.length cr) (.slice az C.st.length cs)) set_self
    rw [set_set] at this
    exact this.none
  have d4 : Dis G (h3.set x (confO C (.slice sb C.bl.length cpb) (.slice ap C.po.length cp) (.slice ar C.ro.length cr) (.slice az C.st.length cs))) := d3.set gx
  try simp -implicitDefEqProofs (maxSteps := 2000000) (disch := first | with_reducible exact Nat.ne_of_beq_eq_false rfl | exact oneCell_int | exact oneCell_bool | omega | rfl | (simp; done) | fail) only [List.nil_append, List.set_cons_succ, List.set_cons_zero, cell_set_self, List.getElem?_cons_succ, List.getElem?_cons_zero, Option.some.injEq, exists_eq_left']
  generalize Hp.set h3 x _ = h4 at s4 d4 ⊢
  refine append_big cellC (by decide) un22 eocell (by decide) s4 d4 Slc.nil (ca.up (s4.in 4 rfl) d4).po (by simpa [Room] using fit.po) fun vp pp h5 op s5 d5 => ?_
  obtain ⟨sp, cpp, rfl, _⟩ := op.len (by decide)
  rw [List.nil_append] at op
  have hx5 := s5.at 1 rfl set_self
  try simp -implicitDefEqProofs (maxSteps := 2000000) (disch := first | with_reducible exact Nat.ne_of_beq_eq_false rfl | exact oneCell_int | exact oneCell_bool | omega | rfl | (simp; done) | fail) only [opH_sv, opH_su, pureW_sv, opH_nil, pureW_nil, pick_t, pick_f, pick_tp, pick_fp, gd_tt, gd_ft, gd_tf, gd_ff, box_new, regs0, regs1, regs2, regs3, regs4, regs5, regs6, cells_agg, cells_int, cells_bool, cells_ptr, cells_slice, cells_string, cells_func, cells_nilFunc, cells_map, retK_ret, retK_normal, resL_tmp, resL_cell, resL_nil0, resL_nil1, resL_nil2, resL_nil3, resC_ptr, ex0, ex1, ex2, ex0p, ex1p, ex2p, HL.cond_true, HL.cond_false, thenK_normal, thenK_ret, thenK_exit, blockK_normal, blockK_ret, blockK_exit, scopeK_normal, scopeK_ret, scopeK_exit, wpH_pure, bin_add, bin_sub, bin_mul, bin_lss, bin_leq, bin_gtr, bin_geq, bin_quo, bin_rem, bin_quop, bin_remp, wrap_in, bin_addp, bin_subp, bin_mulp, bin_lssp, bin_leqp, bin_gtrp, bin_geqp, un_not, un_notp, un_neg, eq_int, ne_int, eq_intp, ne_intp, callV_fn, add_mk, upd_eq, upd_ne, cell_set_self, Nat.zero_add, Nat.add_zero, Option.some.injEq, exists_eq_left', List.getElem?_cons_succ, List.getElem?_cons_zero, true_and, and_true, bne_self_eq_false, beq_self_eq_true, Bool.not_true, Bool.not_false, Bool.and_true, Bool.and_self, Bool.and_false, Bool.true_and, List.length_cons, List.length_nil, ne_eq, not_false_eq_true, Nat.reduceAdd, Nat.reduceMul, if_true, if_false, oneCell_int, oneCell_bool, oneCell_ptr, oneCell_slice, oneCell_string, oneCell_func, oneCell_map, Int.toNat_natCast, List.set_cons_zero, List.set_cons_succ, Nat.lt_irrefl, Nat.zero_lt_succ, Nat.succ_lt_succ_iff, fa26_0, fa26_0p, fa26_1, fa26_1p, fa26_10, fa26_10p, fa26_11, fa26_11p, fa26_12, fa26_12p, fa26_13, fa26_13p, fa26_14, fa26_14p, fa26_2, fa26_2p, fa26_3, fa26_3p, fa26_4, fa26_4p, fa26_5, fa26_5p, fa26_6, fa26_6p, fa26_7, fa26_7p, fa26_8, fa26_8p, fa26_9, fa26_9p, fa28_0, fa28_0p, fa28_1, fa28_1p, fa30_0, fa30_0p, fa30_1, fa30_1p, fa46_0, fa46_0p, fa46_1, fa46_1p, fa46_2, fa46_2p, fa46_3, fa46_3p, fa46_4, fa46_4p, fa46_5, fa46_5p, fa46_6, fa46_6p, fa86_0, fa86_0p, fa86_1, fa86_1p, fa86_2, fa86_2p, fa95_0, fa95_0p, fa95_1, fa95_1p, ld3, ld3p, ld4, ld4p, ld22, ld22p, ld23, ld23p, ld24, ld24p, ld26, ld26p, ld28, ld28p, ld30, ld30p, ld31, ld31p, ld46, ld46p, ld47, ld47p, ld52, ld52p, ld55, ld55p, ld57, ld57p, ld95, ld95p, st3s, st4s, st22s, st23s, st24s, st26w, st28w, st30w, st46w, st47s, st55s, st95w, ix22, ix22p, ix23, ix23p, ix24, ix24p, ix47, ix47p, ix56, ix56p, ix57, ix57p, ix101, ix101p, ln22, ln22p, ln23, ln23p, ln24, ln24p, ln47, ln47p, ln56, ln56p, ln57, ln57p, al22, al26, al28, al30, al46, al47, al95, cf14, cf15, cf16, cf17, cf18, cf19, cf20, cf21, cf22, cf23, cf24, cf25, cf26, cf27, cf28, cf29, cf30, cf31, cf32, cf33, cf34, cf35, cf36, cf37, cf38, cf39, cf40, cf41, cf42, cf43, cf44, cf45, cf46, cf47, cf48, cf49, cf50, cf51, cf52, cf53, cf54, cf55, cf56, cf57, cf58, cf59, cf60, cf61, cf62, cf63, cf64, cf65, cf66, cf67, cf68, cf69, cf70, cf71, cf72, cf73, cf74, cf75, cf76, cf77, cf78, cf79, cf80, bd26_0_1_2_7_8_9_10_11_12_13_14, bd26_0_1_2_7_8_9_10_11_12_13_14p, bd28_0, bd28_0p, bd28_0_1, bd28_0_1p, bd30_, bd30_p, bd30_0_1, bd30_0_1p, bd30_0, bd30_0p, bd46_0_1_2_3_4, bd46_0_1_2_3_4p, bd46_0_3_4, bd46_0_3_4p, bd86_0_1_2, bd86_0_1_2p, bd87_0_1_2_3, bd87_0_1_2_3p, bd95_0_1, bd95_0_1p, bs22_2_0_1, bs47_1_0, bs22_1_0, bs57_6_0_1_2_3_4_5, bs24_1_0, bs22_4_0_1_2_3, bs56_11_0_1_2_3_4_5_6_7_8_9_10, bs57_11_0_1_2_3_4_5_6_7_8_9_10, eq4, eq4p, eq28, eq28p, eq30, eq30p, eq31n, eq31np, eq31s, eq31sp, eq46, eq46p, eq50n, eq50np, eq50s, eq50sp, eq67n, eq67np, eq67s, eq67sp, ne4, ne4p, ne28, ne28p, ne30, ne30p, ne31n, ne31np, ne31s, ne31sp, ne46, ne46p]
  rw [store1_eq sz22 rfl hx5 (by simp)]
  have s6 : Sep [noHp, noHp.set x (confO C (.slice sb C.bl.length cpb) (.slice sp C.po.length cpp) (.slice ar C.ro.length cr) (.slice az C.st.length cs)), pp, pb, noHp.set y (confO ⟨0, 0, 0, [], [], [], [], 0, 0, 0, 0, 0, 0, 0, 0, false⟩ nilV nilV nilV nilV), h] (h5.set x (confO C (.slice sb C.bl.length cpb) (.slice sp C.po.length cpp) (.slice ar C.ro.length cr) (.slice az C.st.length cs))) := by
    have := (s5.pick 1 rfl rfl).put (o := confO C (.slice sb C.bl.length cpb) (.slice sp C.po.length cpp) (.slice ar C.ro.length cr) (.slice az C.st.length cs)) set_self
    rw [set_set] at this
    exact this.none
  have d6 : Dis G (h5.set x (confO C (.slice sb C.bl.length cpb) (.slice sp C.po.length cpp) (.slice ar C.ro.length cr) (.slice az C.st.length cs))) := d5.set gx
  try simp -implicitDefEqProofs (maxSteps := 2000000) (disch := first | with_reducible exact Nat.ne_of_beq_eq_false rfl | exact oneCell_int | exact oneCell_bool | omega | rfl | (simp; done) | fail) only [List.nil_append, List.set_cons_succ, List.set_cons_zero, cell_set_self, List.getElem?_cons_succ, List.getElem?_cons_zero, Option.some.injEq, exists_eq_left']
  generalize Hp.set h5 x _ = h6 at s6 d6 ⊢
  refine append_big poseC (by decide) un23 eopose (by decide) s6 d6 Slc.nil (ca.up (s6.in 5 rfl) d6).ro (by simpa [Room] using fit.ro) fun vr pr h7 or s7 d7 => ?_
  obtain ⟨sr, cpr, rfl, _⟩ := or.len (by decide)
  rw [List.nil_append] at or
  have hx7 := s7.at 1 rfl set_self
  try simp -implicitDefEqProofs (maxSteps := 2000000) (disch := first | with_reducible exact Nat.ne_of_beq_eq_false rfl | exact oneCell_int | exact oneCell_bool | omega | rfl | (simp; done) | fail) only [opH_sv, opH_su, pureW_sv, opH_nil, pureW_nil, pick_t, pick_f, pick_tp, pick_fp, gd_tt, gd_ft, gd_tf, gd_ff, box_new, regs0, regs1, regs2, regs3, regs4, regs5, regs6, cells_agg, cells_int, cells_bool, cells_ptr, cells_slice, cells_string, cells_func, cells_nilFunc, cells_map, retK_ret, retK_normal, resL_tmp, resL_cell, resL_nil0, resL_nil1, resL_nil2, resL_nil3, resC_ptr, ex0, ex1, ex2, ex0p, ex1p, ex2p, HL.cond_true, HL.cond_false, thenK_normal, thenK_ret, thenK_exit, blockK_normal, blockK_ret, blockK_exit, scopeK_normal, scopeK_ret, scopeK_exit, wpH_pure, bin_add, bin_sub, bin_mul, bin_lss, bin_leq, bin_gtr, bin_geq, bin_quo, bin_rem, bin_quop, bin_remp, wrap_in, bin_addp, bin_subp, bin_mulp, bin_lssp, bin_leqp, bin_gtrp, bin_geqp, un_not, un_notp, un_neg, eq_int, ne_int, eq_intp, ne_intp, callV_fn, add_mk, upd_eq, upd_ne, cell_set_self, Nat.zero_add, Nat.add_zero, Option.some.injEq, exists_eq_left', List.getElem?_cons_succ, List.getElem?_cons_zero, true_and, and_true, bne_self_eq_false, beq_self_eq_true, Bool.not_true, Bool.not_false, Bool.and_true, Bool.and_self, Bool.and_false, Bool.true_and, List.length_cons, List.length_nil, ne_eq, not_false_eq_true, Nat.reduceAdd, Nat.reduceMul, if_true, if_false, oneCell_int, oneCell_bool, oneCell_ptr, oneCell_slice, oneCell_string, oneCell_func, oneCell_map, Int.toNat_natCast, List.set_cons_zero, List.set_cons_succ, Nat.lt_irrefl, Nat.zero_lt_succ, Nat.succ_lt_succ_iff, fa26_0, fa26_0p, fa26_1, fa26_1p, fa26_10, fa26_10p, fa26_11, fa26_11p, fa26_12, fa26_12p, fa26_13, fa26_13p, fa26_14, fa26_14p, fa26_2, fa26_2p, fa26_3, fa26_3p, fa26_4, fa26_4p, fa26_5, fa26_5p, fa26_6, fa26_6p, fa26_7, fa26_7p, fa26_8, fa26_8p, fa26_9, fa26_9p, fa28_0, fa28_0p, fa28_1, fa28_1p, fa30_0, fa30_0p, fa30_1, fa30_1p, fa46_0, fa46_0p, fa46_1, fa46_1p, fa46_2, fa46_2p, fa46_3, fa46_3p, fa46_4, fa46_4p, fa46_5, fa46_5p, fa46_6, fa46_6p, fa86_0, fa86_0p, fa86_1, fa86_1p, fa86_2, fa86_2p, fa95_0, fa95_0p, fa95_1, fa95_1p, ld3, ld3p, ld4, ld4p, ld22, ld22p, ld23, ld23p, ld24, ld24p, ld26, ld26p, ld28, ld28p, ld30, ld30p, ld31, ld31p, ld46, ld46p, ld47, ld47p, ld52, ld52p, ld55, ld55p, ld57, ld57p, ld95, ld95p, st3s, st4s, st22s, st23s, st24s, st26w, st28w, st30w, st46w, st47s, st55s, st95w, ix22, ix22p, ix23, ix23p, ix24, ix24p, ix47, ix47p, ix56, ix56p, ix57, ix57p, ix101, ix101p, ln22, ln22p, ln23, ln23p, ln24, ln24p, ln47, ln47p, ln56, ln56p, ln57, ln57p, al22, al26, al28, al30, al46, al47, al95, cf14, cf15, cf16, cf17, cf18, cf19, cf20, cf21, cf22, cf23, cf24, cf25, cf26, cf27, cf28, cf29, cf30, cf31, cf32, cf33, cf34, cf35, cf36, cf37, cf38, cf39, cf40, cf41, cf42, cf43, cf44, cf45, cf46, cf47, cf48, cf49, cf50, cf51, cf52, cf53, cf54, cf55, cf56, cf57, cf58, cf59, cf60, cf61, cf62, cf63, cf64, cf65, cf66, cf67, cf68, cf69, cf70, cf71, cf72, cf73, cf74, cf75, cf76, cf77, cf78, cf79, cf80, bd26_0_1_2_7_8_9_10_11_12_13_14, bd26_0_1_2_7_8_9_10_11_12_13_14p, bd28_0, bd28_0p, bd28_0_1, bd28_0_1p, bd30_, bd30_p, bd30_0_1, bd30_0_1p, bd30_0, bd30_0p, bd46_0_1_2_3_4, bd46_0_1_2_3_4p, bd46_0_3_4, bd46_0_3_4p, bd86_0_1_2, bd86_0_1_2p, bd87_0_1_2_3, bd87_0_1_2_3p, bd95_0_1, bd95_0_1p, bs22_2_0_1, bs47_1_0, bs22_1_0, bs57_6_0_1_2_3_4_5, bs24_1_0, bs22_4_0_1_2_3, bs56_11_0_1_2_3_4_5_6_7_8_9_10, bs57_11_0_1_2_3_4_5_6_7_8_9_10, eq4, eq4p, eq28, eq28p, eq30, eq30p, eq31n, eq31np, eq31s, eq31sp, eq46, eq46p, eq50n, eq50np, eq50s, eq50sp, eq67n, eq67np, eq67s, eq67sp, ne4, ne4p, ne28, ne28p, ne30, ne30p, ne31n, ne31np, ne31s, ne31sp, ne46, ne46p]
  rw [store1_eq sz23 rfl hx7 (by simp)]
  have s8 : Sep [noHp.set x (confO C (.slice sb C.bl.length cpb) (.slice sp C.po.length cpp) (.slice sr C.ro.length cpr) (.slice az C.st.length cs)), pr, pp, pb, noHp.set y (confO ⟨0, 0, 0, [], [], [], [], 0, 0, 0, 0, 0, 0, 0, 0, false⟩ nilV nilV nilV nilV), h] (h7.set x (confO C (.slice sb C.bl.length cpb) (.slice sp C.po.length cpp) (.slice sr C.ro.length cpr) (.slice az C.st.length cs))) := by
    have := (s7.pick 1 rfl rfl).put (o := confO C (.slice sb C.bl.length cpb) (.slice sp C.po.length cpp) (.slice sr C.ro.length cpr) (.slice az C.st.length cs)) set_self
    rw [set_set] at this
    exact this
  have d8 : Dis G (h7.set x (confO C (.slice sb C.bl.length cpb) (.slice sp C.po.length cpp) (.slice sr C.ro.length cpr) (.slice az C.st.length cs))) := d7.set gx
  try simp -implicitDefEqProofs (maxSteps := 2000000) (disch := first | with_reducible exact Nat.ne_of_beq_eq_false rfl | exact oneCell_int | exact oneCell_bool | omega | rfl | (simp; done) | fail) only [List.nil_append, List.set_cons_succ, List.set_cons_zero, cell_set_self, List.getElem?_cons_succ, List.getElem?_cons_zero, Option.some.injEq, exists_eq_left']
  generalize Hp.set h7 x _ = h8 at s8 d8 ⊢
  refine (copystacks_spec (ca.up (s8.in 5 rfl) d8) fit.st fit.bins).mono ?_
  rintro vz h9 ⟨pz, oz, s9, d9⟩
  have s9' : Sep [pz, noHp.set x (confO C (.slice sb C.bl.length cpb) (.slice sp C.po.length cpp) (.slice sr C.ro.length cpr) (.slice az C.st.length cs)), pr, pp, pb, noHp.set y (confO ⟨0, 0, 0, [], [], [], [], 0, 0, 0, 0, 0, 0, 0, 0, false⟩ nilV nilV nilV nilV), h] h9 := by
    have := s9.split s8
    simpa using this
  obtain ⟨sz, cpz, rfl⟩ : ∃ sz cpz, vz = .slice sz C.st.length cpz := by
    obtain ⟨raws, _, _, o, _, e, _⟩ := oz
    obtain ⟨a, b, e2, _⟩ := o.len (by decide)
    exact ⟨a, b, by rw [e2, e]⟩
  have hx9 := s9'.at 1 rfl set_self
  try simp -implicitDefEqProofs (maxSteps := 2000000) (disch := first | with_reducible exact Nat.ne_of_beq_eq_false rfl | exact oneCell_int | exact oneCell_bool | omega | rfl | (simp; done) | fail) only [opH_sv, opH_su, pureW_sv, opH_nil, pureW_nil, pick_t, pick_f, pick_tp, pick_fp, gd_tt, gd_ft, gd_tf, gd_ff, box_new, regs0, regs1, regs2, regs3, regs4, regs5, regs6, cells_agg, cells_int, cells_bool, cells_ptr, cells_slice, cells_string, cells_func, cells_nilFunc, cells_map, retK_ret, retK_normal, resL_tmp, resL_cell, resL_nil0, resL_nil1, resL_nil2, resL_nil3, resC_ptr, ex0, ex1, ex2, ex0p, ex1p, ex2p, HL.cond_true, HL.cond_false, thenK_normal, thenK_ret, thenK_exit, blockK_normal, blockK_ret, blockK_exit, scopeK_normal, scopeK_ret, scopeK_exit, wpH_pure, bin_add, bin_sub, bin_mul, bin_lss, bin_leq, bin_gtr, bin_geq, bin_quo, bin_rem, bin_quop, bin_remp, wrap_in, bin_addp, bin_subp, bin_mulp, bin_lssp, bin_leqp, bin_gtrp, bin_geqp, un_not, un_notp, un_neg, eq_int, ne_int, eq_intp, ne_intp, callV_fn, add_mk, upd_eq, upd_ne, cell_set_self, Nat.zero_add, Nat.add_zero, Option.some.injEq, exists_eq_left', List.getElem?_cons_succ, List.getElem?_cons_zero, true_and, and_true, bne_self_eq_false, beq_self_eq_true, Bool.not_true, Bool.not_false, Bool.and_true, Bool.and_self, Bool.and_false, Bool.true_and, List.length_cons, List.length_nil, ne_eq, not_false_eq_true, Nat.reduceAdd, Nat.reduceMul, if_true, if_false, oneCell_int, oneCell_bool, oneCell_ptr, oneCell_slice, oneCell_string, oneCell_func, oneCell_map, Int.toNat_natCast, List.set_cons_zero, List.set_cons_succ, Nat.lt_irrefl, Nat.zero_lt_succ, Nat.succ_lt_succ_iff, fa26_0, fa26_0p, fa26_1, fa26_1p, fa26_10, fa26_10p, fa26_11, fa26_11p, fa26_12, fa26_12p, fa26_13, fa26_13p, fa26_14, fa26_14p, fa26_2, fa26_2p, fa26_3, fa26_3p, fa26_4, fa26_4p, fa26_5, fa26_5p, fa26_6, fa26_6p, fa26_7, fa26_7p, fa26_8, fa26_8p, fa26_9, fa26_9p, fa28_0, fa28_0p, fa28_1, fa28_1p, fa30_0, fa30_0p, fa30_1, fa30_1p, fa46_0, fa46_0p, fa46_1, fa46_1p, fa46_2, fa46_2p, fa46_3, fa46_3p, fa46_4, fa46_4p, fa46_5, fa46_5p, fa46_6, fa46_6p, fa86_0, fa86_0p, fa86_1, fa86_1p, fa86_2, fa86_2p, fa95_0, fa95_0p, fa95_1, fa95_1p, ld3, ld3p, ld4, ld4p, ld22, ld22p, ld23, ld23p, ld24, ld24p, ld26, ld26p, ld28, ld28p, ld30, ld30p, ld31, ld31p, ld46, ld46p, ld47, ld47p, ld52, ld52p, ld55, ld55p, ld57, ld57p, ld95, ld95p, st3s, st4s, st22s, st23s, st24s, st26w, st28w, st30w, st46w, st47s, st55s, st95w, ix22, ix22p, ix23, ix23p, ix24, ix24p, ix47, ix47p, ix56, ix56p, ix57, ix57p, ix101, ix101p, ln22, ln22p, ln23, ln23p, ln24, ln24p, ln47, ln47p, ln56, ln56p, ln57, ln57p, al22, al26, al28, al30, al46, al47, al95, cf14, cf15, cf16, cf17, cf18, cf19, cf20, cf21, cf22, cf23, cf24, cf25, cf26, cf27, cf28, cf29, cf30, cf31, cf32, cf33, cf34, cf35, cf36, cf37, cf38, cf39, cf40, cf41, cf42, cf43, cf44, cf45, cf46, cf47, cf48, cf49, cf50, cf51, cf52, cf53, cf54, cf55, cf56, cf57, cf58, cf59, cf60, cf61, cf62, cf63, cf64, cf65, cf66, cf67, cf68, cf69, cf70, cf71, cf72, cf73, cf74, cf75, cf76, cf77, cf78, cf79, cf80, bd26_0_1_2_7_8_9_10_11_12_13_14, bd26_0_1_2_7_8_9_10_11_12_13_14p, bd28_0, bd28_0p, bd28_0_1, bd28_0_1p, bd30_, bd30_p, bd30_0_1, bd30_0_1p, bd30_0, bd30_0p, bd46_0_1_2_3_4, bd46_0_1_2_3_4p, bd46_0_3_4, bd46_0_3_4p, bd86_0_1_2, bd86_0_1_2p, bd87_0_1_2_3, bd87_0_1_2_3p, bd95_0_1, bd95_0_1p, bs22_2_0_1, bs47_1_0, bs22_1_0, bs57_6_0_1_2_3_4_5, bs24_1_0, bs22_4_0_1_2_3, bs56_11_0_1_2_3_4_5_6_7_8_9_10, bs57_11_0_1_2_3_4_5_6_7_8_9_10, eq4, eq4p, eq28, eq28p, eq30, eq30p, eq31n, eq31np, eq31s, eq31sp, eq46, eq46p, eq50n, eq50np, eq50s, eq50sp, eq67n, eq67np, eq67s, eq67sp, ne4, ne4p, ne28, ne28p, ne30, ne30p, ne31n, ne31np, ne31s, ne31sp, ne46, ne46p]
  rw [store1_eq sz24 rfl hx9 (by simp)]
  have s10 : Sep [noHp.set x (confO C (.slice sb C.bl.length cpb) (.slice sp C.po.length cpp) (.slice sr C.ro.length cpr) (.slice sz C.st.length cpz)), pz, pr, pp, pb, noHp.set y (confO ⟨0, 0, 0, [], [], [], [], 0, 0, 0, 0, 0, 0, 0, 0, false⟩ nilV nilV nilV nilV), h] (h9.set x (confO C (.slice sb C.bl.length cpb) (.slice sp C.po.length cpp) (.slice sr C.ro.length cpr) (.slice sz C.st.length cpz))) := by
    have := (s9'.pick 1 rfl rfl).put (o := confO C (.slice sb C.bl.length cpb) (.slice sp C.po.length cpp) (.slice sr C.ro.length cpr) (.slice sz C.st.length cpz)) set_self
    rw [set_set] at this
    exact this
  have d10 : Dis G (h9.set x (confO C (.slice sb C.bl.length cpb) (.slice sp C.po.length cpp) (.slice sr C.ro.length cpr) (.slice sz C.st.length cpz))) := d9.set gx
  try simp -implicitDefEqProofs (maxSteps := 2000000) (disch := first | with_reducible exact Nat.ne_of_beq_eq_false rfl | exact oneCell_int | exact oneCell_bool | omega | rfl | (simp; done) | fail) only [List.set_cons_succ, List.set_cons_zero, cell_set_self, List.getElem?_cons_zero, Option.some.injEq, List.getElem?_cons_succ, exists_eq_left']
  generalize Hp.set h9 x _ = h10 at s10 d10 ⊢
  have hy10 := s10.at 5 rfl set_self
  rw [store26 hy10]
  try simp -implicitDefEqProofs (maxSteps := 2000000) (disch := first | with_reducible exact Nat.ne_of_beq_eq_false rfl | exact oneCell_int | exact oneCell_bool | omega | rfl | (simp; done) | fail) only [cell_set_self, List.getElem?_cons_zero, Option.some.injEq, List.getElem?_cons_succ, exists_eq_left']
  refine ⟨⟨pb, pp, pr, pz, _, _, _, _, rfl, ob, op, or, oz, ?_⟩, d10.set gy⟩
  have s11 := ((s10.pick 5 rfl rfl).put (o := confO C (.slice sb C.bl.length cpb) (.slice sp C.po.length cpp) (.slice sr C.ro.length cpr) (.slice sz C.st.length cpz)) set_self).drop.drop
  have s12 : Sep [pz, pr, pp, pb, h] _ := s11
  exact ((s12.pick 1 rfl rfl).pick 2 rfl rfl).pick 3 rfl rfl

theorem StkO.len {pz : Hp} {v : Value} {st : List (Cell × List Int)} (o : StkO pz v st) : ∃ sz cpz, v = .slice sz st.length cpz := by
  obtain ⟨raws, _, _, o, _, e, _⟩ := o
  obtain ⟨a, b, e2, _⟩ := o.len (by decide)
  exact ⟨a, b, by rw [e2, e]⟩

/-- The copy, seen. -/
theorem CO.cv {G h h' h2 pb pp pr pz : Hp} {C : Conf} {u vb vp vr vz : Value} (c : CO h C u h' pb pp pr pz vb vp vr vz) (l : h'.le h2) : CV G h2 u C := by
  obtain ⟨rfl, ob, op, or, oz, s⟩ := c
  obtain ⟨sb, cb, rfl, _⟩ := ob.len (by decide)
  obtain ⟨sp, cp, rfl, _⟩ := op.len (by decide)
  obtain ⟨sr, cr, rfl, _⟩ := or.len (by decide)
  obtain ⟨sz, cz, rfl⟩ := oz.len
  refine ⟨sb, cb, sp, cp, sr, cr, sz, cz, rfl, ob.sees (by decide) ((s.in 0 rfl).trans l), op.sees (by decide) ((s.in 1 rfl).trans l), or.sees (by decide) ((s.in 2 rfl).trans l), ?_⟩
  obtain ⟨raws, pr', pb', o, t, e, rel⟩ := oz
  refine ⟨raws, o.sees (by decide) (((t.in 0 rfl).trans (s.in 3 rfl)).trans l), fun i r x h1 h2 => ?_⟩
  obtain ⟨a, b, c⟩ := rel i r x h1 h2
  exact ⟨a, b, c.sees (by decide) (((t.in 1 rfl).trans (s.in 3 rfl)).trans l)⟩

end Go.Proofs.YtnpdploihlgcgaaDoor
end

section
/- What the row's premise gives: the package's steps as they lie. -/
set_option linter.unusedSimpArgs false
set_option linter.unusedVariables false
set_option maxRecDepth 100000
namespace Go.Proofs.YtnpdploihlgcgaaDoor
open Go Go.HL Go.ChangeShapes Go.WideShapes Go.RowKit

theorem own_knob : ownKnob Tryd.prog.godebug = none := by kernel_rfl
theorem laid_out : laidOutB Tryd.prog = true := by kernel_rfl
theorem gSteps : Tryd.prog.globalNamed "skep/grid.steps" = some 0 := by kernel_rfl
theorem tSteps : (Tryd.prog.globals[0]?).map (·.type) = some 81 := by kernel_rfl

abbrev laidL : List (String × DataW Unit) := [("skep/grid.steps", Rows.laid_skep_grid_steps)]

theorem door_met (os : Os) (args : Array Value) : laidMetH Tryd.prog laidL ((World.doorLaid Tryd.prog 400 os).forCall (fun _ _ => 0) ⟨#[], args, []⟩).memory :=
  laidMetH_of_parts3 (fuel := 8) (laidMet_of_run' 8 (by kernel_rfl) (by kernel_rfl)) (by kernel_rfl) (by kernel_rfl)

theorem dec_fieldsD {H : Type} {enc : TypeId × Value → H} {P : Program} {w : World} {base : Nat} {spare : Nat → Bool} {held : Bool} {e : TypeId} {fuel : Nat} {cs : List Value} {y : DataW H × List MemPlace} {tos : List (TypeId × Nat)} (ht : structFields P e = some tos)
    (h : DataW.trod enc P w base spare held fuel e cs = some y) : cs.length = P.cellsOf e ∧ ∃ (xs : List (DataW H × List MemPlace)) (m : Nat), y = (.agg (xs.map (·.1)), xs.flatMap (·.2)) ∧ xs.length = tos.length ∧ ∀ (i : Nat) (t o : Nat), tos[i]? = some (t, o) → DataW.trod enc P w base spare held m t ((cs.drop o).take (P.cellsOf t)) = xs[i]? := by
  unfold structFields at ht
  split at ht
  · rename_i fs hfs
    obtain ⟨xs, n, _, h0, h1, h2, h3⟩ := DataW.trod_struct hfs h
    simp only [Option.some.injEq] at ht
    subst ht
    refine ⟨h1, xs, n, h0, by simp [h2], fun i t o hi => ?_⟩
    rw [List.getElem?_map, Array.getElem?_toList] at hi
    cases q : fs[i]? with
    | none => rw [q] at hi; cases hi
    | some f =>
      rw [q] at hi
      simp only [Option.map_some, Option.some.injEq, Prod.mk.injEq] at hi
      obtain ⟨rfl, rfl⟩ := hi
      exact h3 i f q
  · cases ht

theorem un3i : Tryd.prog.underlying 3 = some (.int .i64) := by kernel_rfl
theorem c3 : Tryd.prog.cellsOf 3 = 1 := by kernel_rfl
theorem c28 : Tryd.prog.cellsOf 28 = 2 := by kernel_rfl
theorem c81 : Tryd.prog.cellsOf 81 = 8 := by kernel_rfl
theorem sf28 : structFields Tryd.prog 28 = some [(3, 0), (3, 1)] := by kernel_rfl

theorem step_dec {H : Type} {enc : TypeId × Value → H} {w : World} {base : Nat} {spare : Nat → Bool} {held : Bool} {m : Nat} {cs : List Value} {x : DataW H × List MemPlace} {a b : Int}
    (h : DataW.trod enc Tryd.prog w base spare held m 28 cs = some x) (e : x.1 = .agg [.lit (.int .i64 a), .lit (.int .i64 b)]) : cs = [.int .i64 a, .int .i64 b] := by
  obtain ⟨hl, xs, n, rfl, hxl, d⟩ := dec_fieldsD sf28 h
  rw [c28] at hl
  match cs, hl, xs, hxl with
  | [v0, v1], _, [x0, x1], _ =>
  have h0 := d 0 3 0 rfl
  have h1 := d 1 3 1 rfl
  rw [c3] at h0 h1
  obtain ⟨k0, e0, f0, _⟩ := DataW.trod_int un3i (show DataW.trod _ _ _ _ _ _ n 3 _ = some x0 from h0)
  obtain ⟨k1, e1, f1, _⟩ := DataW.trod_int un3i (show DataW.trod _ _ _ _ _ _ n 3 _ = some x1 from h1)
  simp at e0 e1
  subst e0 e1 f0 f1
  simp at e
  obtain ⟨rfl, rfl⟩ := e
  rfl

theorem len8 {α : Type} {L : List α} (h : L.length = 8) : ∃ a b c d e f g i, L = [a, b, c, d, e, f, g, i] := by
  match L, h with
  | [a, b, c, d, e, f, g, i], _ => exact ⟨a, b, c, d, e, f, g, i, rfl⟩

theorem of_laid {W : World} (h : laidMetH Tryd.prog laidL W) : Steps (ground W) := by
  rw [MakeChecks.laidMetH_plain _ _ _ (by kernel_rfl)] at h
  obtain ⟨ps, ⟨g0, t0, cs0, f0, p0, q0, hg0, ht0, hv0, hd0, _, _⟩, _, _⟩ := h
  obtain rfl := Option.some.inj (gSteps.symm.trans hg0)
  obtain rfl := Option.some.inj (tSteps.symm.trans ht0)
  obtain ⟨xs, m, rfl, hx, hl, hxl, hel⟩ := DataW.trod_array un81 hd0
  rw [c81] at hl
  rw [c28] at hel
  simp only [Prod.mk.injEq] at hx
  obtain ⟨hx, _⟩ := hx
  have hobj : ∃ e f, W.heap[0]? = some (.cells cs0 e f) := by
    unfold World.var? at hv0
    rw [gSteps] at hv0
    simp only [Option.bind_some] at hv0
    split at hv0
    · rename_i c e f hc
      cases hv0
      exact ⟨e, f, hc⟩
    · cases hv0
  obtain ⟨e, f, hobj⟩ := hobj
  refine ⟨e, f, ?_⟩
  show W.heap[0]? = _
  rw [hobj]
  match xs, hxl with
  | [x0, x1, x2, x3], _ =>
  have h0 := hel 0 (by decide)
  have h1 := hel 1 (by decide)
  have h2 := hel 2 (by decide)
  have h3 := hel 3 (by decide)
  unfold Rows.laid_skep_grid_steps at hx
  simp only [List.map_cons, List.map_nil, DataW.agg.injEq, List.cons.injEq] at hx
  have k0 := step_dec (show DataW.trod _ _ _ _ _ _ m 28 _ = some x0 from h0) hx.1.symm
  have k1 := step_dec (show DataW.trod _ _ _ _ _ _ m 28 _ = some x1 from h1) hx.2.1.symm
  have k2 := step_dec (show DataW.trod _ _ _ _ _ _ m 28 _ = some x2 from h2) hx.2.2.1.symm
  have k3 := step_dec (show DataW.trod _ _ _ _ _ _ m 28 _ = some x3 from h3) hx.2.2.2.1.symm
  obtain ⟨cs⟩ := cs0
  obtain ⟨a0, a1, a2, a3, a4, a5, a6, a7, rfl⟩ := len8 hl
  simp at k0 k1 k2 k3
  obtain ⟨rfl, rfl⟩ := k0
  obtain ⟨rfl, rfl⟩ := k1
  obtain ⟨rfl, rfl⟩ := k2
  obtain ⟨rfl, rfl⟩ := k3
  rfl

end Go.Proofs.YtnpdploihlgcgaaDoor
end

section
/- GridMay: the walk. -/
set_option linter.unusedSimpArgs false
set_option linter.unusedVariables false
set_option maxRecDepth 100000
namespace Go.Proofs.YtnpdploihlgcgaaDoor
open Go Go.HL

theorem Fit0.lens {C : Conf} (f : Fit0 C) : C.bl.length ≤ 100000000000000 ∧ C.po.length ≤ 100000000000000 ∧ C.ro.length ≤ 100000000000000 ∧ C.st.length ≤ 100000000000000 := by
  obtain ⟨a, b, c, d, _⟩ := f
  unfold Room at a b c d
  omega

theorem CV.box {G h : Hp} {v : Value} {C : Conf} (hv : CV G h v C) : ∃ a1 n1 a2 n2 a3 n3 a4 n4, v = confV C a1 n1 a2 n2 a3 n3 a4 n4 := by
  obtain ⟨ab, cb, ap, cp, ar, cr, az, cs, rfl, ca⟩ := hv
  exact ⟨_, _, _, _, _, _, _, _, rfl⟩

end Go.Proofs.YtnpdploihlgcgaaDoor
end

section
/- GridLegal: the walk. -/
set_option linter.unusedSimpArgs false
set_option linter.unusedVariables false
set_option maxRecDepth 100000
namespace Go.Proofs.YtnpdploihlgcgaaDoor
open Go Go.HL

theorem swept_le {C : Conf} {m : Move} (w16 : wC C ≤ 16) (k16 : kC C ≤ 16) : (rsweptM C m).length ≤ 256 := by
  unfold rsweptM
  split
  · exact swept_len w16 k16
  · simp

end Go.Proofs.YtnpdploihlgcgaaDoor
end
