/- Slots as they lie; the table, and what it answers. -/
import Derived.Test.YtbloobepmgmbgaaRS
import Derived.Test.YtbloobepmgmbgaaRP
import Derived.Test.YtbloobepmgmbgaaH3
import Derived.Test.YtbloobepmgmbgaaH4
set_option linter.unusedSimpArgs false
set_option linter.unusedVariables false
set_option maxRecDepth 100000
namespace Go.Proofs.Ytbloobepmgmbgaa
open Go Go.HL Go.Proofs.Resv

def slotC : Cod Slot := ⟨3, fun s => [.int .i64 s.f, .int .i64 s.t, .int .i64 s.r], fun _ => rfl, fun _ v hv => by simp at hv; rcases hv with rfl | rfl | rfl <;> rfl⟩
abbrev slotV (s : Slot) : Value := .agg #[.int .i64 s.f, .int .i64 s.t, .int .i64 s.r]
abbrev slotO (s : Slot) : Obj := .cells #[.int .i64 s.f, .int .i64 s.t, .int .i64 s.r] 35 (0, 0)
theorem eoslot : ElemOk Try.prog 35 slotC.n 24 := eo35
abbrev Sv := Option Addr × Nat × Nat
def svC : Cod Sv := ⟨1, fun (s : Sv) => [.slice s.1 s.2.1 s.2.2], fun _ => rfl, fun _ v hv => by simp at hv; subst hv; rfl⟩
theorem eosv : ElemOk Try.prog 32 svC.n 24 := ⟨by kernel_rfl, by kernel_rfl, by kernel_rfl⟩

/-- A table, seen. -/
def TSee (G h : Hp) (tp : Nat) (T : List (List Slot)) : Prop := ∃ rb, cellIn G h ⟨tp, 0, none⟩ = some (.slice (some ⟨rb, 0, none⟩) T.length T.length) ∧
  ∀ c L, T[c]? = some L → ∃ a cap, cellIn G h ⟨rb, c, none⟩ = some (.slice a L.length cap) ∧ Sees slotC G h (.slice a L.length cap) L
theorem TSee.up {G h h' : Hp} {tp : Nat} {T : List (List Slot)} (s : TSee G h tp T) (l : h.le h') (d : Dis G h') : TSee G h' tp T := by
  obtain ⟨rb, e1, e2⟩ := s
  exact ⟨rb, cell_up l d e1, fun c L hc => let ⟨a, cap, e3, e4⟩ := e2 c L hc; ⟨a, cap, cell_up l d e3, e4.up l d⟩⟩

/-- A table of one's own. -/
def Rows (pb : Hp) (raws : List Sv) (T : List (List Slot)) : Prop := raws.length = T.length ∧ ∀ (i : Nat) (s : Sv) (L : List Slot), raws[i]? = some s → T[i]? = some L → s.2.1 = L.length ∧ Slc slotC 35 pb (.slice s.1 L.length s.2.2) L
def Tab (ty : TypeId) (a : Hp) (tp : Nat) (T : List (List Slot)) : Prop := ∃ rb raws pb, Sep [noHp.set tp (.cells #[.slice (some ⟨rb, 0, none⟩) T.length T.length] ty (0, 0)), noHp.set rb (.cells (svC.rows raws).toArray 32 (0, 0)), pb] a ∧ Rows pb raws T

theorem sv_get {G h : Hp} {rb c : Nat} {raws : List Sv} {e : TypeId} {s : Sv} (hb : h rb = some (.cells (svC.rows raws).toArray e (0, 0))) (hs : raws[c]? = some s) : cellIn G h ⟨rb, c, none⟩ = some (.slice s.1 s.2.1 s.2.2) := by
  rw [cell_of (look_own hb)]
  have := svC.rows_get (t := []) (j := 0) hs (by decide)
  rw [List.append_nil, show svC.n = 1 from rfl, Nat.mul_one, Nat.add_zero] at this
  exact this

theorem Tab.see {G a h : Hp} {ty : TypeId} {tp : Nat} {T : List (List Slot)} (t : Tab ty a tp T) (l : a.le h) : TSee G h tp T := by
  obtain ⟨rb, raws, pb, s, hl, hr⟩ := t
  refine ⟨rb, ?_, fun c L hc => ?_⟩
  · rw [cell_of (look_own (l _ _ (s.at 0 rfl set_self)))]
    rfl
  · have hlt : c < raws.length := by rw [hl]; exact (List.getElem?_eq_some_iff.1 hc).1
    obtain ⟨e1, o⟩ := hr c _ L (List.getElem?_eq_getElem hlt) hc
    refine ⟨raws[c].1, raws[c].2.2, ?_, o.sees (by decide) ((s.in 2 rfl).trans l)⟩
    rw [sv_get (l _ _ (s.at 1 rfl set_self)) (List.getElem?_eq_getElem hlt), e1]

theorem Sees.slot {G h : Hp} {sa : Option Addr} {cap n : Nat} {L : List Slot} (s : Sees slotC G h (.slice sa n cap) L) {i : Nat} {x : Slot} (hx : L[i]? = some x) :
    ∃ b o, sa = some ⟨b, o, none⟩ ∧ cellIn G h ⟨b, o + i * 3, none⟩ = some (.int .i64 x.f) ∧ cellIn G h ⟨b, o + i * 3 + 1, none⟩ = some (.int .i64 x.t) ∧ cellIn G h ⟨b, o + i * 3 + 2, none⟩ = some (.int .i64 x.r) := by
  obtain ⟨b, o, c, e1, e2⟩ := s.get hx
  simp only [Value.slice.injEq] at e1
  obtain ⟨rfl, -, -⟩ := e1
  have x0 := e2 0 (by decide)
  have x1 := e2 1 (by decide)
  have x2 := e2 2 (by decide)
  simp only [slotC, Nat.add_zero, List.getElem?_cons_zero, List.getElem?_cons_succ] at x0 x1 x2
  exact ⟨b, o, rfl, x0, x1, x2⟩

def hasB (T : List (List Slot)) (c : Int) : Bool := decide (0 ≤ c) && decide (c < T.length)
theorem hasB_iff {T : List (List Slot)} {c : Int} : hasB T c = true ↔ 0 ≤ c ∧ c < T.length := by unfold hasB; simp
theorem hasB_get {T : List (List Slot)} {c : Int} (h : hasB T c = true) : ∃ L, T[c.toNat]? = some L := by
  rw [hasB_iff] at h
  exact ⟨_, List.getElem?_eq_getElem (by omega)⟩
def rowAt (T : List (List Slot)) (c : Int) : List Slot := if 0 ≤ c then T.getD c.toNat [] else []

theorem has_spec {G h : Hp} {tp : Nat} {T : List (List Slot)} {c : Int} (ts : TSee G h tp T) : HCalls Try.prog G 30 #[.pointer (some ⟨tp, 0, none⟩), .int .i64 c] h (fun u h' => u = .bool (hasB T c) ∧ h' = h) := by
  obtain ⟨rb, e1, _⟩ := ts
  refine enter30 (by simp) ?_
  unfold S30 hasB
  try simp -implicitDefEqProofs (maxSteps := 2000000) (disch := first | with_reducible exact Nat.ne_of_beq_eq_false rfl | exact oneCell_int | exact oneCell_bool | omega | rfl | (simp; done) | fail) only [regs0, regs1, retK_ret, resL_tmp, upd_eq, resL_nil1, ne23s, pick_t, gd_tt, opH_sv, bin_geq]
  by_cases h0 : 0 ≤ c
  · try simp -implicitDefEqProofs (maxSteps := 2000000) (disch := first | with_reducible exact Nat.ne_of_beq_eq_false rfl | exact oneCell_int | exact oneCell_bool | omega | rfl | (simp; done) | fail) only [decide_eq_true h0, Bool.true_and, pick_t, gd_tt, opH_sv, opH_nil, fa68_0, add_mk, Nat.add_zero, ld66, e1, Option.some.injEq, exists_eq_left', ln66, bin_lss, and_true]
  · try simp -implicitDefEqProofs (maxSteps := 2000000) (disch := first | with_reducible exact Nat.ne_of_beq_eq_false rfl | exact oneCell_int | exact oneCell_bool | omega | rfl | (simp; done) | fail) only [decide_eq_false h0, Bool.false_and, pick_f, true_and, gd_ft]

theorem cells_spec {G h : Hp} {tp : Nat} {T : List (List Slot)} (ts : TSee G h tp T) : HCalls Try.prog G 22 #[.pointer (some ⟨tp, 0, none⟩)] h (fun u h' => u = .int .i64 T.length ∧ h' = h) := by
  obtain ⟨rb, e1, _⟩ := ts
  refine enter22 (by simp) ?_
  unfold S22
  try simp -implicitDefEqProofs (maxSteps := 2000000) (disch := first | with_reducible exact Nat.ne_of_beq_eq_false rfl | exact oneCell_int | exact oneCell_bool | omega | rfl | (simp; done) | fail) only [regs0, retK_ret, resL_tmp, upd_eq, resL_nil1, eq23s, and_true, HL.cond_false]
  unfold S22_k1
  try simp -implicitDefEqProofs (maxSteps := 2000000) (disch := first | with_reducible exact Nat.ne_of_beq_eq_false rfl | exact oneCell_int | exact oneCell_bool | omega | rfl | (simp; done) | fail) only [upd_ne, regs0, retK_ret, resL_tmp, upd_eq, resL_nil1, opH_sv, opH_nil, fa68_0, add_mk, Nat.add_zero, ld66, e1, Option.some.injEq, exists_eq_left', ln66, and_true]

theorem list_spec {G h : Hp} {v : Value} {L : List Slot} (sv : Sees slotC G h v L) (hL : L.length ≤ 100000) : HCalls Try.prog G 33 #[v] h (fun u h' => ∃ b, Slc slotC 35 b u L ∧ Sep [b, h] h' ∧ Dis G h') := by
  obtain ⟨sa, cap, rfl⟩ := sv.len
  refine HCalls.assume fun d => enter33 (by simp) ?_
  unfold S33
  simp -implicitDefEqProofs (maxSteps := 2000000) (disch := first | with_reducible exact Nat.ne_of_beq_eq_false rfl | exact oneCell_int | exact oneCell_bool | omega | rfl | (simp; done) | fail) only [regs0, retK_ret, resL_tmp, upd_eq, resL_nil1, opH_sv, ln32, eq_int]
  by_cases hL0 : L = []
  · subst hL0
    try simp -implicitDefEqProofs (maxSteps := 2000000) (disch := first | with_reducible exact Nat.ne_of_beq_eq_false rfl | exact oneCell_int | exact oneCell_bool | omega | rfl | (simp; done) | fail) only [List.length_nil, show (((0 : Nat) : Int) == 0) = true from rfl, HL.cond_true]
    exact ⟨noHp, Slc.nil, Sep.one.none, d⟩
  · have hpos := List.length_pos_iff.2 hL0
    have e : ((L.length : Int) == 0) = false := by
      have : (L.length : Int) ≠ 0 := by omega
      simpa using this
    try simp -implicitDefEqProofs (maxSteps := 2000000) (disch := first | with_reducible exact Nat.ne_of_beq_eq_false rfl | exact oneCell_int | exact oneCell_bool | omega | rfl | (simp; done) | fail) only [e, HL.cond_false]
    unfold S33_k1
    try simp -implicitDefEqProofs (maxSteps := 2000000) (disch := first | with_reducible exact Nat.ne_of_beq_eq_false rfl | exact oneCell_int | exact oneCell_bool | omega | rfl | (simp; done) | fail) only [upd_ne, regs0, retK_ret, resL_tmp, upd_eq, resL_nil1, opH_sv, ln32]
    rw [make_eq slotC ⟨0, 0, 0⟩ (by decide) un32 eoslot (by kernel_rfl) (by omega) (by omega)]
    intro x hx gx
    have d1 := d.set (o := .cells (slotC.rows (List.replicate L.length (⟨0, 0, 0⟩ : Slot))).toArray 35 (0, 0)) gx
    rw [copy_row slotC (by decide) un32 eoslot (L := L) set_self (by simp) (sv.up (le_set hx) d1) hL0 rfl, set_set]
    try simp -implicitDefEqProofs (maxSteps := 2000000) (disch := first | with_reducible exact Nat.ne_of_beq_eq_false rfl | exact oneCell_int | exact oneCell_bool | omega | rfl | (simp; done) | fail) only [opH_sv, opH_su, pureW_sv, opH_nil, pureW_nil, pick_t, pick_f, pick_tp, pick_fp, gd_tt, gd_ft, gd_tf, gd_ff, box_new, regs0, regs1, regs2, regs3, regs4, regs5, regs6, cells_agg, cells_int, cells_bool, cells_ptr, cells_slice, cells_string, cells_func, cells_nilFunc, cells_map, retK_ret, retK_normal, resL_tmp, resL_cell, resL_nil0, resL_nil1, resL_nil2, resL_nil3, resC_ptr, ex0, ex1, ex2, ex0p, ex1p, ex2p, HL.cond_true, HL.cond_false, thenK_normal, thenK_ret, thenK_exit, blockK_normal, blockK_ret, blockK_exit, scopeK_normal, scopeK_ret, scopeK_exit, wpH_pure, bin_add, bin_sub, bin_mul, bin_lss, bin_leq, bin_gtr, bin_geq, bin_quo, bin_rem, bin_quop, bin_remp, wrap_in, bin_addp, bin_subp, bin_mulp, bin_lssp, bin_leqp, bin_gtrp, bin_geqp, un_not, un_notp, un_neg, eq_int, ne_int, eq_intp, ne_intp, callV_fn, add_mk, upd_eq, upd_ne, cell_set_self, Nat.zero_add, Nat.add_zero, Option.some.injEq, exists_eq_left', List.getElem?_cons_succ, List.getElem?_cons_zero, true_and, and_true, bne_self_eq_false, beq_self_eq_true, Bool.not_true, Bool.not_false, Bool.and_true, Bool.and_self, Bool.and_false, Bool.true_and, List.length_cons, List.length_nil, ne_eq, not_false_eq_true, Nat.reduceAdd, Nat.reduceMul, if_true, if_false, oneCell_int, oneCell_bool, oneCell_ptr, oneCell_slice, oneCell_string, oneCell_func, oneCell_map, Int.toNat_natCast, List.set_cons_zero, List.set_cons_succ, Nat.lt_irrefl, Nat.zero_lt_succ, Nat.succ_lt_succ_iff, fa30_0, fa30_0p, fa30_1, fa30_1p, fa30_2, fa30_2p, fa35_0, fa35_0p, fa35_1, fa35_1p, fa35_2, fa35_2p, fa51_0, fa51_0p, fa51_1, fa51_1p, fa51_2, fa51_2p, fa51_3, fa51_3p, fa51_4, fa51_4p, fa51_5, fa51_5p, fa68_0, fa68_0p, fa76_0, fa76_0p, fa88_0, fa88_0p, fa88_1, fa88_1p, fa88_2, fa88_2p, fa90_0, fa90_0p, fa90_1, fa90_1p, ld3, ld3p, ld22, ld22p, ld23, ld23p, ld30, ld30p, ld32, ld32p, ld35, ld35p, ld39, ld39p, ld51, ld51p, ld58, ld58p, ld66, ld66p, st3s, st30w, st32s, st35w, st39s, st51w, st58w, st88w, st90w, ix22, ix22p, ix32, ix32p, ix39, ix39p, ix46, ix46p, ix64, ix64p, ix66, ix66p, ix78, ix78p, ix81, ix81p, ln22, ln22p, ln32, ln32p, ln39, ln39p, ln46, ln46p, ln64, ln64p, ln66, ln66p, ln78, ln78p, ln81, ln81p, al30, al35, al39, al56, al58, cf12, cf13, cf14, cf15, cf16, cf17, cf18, cf19, cf20, cf21, cf22, cf23, cf24, cf25, cf26, cf27, cf28, cf29, cf30, cf31, cf32, cf33, cf34, cf35, cf36, cf37, cf38, cf39, cf40, cf41, cf42, cf43, cf44, cf45, cf46, cf47, cf48, cf49, cf50, cf51, cf52, cf53, cf54, cf55, cf56, cf57, cf58, cf60, cf61, cf62, cf63, cf64, bd30_0_1_2, bd30_0_1_2p, bd30_1, bd30_1p, bd30_1_2, bd30_1_2p, bd35_0, bd35_0p, bd35_0_1_2, bd35_0_1_2p, bd58_0_1, bd58_0_1p, bd68_0, bd68_0p, bd76_0, bd76_0p, bd88_0_1_2, bd88_0_1_2p, bd90_0_1, bd90_0_1p, bs22_1_0, bs32_1_0, bs39_1_0, bs78_1_0, bs81_1_0, eq4, eq4p, eq23n, eq23np, eq23s, eq23sp, eq37n, eq37np, eq37s, eq37sp, ne4, ne4p, ne23n, ne23np, ne23s, ne23sp, ne35, ne35p]
    exact ⟨noHp.set x _, ⟨some x, _, [], rfl, by rw [set_self, List.append_nil], by rw [List.append_nil, slotC.rows_length]⟩, Sep.one.new hx, d.set gx⟩

theorem slots_spec {G h : Hp} {tp : Nat} {T : List (List Slot)} {c : Int} (ts : TSee G h tp T) (hT : ∀ L ∈ T, L.length ≤ 100000) : HCalls Try.prog G 16 #[.pointer (some ⟨tp, 0, none⟩), .int .i64 c] h (fun u h' => ∃ b, Slc slotC 35 b u (rowAt T c) ∧ Sep [b, h] h' ∧ Dis G h') := by
  refine HCalls.assume fun d => enter16 (by simp) ?_
  unfold S16
  try simp -implicitDefEqProofs (maxSteps := 2000000) (disch := first | with_reducible exact Nat.ne_of_beq_eq_false rfl | exact oneCell_int | exact oneCell_bool | omega | rfl | (simp; done) | fail) only [regs0, regs1, retK_ret, resL_tmp, upd_eq, resL_nil1, opH_sv, cf30]
  refine (has_spec ts).mono ?_
  rintro _ _ ⟨rfl, rfl⟩
  cases hc : hasB T c with
  | false =>
    try simp -implicitDefEqProofs (maxSteps := 2000000) (disch := first | with_reducible exact Nat.ne_of_beq_eq_false rfl | exact oneCell_int | exact oneCell_bool | omega | rfl | (simp; done) | fail) only [un_not, Bool.not_false, HL.cond_true]
    have : rowAt T c = [] := by
      unfold rowAt
      split
      · rename_i h0
        have : ¬ c < T.length := fun h1 => by rw [hasB_iff.2 ⟨h0, h1⟩] at hc; cases hc
        rw [List.getD_eq_getElem?_getD, List.getElem?_eq_none (by omega)]
        rfl
      · rfl
    rw [this]
    exact ⟨noHp, Slc.nil, Sep.one.none, d⟩
  | true =>
    obtain ⟨L, hL⟩ := hasB_get hc
    obtain ⟨h0, h1⟩ := hasB_iff.1 hc
    have er : rowAt T c = L := by unfold rowAt; rw [if_pos h0, List.getD_eq_getElem?_getD, hL]; rfl
    rw [er]
    obtain ⟨rb, e1, e2⟩ := ts
    obtain ⟨a, cap, e3, e4⟩ := e2 _ _ hL
    try simp -implicitDefEqProofs (maxSteps := 2000000) (disch := first | with_reducible exact Nat.ne_of_beq_eq_false rfl | exact oneCell_int | exact oneCell_bool | omega | rfl | (simp; done) | fail) only [un_not, Bool.not_true, HL.cond_false]
    unfold S16_k1
    try simp -implicitDefEqProofs (maxSteps := 2000000) (disch := first | with_reducible exact Nat.ne_of_beq_eq_false rfl | exact oneCell_int | exact oneCell_bool | omega | rfl | (simp; done) | fail) only [upd_ne, regs0, regs1, retK_ret, resL_tmp, upd_eq, resL_nil1, cf33, opH_sv, opH_nil, fa68_0, add_mk, Nat.add_zero, ld66, e1, Option.some.injEq, exists_eq_left', ix66 h0 h1, Nat.mul_one, Nat.zero_add, ld32, e3]
    refine (list_spec e4 (hT L (List.mem_of_getElem? hL))).mono ?_
    rintro u h' ⟨b, o, s, d'⟩
    try simp -implicitDefEqProofs (maxSteps := 2000000) (disch := first | with_reducible exact Nat.ne_of_beq_eq_false rfl | exact oneCell_int | exact oneCell_bool | omega | rfl | (simp; done) | fail) only [opH_sv, opH_su, pureW_sv, opH_nil, pureW_nil, pick_t, pick_f, pick_tp, pick_fp, gd_tt, gd_ft, gd_tf, gd_ff, box_new, regs0, regs1, regs2, regs3, regs4, regs5, regs6, cells_agg, cells_int, cells_bool, cells_ptr, cells_slice, cells_string, cells_func, cells_nilFunc, cells_map, retK_ret, retK_normal, resL_tmp, resL_cell, resL_nil0, resL_nil1, resL_nil2, resL_nil3, resC_ptr, ex0, ex1, ex2, ex0p, ex1p, ex2p, HL.cond_true, HL.cond_false, thenK_normal, thenK_ret, thenK_exit, blockK_normal, blockK_ret, blockK_exit, scopeK_normal, scopeK_ret, scopeK_exit, wpH_pure, bin_add, bin_sub, bin_mul, bin_lss, bin_leq, bin_gtr, bin_geq, bin_quo, bin_rem, bin_quop, bin_remp, wrap_in, bin_addp, bin_subp, bin_mulp, bin_lssp, bin_leqp, bin_gtrp, bin_geqp, un_not, un_notp, un_neg, eq_int, ne_int, eq_intp, ne_intp, callV_fn, add_mk, upd_eq, upd_ne, cell_set_self, Nat.zero_add, Nat.add_zero, Option.some.injEq, exists_eq_left', List.getElem?_cons_succ, List.getElem?_cons_zero, true_and, and_true, bne_self_eq_false, beq_self_eq_true, Bool.not_true, Bool.not_false, Bool.and_true, Bool.and_self, Bool.and_false, Bool.true_and, List.length_cons, List.length_nil, ne_eq, not_false_eq_true, Nat.reduceAdd, Nat.reduceMul, if_true, if_false, oneCell_int, oneCell_bool, oneCell_ptr, oneCell_slice, oneCell_string, oneCell_func, oneCell_map, Int.toNat_natCast, List.set_cons_zero, List.set_cons_succ, Nat.lt_irrefl, Nat.zero_lt_succ, Nat.succ_lt_succ_iff, fa30_0, fa30_0p, fa30_1, fa30_1p, fa30_2, fa30_2p, fa35_0, fa35_0p, fa35_1, fa35_1p, fa35_2, fa35_2p, fa51_0, fa51_0p, fa51_1, fa51_1p, fa51_2, fa51_2p, fa51_3, fa51_3p, fa51_4, fa51_4p, fa51_5, fa51_5p, fa68_0, fa68_0p, fa76_0, fa76_0p, fa88_0, fa88_0p, fa88_1, fa88_1p, fa88_2, fa88_2p, fa90_0, fa90_0p, fa90_1, fa90_1p, ld3, ld3p, ld22, ld22p, ld23, ld23p, ld30, ld30p, ld32, ld32p, ld35, ld35p, ld39, ld39p, ld51, ld51p, ld58, ld58p, ld66, ld66p, st3s, st30w, st32s, st35w, st39s, st51w, st58w, st88w, st90w, ix22, ix22p, ix32, ix32p, ix39, ix39p, ix46, ix46p, ix64, ix64p, ix66, ix66p, ix78, ix78p, ix81, ix81p, ln22, ln22p, ln32, ln32p, ln39, ln39p, ln46, ln46p, ln64, ln64p, ln66, ln66p, ln78, ln78p, ln81, ln81p, al30, al35, al39, al56, al58, cf12, cf13, cf14, cf15, cf16, cf17, cf18, cf19, cf20, cf21, cf22, cf23, cf24, cf25, cf26, cf27, cf28, cf29, cf30, cf31, cf32, cf33, cf34, cf35, cf36, cf37, cf38, cf39, cf40, cf41, cf42, cf43, cf44, cf45, cf46, cf47, cf48, cf49, cf50, cf51, cf52, cf53, cf54, cf55, cf56, cf57, cf58, cf60, cf61, cf62, cf63, cf64, bd30_0_1_2, bd30_0_1_2p, bd30_1, bd30_1p, bd30_1_2, bd30_1_2p, bd35_0, bd35_0p, bd35_0_1_2, bd35_0_1_2p, bd58_0_1, bd58_0_1p, bd68_0, bd68_0p, bd76_0, bd76_0p, bd88_0_1_2, bd88_0_1_2p, bd90_0_1, bd90_0_1p, bs22_1_0, bs32_1_0, bs39_1_0, bs78_1_0, bs81_1_0, eq4, eq4p, eq23n, eq23np, eq23s, eq23sp, eq37n, eq37np, eq37s, eq37sp, ne4, ne4p, ne23n, ne23np, ne23s, ne23sp, ne35, ne35p]
    exact ⟨b, o, s, d'⟩

theorem first_spec {G h : Hp} {tp : Nat} {T : List (List Slot)} {c : Int} (ts : TSee G h tp T) : HCalls Try.prog G 29 #[.pointer (some ⟨tp, 0, none⟩), .int .i64 c] h (fun u h' => u = (match rowAt T c with | [] => .tuple #[.int .i64 0, .bool false] | s :: _ => .tuple #[.int .i64 s.r, .bool true]) ∧ h' = h) := by
  refine HCalls.assume fun d => enter29 (by simp) ?_
  unfold S29
  try simp -implicitDefEqProofs (maxSteps := 2000000) (disch := first | with_reducible exact Nat.ne_of_beq_eq_false rfl | exact oneCell_int | exact oneCell_bool | omega | rfl | (simp; done) | fail) only [regs0, regs1, retK_ret, resL_tmp, upd_ne, upd_eq, resL_nil2, opH_sv, cf30]
  refine (has_spec ts).mono ?_
  rintro _ _ ⟨rfl, rfl⟩
  cases hc : hasB T c with
  | false =>
    try simp -implicitDefEqProofs (maxSteps := 2000000) (disch := first | with_reducible exact Nat.ne_of_beq_eq_false rfl | exact oneCell_int | exact oneCell_bool | omega | rfl | (simp; done) | fail) only [un_not, Bool.not_false, pick_t, HL.cond_true, gd_tf, and_true]
    have : rowAt T c = [] := by
      unfold rowAt
      split
      · rename_i h0
        have : ¬ c < T.length := fun h1 => by rw [hasB_iff.2 ⟨h0, h1⟩] at hc; cases hc
        rw [List.getD_eq_getElem?_getD, List.getElem?_eq_none (by omega)]
        rfl
      · rfl
    rw [this]
  | true =>
    obtain ⟨L, hL⟩ := hasB_get hc
    obtain ⟨h0, h1⟩ := hasB_iff.1 hc
    have er : rowAt T c = L := by unfold rowAt; rw [if_pos h0, List.getD_eq_getElem?_getD, hL]; rfl
    rw [er]
    obtain ⟨rb, e1, e2⟩ := ts
    obtain ⟨a, cap, e3, e4⟩ := e2 _ _ hL
    try simp -implicitDefEqProofs (maxSteps := 2000000) (disch := first | with_reducible exact Nat.ne_of_beq_eq_false rfl | exact oneCell_int | exact oneCell_bool | omega | rfl | (simp; done) | fail) only [un_not, Bool.not_true, pick_f, gd_ff, opH_sv, opH_nil, fa68_0, add_mk, Nat.add_zero, ld66, e1, Option.some.injEq, exists_eq_left', ix66 h0 h1, Nat.mul_one, Nat.zero_add, ld32, e3, ln32, eq_int, and_true]
    cases L with
    | nil => try simp -implicitDefEqProofs (maxSteps := 2000000) (disch := first | with_reducible exact Nat.ne_of_beq_eq_false rfl | exact oneCell_int | exact oneCell_bool | omega | rfl | (simp; done) | fail) only [List.length_nil, show (((0 : Nat) : Int) == 0) = true from rfl, HL.cond_true]
    | cons s L =>
      have hne : ((L.length + 1 : Nat) : Int) ≠ 0 := by omega
      try simp -implicitDefEqProofs (maxSteps := 2000000) (disch := first | with_reducible exact Nat.ne_of_beq_eq_false rfl | exact oneCell_int | exact oneCell_bool | omega | rfl | (simp; done) | fail) only [List.length_cons, show (((L.length + 1 : Nat) : Int) == 0) = false by simpa using hne, HL.cond_false]
      unfold S29_k1
      obtain ⟨b, o, rfl, z0, z1, z2⟩ := Sees.slot e4 (i := 0) rfl
      rw [Nat.zero_mul, Nat.add_zero] at z0 z1 z2
      have hp : (0 : Int) < ((L.length + 1 : Nat) : Int) := by omega
      rw [List.length_cons] at e3
      simp -implicitDefEqProofs (maxSteps := 2000000) (disch := first | with_reducible exact Nat.ne_of_beq_eq_false rfl | exact oneCell_int | exact oneCell_bool | omega | rfl | (simp; done) | fail) only [upd_ne, regs0, regs1, retK_ret, resL_tmp, upd_eq, resL_nil2, opH_sv, opH_nil, fa68_0, add_mk, Nat.add_zero, ld66, e1, Option.some.injEq, exists_eq_left', ix66 h0 h1, Nat.mul_one, Nat.zero_add, ld32, e3, ix32 (Int.le_refl 0) hp, show (0 : Int).toNat * 3 = 0 from rfl, fa35_2, ld3, z2, and_true]

end Go.Proofs.Ytbloobepmgmbgaa
