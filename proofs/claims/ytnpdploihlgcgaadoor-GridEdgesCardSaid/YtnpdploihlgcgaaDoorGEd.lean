/- GridEdges: the walk. -/
import Derived.Test.YtnpdploihlgcgaaDoorGMa
set_option linter.unusedSimpArgs false
set_option linter.unusedVariables false
set_option maxRecDepth 100000
namespace Go.Proofs.YtnpdploihlgcgaaDoor
open Go Go.HL

def topsL : List Int := [16, 16, 8, 1000, 1000, 1000, 1000, 1000, 1000, 16, 1048576]
def offsL : List Nat := [0, 1, 2, 7, 8, 9, 10, 11, 13, 12, 14]
def edgeV (T : Int) (low more : Bool) : Int := match low, more with
  | true, true => 0
  | true, false => 1
  | false, true => T + 1
  | false, false => T
def edgeC (o : Nat) (v : Int) : Conf := match o with
  | 0 => { C0 with w := v }
  | 1 => { C0 with h := v }
  | 2 => { C0 with ht := v }
  | 7 => { C0 with un := v }
  | 8 => { C0 with ac := v }
  | 9 => { C0 with sp := v }
  | 10 => { C0 with tu := v }
  | 11 => { C0 with ho := v }
  | 12 => { C0 with qu := v }
  | 13 => { C0 with re := v }
  | _ => { C0 with bu := v }

theorem edge_numbers : ∀ k, k < 11 → ∀ T o, topsL[k]? = some T → offsL[k]? = some o → ∀ low more : Bool, numbersB (edgeC o (edgeV T low more)) = !more := by
  intro k hk T o hT ho low more
  match k, hk, hT, ho with
  | 0, _, hT, ho => cases hT; cases ho; cases low <;> cases more <;> rfl
  | 1, _, hT, ho => cases hT; cases ho; cases low <;> cases more <;> rfl
  | 2, _, hT, ho => cases hT; cases ho; cases low <;> cases more <;> rfl
  | 3, _, hT, ho => cases hT; cases ho; cases low <;> cases more <;> rfl
  | 4, _, hT, ho => cases hT; cases ho; cases low <;> cases more <;> rfl
  | 5, _, hT, ho => cases hT; cases ho; cases low <;> cases more <;> rfl
  | 6, _, hT, ho => cases hT; cases ho; cases low <;> cases more <;> rfl
  | 7, _, hT, ho => cases hT; cases ho; cases low <;> cases more <;> rfl
  | 8, _, hT, ho => cases hT; cases ho; cases low <;> cases more <;> rfl
  | 9, _, hT, ho => cases hT; cases ho; cases low <;> cases more <;> rfl
  | 10, _, hT, ho => cases hT; cases ho; cases low <;> cases more <;> rfl
  | n + 11, h, _, _ => exact absurd h (by omega)

theorem edge_lists (o : Nat) (v : Int) : (edgeC o v).bl = [] ∧ (edgeC o v).po = [] ∧ (edgeC o v).ro = [] ∧ (edgeC o v).st = [] := by
  unfold edgeC
  split <;> exact ⟨rfl, rfl, rfl, rfl⟩

theorem edge_cells {k o : Nat} (ho : offsL[k]? = some o) (v : Int) : Obj.cells (([Value.int .i64 2, .int .i64 2, .int .i64 1, .slice none 0 0, .slice none 0 0, .slice none 0 0, .slice none 0 0, .int .i64 1, .int .i64 1, .int .i64 1, .int .i64 1, .int .i64 1, .int .i64 1, .int .i64 1, .int .i64 1, .bool false].set o (.int .i64 v)).toArray) 26 (0, 0) = confO (edgeC o v) (.slice none 0 0) (.slice none 0 0) (.slice none 0 0) (.slice none 0 0) ∧ o < 16 := by
  match k, ho with
  | 0, ho => cases ho; exact ⟨rfl, by decide⟩
  | 1, ho => cases ho; exact ⟨rfl, by decide⟩
  | 2, ho => cases ho; exact ⟨rfl, by decide⟩
  | 3, ho => cases ho; exact ⟨rfl, by decide⟩
  | 4, ho => cases ho; exact ⟨rfl, by decide⟩
  | 5, ho => cases ho; exact ⟨rfl, by decide⟩
  | 6, ho => cases ho; exact ⟨rfl, by decide⟩
  | 7, ho => cases ho; exact ⟨rfl, by decide⟩
  | 8, ho => cases ho; exact ⟨rfl, by decide⟩
  | 9, ho => cases ho; exact ⟨rfl, by decide⟩
  | 10, ho => cases ho; exact ⟨rfl, by decide⟩
  | n + 11, ho => simp [offsL] at ho

theorem ptrs_get {k o x : Nat} (ho : offsL[k]? = some o) : [Value.pointer (some ⟨x, 0, none⟩), .pointer (some ⟨x, 1, none⟩), .pointer (some ⟨x, 2, none⟩), .pointer (some ⟨x, 7, none⟩), .pointer (some ⟨x, 8, none⟩), .pointer (some ⟨x, 9, none⟩), .pointer (some ⟨x, 10, none⟩), .pointer (some ⟨x, 11, none⟩), .pointer (some ⟨x, 13, none⟩), .pointer (some ⟨x, 12, none⟩), .pointer (some ⟨x, 14, none⟩)][k]? = some (.pointer (some ⟨x, o, none⟩)) := by
  rw [show [Value.pointer (some ⟨x, 0, none⟩), .pointer (some ⟨x, 1, none⟩), .pointer (some ⟨x, 2, none⟩), .pointer (some ⟨x, 7, none⟩), .pointer (some ⟨x, 8, none⟩), .pointer (some ⟨x, 9, none⟩), .pointer (some ⟨x, 10, none⟩), .pointer (some ⟨x, 11, none⟩), .pointer (some ⟨x, 13, none⟩), .pointer (some ⟨x, 12, none⟩), .pointer (some ⟨x, 14, none⟩)] = offsL.map fun o => Value.pointer (some ⟨x, o, none⟩) from rfl, List.getElem?_map, ho]
  rfl
theorem tops_get {k : Nat} {T : Int} (hT : topsL[k]? = some T) : [Value.int .i64 16, .int .i64 16, .int .i64 8, .int .i64 1000, .int .i64 1000, .int .i64 1000, .int .i64 1000, .int .i64 1000, .int .i64 1000, .int .i64 16, .int .i64 1048576][k]? = some (.int .i64 T) := by
  rw [show [Value.int .i64 16, .int .i64 16, .int .i64 8, .int .i64 1000, .int .i64 1000, .int .i64 1000, .int .i64 1000, .int .i64 1000, .int .i64 1000, .int .i64 16, .int .i64 1048576] = topsL.map fun o => Value.int .i64 o from rfl, List.getElem?_map, hT]
  rfl
theorem tops_bd {k : Nat} {T : Int} (hT : topsL[k]? = some T) : 0 ≤ T ∧ T ≤ 1048576 := by
  have := List.mem_of_getElem? hT
  simp only [topsL, List.mem_cons, List.not_mem_nil, or_false] at this
  omega

set_option maxHeartbeats 2000000 in
theorem edges_walk {G : Hp} {which : Int} {low more : Bool} (st : Steps G) (hw : Bd which) : HCalls Tryd.prog G 6 #[.int .i64 which, .bool low, .bool more] noHp (fun u _ => u = .bool true) := by
  refine HCalls.assume fun d => enter6 (by simp) ?_
  unfold S6
  simp -implicitDefEqProofs (maxSteps := 2000000) (disch := first | with_reducible exact Nat.ne_of_beq_eq_false rfl | exact oneCell_int | exact oneCell_bool | omega | rfl | (simp; done) | fail) only [regs0, regs1, opH_sv, cf30, bs57_11_0_1_2_3_4_5_6_7_8_9_10, opH_su, al26, fa26_14, add_mk, Nat.zero_add, fa26_12, fa26_13, fa26_11, fa26_10, fa26_9, fa26_8, fa26_7, fa26_2, fa26_1, fa26_0, Nat.add_zero, bs56_11_0_1_2_3_4_5_6_7_8_9_10, ln56, cf29]
  refine conf_spec.mono ?_
  rintro _ h0 ⟨rfl, rfl⟩
  try simp -implicitDefEqProofs (maxSteps := 2000000) (disch := first | with_reducible exact Nat.ne_of_beq_eq_false rfl | exact oneCell_int | exact oneCell_bool | omega | rfl | (simp; done) | fail) only [st26w]
  intro x hx gx
  try simp -implicitDefEqProofs (maxSteps := 2000000) (disch := first | with_reducible exact Nat.ne_of_beq_eq_false rfl | exact oneCell_int | exact oneCell_bool | omega | rfl | (simp; done) | fail) only [C0, List.length_nil]
  intro y hy gy z hz gz
  generalize e1 : Hp.set noHp x _ = h1 at hy hz ⊢
  obtain ⟨l1, d1, b1⟩ := boxed e1 hx d gx
  generalize e2 : Hp.set h1 y _ = h2 at hz ⊢
  obtain ⟨l2, d2, b2⟩ := boxed e2 hy d1 gy
  generalize e3 : Hp.set h2 z _ = h3
  obtain ⟨l3, d3, b3⟩ := boxed e3 hz d2 gz
  have bx := l3 _ _ (l2 _ _ b1)
  have cy : ∀ j, cellIn G h3 ⟨y, j, none⟩ = _ := fun j => cell_of (look_own (l3 _ _ b2))
  have cz : ∀ j, cellIn G h3 ⟨z, j, none⟩ = _ := fun j => cell_of (look_own b3)
  refine (place_spec (a := which) (n := ((11 : Nat) : Int)) hw (by decide) (by decide)).mono ?_
  rintro _ h3 ⟨rfl, rfl⟩
  obtain ⟨k, hk, ek⟩ : ∃ k : Nat, k < 11 ∧ which % ((11 : Nat) : Int) = (k : Int) := ⟨(which % 11).toNat, by omega, by omega⟩
  rw [ek]
  obtain ⟨T, hT⟩ : ∃ T, topsL[k]? = some T := ⟨_, List.getElem?_eq_getElem (show k < topsL.length from hk)⟩
  obtain ⟨o, ho⟩ : ∃ o, offsL[k]? = some o := ⟨_, List.getElem?_eq_getElem (show k < offsL.length from hk)⟩
  obtain ⟨T1, T2⟩ := tops_bd hT
  have hkk : (k : Int) < (11 : Nat) := by omega
  try simp -implicitDefEqProofs (maxSteps := 2000000) (disch := first | with_reducible exact Nat.ne_of_beq_eq_false rfl | exact oneCell_int | exact oneCell_bool | omega | rfl | (simp; done) | fail) only [ix57 (Int.natCast_nonneg k) hkk, Int.toNat_natCast, Nat.mul_one, add_mk, Nat.zero_add, ld3, cz, tops_get hT, Option.some.injEq, exists_eq_left']
  have k2 : ∀ r : Rg, r 2 = .bool more → r 7 = .pointer (some ⟨x, 0, none⟩) → r 8 = .slice (some ⟨y, 0, none⟩) 11 11 → r 10 = .int .i64 k → r 11 = .int .i64 (edgeV T low more) → S6_k2 G (retK Tryd.prog G [.tmp 6] fun u _ => u = .bool true) r h3 := by
    intro r g2 g7 g8 g10 g11
    unfold S6_k2
    simp -implicitDefEqProofs (maxSteps := 2000000) (disch := first | with_reducible exact Nat.ne_of_beq_eq_false rfl | exact oneCell_int | exact oneCell_bool | omega | rfl | (simp; done) | fail) only [g8, g10, g11, g7, g2, retK_ret, resL_tmp, upd_eq, resL_nil1, opH_sv, un_not, cf28, ld26, add_mk, Nat.add_zero, Nat.zero_add, opH_su, ix56 (Int.natCast_nonneg k) hkk, Int.toNat_natCast, Nat.mul_one, ld55, cy, ptrs_get ho, Option.some.injEq, exists_eq_left', opH_nil]
    obtain ⟨ec, ho16⟩ := edge_cells ho (edgeV T low more)
    rw [store1_eq sz3 rfl bx (by simpa using ho16), ec]
    have d4 : Dis G (h3.set x (confO (edgeC o (edgeV T low more)) (.slice none 0 0) (.slice none 0 0) (.slice none 0 0) (.slice none 0 0))) := d3.set gx
    try simp -implicitDefEqProofs (maxSteps := 2000000) (disch := first | with_reducible exact Nat.ne_of_beq_eq_false rfl | exact oneCell_int | exact oneCell_bool | omega | rfl | (simp; done) | fail) only [cell_set_self, List.getElem?_cons_zero, Option.some.injEq, List.getElem?_cons_succ, exists_eq_left']
    generalize Hp.set h3 x _ = h4 at d4 ⊢
    obtain ⟨n1, n2, n3, n4⟩ := edge_lists o (edgeV T low more)
    have ca : CA G h4 (edgeC o (edgeV T low more)) none 0 none 0 none 0 none 0 := ca_nil n1 n2 n3 n4
    have cv := ca.cv
    simp only [confV, n1, n2, n3, n4, List.length_nil] at cv
    refine (gmay_spec cv st (by rw [n3]; intro p hp; cases hp) (by rw [n4]; decide)).mono ?_
    rintro _ h4 ⟨⟨b, rfl, hb⟩, rfl⟩
    obtain rfl : b = !more := by
      rw [Bool.eq_iff_iff, hb, made_may, may_nil n1 n2 n3 n4, edge_numbers k hk T o hT ho low more]
    try simp -implicitDefEqProofs (maxSteps := 2000000) (disch := first | with_reducible exact Nat.ne_of_beq_eq_false rfl | exact oneCell_int | exact oneCell_bool | omega | rfl | (simp; done) | fail) only [eq4, beq_self_eq_true, pick_t, gd_tt, cf17]
    refine (awake_spec st).mono ?_
    rintro _ _ ⟨rfl, rfl⟩
    try simp -implicitDefEqProofs (maxSteps := 2000000) (disch := first | with_reducible exact Nat.ne_of_beq_eq_false rfl | exact oneCell_int | exact oneCell_bool | omega | rfl | (simp; done) | fail) only []
  cases low <;> cases more
  all_goals
    try simp -implicitDefEqProofs (maxSteps := 2000000) (disch := first | with_reducible exact Nat.ne_of_beq_eq_false rfl | exact oneCell_int | exact oneCell_bool | omega | rfl | (simp; done) | fail) only [HL.cond_false, HL.cond_true]
    unfold S6_k1
    try simp -implicitDefEqProofs (maxSteps := 2000000) (disch := first | with_reducible exact Nat.ne_of_beq_eq_false rfl | exact oneCell_int | exact oneCell_bool | omega | rfl | (simp; done) | fail) only [upd_ne, regs2, upd_eq, opH_sv, bin_add, wrap_in, HL.cond_false, HL.cond_true]
    exact k2 _ (by simp -implicitDefEqProofs (maxSteps := 2000000) (disch := first | with_reducible exact Nat.ne_of_beq_eq_false rfl | exact oneCell_int | exact oneCell_bool | omega | rfl | (simp; done) | fail) only [upd_ne, regs2]) (by simp -implicitDefEqProofs (maxSteps := 2000000) (disch := first | with_reducible exact Nat.ne_of_beq_eq_false rfl | exact oneCell_int | exact oneCell_bool | omega | rfl | (simp; done) | fail) only [upd_ne, upd_eq]) (by simp -implicitDefEqProofs (maxSteps := 2000000) (disch := first | with_reducible exact Nat.ne_of_beq_eq_false rfl | exact oneCell_int | exact oneCell_bool | omega | rfl | (simp; done) | fail) only [upd_ne, upd_eq] <;> rfl) (by simp -implicitDefEqProofs (maxSteps := 2000000) (disch := first | with_reducible exact Nat.ne_of_beq_eq_false rfl | exact oneCell_int | exact oneCell_bool | omega | rfl | (simp; done) | fail) only [upd_ne, upd_eq]) (by simp -implicitDefEqProofs (maxSteps := 2000000) (disch := first | with_reducible exact Nat.ne_of_beq_eq_false rfl | exact oneCell_int | exact oneCell_bool | omega | rfl | (simp; done) | fail) only [upd_ne, upd_eq, edgeV] <;> rfl)

end Go.Proofs.YtnpdploihlgcgaaDoor
