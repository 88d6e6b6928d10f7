/- A pose's moves gathered in a row. -/
import Derived.Test.YtnpdploihlgcgaaDoorGV
set_option linter.unusedSimpArgs false
set_option linter.unusedVariables false
set_option maxRecDepth 100000
namespace Go.Proofs.YtnpdploihlgcgaaDoor
open Go Go.HL

def moveC : Cod Move := ⟨11, fun m => [.int .i64 m.k, .int .i64 m.d, .int .i64 m.n, .int .i64 m.f.x, .int .i64 m.f.y, .bool m.f.d, .int .i64 m.t.x, .int .i64 m.t.y, .bool m.t.d, .int .i64 m.a, .int .i64 m.e], fun _ => rfl, fun _ v hv => by simp at hv; rcases hv with rfl | rfl | rfl | rfl | rfl | rfl | rfl | rfl | rfl | rfl | rfl <;> rfl⟩
theorem eomove : ElemOk Tryd.prog 46 moveC.n 88 := eo46

/-- What a gathering yield owns: the row so far, its box, the box of how many at most. -/
def GY {α : Type} (c : Cod α) (e T : TypeId) (most : Int) (lb mb : Nat) (L : List α) (a : Hp) : Prop := ∃ ip v, Slc c e ip v L ∧ Sep [ip, noHp.set lb (.cells #[v] T (0, 0)), noHp.set mb (.cells #[.int .i64 most] 3 (0, 0))] a
def GYb {α : Type} (c : Cod α) (e T : TypeId) (most : Int) (lb mb : Nat) (L : List α) (a : Hp) : Prop := GY c e T most lb mb L a ∧ (L.length : Int) < most

theorem store47 {G h : Hp} {lb : Nat} {z : Value} {a : Option Addr} {n c : Nat} {K : Unit → Hp → Prop} (hb : h lb = some (.cells #[z] 47 (0, 0))) :
    wpH Tryd.prog G (Instr.storeAt 47 (.pointer (some ⟨lb, 0, none⟩)) (.slice a n c)) h K = K () (h.set lb (.cells #[.slice a n c] 47 (0, 0))) := by
  rw [store1_eq sz47 rfl hb (by simp)]
  rfl

theorem yield60_spec {G a : Hp} {lb mb : Nat} {most : Int} {L : List Move} {m : Move} (y : GYb moveC 46 47 most lb mb L a) (hm : most ≤ 100000) :
    HCalls Tryd.prog G 60 #[moveV m, .pointer (some ⟨lb, 0, none⟩), .pointer (some ⟨mb, 0, none⟩)] a (fun v a' => v = .bool (lessC most (L ++ [m])) ∧ GY moveC 46 47 most lb mb (L ++ [m]) a') := by
  obtain ⟨⟨ip, v, o, s⟩, hlen⟩ := y
  refine HCalls.assume fun d => enter60 (by simp) ?_
  unfold S60
  simp -implicitDefEqProofs (maxSteps := 2000000) (disch := first | with_reducible exact Nat.ne_of_beq_eq_false rfl | exact oneCell_int | exact oneCell_bool | omega | rfl | (simp; done) | fail) only [regs0, regs1, regs2, retK_ret, resL_tmp, upd_eq, resL_nil1, opH_sv, ld3, ld47, opH_su, box_new, cells_agg, ld46, add_mk, Nat.add_zero, cell_set_self, List.getElem?_cons_zero, Option.some.injEq, Nat.zero_add, List.getElem?_cons_succ, bs47_1_0, exists_eq_left']
  intro x hx gx
  have s1 := s.past (o := moveO m) hx
  have d1 := d.set (o := moveO m) gx
  have hx1 : (a.set x (moveO m)) x = some (moveO m) := set_self
  generalize Hp.set a x _ = h1 at s1 d1 hx1 ⊢
  have clb : ∀ j, cellIn G h1 ⟨lb, j, none⟩ = _ := fun j => cell_of (look_own (s1.at 1 rfl set_self))
  have cx : ∀ j, cellIn G h1 ⟨x, j, none⟩ = _ := fun j => cell_of (look_own hx1)
  try simp -implicitDefEqProofs (maxSteps := 2000000) (disch := first | with_reducible exact Nat.ne_of_beq_eq_false rfl | exact oneCell_int | exact oneCell_bool | omega | rfl | (simp; done) | fail) only [clb, List.getElem?_cons_zero, Option.some.injEq, exists_eq_left']
  intro b hb gb
  have s2 := s1.past (o := moveO m) hb
  have d2 := d1.set (o := moveO m) gb
  have hb2 : (h1.set b (moveO m)) b = some (moveO m) := set_self
  generalize Hp.set h1 b _ = h2 at s2 d2 hb2 ⊢
  refine append_piece moveC (by decide) un47 eomove (by decide) (by decide) (M := [m]) s2 d2 o (Sees.row (c := moveC) (L := [m]) hb2 rfl (Nat.le_refl _)) (by simp; omega) fun v3 a3 h3 o3 s3 d3 => ?_
  obtain ⟨sa, cap, rfl, hcap⟩ := o3.len (by decide)
  have hlb3 := s3.at 1 rfl set_self
  try simp -implicitDefEqProofs (maxSteps := 2000000) (disch := first | with_reducible exact Nat.ne_of_beq_eq_false rfl | exact oneCell_int | exact oneCell_bool | omega | rfl | (simp; done) | fail) only [opH_sv, opH_su, pureW_sv, opH_nil, pureW_nil, pick_t, pick_f, pick_tp, pick_fp, gd_tt, gd_ft, gd_tf, gd_ff, box_new, regs0, regs1, regs2, regs3, regs4, regs5, regs6, cells_agg, cells_int, cells_bool, cells_ptr, cells_slice, cells_string, cells_func, cells_nilFunc, cells_map, retK_ret, retK_normal, resL_tmp, resL_cell, resL_nil0, resL_nil1, resL_nil2, resL_nil3, resC_ptr, ex0, ex1, ex2, ex0p, ex1p, ex2p, HL.cond_true, HL.cond_false, thenK_normal, thenK_ret, thenK_exit, blockK_normal, blockK_ret, blockK_exit, scopeK_normal, scopeK_ret, scopeK_exit, wpH_pure, bin_add, bin_sub, bin_mul, bin_lss, bin_leq, bin_gtr, bin_geq, bin_quo, bin_rem, bin_quop, bin_remp, wrap_in, bin_addp, bin_subp, bin_mulp, bin_lssp, bin_leqp, bin_gtrp, bin_geqp, un_not, un_notp, un_neg, eq_int, ne_int, eq_intp, ne_intp, callV_fn, add_mk, upd_eq, upd_ne, cell_set_self, Nat.zero_add, Nat.add_zero, Option.some.injEq, exists_eq_left', List.getElem?_cons_succ, List.getElem?_cons_zero, true_and, and_true, bne_self_eq_false, beq_self_eq_true, Bool.not_true, Bool.not_false, Bool.and_true, Bool.and_self, Bool.and_false, Bool.true_and, List.length_cons, List.length_nil, ne_eq, not_false_eq_true, Nat.reduceAdd, Nat.reduceMul, if_true, if_false, oneCell_int, oneCell_bool, oneCell_ptr, oneCell_slice, oneCell_string, oneCell_func, oneCell_map, Int.toNat_natCast, List.set_cons_zero, List.set_cons_succ, Nat.lt_irrefl, Nat.zero_lt_succ, Nat.succ_lt_succ_iff, fa26_0, fa26_0p, fa26_1, fa26_1p, fa26_10, fa26_10p, fa26_11, fa26_11p, fa26_12, fa26_12p, fa26_13, fa26_13p, fa26_14, fa26_14p, fa26_2, fa26_2p, fa26_3, fa26_3p, fa26_4, fa26_4p, fa26_5, fa26_5p, fa26_6, fa26_6p, fa26_7, fa26_7p, fa26_8, fa26_8p, fa26_9, fa26_9p, fa28_0, fa28_0p, fa28_1, fa28_1p, fa30_0, fa30_0p, fa30_1, fa30_1p, fa46_0, fa46_0p, fa46_1, fa46_1p, fa46_2, fa46_2p, fa46_3, fa46_3p, fa46_4, fa46_4p, fa46_5, fa46_5p, fa46_6, fa46_6p, fa86_0, fa86_0p, fa86_1, fa86_1p, fa86_2, fa86_2p, fa95_0, fa95_0p, fa95_1, fa95_1p, ld3, ld3p, ld4, ld4p, ld22, ld22p, ld23, ld23p, ld24, ld24p, ld26, ld26p, ld28, ld28p, ld30, ld30p, ld31, ld31p, ld46, ld46p, ld47, ld47p, ld52, ld52p, ld55, ld55p, ld57, ld57p, ld95, ld95p, st3s, st4s, st22s, st23s, st24s, st26w, st28w, st30w, st46w, st47s, st55s, st95w, ix22, ix22p, ix23, ix23p, ix24, ix24p, ix47, ix47p, ix56, ix56p, ix57, ix57p, ix101, ix101p, ln22, ln22p, ln23, ln23p, ln24, ln24p, ln47, ln47p, ln56, ln56p, ln57, ln57p, al22, al26, al28, al30, al46, al47, al95, cf14, cf15, cf16, cf17, cf18, cf19, cf20, cf21, cf22, cf23, cf24, cf25, cf26, cf27, cf28, cf29, cf30, cf31, cf32, cf33, cf34, cf35, cf36, cf37, cf38, cf39, cf40, cf41, cf42, cf43, cf44, cf45, cf46, cf47, cf48, cf49, cf50, cf51, cf52, cf53, cf54, cf55, cf56, cf57, cf58, cf59, cf60, cf61, cf62, cf63, cf64, cf65, cf66, cf67, cf68, cf69, cf70, cf71, cf72, cf73, cf74, cf75, cf76, cf77, cf78, cf79, cf80, bd26_0_1_2_7_8_9_10_11_12_13_14, bd26_0_1_2_7_8_9_10_11_12_13_14p, bd28_0, bd28_0p, bd28_0_1, bd28_0_1p, bd30_, bd30_p, bd30_0_1, bd30_0_1p, bd30_0, bd30_0p, bd46_0_1_2_3_4, bd46_0_1_2_3_4p, bd46_0_3_4, bd46_0_3_4p, bd86_0_1_2, bd86_0_1_2p, bd87_0_1_2_3, bd87_0_1_2_3p, bd95_0_1, bd95_0_1p, bs22_2_0_1, bs47_1_0, bs22_1_0, bs57_6_0_1_2_3_4_5, bs24_1_0, bs22_4_0_1_2_3, bs56_11_0_1_2_3_4_5_6_7_8_9_10, bs57_11_0_1_2_3_4_5_6_7_8_9_10, eq4, eq4p, eq28, eq28p, eq30, eq30p, eq31n, eq31np, eq31s, eq31sp, eq46, eq46p, eq50n, eq50np, eq50s, eq50sp, eq67n, eq67np, eq67s, eq67sp, ne4, ne4p, ne28, ne28p, ne30, ne30p, ne31n, ne31np, ne31s, ne31sp, ne46, ne46p]
  rw [store47 hlb3]
  have s4 := (s3.pick 1 rfl rfl).put (o := .cells #[.slice sa (L ++ [m]).length cap] 47 (0, 0)) set_self
  rw [set_set] at s4
  have clb4 : ∀ j, cellIn G (h3.set lb (.cells #[.slice sa (L ++ [m]).length cap] 47 (0, 0))) ⟨lb, j, none⟩ = _ := fun j => cell_of (look_own (s4.at 0 rfl set_self))
  have cmb4 : ∀ j, cellIn G (h3.set lb (.cells #[.slice sa (L ++ [m]).length cap] 47 (0, 0))) ⟨mb, j, none⟩ = _ := fun j => cell_of (look_own (s4.at 2 rfl set_self))
  try simp -implicitDefEqProofs (maxSteps := 2000000) (disch := first | with_reducible exact Nat.ne_of_beq_eq_false rfl | exact oneCell_int | exact oneCell_bool | omega | rfl | (simp; done) | fail) only [clb4, List.getElem?_cons_zero, Option.some.injEq, exists_eq_left', ln47, cmb4, bin_lss]
  refine ⟨?_, a3, _, o3, s4.swap⟩
  first | rfl | simp [lessC]

theorem gather_yl {G : Hp} {lb mb : Nat} {most : Int} (hm : most ≤ 100000) : Yl moveV G (.func (.func 60) #[] #[.pointer (some ⟨lb, 0, none⟩), .pointer (some ⟨mb, 0, none⟩)]) (GYb moveC 46 47 most lb mb) (GY moveC 46 47 most lb mb) (lessC most) := by
  intro L m a q h y s d
  simp -implicitDefEqProofs (maxSteps := 2000000) (disch := first | with_reducible exact Nat.ne_of_beq_eq_false rfl | exact oneCell_int | exact oneCell_bool | omega | rfl | (simp; done) | fail) only [callV_fn, cf60]
  refine (s.on (yield60_spec y hm)).mono ?_
  rintro v h' ⟨a', ⟨rfl, gy⟩, s', d'⟩
  refine ⟨a', rfl, s', d', ?_⟩
  split
  · rename_i hc
    exact ⟨gy, of_decide_eq_true hc⟩
  · exact gy

theorem moves26_spec {G h : Hp} {gp : Nat} {p : Pose} : HCalls Tryd.prog G 26 #[.pointer (some ⟨gp, 0, none⟩), poseV p] h (fun u h' => ∃ b1 b2, u = .func (.func 61) #[] #[.pointer (some ⟨b1, 0, none⟩), .pointer (some ⟨b2, 0, none⟩)] ∧ h.le h' ∧ Dis G h' ∧ h' b1 = some (.cells #[.pointer (some ⟨gp, 0, none⟩)] 31 (0, 0)) ∧ h' b2 = some (.cells #[.int .i64 p.x, .int .i64 p.y, .bool p.d] 30 (0, 0))) := by
  refine HCalls.assume fun d => enter26 (by simp) ?_
  unfold S26
  simp -implicitDefEqProofs (maxSteps := 2000000) (disch := first | with_reducible exact Nat.ne_of_beq_eq_false rfl | exact oneCell_int | exact oneCell_bool | omega | rfl | (simp; done) | fail) only [regs0, regs1, retK_ret, resL_tmp, upd_eq, resL_nil1, opH_sv, box_new, cells_agg, cells_ptr]
  intro x hx gx y hy gy
  exact ⟨x, y, rfl, (le_set hx).trans (le_set hy), (d.set gx).set gy, by rw [set_other (ne_of_set hy), set_self], set_self⟩

theorem moves25_spec {G h : Hp} {g : Value} {gb pb w k : Nat} {f : Nat → Nat → Int} {p : Pose} {most : Int} (hg : h gb = some (.cells #[g] 31 (0, 0))) (hpb : h pb = some (.cells #[.int .i64 p.x, .int .i64 p.y, .bool p.d] 30 (0, 0))) (gs : GS G h g w k f) (st : Steps G) (hp : PB p) (hm1 : 1 ≤ most) (hm2 : most ≤ 100000) :
    HCalls Tryd.prog G 25 #[.func (.func 61) #[] #[.pointer (some ⟨gb, 0, none⟩), .pointer (some ⟨pb, 0, none⟩)], .int .i64 most] h (fun u h' => ∃ ip, Slc moveC 46 ip u ((movesW w k f p).take most.toNat) ∧ Sep [ip, h] h' ∧ Dis G h') := by
  refine HCalls.assume fun d => enter25 (by simp) ?_
  unfold S25
  simp -implicitDefEqProofs (maxSteps := 2000000) (disch := first | with_reducible exact Nat.ne_of_beq_eq_false rfl | exact oneCell_int | exact oneCell_bool | omega | rfl | (simp; done) | fail) only [regs1, regs0, retK_ret, resL_tmp, upd_eq, resL_nil1, eq50s, pick_f, gd_ff, opH_sv, al47, box_new, cells_int, ld3]
  intro mb hmb gmb lb hlb glb
  have s2 := ((Sep.one (h := h)).new (o := .cells #[.int .i64 most] 3 (0, 0)) hmb).new (o := .cells #[.slice none 0 0] 47 (0, 0)) hlb
  have d2 := (d.set (o := .cells #[.int .i64 most] 3 (0, 0)) gmb).set (o := .cells #[.slice none 0 0] 47 (0, 0)) glb
  generalize Hp.set (Hp.set h mb _) lb _ = h2 at s2 d2 ⊢
  have cmb : ∀ j, cellIn G h2 ⟨mb, j, none⟩ = _ := fun j => cell_of (look_own (s2.at 1 rfl set_self))
  have e1 : decide (most < 1) = false := decide_eq_false (by omega)
  try simp -implicitDefEqProofs (maxSteps := 2000000) (disch := first | with_reducible exact Nat.ne_of_beq_eq_false rfl | exact oneCell_int | exact oneCell_bool | omega | rfl | (simp; done) | fail) only [cmb, List.getElem?_cons_zero, Option.some.injEq, exists_eq_left', bin_lss, e1, HL.cond_false]
  unfold S25_k1
  try simp -implicitDefEqProofs (maxSteps := 2000000) (disch := first | with_reducible exact Nat.ne_of_beq_eq_false rfl | exact oneCell_int | exact oneCell_bool | omega | rfl | (simp; done) | fail) only [upd_ne, regs0, upd_eq, callV_fn, retK_ret, resL_tmp, resL_nil1, opH_sv, ld47, cf61]
  obtain ⟨a, s3, sa⟩ := s2.none.pack3
  have l2 : h.le h2 := s2.in 2 rfl
  have ya : GYb moveC 46 47 most lb mb [] a := ⟨⟨noHp, _, Slc.nil, sa⟩, by simp; omega⟩
  refine (moves1_spec (p := p) ⟨_, _, _, rfl⟩ (gather_yl hm2) ya s3 hg hpb gs st hp).mono ?_
  rintro _ h4 ⟨a4, s4, d4, z4⟩
  rw [feed_less (by simp; omega)] at z4
  have gy : GY moveC 46 47 most lb mb ((movesW w k f p).take most.toNat) a4 := by
    unfold Fin at z4
    simp only [List.nil_append, List.length_nil, Nat.sub_zero] at z4
    split at z4
    · exact z4.1
    · exact z4
  obtain ⟨ip, v, o, t4⟩ := gy
  have s5 : Sep [h, ip, noHp.set lb (.cells #[v] 47 (0, 0)), noHp.set mb (.cells #[.int .i64 most] 3 (0, 0))] h4 := by
    have := s4.swap.split t4
    simpa using this
  have clb : ∀ j, cellIn G h4 ⟨lb, j, none⟩ = _ := fun j => cell_of (look_own (s5.at 2 rfl set_self))
  try simp -implicitDefEqProofs (maxSteps := 2000000) (disch := first | with_reducible exact Nat.ne_of_beq_eq_false rfl | exact oneCell_int | exact oneCell_bool | omega | rfl | (simp; done) | fail) only [clb, List.getElem?_cons_zero, Option.some.injEq, exists_eq_left']
  exact ⟨ip, o, (s5.take 2 rfl).swap, d4⟩

end Go.Proofs.YtnpdploihlgcgaaDoor
