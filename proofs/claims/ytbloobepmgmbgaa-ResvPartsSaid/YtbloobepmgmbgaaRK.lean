/- The document's example is awake; ResvExtends: the walk. -/
import Derived.Test.YtbloobepmgmbgaaRJ
set_option linter.unusedSimpArgs false
set_option linter.unusedVariables false
set_option maxRecDepth 100000
namespace Go.Proofs.Ytbloobepmgmbgaa
open Go Go.HL Go.Proofs.Resv

theorem goodT_rep {n : Nat} : GoodT (List.replicate n []) := fun L hL => by rw [(List.mem_replicate.1 hL).2]; exact Resv.Good.nil
theorem fewT_rep {n b : Nat} : Few (List.replicate n []) b := fun L hL => by rw [(List.mem_replicate.1 hL).2]; exact Nat.zero_le _
abbrev wantO (s : Want) : Obj := .cells #[.int .i64 s.c, .int .i64 s.f, .int .i64 s.t] 30 (0, 0)

/-- A claim of one want, written out. -/
theorem claim1_spec {G h a : Hp} {R : List Hp} {tp b x : Nat} {T : Tb} {r : Int} {w : Want} (tb : Tab 68 a tp T) (sp : HL.Sep (a :: R) h) (hx : h x = none) (g : GoodT T) (fw : Few T b) (hb : b + 1 ≤ 50000) :
    HCalls Try.prog G 15 #[.pointer (some ⟨tp, 0, none⟩), .int .i64 r, .slice (some ⟨x, 0, none⟩) 1 1] (h.set x (wantO w)) (fun u h' => u = .int .i64 (claimT T r [w]).1 ∧ ∃ a', Tab 68 a' tp (claimT T r [w]).2 ∧ HL.Sep (a' :: R) h' ∧ Dis G h') := by
  refine (claim_spec (r := r) (l := [w]) tb (sp.new hx).swap (Sees.row (c := wantC) (L := [w]) (set_self (o := wantO w)) rfl (Nat.le_refl _)) g fw hb).mono ?_
  rintro u h' ⟨rfl, a', t', s', d'⟩
  exact ⟨rfl, a', t', s'.swap.drop, d'⟩

def aw0 : Tb := List.replicate 5 []
def aw1 : Tb := [[], [], [], [⟨5, 9, 0⟩], []]
theorem aw_e1 : claimT aw0 0 [⟨3, 5, 9⟩] = (0, aw1) := by rfl
theorem aw_e2 : claimT aw1 1 [⟨3, 8, 10⟩] = (18, aw1) := by rfl
set_option maxHeartbeats 4000000 in
theorem awake_spec {G h : Hp} : HCalls Try.prog G 13 #[] h (fun u h' => u = .bool true ∧ h' = h) := by
  refine HCalls.assume fun d => quietly (enter13 (by simp) ?_)
  unfold S13
  simp -implicitDefEqProofs (maxSteps := 2000000) (disch := first | with_reducible exact Nat.ne_of_beq_eq_false rfl | exact oneCell_int | exact oneCell_bool | omega | rfl | (simp; done) | fail) only [retK_ret, resL_tmp, upd_eq, resL_nil1, opH_sv, cf12]
  refine (new_spec (n := 5) (by decide) (by decide)).mono ?_
  rintro _ h1 ⟨a, tp, rfl, t1, s1, d1⟩
  simp -implicitDefEqProofs (maxSteps := 2000000) (disch := first | with_reducible exact Nat.ne_of_beq_eq_false rfl | exact oneCell_int | exact oneCell_bool | omega | rfl | (simp; done) | fail) only [ex1, ne_int, bne_self_eq_false, pick_f, gd_ff, ex0, eq23s, cf15, opH_sv, bd30_0_1_2, bs22_1_0]
  intro x hx gx
  refine (claim1_spec (r := 0) (w := ⟨3, 5, 9⟩) (b := 0) t1 s1 hx goodT_rep fewT_rep (by decide)).mono ?_
  rintro _ h2 ⟨rfl, a2, t2, s2, d2⟩
  obtain ⟨g2, f2, _⟩ := claim_inv (T := List.replicate 5 []) (r := 0) (l := [⟨3, 5, 9⟩]) goodT_rep (fewT_rep (b := 0))
  have e1 : claimT (List.replicate 5 []) 0 [⟨3, 5, 9⟩] = (0, aw1) := aw_e1
  rw [e1] at t2 g2 f2
  simp -implicitDefEqProofs (maxSteps := 2000000) (disch := first | with_reducible exact Nat.ne_of_beq_eq_false rfl | exact oneCell_int | exact oneCell_bool | omega | rfl | (simp; done) | fail) only [e1, ne_int, bne_self_eq_false, pick_f, gd_ff, cf15, opH_sv, bd30_0_1_2, bs22_1_0]
  intro y hy gy
  refine (claim1_spec (r := 1) (w := ⟨3, 8, 10⟩) (b := 1) t2 s2 hy g2 f2 (by decide)).mono ?_
  rintro _ h3 ⟨rfl, a3, t3, s3, d3⟩
  rw [aw_e2] at t3
  simp -implicitDefEqProofs (maxSteps := 2000000) (disch := first | with_reducible exact Nat.ne_of_beq_eq_false rfl | exact oneCell_int | exact oneCell_bool | omega | rfl | (simp; done) | fail) only [aw_e2, ne_int, bne_self_eq_false, HL.cond_false]
  unfold S13_k1
  simp -implicitDefEqProofs (maxSteps := 2000000) (disch := first | with_reducible exact Nat.ne_of_beq_eq_false rfl | exact oneCell_int | exact oneCell_bool | omega | rfl | (simp; done) | fail) only [upd_ne, upd_eq, retK_ret, resL_tmp, resL_nil1, cf22, opH_sv, cf29, cf18, cf17]
  refine (gaps_spec17 (c := 3) (r := 1)).mono ?_
  rintro _ h4 ⟨b1, b2, b3, rfl, l4, d4, k1, k2, k3, sp4⟩
  have s4 := sp4 _ s3
  refine (stretches_spec (most := 9) k1 k2 k3 (t3.see (s4.in 0 rfl)) (fun L hL => Nat.le_trans (f2 L hL) (by decide)) (by decide) (by decide)).mono ?_
  rintro u5 h5 ⟨ip, o5, s5, d5⟩
  have e5 : (if inT aw1.length 3 = true then gapsL (rowT aw1 3) 1 else []).take (9 : Int).toNat = [(0, 5), (9, FV)] := by rfl
  rw [e5] at o5
  have l5 : h4.le h5 := s5.in 1 rfl
  have see5 := o5.sees (G := G) (by decide) (s5.in 0 rfl)
  obtain ⟨sa, cap, rfl⟩ := see5.len
  obtain ⟨pb, po, rfl, z0, z1⟩ := Sees.pair see5 (i := 0) rfl
  obtain ⟨pb', po', e6, z2, z3⟩ := Sees.pair see5 (i := 1) rfl
  cases e6
  refine (first_spec (c := 3) ((t3.see (G := G) (s4.in 0 rfl)).up l5 d5)).mono ?_
  rintro _ h5 ⟨rfl, rfl⟩
  rw [show (rowAt aw1 3) = [⟨5, 9, 0⟩] from rfl]
  simp -implicitDefEqProofs (maxSteps := 2000000) (disch := first | with_reducible exact Nat.ne_of_beq_eq_false rfl | exact oneCell_int | exact oneCell_bool | omega | rfl | (simp; done) | fail) only [List.length_cons, List.length_nil, Nat.zero_add, Nat.reduceAdd, ex1, ex0]
  refine (cells_spec ((t3.see (G := G) (s4.in 0 rfl)).up l5 d5)).mono ?_
  rintro _ h5 ⟨rfl, rfl⟩
  have hp0 : (0 : Int) < ((2 : Nat) : Int) := by decide
  have hp1 : (1 : Int) < ((2 : Nat) : Int) := by decide
  rw [Nat.zero_mul, Nat.add_zero] at z0 z1
  have z0 : cellIn G h5 ⟨pb, po, none⟩ = some (.int .i64 0) := z0
  have z1 : cellIn G h5 ⟨pb, po + 1, none⟩ = some (.int .i64 5) := z1
  have z2 : cellIn G h5 ⟨pb, po + 2, none⟩ = some (.int .i64 9) := z2
  have z3 : cellIn G h5 ⟨pb, po + 2 + 1, none⟩ = some (.int .i64 4611686018427387904) := z3
  simp -implicitDefEqProofs (maxSteps := 2000000) (disch := first | with_reducible exact Nat.ne_of_beq_eq_false rfl | exact oneCell_int | exact oneCell_bool | omega | rfl | (simp; done) | fail) only [eq_int, show (((aw1.length : Nat) : Int) == 5) = true from rfl, pick_t, gd_tt, opH_sv, ln39, show (((2 : Nat) : Int) == 2) = true from rfl, bd58_0_1, ix39 (Int.le_refl 0) hp0, show (0 : Int).toNat * 2 = 0 from rfl, add_mk, Nat.add_zero, ld58, z0, Option.some.injEq, z1, exists_eq_left', eq58, beq_self_eq_true, Bool.and_self, ix39 (show (0 : Int) ≤ 1 by decide) hp1, show (1 : Int).toNat * 2 = 2 from rfl, z2, z3, cf16]
  refine (slots_spec (c := 3) ((t3.see (G := G) (s4.in 0 rfl)).up l5 d5) (fun L hL => Nat.le_trans (f2 L hL) (by decide))).mono ?_
  rintro u6 h6 ⟨io, o6, s6, d6⟩
  rw [show (rowAt aw1 3) = [⟨5, 9, 0⟩] from rfl] at o6
  obtain ⟨sa, cap6, rfl, _⟩ := o6.len (by decide)
  simp -implicitDefEqProofs (maxSteps := 2000000) (disch := first | with_reducible exact Nat.ne_of_beq_eq_false rfl | exact oneCell_int | exact oneCell_bool | omega | rfl | (simp; done) | fail) only [List.length_cons, List.length_nil, Nat.zero_add, ln32, eq_int, show (((1 : Nat) : Int) == 1) = true from rfl, true_and]
  have l4' : h.le h4 := s4.in 1 rfl
  exact (l4'.trans l5).trans (s6.in 1 rfl)

variable {f l g n : Int}
end Go.Proofs.Ytbloobepmgmbgaa
