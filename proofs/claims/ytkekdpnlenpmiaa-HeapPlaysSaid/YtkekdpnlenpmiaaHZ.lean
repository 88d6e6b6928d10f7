/- HeapDrops: what is dropped is gone, the others stay in their order. The walk. -/
import Derived.Test.YtkekdpnlenpmiaaHN
set_option linter.unusedSimpArgs false
set_option linter.unusedVariables false
namespace Go.Proofs.Ytkekdpnlenpmiaa
open Go Go.HL

/-- Put in by its key, behind those alike. -/
def insP (x : Int × Int) : List (Int × Int) → List (Int × Int)
  | [] => [x]
  | y :: r => if x.1 < y.1 then x :: y :: r else y :: insP x r

theorem ins_insP {x : It} : ∀ {Q : List It}, (∀ y ∈ Q, y.n < x.n) → (ins x Q).map It.v = insP x.v (Q.map It.v)
  | [], _ => rfl
  | y :: r, h => by
    have hy := h y (.head _)
    have ih := ins_insP (x := x) (Q := r) fun z hz => h z (.tail _ hz)
    unfold ins
    simp only [List.map_cons, insP]
    by_cases hk : x.k < y.k
    · rw [if_pos (by rw [lt_iff]; exact .inl hk), if_pos (show x.v.1 < y.v.1 from hk)]
      rfl
    · rw [if_neg (by rw [lt_iff]; omega), if_neg (show ¬ x.v.1 < y.v.1 from hk)]
      simp only [List.map_cons, ih]

theorem insP_low {x : Int × Int} : ∀ {L : List (Int × Int)}, (∀ y ∈ L, x.1 < y.1) → insP x L = x :: L
  | [], _ => rfl
  | y :: r, h => by unfold insP; rw [if_pos (h y (.head _))]

theorem insP_filter {x : Int × Int} {p : Int × Int → Bool} : ∀ {L : List (Int × Int)}, L.Pairwise (fun a b => a.1 ≤ b.1) → (insP x L).filter p = if p x = true then insP x (L.filter p) else L.filter p
  | [], _ => by unfold insP; cases h : p x <;> simp [h, insP]
  | y :: r, hs => by
    rw [List.pairwise_cons] at hs
    have ih := insP_filter (x := x) (p := p) hs.2
    rw [show insP x (y :: r) = if x.1 < y.1 then x :: y :: r else y :: insP x r from rfl]
    by_cases hk : x.1 < y.1
    · rw [if_pos hk]
      have hlow : ∀ z ∈ (y :: r).filter p, x.1 < z.1 := by
        intro z hz
        rcases List.mem_cons.1 (List.mem_filter.1 hz).1 with rfl | hz
        · exact hk
        · have := hs.1 z hz; omega
      rw [insP_low hlow]
      cases h : p x <;> simp [List.filter_cons, h]
    · rw [if_neg hk, List.filter_cons, ih]
      cases hy : p y with
      | true =>
        simp only [if_true, List.filter_cons, hy]
        cases hx : p x with
        | true => simp only [if_true, insP]; rw [if_neg hk]
        | false => simp
      | false =>
        simp [List.filter_cons, hy]

theorem sorted_v {Q : List It} (h : Q.Pairwise It.le) : (Q.map It.v).Pairwise (fun a b => a.1 ≤ b.1) := by
  rw [List.pairwise_map]
  refine h.imp fun {a b} hab => ?_
  rw [le_iff] at hab
  show a.k ≤ b.k
  omega

def leaves (n : Int) (p : Int × Int) : Bool := !(p.2.tmod n == 0)

theorem drops_push {G : Hp} {v : Value} {K : List Int} {n : Int} (hv : RdI G v K) (hK : K.length ≤ 300) (hn0 : 0 < n) (hn1 : n ≤ 1000) {KK : Exit → Rg → Hp → Prop} {x y nb : Nat} (r : Rg) (h : Hp) (g0 : r 0 = v) (g5 : r 5 = .pointer (some ⟨nb, 0, none⟩)) (g6 : r 6 = .pointer (some ⟨x, 0, none⟩)) (g7 : r 7 = .pointer (some ⟨y, 0, none⟩)) (g8 : r 8 = .int .i64 0) (g9 : r 9 = .int .i64 0)
    (hxy : x ≠ y) (ax : HS h x [] 0 none) (ay : HS h y [] 0 none) (hnb : h nb = some (.cells #[.int .i64 n] 3 (0, 0))) (d : Dis G h)
    (H : ∀ r' h' obx oby Qg, r' 0 = v → r' 5 = .pointer (some ⟨nb, 0, none⟩) → r' 6 = .pointer (some ⟨x, 0, none⟩) → r' 7 = .pointer (some ⟨y, 0, none⟩) → r' 8 = .int .i64 ((K.length : Int) - (Qg.length : Int)) →
       HS h' x (qOf K K.length) K.length obx → HS h' y Qg Qg.length oby → Qg.length ≤ K.length → Qg.map It.v = ((qOf K K.length).map It.v).filter (leaves n) → (∀ b, obx = some b → oby ≠ some b) → h' nb = some (.cells #[.int .i64 n] 3 (0, 0)) → KK (.exit 0) r' h') : loopP (S8_l4 G) r h KK := by
  refine loop_I (fun m r h => ∃ (i : Nat) (obx oby : Option Nat) (Qg : List It), m = K.length - i ∧ i ≤ K.length ∧ r 0 = v ∧ r 5 = .pointer (some ⟨nb, 0, none⟩) ∧ r 6 = .pointer (some ⟨x, 0, none⟩) ∧ r 7 = .pointer (some ⟨y, 0, none⟩) ∧ r 8 = .int .i64 ((i : Int) - (Qg.length : Int)) ∧ r 9 = .int .i64 i ∧
     HS h x (qOf K i) i obx ∧ HS h y Qg Qg.length oby ∧ Qg.length ≤ i ∧ Qg.map It.v = ((qOf K i).map It.v).filter (leaves n) ∧ (∀ b, obx = some b → oby ≠ some b) ∧ h nb = some (.cells #[.int .i64 n] 3 (0, 0)) ∧ Dis G h) ?_
    (m := K.length) ⟨0, none, none, [], rfl, Nat.zero_le _, g0, g5, g6, g7, g8, g9, ax, ay, Nat.le_refl _, rfl, by simp, hnb, d⟩
  rintro m r h ⟨i, obx, oby, Qg, rfl, hi, g0, g5, g6, g7, g8, g9, ax, ay, hql, hqv, sxy, hnb, d⟩ X HX
  obtain ⟨sa, ca, hve, hc⟩ := id hv
  unfold S8_l4
  simp -implicitDefEqProofs (maxSteps := 2000000) (disch := first | with_reducible exact Nat.ne_of_beq_eq_false rfl | omega | rfl | (simp; done)) only [g0, hve, g9, thenK_exit, opH_sv, ln22, bin_lss]
  refine cond_dec (fun hlt => ?_) (fun hge => ?_)
  rotate_left
  · obtain rfl : i = K.length := by omega
    exact H _ _ obx oby Qg (by simp -implicitDefEqProofs (maxSteps := 2000000) (disch := first | with_reducible exact Nat.ne_of_beq_eq_false rfl | omega | rfl | (simp; done)) only [upd_ne, g0, hve]) (by simp -implicitDefEqProofs (maxSteps := 2000000) (disch := first | with_reducible exact Nat.ne_of_beq_eq_false rfl | omega | rfl | (simp; done)) only [upd_ne, g5]) (by simp -implicitDefEqProofs (maxSteps := 2000000) (disch := first | with_reducible exact Nat.ne_of_beq_eq_false rfl | omega | rfl | (simp; done)) only [upd_ne, g6]) (by simp -implicitDefEqProofs (maxSteps := 2000000) (disch := first | with_reducible exact Nat.ne_of_beq_eq_false rfl | omega | rfl | (simp; done)) only [upd_ne, g7]) (by simp -implicitDefEqProofs (maxSteps := 2000000) (disch := first | with_reducible exact Nat.ne_of_beq_eq_false rfl | omega | rfl | (simp; done)) only [upd_ne, g8]) ax ay hql hqv sxy hnb
  have hlt' : i < K.length := by omega
  rcases hc with rfl | ⟨ad, rfl, hc⟩
  · simp at hlt'
  have hx := hc h d i hlt'
  unfold S8_l4_k5
  simp -implicitDefEqProofs (maxSteps := 2000000) (disch := first | with_reducible exact Nat.ne_of_beq_eq_false rfl | omega | rfl | (simp; done)) only [upd_ne, g0, hve, g9, g6, opH_sv, cf13, cf14, ix22 (Int.natCast_nonneg i) hlt, Int.toNat_natCast, Nat.mul_one, ld3, hx, Option.some.injEq, exists_eq_left']
  refine of_spec.mono ?_
  rintro _ h ⟨rfl, rfl⟩
  refine (qpush_spec ax (by rw [qOf_length]; omega) (by omega) (by omega)).mono ?_
  rintro _ h2 ⟨b, ax2, f⟩
  have d2 : Dis G h2 := f.dis d ax.at ax.rows
  have hnb2 := box_other hnb (by decide) (by decide) ax f.same f.news
  obtain ⟨ay2, sxy2⟩ := ay.other ax hxy.symm sxy f.same f.news
  have cn : ∀ k, cellIn G h2 ⟨nb, k, none⟩ = _ := fun k => cell_of (look_own hnb2)
  have hins : (ins ⟨K.getD i 0, i, i⟩ (qOf K i)).map It.v = insP (K.getD i 0, (i : Int)) ((qOf K i).map It.v) := ins_insP (x := ⟨K.getD i 0, i, i⟩) fun z hz => by
    obtain ⟨j, hj, rfl⟩ := qOf_mem hz
    simp only; omega
  have hflt : (((qOf K (i + 1)).map It.v).filter (leaves n)) = if leaves n (K.getD i 0, (i : Int)) = true then insP (K.getD i 0, (i : Int)) (Qg.map It.v) else Qg.map It.v := by
    rw [qOf, hins, insP_filter (sorted_v ax.sorted), hqv]
  have ht : 0 ≤ (i : Int).tmod n ∧ (i : Int).tmod n < n := ⟨Int.tmod_nonneg n (by omega), Int.tmod_lt_of_pos _ hn0⟩
  try simp -implicitDefEqProofs (maxSteps := 2000000) (disch := first | with_reducible exact Nat.ne_of_beq_eq_false rfl | omega | rfl | (simp; done)) only [g5, ld3, cn, List.getElem?_cons_zero, Option.some.injEq, exists_eq_left', bin_rem, eq_int]
  have fin : ∀ r2 h3 oby3 Qg3, (∀ t, t < 8 → r2 t = r t) → r2 9 = r 9 → r2 8 = .int .i64 (((i + 1 : Nat) : Int) - (Qg3.length : Int)) → HS h3 x (qOf K (i + 1)) (i + 1 : Nat) (some b) → HS h3 y Qg3 Qg3.length oby3 → Qg3.length ≤ i + 1 → Qg3.map It.v = ((qOf K (i + 1)).map It.v).filter (leaves n) → (∀ c, some b = some c → oby3 ≠ some c) → h3 nb = some (.cells #[.int .i64 n] 3 (0, 0)) → Dis G h3 → S8_l4_k6 G (thenK X KK) r2 h3 := by
    intro r2 h3 oby3 Qg3 hr h9 h8 q1 q2 q3 q4 q5 q6 q7
    unfold S8_l4_k6
    simp -implicitDefEqProofs (maxSteps := 2000000) (disch := first | with_reducible exact Nat.ne_of_beq_eq_false rfl | omega | rfl | (simp; done)) only [h9, g9, thenK_normal, opH_sv, bin_add, wrap_in]
    refine HX (K.length - (i + 1)) _ _ (by omega) ⟨i + 1, some b, oby3, Qg3, rfl, hlt', ?_, ?_, ?_, ?_, ?_, by simp -implicitDefEqProofs (maxSteps := 2000000) (disch := first | with_reducible exact Nat.ne_of_beq_eq_false rfl | omega | rfl | (simp; done)) only [upd_eq]; rfl, q1, q2, q3, q4, q5, q6, q7⟩
    · simp -implicitDefEqProofs (maxSteps := 2000000) (disch := first | with_reducible exact Nat.ne_of_beq_eq_false rfl | omega | rfl | (simp; done)) only [upd_ne, hr 0 (by decide), g0]
    · simp -implicitDefEqProofs (maxSteps := 2000000) (disch := first | with_reducible exact Nat.ne_of_beq_eq_false rfl | omega | rfl | (simp; done)) only [upd_ne, hr 5 (by decide), g5]
    · simp -implicitDefEqProofs (maxSteps := 2000000) (disch := first | with_reducible exact Nat.ne_of_beq_eq_false rfl | omega | rfl | (simp; done)) only [upd_ne, hr 6 (by decide), g6]
    · simp -implicitDefEqProofs (maxSteps := 2000000) (disch := first | with_reducible exact Nat.ne_of_beq_eq_false rfl | omega | rfl | (simp; done)) only [upd_ne, hr 7 (by decide), g7]
    · simp -implicitDefEqProofs (maxSteps := 2000000) (disch := first | with_reducible exact Nat.ne_of_beq_eq_false rfl | omega | rfl | (simp; done)) only [upd_ne, h8]
  cases hz : ((i : Int).tmod n == 0) with
  | true =>
    try simp -implicitDefEqProofs (maxSteps := 2000000) (disch := first | with_reducible exact Nat.ne_of_beq_eq_false rfl | omega | rfl | (simp; done)) only [g8, bin_add, wrap_in, HL.cond_true]
    have hl : leaves n (K.getD i 0, (i : Int)) = false := by simp only [leaves, hz]; rfl
    rw [hl] at hflt
    refine fin _ h2 oby Qg (fun t ht => ?_) (by simp -implicitDefEqProofs (maxSteps := 2000000) (disch := first | with_reducible exact Nat.ne_of_beq_eq_false rfl | omega | rfl | (simp; done)) only [upd_ne, g9]) ?_ ax2 ay2 (by omega) (by rw [hflt]; rfl) sxy2 hnb2 d2
    · repeat rw [upd_ne (by omega)]
    · simp -implicitDefEqProofs (maxSteps := 2000000) (disch := first | with_reducible exact Nat.ne_of_beq_eq_false rfl | omega | rfl | (simp; done)) only [upd_eq]
      congr 1
      omega
  | false =>
    have hx2 := hc h2 d2 i hlt'
    try simp -implicitDefEqProofs (maxSteps := 2000000) (disch := first | with_reducible exact Nat.ne_of_beq_eq_false rfl | omega | rfl | (simp; done)) only [hx2, Option.some.injEq, exists_eq_left', HL.cond_false]
    refine of_spec.mono ?_
    rintro _ h2 ⟨rfl, rfl⟩
    try simp -implicitDefEqProofs (maxSteps := 2000000) (disch := first | with_reducible exact Nat.ne_of_beq_eq_false rfl | omega | rfl | (simp; done)) only [g7]
    refine (qpush_spec ay2 (by omega) (by omega) (by omega)).mono ?_
    rintro _ h3 ⟨b', ay3, f3⟩
    obtain ⟨ax3, sxy3⟩ := ax2.other ay2 hxy (fun c e e2 => sxy2 c e2 e) f3.same f3.news
    have hl : leaves n (K.getD i 0, (i : Int)) = true := by simp only [leaves, hz]; rfl
    rw [hl] at hflt
    have hlen : (ins ⟨K.getD i 0, i, Qg.length⟩ Qg).length = Qg.length + 1 := by rw [(ins_perm _ _).length_eq]; rfl
    refine fin _ h3 (some b') (ins ⟨K.getD i 0, i, Qg.length⟩ Qg) (fun t ht => ?_) (by simp -implicitDefEqProofs (maxSteps := 2000000) (disch := first | with_reducible exact Nat.ne_of_beq_eq_false rfl | omega | rfl | (simp; done)) only [upd_ne, g9]) ?_ ax3 (by rw [hlen]; exact ay3) (by omega) ?_ (fun c e e2 => sxy3 c e2 e) (box_other hnb2 (by decide) (by decide) ay2 f3.same f3.news) (f3.dis d2 ay2.at ay2.rows)
    · repeat rw [upd_ne (by omega)]
    · simp -implicitDefEqProofs (maxSteps := 2000000) (disch := first | with_reducible exact Nat.ne_of_beq_eq_false rfl | omega | rfl | (simp; done)) only [upd_ne, g8]
      congr 1
      omega
    · rw [hflt]
      refine ins_insP (x := ⟨K.getD i 0, i, Qg.length⟩) fun z hz => ?_
      obtain ⟨_, _, _, _, _, _, hnn⟩ := ay2
      exact (hnn z hz).2

theorem drops_walk {G : Hp} {v : Value} {K : List Int} {every : Int} (hv : RdI G v K) (hm1 : -9223372036854775808 ≤ every) (hm2 : every ≤ 9223372036854775807) : HCalls Try.prog G 8 #[v, .int .i64 every] noHp (fun u _ => u = .bool true) := by
  obtain ⟨sa, cap, hve, _⟩ := id hv
  refine enter8 (by simp) ?_
  unfold S8
  simp -implicitDefEqProofs (maxSteps := 2000000) (disch := first | with_reducible exact Nat.ne_of_beq_eq_false rfl | omega | rfl | (simp; done)) only [regs0, retK_ret, resL_tmp, upd_eq, resL_nil1, cf10, opH_sv]
  refine awake_spec.mono ?_
  rintro _ _ ⟨rfl, rfl⟩
  simp -implicitDefEqProofs (maxSteps := 2000000) (disch := first | with_reducible exact Nat.ne_of_beq_eq_false rfl | omega | rfl | (simp; done)) only [hve, un_not, Bool.not_true, pick_f, gd_ff, opH_sv, ln22, bin_gtr]
  refine cond_dec (fun hlt => ?_) (fun hge => ?_)
  · refine awake_spec.mono ?_
    rintro _ _ ⟨rfl, rfl⟩
    simp -implicitDefEqProofs (maxSteps := 2000000) (disch := first | with_reducible exact Nat.ne_of_beq_eq_false rfl | omega | rfl | (simp; done)) only []
  unfold S8_k1
  simp -implicitDefEqProofs (maxSteps := 2000000) (disch := first | with_reducible exact Nat.ne_of_beq_eq_false rfl | omega | rfl | (simp; done)) only [upd_ne, regs1, cf11, opH_su, opH_sv, al3, cf23]
  refine (place_spec hm1 hm2 (by decide) (by decide)).mono ?_
  rintro _ _ ⟨rfl, rfl⟩
  have hp1 := Int.emod_nonneg every (show (5 : Int) ≠ 0 by decide)
  have hp2 := Int.emod_lt_of_pos every (show (0 : Int) < 5 by decide)
  generalize hn : 1 + every % 5 = n
  try simp -implicitDefEqProofs (maxSteps := 2000000) (disch := first | with_reducible exact Nat.ne_of_beq_eq_false rfl | omega | rfl | (simp; done)) only [bin_add, hn, wrap_in]
  intro nb hnb gnb
  rw [st3s rfl (by simp)]
  try simp -implicitDefEqProofs (maxSteps := 2000000) (disch := first | with_reducible exact Nat.ne_of_beq_eq_false rfl | omega | rfl | (simp; done)) only [List.set_cons_zero]
  have d0 : Dis G (noHp.set nb (.cells #[.int .i64 n] 3 (0, 0))) := Dis.start.set gnb
  have step : ∀ {h1 h2 : Hp} {x : Nat}, Dis G h1 → h1 x = none → G x = none → (∀ y, y ≠ x → h2 y = h1 y) → Dis G h2 := by
    intro h1 h2 x d hx gx f b o e
    by_cases hb : b = x
    · rw [hb]; exact gx
    · rw [f b hb] at e; exact d b o e
  refine qnew_spec.mono ?_
  rintro _ h1 ⟨x, rfl, hx, gx, a1, f1⟩
  have d1 := step d0 hx gx f1
  have nnx : nb ≠ x := ne_of_set hx
  have b1 : h1 nb = some (.cells #[.int .i64 n] 3 (0, 0)) := (f1 nb nnx).trans set_self
  try simp -implicitDefEqProofs (maxSteps := 2000000) (disch := first | with_reducible exact Nat.ne_of_beq_eq_false rfl | omega | rfl | (simp; done)) only [opH_sv, opH_su, pureW_sv, opH_nil, pureW_nil, pick_t, pick_f, pick_tp, pick_fp, gd_tt, gd_ft, gd_tf, gd_ff, box_new, regs0, regs1, regs2, regs3, regs4, regs5, regs6, cells_agg, cells_int, cells_bool, cells_ptr, cells_slice, cells_string, cells_func, cells_nilFunc, cells_map, retK_ret, retK_normal, resL_tmp, resL_cell, resL_nil0, resL_nil1, resL_nil2, resL_nil3, resC_ptr, ex0, ex1, ex2, ex0p, ex1p, ex2p, HL.cond_true, HL.cond_false, thenK_normal, thenK_ret, thenK_exit, blockK_normal, blockK_ret, blockK_exit, scopeK_normal, scopeK_ret, scopeK_exit, wpH_pure, bin_add, bin_sub, bin_mul, bin_lss, bin_leq, bin_gtr, bin_geq, bin_quo, bin_rem, bin_quop, bin_remp, wrap_in, bin_addp, bin_subp, bin_mulp, bin_lssp, bin_leqp, bin_gtrp, bin_geqp, un_not, un_notp, un_neg, eq_int, ne_int, eq_intp, ne_intp, callV_fn, add_mk, upd_eq, upd_ne, cell_set_self, Nat.zero_add, Nat.add_zero, Option.some.injEq, exists_eq_left', List.getElem?_cons_succ, List.getElem?_cons_zero, true_and, and_true, bne_self_eq_false, beq_self_eq_true, Bool.not_true, Bool.not_false, Bool.and_true, Bool.and_self, Bool.and_false, Bool.true_and, List.length_cons, List.length_nil, ne_eq, not_false_eq_true, Nat.reduceAdd, Nat.reduceMul, if_true, if_false, oneCell_int, oneCell_bool, oneCell_ptr, oneCell_slice, oneCell_string, oneCell_func, oneCell_map, Int.toNat_natCast, List.set_cons_zero, List.set_cons_succ, Nat.lt_irrefl, Nat.zero_lt_succ, Nat.succ_lt_succ_iff, fa27_0, fa27_0p, fa27_1, fa27_1p, fa53_0, fa53_0p, fa55_0, fa55_0p, fa55_1, fa55_1p, fa63_0, fa63_0p, fa63_1, fa63_1p, fa63_2, fa63_2p, fa65_0, fa65_0p, fa65_1, fa65_1p, fa70_0, fa70_0p, fa70_1, fa70_1p, fa70_2, fa70_2p, fa72_0, fa72_0p, fa72_1, fa72_1p, ld3, ld3p, ld4, ld4p, ld9, ld9p, ld24, ld24p, ld27, ld27p, ld28, ld28p, ld39, ld39p, ld44, ld44p, ld55, ld55p, ld61, ld61p, ld65, ld65p, ld68, ld68p, ld72, ld72p, st3s, st4s, st9s, st27w, st44s, st55w, st61s, st65w, st68s, st72w, ix22, ix22p, ix31, ix31p, ix36, ix36p, ix44, ix44p, ix50, ix50p, ix61, ix61p, ix68, ix68p, ln9, ln9p, ln22, ln22p, ln31, ln31p, ln36, ln36p, ln44, ln44p, ln50, ln50p, ln61, ln61p, ln68, ln68p, al3, al27, al44, al55, al65, al72, cf10, cf11, cf12, cf13, cf14, cf15, cf16, cf17, cf18, cf19, cf20, cf21, cf22, cf23, cf24, cf25, cf26, cf27, cf28, cf29, cf30, cf31, cf32, cf33, cf34, cf35, cf36, cf37, cf38, cf39, cf40, cf41, cf42, cf43, cf44, cf45, cf46, cf47, bd27_, bd27_p, bd27_0_1, bd27_0_1p, bd53_, bd53_p, bd53_0, bd53_0p, bd63_0, bd63_0p, bd63_0_1_2, bd63_0_1_2p, bd65_, bd65_p, bd65_0_1, bd65_0_1p, bd70_0, bd70_0p, bd72_, bd72_p, bd72_0_1, bd72_0_1p, bd77_0_1, bd77_0_1p, bs61_1_0, bs68_1_0, bs44_1_0, bs61_0_, eq9, eq9p, eq24n, eq24np, eq24s, eq24sp, eq27, eq27p, eq28n, eq28np, eq28s, eq28sp, eq37n, eq37np, eq37s, eq37sp, eq39n, eq39np, eq39s, eq39sp, eq74n, eq74np, eq74s, eq74sp, ne4, ne4p, ne27, ne27p]
  refine qnew_spec.mono ?_
  rintro _ h2 ⟨y, rfl, hy, gy, a2, f2⟩
  have d2 := step d1 hy gy f2
  obtain ⟨c1, q1⟩ := a1.hd
  have nxy : x ≠ y := ne_of_new q1 hy
  have a1 : HS h2 x [] 0 none := a1.keep (f2 x nxy) (fun b e => by cases e)
  have b2 : h2 nb = some (.cells #[.int .i64 n] 3 (0, 0)) := (f2 nb (ne_of_new b1 hy)).trans b1
  refine drops_push hv (by omega) (n := n) (by omega) (by omega) (x := x) (y := y) (nb := nb) _ h2 (by simp -implicitDefEqProofs (maxSteps := 2000000) (disch := first | with_reducible exact Nat.ne_of_beq_eq_false rfl | omega | rfl | (simp; done)) only [opH_sv, opH_su, pureW_sv, opH_nil, pureW_nil, pick_t, pick_f, pick_tp, pick_fp, gd_tt, gd_ft, gd_tf, gd_ff, box_new, regs0, regs1, regs2, regs3, regs4, regs5, regs6, cells_agg, cells_int, cells_bool, cells_ptr, cells_slice, cells_string, cells_func, cells_nilFunc, cells_map, retK_ret, retK_normal, resL_tmp, resL_cell, resL_nil0, resL_nil1, resL_nil2, resL_nil3, resC_ptr, ex0, ex1, ex2, ex0p, ex1p, ex2p, HL.cond_true, HL.cond_false, thenK_normal, thenK_ret, thenK_exit, blockK_normal, blockK_ret, blockK_exit, scopeK_normal, scopeK_ret, scopeK_exit, wpH_pure, bin_add, bin_sub, bin_mul, bin_lss, bin_leq, bin_gtr, bin_geq, bin_quo, bin_rem, bin_quop, bin_remp, wrap_in, bin_addp, bin_subp, bin_mulp, bin_lssp, bin_leqp, bin_gtrp, bin_geqp, un_not, un_notp, un_neg, eq_int, ne_int, eq_intp, ne_intp, callV_fn, add_mk, upd_eq, upd_ne, cell_set_self, Nat.zero_add, Nat.add_zero, Option.some.injEq, exists_eq_left', List.getElem?_cons_succ, List.getElem?_cons_zero, true_and, and_true, bne_self_eq_false, beq_self_eq_true, Bool.not_true, Bool.not_false, Bool.and_true, Bool.and_self, Bool.and_false, Bool.true_and, List.length_cons, List.length_nil, ne_eq, not_false_eq_true, Nat.reduceAdd, Nat.reduceMul, if_true, if_false, oneCell_int, oneCell_bool, oneCell_ptr, oneCell_slice, oneCell_string, oneCell_func, oneCell_map, Int.toNat_natCast, List.set_cons_zero, List.set_cons_succ, Nat.lt_irrefl, Nat.zero_lt_succ, Nat.succ_lt_succ_iff, fa27_0, fa27_0p, fa27_1, fa27_1p, fa53_0, fa53_0p, fa55_0, fa55_0p, fa55_1, fa55_1p, fa63_0, fa63_0p, fa63_1, fa63_1p, fa63_2, fa63_2p, fa65_0, fa65_0p, fa65_1, fa65_1p, fa70_0, fa70_0p, fa70_1, fa70_1p, fa70_2, fa70_2p, fa72_0, fa72_0p, fa72_1, fa72_1p, ld3, ld3p, ld4, ld4p, ld9, ld9p, ld24, ld24p, ld27, ld27p, ld28, ld28p, ld39, ld39p, ld44, ld44p, ld55, ld55p, ld61, ld61p, ld65, ld65p, ld68, ld68p, ld72, ld72p, st3s, st4s, st9s, st27w, st44s, st55w, st61s, st65w, st68s, st72w, ix22, ix22p, ix31, ix31p, ix36, ix36p, ix44, ix44p, ix50, ix50p, ix61, ix61p, ix68, ix68p, ln9, ln9p, ln22, ln22p, ln31, ln31p, ln36, ln36p, ln44, ln44p, ln50, ln50p, ln61, ln61p, ln68, ln68p, al3, al27, al44, al55, al65, al72, cf10, cf11, cf12, cf13, cf14, cf15, cf16, cf17, cf18, cf19, cf20, cf21, cf22, cf23, cf24, cf25, cf26, cf27, cf28, cf29, cf30, cf31, cf32, cf33, cf34, cf35, cf36, cf37, cf38, cf39, cf40, cf41, cf42, cf43, cf44, cf45, cf46, cf47, bd27_, bd27_p, bd27_0_1, bd27_0_1p, bd53_, bd53_p, bd53_0, bd53_0p, bd63_0, bd63_0p, bd63_0_1_2, bd63_0_1_2p, bd65_, bd65_p, bd65_0_1, bd65_0_1p, bd70_0, bd70_0p, bd72_, bd72_p, bd72_0_1, bd72_0_1p, bd77_0_1, bd77_0_1p, bs61_1_0, bs68_1_0, bs44_1_0, bs61_0_, eq9, eq9p, eq24n, eq24np, eq24s, eq24sp, eq27, eq27p, eq28n, eq28np, eq28s, eq28sp, eq37n, eq37np, eq37s, eq37sp, eq39n, eq39np, eq39s, eq39sp, eq74n, eq74np, eq74s, eq74sp, ne4, ne4p, ne27, ne27p, hve]) (by simp -implicitDefEqProofs (maxSteps := 2000000) (disch := first | with_reducible exact Nat.ne_of_beq_eq_false rfl | omega | rfl | (simp; done)) only [opH_sv, opH_su, pureW_sv, opH_nil, pureW_nil, pick_t, pick_f, pick_tp, pick_fp, gd_tt, gd_ft, gd_tf, gd_ff, box_new, regs0, regs1, regs2, regs3, regs4, regs5, regs6, cells_agg, cells_int, cells_bool, cells_ptr, cells_slice, cells_string, cells_func, cells_nilFunc, cells_map, retK_ret, retK_normal, resL_tmp, resL_cell, resL_nil0, resL_nil1, resL_nil2, resL_nil3, resC_ptr, ex0, ex1, ex2, ex0p, ex1p, ex2p, HL.cond_true, HL.cond_false, thenK_normal, thenK_ret, thenK_exit, blockK_normal, blockK_ret, blockK_exit, scopeK_normal, scopeK_ret, scopeK_exit, wpH_pure, bin_add, bin_sub, bin_mul, bin_lss, bin_leq, bin_gtr, bin_geq, bin_quo, bin_rem, bin_quop, bin_remp, wrap_in, bin_addp, bin_subp, bin_mulp, bin_lssp, bin_leqp, bin_gtrp, bin_geqp, un_not, un_notp, un_neg, eq_int, ne_int, eq_intp, ne_intp, callV_fn, add_mk, upd_eq, upd_ne, cell_set_self, Nat.zero_add, Nat.add_zero, Option.some.injEq, exists_eq_left', List.getElem?_cons_succ, List.getElem?_cons_zero, true_and, and_true, bne_self_eq_false, beq_self_eq_true, Bool.not_true, Bool.not_false, Bool.and_true, Bool.and_self, Bool.and_false, Bool.true_and, List.length_cons, List.length_nil, ne_eq, not_false_eq_true, Nat.reduceAdd, Nat.reduceMul, if_true, if_false, oneCell_int, oneCell_bool, oneCell_ptr, oneCell_slice, oneCell_string, oneCell_func, oneCell_map, Int.toNat_natCast, List.set_cons_zero, List.set_cons_succ, Nat.lt_irrefl, Nat.zero_lt_succ, Nat.succ_lt_succ_iff, fa27_0, fa27_0p, fa27_1, fa27_1p, fa53_0, fa53_0p, fa55_0, fa55_0p, fa55_1, fa55_1p, fa63_0, fa63_0p, fa63_1, fa63_1p, fa63_2, fa63_2p, fa65_0, fa65_0p, fa65_1, fa65_1p, fa70_0, fa70_0p, fa70_1, fa70_1p, fa70_2, fa70_2p, fa72_0, fa72_0p, fa72_1, fa72_1p, ld3, ld3p, ld4, ld4p, ld9, ld9p, ld24, ld24p, ld27, ld27p, ld28, ld28p, ld39, ld39p, ld44, ld44p, ld55, ld55p, ld61, ld61p, ld65, ld65p, ld68, ld68p, ld72, ld72p, st3s, st4s, st9s, st27w, st44s, st55w, st61s, st65w, st68s, st72w, ix22, ix22p, ix31, ix31p, ix36, ix36p, ix44, ix44p, ix50, ix50p, ix61, ix61p, ix68, ix68p, ln9, ln9p, ln22, ln22p, ln31, ln31p, ln36, ln36p, ln44, ln44p, ln50, ln50p, ln61, ln61p, ln68, ln68p, al3, al27, al44, al55, al65, al72, cf10, cf11, cf12, cf13, cf14, cf15, cf16, cf17, cf18, cf19, cf20, cf21, cf22, cf23, cf24, cf25, cf26, cf27, cf28, cf29, cf30, cf31, cf32, cf33, cf34, cf35, cf36, cf37, cf38, cf39, cf40, cf41, cf42, cf43, cf44, cf45, cf46, cf47, bd27_, bd27_p, bd27_0_1, bd27_0_1p, bd53_, bd53_p, bd53_0, bd53_0p, bd63_0, bd63_0p, bd63_0_1_2, bd63_0_1_2p, bd65_, bd65_p, bd65_0_1, bd65_0_1p, bd70_0, bd70_0p, bd72_, bd72_p, bd72_0_1, bd72_0_1p, bd77_0_1, bd77_0_1p, bs61_1_0, bs68_1_0, bs44_1_0, bs61_0_, eq9, eq9p, eq24n, eq24np, eq24s, eq24sp, eq27, eq27p, eq28n, eq28np, eq28s, eq28sp, eq37n, eq37np, eq37s, eq37sp, eq39n, eq39np, eq39s, eq39sp, eq74n, eq74np, eq74s, eq74sp, ne4, ne4p, ne27, ne27p]) (by simp -implicitDefEqProofs (maxSteps := 2000000) (disch := first | with_reducible exact Nat.ne_of_beq_eq_false rfl | omega | rfl | (simp; done)) only [opH_sv, opH_su, pureW_sv, opH_nil, pureW_nil, pick_t, pick_f, pick_tp, pick_fp, gd_tt, gd_ft, gd_tf, gd_ff, box_new, regs0, regs1, regs2, regs3, regs4, regs5, regs6, cells_agg, cells_int, cells_bool, cells_ptr, cells_slice, cells_string, cells_func, cells_nilFunc, cells_map, retK_ret, retK_normal, resL_tmp, resL_cell, resL_nil0, resL_nil1, resL_nil2, resL_nil3, resC_ptr, ex0, ex1, ex2, ex0p, ex1p, ex2p, HL.cond_true, HL.cond_false, thenK_normal, thenK_ret, thenK_exit, blockK_normal, blockK_ret, blockK_exit, scopeK_normal, scopeK_ret, scopeK_exit, wpH_pure, bin_add, bin_sub, bin_mul, bin_lss, bin_leq, bin_gtr, bin_geq, bin_quo, bin_rem, bin_quop, bin_remp, wrap_in, bin_addp, bin_subp, bin_mulp, bin_lssp, bin_leqp, bin_gtrp, bin_geqp, un_not, un_notp, un_neg, eq_int, ne_int, eq_intp, ne_intp, callV_fn, add_mk, upd_eq, upd_ne, cell_set_self, Nat.zero_add, Nat.add_zero, Option.some.injEq, exists_eq_left', List.getElem?_cons_succ, List.getElem?_cons_zero, true_and, and_true, bne_self_eq_false, beq_self_eq_true, Bool.not_true, Bool.not_false, Bool.and_true, Bool.and_self, Bool.and_false, Bool.true_and, List.length_cons, List.length_nil, ne_eq, not_false_eq_true, Nat.reduceAdd, Nat.reduceMul, if_true, if_false, oneCell_int, oneCell_bool, oneCell_ptr, oneCell_slice, oneCell_string, oneCell_func, oneCell_map, Int.toNat_natCast, List.set_cons_zero, List.set_cons_succ, Nat.lt_irrefl, Nat.zero_lt_succ, Nat.succ_lt_succ_iff, fa27_0, fa27_0p, fa27_1, fa27_1p, fa53_0, fa53_0p, fa55_0, fa55_0p, fa55_1, fa55_1p, fa63_0, fa63_0p, fa63_1, fa63_1p, fa63_2, fa63_2p, fa65_0, fa65_0p, fa65_1, fa65_1p, fa70_0, fa70_0p, fa70_1, fa70_1p, fa70_2, fa70_2p, fa72_0, fa72_0p, fa72_1, fa72_1p, ld3, ld3p, ld4, ld4p, ld9, ld9p, ld24, ld24p, ld27, ld27p, ld28, ld28p, ld39, ld39p, ld44, ld44p, ld55, ld55p, ld61, ld61p, ld65, ld65p, ld68, ld68p, ld72, ld72p, st3s, st4s, st9s, st27w, st44s, st55w, st61s, st65w, st68s, st72w, ix22, ix22p, ix31, ix31p, ix36, ix36p, ix44, ix44p, ix50, ix50p, ix61, ix61p, ix68, ix68p, ln9, ln9p, ln22, ln22p, ln31, ln31p, ln36, ln36p, ln44, ln44p, ln50, ln50p, ln61, ln61p, ln68, ln68p, al3, al27, al44, al55, al65, al72, cf10, cf11, cf12, cf13, cf14, cf15, cf16, cf17, cf18, cf19, cf20, cf21, cf22, cf23, cf24, cf25, cf26, cf27, cf28, cf29, cf30, cf31, cf32, cf33, cf34, cf35, cf36, cf37, cf38, cf39, cf40, cf41, cf42, cf43, cf44, cf45, cf46, cf47, bd27_, bd27_p, bd27_0_1, bd27_0_1p, bd53_, bd53_p, bd53_0, bd53_0p, bd63_0, bd63_0p, bd63_0_1_2, bd63_0_1_2p, bd65_, bd65_p, bd65_0_1, bd65_0_1p, bd70_0, bd70_0p, bd72_, bd72_p, bd72_0_1, bd72_0_1p, bd77_0_1, bd77_0_1p, bs61_1_0, bs68_1_0, bs44_1_0, bs61_0_, eq9, eq9p, eq24n, eq24np, eq24s, eq24sp, eq27, eq27p, eq28n, eq28np, eq28s, eq28sp, eq37n, eq37np, eq37s, eq37sp, eq39n, eq39np, eq39s, eq39sp, eq74n, eq74np, eq74s, eq74sp, ne4, ne4p, ne27, ne27p]) (by simp -implicitDefEqProofs (maxSteps := 2000000) (disch := first | with_reducible exact Nat.ne_of_beq_eq_false rfl | omega | rfl | (simp; done)) only [opH_sv, opH_su, pureW_sv, opH_nil, pureW_nil, pick_t, pick_f, pick_tp, pick_fp, gd_tt, gd_ft, gd_tf, gd_ff, box_new, regs0, regs1, regs2, regs3, regs4, regs5, regs6, cells_agg, cells_int, cells_bool, cells_ptr, cells_slice, cells_string, cells_func, cells_nilFunc, cells_map, retK_ret, retK_normal, resL_tmp, resL_cell, resL_nil0, resL_nil1, resL_nil2, resL_nil3, resC_ptr, ex0, ex1, ex2, ex0p, ex1p, ex2p, HL.cond_true, HL.cond_false, thenK_normal, thenK_ret, thenK_exit, blockK_normal, blockK_ret, blockK_exit, scopeK_normal, scopeK_ret, scopeK_exit, wpH_pure, bin_add, bin_sub, bin_mul, bin_lss, bin_leq, bin_gtr, bin_geq, bin_quo, bin_rem, bin_quop, bin_remp, wrap_in, bin_addp, bin_subp, bin_mulp, bin_lssp, bin_leqp, bin_gtrp, bin_geqp, un_not, un_notp, un_neg, eq_int, ne_int, eq_intp, ne_intp, callV_fn, add_mk, upd_eq, upd_ne, cell_set_self, Nat.zero_add, Nat.add_zero, Option.some.injEq, exists_eq_left', List.getElem?_cons_succ, List.getElem?_cons_zero, true_and, and_true, bne_self_eq_false, beq_self_eq_true, Bool.not_true, Bool.not_false, Bool.and_true, Bool.and_self, Bool.and_false, Bool.true_and, List.length_cons, List.length_nil, ne_eq, not_false_eq_true, Nat.reduceAdd, Nat.reduceMul, if_true, if_false, oneCell_int, oneCell_bool, oneCell_ptr, oneCell_slice, oneCell_string, oneCell_func, oneCell_map, Int.toNat_natCast, List.set_cons_zero, List.set_cons_succ, Nat.lt_irrefl, Nat.zero_lt_succ, Nat.succ_lt_succ_iff, fa27_0, fa27_0p, fa27_1, fa27_1p, fa53_0, fa53_0p, fa55_0, fa55_0p, fa55_1, fa55_1p, fa63_0, fa63_0p, fa63_1, fa63_1p, fa63_2, fa63_2p, fa65_0, fa65_0p, fa65_1, fa65_1p, fa70_0, fa70_0p, fa70_1, fa70_1p, fa70_2, fa70_2p, fa72_0, fa72_0p, fa72_1, fa72_1p, ld3, ld3p, ld4, ld4p, ld9, ld9p, ld24, ld24p, ld27, ld27p, ld28, ld28p, ld39, ld39p, ld44, ld44p, ld55, ld55p, ld61, ld61p, ld65, ld65p, ld68, ld68p, ld72, ld72p, st3s, st4s, st9s, st27w, st44s, st55w, st61s, st65w, st68s, st72w, ix22, ix22p, ix31, ix31p, ix36, ix36p, ix44, ix44p, ix50, ix50p, ix61, ix61p, ix68, ix68p, ln9, ln9p, ln22, ln22p, ln31, ln31p, ln36, ln36p, ln44, ln44p, ln50, ln50p, ln61, ln61p, ln68, ln68p, al3, al27, al44, al55, al65, al72, cf10, cf11, cf12, cf13, cf14, cf15, cf16, cf17, cf18, cf19, cf20, cf21, cf22, cf23, cf24, cf25, cf26, cf27, cf28, cf29, cf30, cf31, cf32, cf33, cf34, cf35, cf36, cf37, cf38, cf39, cf40, cf41, cf42, cf43, cf44, cf45, cf46, cf47, bd27_, bd27_p, bd27_0_1, bd27_0_1p, bd53_, bd53_p, bd53_0, bd53_0p, bd63_0, bd63_0p, bd63_0_1_2, bd63_0_1_2p, bd65_, bd65_p, bd65_0_1, bd65_0_1p, bd70_0, bd70_0p, bd72_, bd72_p, bd72_0_1, bd72_0_1p, bd77_0_1, bd77_0_1p, bs61_1_0, bs68_1_0, bs44_1_0, bs61_0_, eq9, eq9p, eq24n, eq24np, eq24s, eq24sp, eq27, eq27p, eq28n, eq28np, eq28s, eq28sp, eq37n, eq37np, eq37s, eq37sp, eq39n, eq39np, eq39s, eq39sp, eq74n, eq74np, eq74s, eq74sp, ne4, ne4p, ne27, ne27p]) (by simp -implicitDefEqProofs (maxSteps := 2000000) (disch := first | with_reducible exact Nat.ne_of_beq_eq_false rfl | omega | rfl | (simp; done)) only [opH_sv, opH_su, pureW_sv, opH_nil, pureW_nil, pick_t, pick_f, pick_tp, pick_fp, gd_tt, gd_ft, gd_tf, gd_ff, box_new, regs0, regs1, regs2, regs3, regs4, regs5, regs6, cells_agg, cells_int, cells_bool, cells_ptr, cells_slice, cells_string, cells_func, cells_nilFunc, cells_map, retK_ret, retK_normal, resL_tmp, resL_cell, resL_nil0, resL_nil1, resL_nil2, resL_nil3, resC_ptr, ex0, ex1, ex2, ex0p, ex1p, ex2p, HL.cond_true, HL.cond_false, thenK_normal, thenK_ret, thenK_exit, blockK_normal, blockK_ret, blockK_exit, scopeK_normal, scopeK_ret, scopeK_exit, wpH_pure, bin_add, bin_sub, bin_mul, bin_lss, bin_leq, bin_gtr, bin_geq, bin_quo, bin_rem, bin_quop, bin_remp, wrap_in, bin_addp, bin_subp, bin_mulp, bin_lssp, bin_leqp, bin_gtrp, bin_geqp, un_not, un_notp, un_neg, eq_int, ne_int, eq_intp, ne_intp, callV_fn, add_mk, upd_eq, upd_ne, cell_set_self, Nat.zero_add, Nat.add_zero, Option.some.injEq, exists_eq_left', List.getElem?_cons_succ, List.getElem?_cons_zero, true_and, and_true, bne_self_eq_false, beq_self_eq_true, Bool.not_true, Bool.not_false, Bool.and_true, Bool.and_self, Bool.and_false, Bool.true_and, List.length_cons, List.length_nil, ne_eq, not_false_eq_true, Nat.reduceAdd, Nat.reduceMul, if_true, if_false, oneCell_int, oneCell_bool, oneCell_ptr, oneCell_slice, oneCell_string, oneCell_func, oneCell_map, Int.toNat_natCast, List.set_cons_zero, List.set_cons_succ, Nat.lt_irrefl, Nat.zero_lt_succ, Nat.succ_lt_succ_iff, fa27_0, fa27_0p, fa27_1, fa27_1p, fa53_0, fa53_0p, fa55_0, fa55_0p, fa55_1, fa55_1p, fa63_0, fa63_0p, fa63_1, fa63_1p, fa63_2, fa63_2p, fa65_0, fa65_0p, fa65_1, fa65_1p, fa70_0, fa70_0p, fa70_1, fa70_1p, fa70_2, fa70_2p, fa72_0, fa72_0p, fa72_1, fa72_1p, ld3, ld3p, ld4, ld4p, ld9, ld9p, ld24, ld24p, ld27, ld27p, ld28, ld28p, ld39, ld39p, ld44, ld44p, ld55, ld55p, ld61, ld61p, ld65, ld65p, ld68, ld68p, ld72, ld72p, st3s, st4s, st9s, st27w, st44s, st55w, st61s, st65w, st68s, st72w, ix22, ix22p, ix31, ix31p, ix36, ix36p, ix44, ix44p, ix50, ix50p, ix61, ix61p, ix68, ix68p, ln9, ln9p, ln22, ln22p, ln31, ln31p, ln36, ln36p, ln44, ln44p, ln50, ln50p, ln61, ln61p, ln68, ln68p, al3, al27, al44, al55, al65, al72, cf10, cf11, cf12, cf13, cf14, cf15, cf16, cf17, cf18, cf19, cf20, cf21, cf22, cf23, cf24, cf25, cf26, cf27, cf28, cf29, cf30, cf31, cf32, cf33, cf34, cf35, cf36, cf37, cf38, cf39, cf40, cf41, cf42, cf43, cf44, cf45, cf46, cf47, bd27_, bd27_p, bd27_0_1, bd27_0_1p, bd53_, bd53_p, bd53_0, bd53_0p, bd63_0, bd63_0p, bd63_0_1_2, bd63_0_1_2p, bd65_, bd65_p, bd65_0_1, bd65_0_1p, bd70_0, bd70_0p, bd72_, bd72_p, bd72_0_1, bd72_0_1p, bd77_0_1, bd77_0_1p, bs61_1_0, bs68_1_0, bs44_1_0, bs61_0_, eq9, eq9p, eq24n, eq24np, eq24s, eq24sp, eq27, eq27p, eq28n, eq28np, eq28s, eq28sp, eq37n, eq37np, eq37s, eq37sp, eq39n, eq39np, eq39s, eq39sp, eq74n, eq74np, eq74s, eq74sp, ne4, ne4p, ne27, ne27p]) (by simp -implicitDefEqProofs (maxSteps := 2000000) (disch := first | with_reducible exact Nat.ne_of_beq_eq_false rfl | omega | rfl | (simp; done)) only [upd_eq]) nxy a1 a2 b2 d2 fun r3 h3 obx oby Qg g0 g5 g6 g7 g8 ax ay hql hqv sxy b3 => ?_
  simp only [blockK_exit, if_true, thenK_normal]
  unfold S8_k2
  have hp : ∀ h4, h3.le h4 → ∀ z ∈ qOf K K.length, -9223372036854775808 ≤ z.m ∧ z.m ≤ 9223372036854775807 := by
    intro h4 l z hz
    obtain ⟨j, hj, rfl⟩ := qOf_mem hz
    simp only; omega
  have hfv : ((qOf K K.length).filter fun z => !(z.m.tmod n == 0)).map It.v = Qg.map It.v := by
    rw [hqv, List.filter_map]
    rfl
  have hfl := congrArg List.length hfv
  rw [List.length_map, List.length_map] at hfl
  simp -implicitDefEqProofs (maxSteps := 2000000) (disch := first | with_reducible exact Nat.ne_of_beq_eq_false rfl | omega | rfl | (simp; done)) only [g6, g5, retK_ret, resL_tmp, upd_eq, resL_nil1, cf30]
  refine (drop_spec (p := fun z => z.m.tmod n == 0) ax (by rw [qOf_length]; omega) (fun _ _ _ => cf33) (fun z hz h4 l => drops1_spec (l _ _ b3) (by omega) (by omega) (hp h4 l z hz))).mono ?_
  rintro _ h4 ⟨rfl, ob4, a4, n4, s4⟩
  obtain ⟨ay4, sxy4⟩ := ay.other ax nxy.symm sxy s4 (fun b e => .inr (n4 b e).1)
  have b4 := box_other b3 (by decide) (by decide) ax s4 (fun b e => .inr (n4 b e).1)
  rw [hfl, qOf_length]
  try simp -implicitDefEqProofs (maxSteps := 2000000) (disch := first | with_reducible exact Nat.ne_of_beq_eq_false rfl | omega | rfl | (simp; done)) only [g8, ne_int, bne_self_eq_false, pick_f, gd_ff, cf30]
  have hff : ((qOf K K.length).filter fun z => !(z.m.tmod n == 0)).filter (fun z => !(z.m.tmod n == 0)) = (qOf K K.length).filter fun z => !(z.m.tmod n == 0) := by
    rw [List.filter_filter]
    simp
  refine (drop_spec (p := fun z => z.m.tmod n == 0) a4 (by rw [hfl]; omega) (fun _ _ _ => cf34) (fun z hz h5 l => drops2_spec (l _ _ b4) (by omega) (by omega) (hp _ (Hp.le.refl h3) z (List.mem_filter.1 hz).1))).mono ?_
  rintro _ h5 ⟨rfl, ob5, a5, n5, s5⟩
  obtain ⟨ay5, sxy5⟩ := ay4.other a4 nxy.symm sxy4 s5 (fun b e => .inr (n5 b e).1)
  rw [hff] at a5
  rw [hff, hfl]
  try simp -implicitDefEqProofs (maxSteps := 2000000) (disch := first | with_reducible exact Nat.ne_of_beq_eq_false rfl | omega | rfl | (simp; done)) only [Int.sub_self, ne_int, bne_self_eq_false, HL.cond_false]
  generalize hF : (qOf K K.length).filter (fun z => !(z.m.tmod n == 0)) = F at *
  unfold S8_k3
  simp -implicitDefEqProofs (maxSteps := 2000000) (disch := first | with_reducible exact Nat.ne_of_beq_eq_false rfl | omega | rfl | (simp; done)) only [opH_sv, opH_su, pureW_sv, opH_nil, pureW_nil, pick_t, pick_f, pick_tp, pick_fp, gd_tt, gd_ft, gd_tf, gd_ff, box_new, regs0, regs1, regs2, regs3, regs4, regs5, regs6, cells_agg, cells_int, cells_bool, cells_ptr, cells_slice, cells_string, cells_func, cells_nilFunc, cells_map, retK_ret, retK_normal, resL_tmp, resL_cell, resL_nil0, resL_nil1, resL_nil2, resL_nil3, resC_ptr, ex0, ex1, ex2, ex0p, ex1p, ex2p, HL.cond_true, HL.cond_false, thenK_normal, thenK_ret, thenK_exit, blockK_normal, blockK_ret, blockK_exit, scopeK_normal, scopeK_ret, scopeK_exit, wpH_pure, bin_add, bin_sub, bin_mul, bin_lss, bin_leq, bin_gtr, bin_geq, bin_quo, bin_rem, bin_quop, bin_remp, wrap_in, bin_addp, bin_subp, bin_mulp, bin_lssp, bin_leqp, bin_gtrp, bin_geqp, un_not, un_notp, un_neg, eq_int, ne_int, eq_intp, ne_intp, callV_fn, add_mk, upd_eq, upd_ne, cell_set_self, Nat.zero_add, Nat.add_zero, Option.some.injEq, exists_eq_left', List.getElem?_cons_succ, List.getElem?_cons_zero, true_and, and_true, bne_self_eq_false, beq_self_eq_true, Bool.not_true, Bool.not_false, Bool.and_true, Bool.and_self, Bool.and_false, Bool.true_and, List.length_cons, List.length_nil, ne_eq, not_false_eq_true, Nat.reduceAdd, Nat.reduceMul, if_true, if_false, oneCell_int, oneCell_bool, oneCell_ptr, oneCell_slice, oneCell_string, oneCell_func, oneCell_map, Int.toNat_natCast, List.set_cons_zero, List.set_cons_succ, Nat.lt_irrefl, Nat.zero_lt_succ, Nat.succ_lt_succ_iff, fa27_0, fa27_0p, fa27_1, fa27_1p, fa53_0, fa53_0p, fa55_0, fa55_0p, fa55_1, fa55_1p, fa63_0, fa63_0p, fa63_1, fa63_1p, fa63_2, fa63_2p, fa65_0, fa65_0p, fa65_1, fa65_1p, fa70_0, fa70_0p, fa70_1, fa70_1p, fa70_2, fa70_2p, fa72_0, fa72_0p, fa72_1, fa72_1p, ld3, ld3p, ld4, ld4p, ld9, ld9p, ld24, ld24p, ld27, ld27p, ld28, ld28p, ld39, ld39p, ld44, ld44p, ld55, ld55p, ld61, ld61p, ld65, ld65p, ld68, ld68p, ld72, ld72p, st3s, st4s, st9s, st27w, st44s, st55w, st61s, st65w, st68s, st72w, ix22, ix22p, ix31, ix31p, ix36, ix36p, ix44, ix44p, ix50, ix50p, ix61, ix61p, ix68, ix68p, ln9, ln9p, ln22, ln22p, ln31, ln31p, ln36, ln36p, ln44, ln44p, ln50, ln50p, ln61, ln61p, ln68, ln68p, al3, al27, al44, al55, al65, al72, cf10, cf11, cf12, cf13, cf14, cf15, cf16, cf17, cf18, cf19, cf20, cf21, cf22, cf23, cf24, cf25, cf26, cf27, cf28, cf29, cf30, cf31, cf32, cf33, cf34, cf35, cf36, cf37, cf38, cf39, cf40, cf41, cf42, cf43, cf44, cf45, cf46, cf47, bd27_, bd27_p, bd27_0_1, bd27_0_1p, bd53_, bd53_p, bd53_0, bd53_0p, bd63_0, bd63_0p, bd63_0_1_2, bd63_0_1_2p, bd65_, bd65_p, bd65_0_1, bd65_0_1p, bd70_0, bd70_0p, bd72_, bd72_p, bd72_0_1, bd72_0_1p, bd77_0_1, bd77_0_1p, bs61_1_0, bs68_1_0, bs44_1_0, bs61_0_, eq9, eq9p, eq24n, eq24np, eq24s, eq24sp, eq27, eq27p, eq28n, eq28np, eq28s, eq28sp, eq37n, eq37np, eq37s, eq37sp, eq39n, eq39np, eq39s, eq39sp, eq74n, eq74np, eq74s, eq74sp, ne4, ne4p, ne27, ne27p, g6]
  refine (all_spec a5 (by omega) (most := 1000) (by decide) (by decide)).mono ?_
  rintro va h6 ⟨oa, o6, n6, l6, s6⟩
  try simp -implicitDefEqProofs (maxSteps := 2000000) (disch := first | with_reducible exact Nat.ne_of_beq_eq_false rfl | omega | rfl | (simp; done)) only [g7]
  refine (all_spec (ay5.le l6) (by omega) (most := 1000) (by decide) (by decide)).mono ?_
  rintro vb h7 ⟨ob, o7, n7, l7, s7⟩
  have o6' := o6.keep (h' := h7) fun b e => by obtain ⟨q, hq⟩ := o6.at b e; rw [hq]; exact l7 _ _ hq
  rw [List.map_take, hfv, ← List.map_take] at o6'
  refine (same_spec (o6'.sees (by decide)) (o7.sees (by decide)) (by rw [List.length_map, List.length_take]; omega)).mono ?_
  rintro _ h7 ⟨rfl, rfl⟩
  try simp -implicitDefEqProofs (maxSteps := 2000000) (disch := first | with_reducible exact Nat.ne_of_beq_eq_false rfl | omega | rfl | (simp; done)) only [decide_true, g0, hve, g8, pick_t, gd_tt, opH_sv, ln22, bin_sub, wrap_in, cf16]
  refine (qlen_spec ((a5.le l6).le l7)).mono ?_
  rintro _ h7 ⟨rfl, rfl⟩
  try simp -implicitDefEqProofs (maxSteps := 2000000) (disch := first | with_reducible exact Nat.ne_of_beq_eq_false rfl | omega | rfl | (simp; done)) only [opH_sv, opH_su, pureW_sv, opH_nil, pureW_nil, pick_t, pick_f, pick_tp, pick_fp, gd_tt, gd_ft, gd_tf, gd_ff, box_new, regs0, regs1, regs2, regs3, regs4, regs5, regs6, cells_agg, cells_int, cells_bool, cells_ptr, cells_slice, cells_string, cells_func, cells_nilFunc, cells_map, retK_ret, retK_normal, resL_tmp, resL_cell, resL_nil0, resL_nil1, resL_nil2, resL_nil3, resC_ptr, ex0, ex1, ex2, ex0p, ex1p, ex2p, HL.cond_true, HL.cond_false, thenK_normal, thenK_ret, thenK_exit, blockK_normal, blockK_ret, blockK_exit, scopeK_normal, scopeK_ret, scopeK_exit, wpH_pure, bin_add, bin_sub, bin_mul, bin_lss, bin_leq, bin_gtr, bin_geq, bin_quo, bin_rem, bin_quop, bin_remp, wrap_in, bin_addp, bin_subp, bin_mulp, bin_lssp, bin_leqp, bin_gtrp, bin_geqp, un_not, un_notp, un_neg, eq_int, ne_int, eq_intp, ne_intp, callV_fn, add_mk, upd_eq, upd_ne, cell_set_self, Nat.zero_add, Nat.add_zero, Option.some.injEq, exists_eq_left', List.getElem?_cons_succ, List.getElem?_cons_zero, true_and, and_true, bne_self_eq_false, beq_self_eq_true, Bool.not_true, Bool.not_false, Bool.and_true, Bool.and_self, Bool.and_false, Bool.true_and, List.length_cons, List.length_nil, ne_eq, not_false_eq_true, Nat.reduceAdd, Nat.reduceMul, if_true, if_false, oneCell_int, oneCell_bool, oneCell_ptr, oneCell_slice, oneCell_string, oneCell_func, oneCell_map, Int.toNat_natCast, List.set_cons_zero, List.set_cons_succ, Nat.lt_irrefl, Nat.zero_lt_succ, Nat.succ_lt_succ_iff, fa27_0, fa27_0p, fa27_1, fa27_1p, fa53_0, fa53_0p, fa55_0, fa55_0p, fa55_1, fa55_1p, fa63_0, fa63_0p, fa63_1, fa63_1p, fa63_2, fa63_2p, fa65_0, fa65_0p, fa65_1, fa65_1p, fa70_0, fa70_0p, fa70_1, fa70_1p, fa70_2, fa70_2p, fa72_0, fa72_0p, fa72_1, fa72_1p, ld3, ld3p, ld4, ld4p, ld9, ld9p, ld24, ld24p, ld27, ld27p, ld28, ld28p, ld39, ld39p, ld44, ld44p, ld55, ld55p, ld61, ld61p, ld65, ld65p, ld68, ld68p, ld72, ld72p, st3s, st4s, st9s, st27w, st44s, st55w, st61s, st65w, st68s, st72w, ix22, ix22p, ix31, ix31p, ix36, ix36p, ix44, ix44p, ix50, ix50p, ix61, ix61p, ix68, ix68p, ln9, ln9p, ln22, ln22p, ln31, ln31p, ln36, ln36p, ln44, ln44p, ln50, ln50p, ln61, ln61p, ln68, ln68p, al3, al27, al44, al55, al65, al72, cf10, cf11, cf12, cf13, cf14, cf15, cf16, cf17, cf18, cf19, cf20, cf21, cf22, cf23, cf24, cf25, cf26, cf27, cf28, cf29, cf30, cf31, cf32, cf33, cf34, cf35, cf36, cf37, cf38, cf39, cf40, cf41, cf42, cf43, cf44, cf45, cf46, cf47, bd27_, bd27_p, bd27_0_1, bd27_0_1p, bd53_, bd53_p, bd53_0, bd53_0p, bd63_0, bd63_0p, bd63_0_1_2, bd63_0_1_2p, bd65_, bd65_p, bd65_0_1, bd65_0_1p, bd70_0, bd70_0p, bd72_, bd72_p, bd72_0_1, bd72_0_1p, bd77_0_1, bd77_0_1p, bs61_1_0, bs68_1_0, bs44_1_0, bs61_0_, eq9, eq9p, eq24n, eq24np, eq24s, eq24sp, eq27, eq27p, eq28n, eq28np, eq28s, eq28sp, eq37n, eq37np, eq37s, eq37sp, eq39n, eq39np, eq39s, eq39sp, eq74n, eq74np, eq74s, eq74sp, ne4, ne4p, ne27, ne27p, hfl]
  rw [show (K.length : Int) - ((K.length : Int) - (Qg.length : Int)) = (Qg.length : Int) by omega]
  try simp -implicitDefEqProofs (maxSteps := 2000000) (disch := first | with_reducible exact Nat.ne_of_beq_eq_false rfl | omega | rfl | (simp; done)) only [beq_self_eq_true]

end Go.Proofs.Ytkekdpnlenpmiaa
