/- Texts of the proof, one behind the other. -/
import Derived.Test.YtfflipnhffknnaaGreatDoorM2
import Derived.Test.YtfflipnhffknnaaGreatDoorM3
import Derived.Test.YtfflipnhffknnaaGreatDoorM1
import Derived.Test.YtfflipnhffknnaaGreatDoorH3
import Derived.Test.YtfflipnhffknnaaGreatDoorH4
import Derived.Test.YtfflipnhffknnaaGreatDoorHZ
set_option linter.defProp false
section
/- How long a move takes; stretches that two rows have in common. -/
set_option linter.unusedSimpArgs false
set_option linter.unusedVariables false
set_option maxRecDepth 100000
namespace Go.Proofs.YtfflipnhffknnaaGreatDoor
open Go Go.HL Go.Proofs.Resv Go.Proofs.Srch

def bRtL := jq (jq (jq (jq (jq @HL.cond_false (jq @HL.cond_true @Int.toNat_natCast)) (jq @List.getElem?_cons_succ.{0} (jq @List.getElem?_cons_zero.{0} @Nat.add_zero))) (jq (jq @Nat.zero_add (jq @Option.some.injEq.{0} @add_mk)) (jq (jq @al151 @bd151_0_1p) (jq @bin_add @bin_lss)))) (jq (jq (jq @bin_lssp (jq @blockK_exit @box_new)) (jq (jq @bs142_1_0 @cell_set_self) (jq @cells_agg @cf72))) (jq (jq @eq_int (jq @exists_eq_left'.{1} @fa151_0)) (jq (jq @fa151_0p @fa151_1) (jq @fa151_1p @fa26_10))))) (jq (jq (jq (jq @fa26_11 (jq @fa48_0 @fa48_2)) (jq (jq @gd_ft @gd_tt) (jq @if_true.{1} @if_true.{0}))) (jq (jq @ld151 (jq @ld3 @ld3p)) (jq (jq @ln142 @opH_su) (jq @opH_sv @pick_f)))) (jq (jq (jq @pick_t (jq @pureW_sv @regs0)) (jq (jq @regs1 @regs2) (jq @resL_nil1 @resL_tmp))) (jq (jq @retK_ret (jq @st151w @thenK_exit)) (jq (jq @thenK_normal @upd_eq) (jq @upd_ne @wrap_in)))))
def lastsI (C : Conf) (m : Move) : Int := if m.k = 1 then timeI C.un C.ac C.sp m.n else if m.k = 2 then C.tu else if m.k = 3 ∨ m.k = 4 then C.ho else 0

theorem lasts_spec {G h a : Hp} {R : List Hp} {v : Value} {C : Conf} {kp : Nat} {m : Move} (hv : CV G h v C) (k : KP a kp C.un C.ac C.sp) (s : Sep (a :: R) h) (hn : Bd m.n) :
    HCalls P_ G 30 #[v, .pointer (some ⟨kp, 0, none⟩), moveV m] h (fun u h' => u = .int .i64 (lastsI C m) ∧ ∃ a', KP a' kp C.un C.ac C.sp ∧ Sep (a' :: R) h' ∧ Dis G h') := by
  obtain ⟨ab, cb, ap, cp, ar, cr, az, cs, rfl, ca⟩ := hv
  refine HCalls.assume fun d => enter30 (by simp) ?_
  unfold S30
  simp only [bRtL]
  intro x hx gx y hy gy
  have s1 := ((s.new (o := .cells #[.int .i64 C.w, .int .i64 C.h, .int .i64 C.ht, .slice ab C.bl.length cb, .slice ap C.po.length cp, .slice ar C.ro.length cr, .slice az C.st.length cs, .int .i64 C.un, .int .i64 C.ac, .int .i64 C.sp, .int .i64 C.tu, .int .i64 C.ho, .int .i64 C.qu, .int .i64 C.re, .int .i64 C.bu, .bool C.back] 26 (0, 0)) hx).new (o := moveO m) hy)
  have d1 := (d.set (o := .cells #[.int .i64 C.w, .int .i64 C.h, .int .i64 C.ht, .slice ab C.bl.length cb, .slice ap C.po.length cp, .slice ar C.ro.length cr, .slice az C.st.length cs, .int .i64 C.un, .int .i64 C.ac, .int .i64 C.sp, .int .i64 C.tu, .int .i64 C.ho, .int .i64 C.qu, .int .i64 C.re, .int .i64 C.bu, .bool C.back] 26 (0, 0)) gx).set (o := moveO m) gy
  generalize Hp.set (Hp.set h x _) y _ = h1 at s1 d1 ⊢
  have cx : ∀ k, cellIn G h1 ⟨x, k, none⟩ = _ := fun k => cell_of (look_own (s1.at 1 rfl set_self))
  have cy : ∀ k, cellIn G h1 ⟨y, k, none⟩ = _ := fun k => cell_of (look_own (s1.at 0 rfl set_self))
  have out : ∀ u : Int, u = lastsI C m → (Value.int .i64 u = .int .i64 (lastsI C m) ∧ ∃ a', KP a' kp C.un C.ac C.sp ∧ Sep (a' :: R) h1 ∧ Dis G h1) := fun u e => ⟨by rw [e], a, k, s1.drop.drop, d1⟩
  try simp (disch := first | exact nq rfl | omega) only [bRtL, Nat.reduceAdd, Nat.reduceMul, cy]
  by_cases h1 : m.k = 1
  · rw [show (m.k == 1) = true by simpa using h1]
    try simp only [bRtL, cy]
    refine (time_spec k (s1.drop.drop) hn).mono ?_
    rintro _ h2 ⟨rfl, a', k', s2, d2⟩
    try simp (disch := first | exact nq rfl | omega) only [bRtL, Nat.reduceAdd, Nat.reduceMul]
    exact ⟨by unfold lastsI; rw [if_pos h1], a', k', s2, d2⟩
  · rw [show (m.k == 1) = false by simpa using h1]
    try simp only [bRtL, cy]
    by_cases h2 : m.k = 2
    · rw [show (m.k == 2) = true by simpa using h2]
      try simp only [bRtL, cx]
      exact out _ (by unfold lastsI; rw [if_neg h1, if_pos h2])
    · rw [show (m.k == 2) = false by simpa using h2]
      try simp only [bRtL, cy]
      by_cases h3 : m.k = 3
      · rw [show (m.k == 3) = true by simpa using h3]
        try simp only [bRtL]
        unfold S30_k2
        try simp (disch := first | exact nq rfl | omega) only [bRtL, cx]
        exact out _ (by unfold lastsI; rw [if_neg h1, if_neg h2, if_pos (.inl h3)])
      · rw [show (m.k == 3) = false by simpa using h3]
        try simp only [bRtL]
        unfold S30_k2
        by_cases h4 : m.k = 4
        · rw [show (m.k == 4) = true by simpa using h4]
          try simp (disch := first | exact nq rfl | omega) only [bRtL, cx]
          exact out _ (by unfold lastsI; rw [if_neg h1, if_neg h2, if_pos (.inr h4)])
        · rw [show (m.k == 4) = false by simpa using h4]
          try simp (disch := first | exact nq rfl | omega) only [bRtL]
          unfold S30_k1
          try simp only [bRtL]
          exact out _ (by unfold lastsI; rw [if_neg h1, if_neg h2, if_neg (by omega)])

def spanC : Cod Sp := ⟨2, fun x => [.int .i64 x.1, .int .i64 x.2], fun _ => rfl, fun _ v hv => by simp at hv; rcases hv with rfl | rfl <;> rfl⟩
theorem eospan : ElemOk P_ 151 spanC.n 16 := eo151

theorem Sees.span {G h : Hp} {sa : Option Addr} {cap n : Nat} {L : List Sp} (s : Sees spanC G h (.slice sa n cap) L) {i : Nat} {x : Sp} (hx : L[i]? = some x) :
    ∃ b o, sa = some ⟨b, o, none⟩ ∧ cellIn G h ⟨b, o + i * 2, none⟩ = some (.int .i64 x.1) ∧ cellIn G h ⟨b, o + i * 2 + 1, none⟩ = some (.int .i64 x.2) := by
  obtain ⟨s', cap', e, _, hc⟩ := s
  cases e
  rcases hc with rfl | ⟨b, o, rfl, hc⟩
  · simp at hx
  · exact ⟨b, o, rfl, hc i x hx 0 (by decide), hc i x hx 1 (by decide)⟩

theorem both_at {A B : List Sp} {i j : Nat} {x y : Sp} (hx : A[i]? = some x) (hy : B[j]? = some y) : bothL (A.drop i) (B.drop j) = capB x y ++ (if x.2 < y.2 then bothL (A.drop (i + 1)) (B.drop j) else bothL (A.drop i) (B.drop (j + 1))) := by
  obtain ⟨hi, rfl⟩ := List.getElem?_eq_some_iff.1 hx
  obtain ⟨hj, rfl⟩ := List.getElem?_eq_some_iff.1 hy
  rw [List.drop_eq_getElem_cons hi, List.drop_eq_getElem_cons hj, bothL, ← List.drop_eq_getElem_cons hi, ← List.drop_eq_getElem_cons hj]

theorem both_spec {G h : Hp} {va vb : Value} {A B : List Sp} (sA : Sees spanC G h va A) (sB : Sees spanC G h vb B) (hlen : A.length + B.length ≤ 1000000000) :
    HCalls P_ G 146 #[va, vb] h (fun u h' => ∃ ip, Slc spanC 151 ip u (bothL A B) ∧ Sep [ip, h] h' ∧ Dis G h') := by
  obtain ⟨a1, c1, rfl, _⟩ := id sA
  obtain ⟨a2, c2, rfl, _⟩ := id sB
  obtain ⟨W, hW⟩ : ∃ W, W = bothL A B := ⟨_, rfl⟩
  rw [← hW]
  have hWl : W.length ≤ 1000000000 := by have := both_len _ A B (Nat.le_refl _); rw [hW]; omega
  refine HCalls.assume fun d => enter146 (by simp) ?_
  unfold S146
  refine loop_I (fun m r h' => ∃ (i j : Nat) (ip : Hp) (O : List Sp) (v : Value), m = (A.length - i) + (B.length - j) ∧ i ≤ A.length ∧ j ≤ B.length ∧ r 0 = .slice a1 A.length c1 ∧ r 1 = .slice a2 B.length c2 ∧ r 5 = v ∧ r 6 = .int .i64 i ∧ r 7 = .int .i64 j ∧
    Slc spanC 151 ip v O ∧ Sep [ip, h] h' ∧ Dis G h' ∧ O ++ bothL (A.drop i) (B.drop j) = W) ?_ (m := A.length + B.length)
    ⟨0, 0, noHp, [], .slice none 0 0, rfl, by omega, by omega, by simp (disch := first | exact nq rfl | omega) only [bRtL], by simp (disch := first | exact nq rfl | omega) only [bRtL], by simp (disch := first | exact nq rfl | omega) only [bRtL], by simp (disch := first | exact nq rfl | omega) only [bRtL]; rfl, by simp only [bRtL]; rfl, Slc.nil, Sep.one.none, d, by simp [hW]⟩
  rintro m r h' ⟨i, j, ip, O, v, rfl, hi, hj, g0, g1, g5, g6, g7, sl, s, d', hO⟩ X hX
  unfold S146_l2
  simp only [bRtL, g0, g1, g6, g7]
  have fin : bothL (A.drop i) (B.drop j) = [] → ∀ (r' : Rg), r' 5 = v → S146_k1 G (retK P_ G [.tmp 4] fun u h' => ∃ ip, Slc spanC 151 ip u W ∧ Sep [ip, h] h' ∧ Dis G h') r' h' := fun e r' g => by
    unfold S146_k1
    try simp only [bRtL, g]
    rw [e, List.append_nil] at hO
    rw [← hO]
    exact ⟨ip, sl, s, d'⟩
  by_cases hi2 : i < A.length
  · rw [dec_t (show (i : Int) < (A.length : Int) by omega)]
    simp only [bRtL, g1, g7]
    by_cases hj2 : j < B.length
    · rw [dec_t (show (j : Int) < (B.length : Int) by omega)]
      simp only [bRtL]
      obtain ⟨x, hx⟩ : ∃ x, A[i]? = some x := ⟨_, List.getElem?_eq_getElem hi2⟩
      obtain ⟨y, hy⟩ : ∃ y, B[j]? = some y := ⟨_, List.getElem?_eq_getElem hj2⟩
      rw [both_at hx hy] at hO
      obtain ⟨b1, o1, rfl, x1, x2⟩ := Sees.span (sA.up (s.in 1 rfl) d') hx
      obtain ⟨b2, o2, rfl, y1, y2⟩ := Sees.span (sB.up (s.in 1 rfl) d') hy
      unfold S146_l2_k3
      simp -implicitDefEqProofs (maxSteps := 2000000) (disch := first | with_reducible exact Nat.ne_of_beq_eq_false rfl | exact oneCell_int | exact oneCell_bool | omega | rfl | (simp; done) | fail) only [bRtL, g0, g1, g6, g7, ix142p (Int.natCast_nonneg i) (show (i : Int) < (A.length : Int) by omega), ix142p (Int.natCast_nonneg j) (show (j : Int) < (B.length : Int) by omega), x1, x2, y1, y2, max2p, min2p]
      intro z hz gz
      have s1 := s.past (o := .cells #[.int .i64 (max x.1 y.1), .int .i64 (min x.2 y.2)] 151 (0, 0)) hz
      have d1 := d'.set (o := .cells #[.int .i64 (max x.1 y.1), .int .i64 (min x.2 y.2)] 151 (0, 0)) gz
      have hzs : (h'.set z (.cells #[.int .i64 (max x.1 y.1), .int .i64 (min x.2 y.2)] 151 (0, 0))) z = some (.cells #[.int .i64 (max x.1 y.1), .int .i64 (min x.2 y.2)] 151 (0, 0)) := set_self
      have k4 : ∀ (r' : Rg) (h4 ip' : Hp) (v' : Value), r' 0 = r 0 → r' 1 = r 1 → r' 6 = r 6 → r' 7 = r 7 → r' 5 = v' → Slc spanC 151 ip' v' (O ++ capB x y) → Sep [ip', h] h4 → Dis G h4 →
          S146_l2_k4 G (thenK X (blockK 0 (thenK (S146_k1 G (retK P_ G [.tmp 4] fun u h' => ∃ ip, Slc spanC 151 ip u W ∧ Sep [ip, h] h' ∧ Dis G h')) (retK P_ G [.tmp 4] fun u h' => ∃ ip, Slc spanC 151 ip u W ∧ Sep [ip, h] h' ∧ Dis G h')))) r' h4 := by
        intro r' h4 ip' v' e0 e1 e6 e7 e5 sl' s4 d4
        obtain ⟨q1, p1, f1, u1, u2⟩ := Sees.span (sA.up (s4.in 1 rfl) d4) hx
        obtain ⟨q2, p2, f2, w1, w2⟩ := Sees.span (sB.up (s4.in 1 rfl) d4) hy
        cases f1
        cases f2
        rw [g0] at e0; rw [g1] at e1; rw [g6] at e6; rw [g7] at e7
        unfold S146_l2_k4
        simp (disch := first | exact nq rfl | omega) only [bRtL, e0, e1, e6, e7, ix142p (Int.natCast_nonneg i) (show (i : Int) < (A.length : Int) by omega), ix142p (Int.natCast_nonneg j) (show (j : Int) < (B.length : Int) by omega), u2, w2]
        refine cond_dec (fun hlt => ?_) (fun hge => ?_)
        · rw [if_pos hlt] at hO
          try simp (disch := first | exact nq rfl | omega) only [bRtL, Nat.reduceAdd, Nat.reduceMul, e6]
          refine hX ((A.length - (i + 1)) + (B.length - j)) _ _ (by omega) ⟨i + 1, j, ip', O ++ capB x y, v', rfl, by omega, by omega, by simp (disch := first | exact nq rfl | omega) only [bRtL, e0], by simp (disch := first | exact nq rfl | omega) only [bRtL, e1], by simp (disch := first | exact nq rfl | omega) only [bRtL, e5], by simp only [bRtL]; rfl, by simp (disch := first | exact nq rfl | omega) only [bRtL, e7], sl', s4, d4, by rw [List.append_assoc]; exact hO⟩
        · rw [if_neg hge] at hO
          try simp (disch := first | exact nq rfl | omega) only [bRtL, Nat.reduceAdd, Nat.reduceMul, e7]
          refine hX ((A.length - i) + (B.length - (j + 1))) _ _ (by omega) ⟨i, j + 1, ip', O ++ capB x y, v', rfl, by omega, by omega, by simp (disch := first | exact nq rfl | omega) only [bRtL, e0], by simp (disch := first | exact nq rfl | omega) only [bRtL, e1], by simp (disch := first | exact nq rfl | omega) only [bRtL, e5], by simp (disch := first | exact nq rfl | omega) only [bRtL, e6], by simp only [bRtL]; rfl, sl', s4, d4, by rw [List.append_assoc]; exact hO⟩
      generalize Hp.set h' z _ = h3 at s1 d1 hzs ⊢
      refine cond_dec (fun hlt => ?_) (fun hge => ?_)
      · intro q hq gq
        have s2 := s1.past (o := .cells #[.int .i64 (max x.1 y.1), .int .i64 (min x.2 y.2)] 151 (0, 0)) hq
        have d2 := d1.set (o := .cells #[.int .i64 (max x.1 y.1), .int .i64 (min x.2 y.2)] 151 (0, 0)) gq
        have hqs : (h3.set q (.cells #[.int .i64 (max x.1 y.1), .int .i64 (min x.2 y.2)] 151 (0, 0))) q = some (.cells #[.int .i64 (max x.1 y.1), .int .i64 (min x.2 y.2)] 151 (0, 0)) := set_self
        generalize Hp.set h3 q _ = h4 at s2 d2 hqs ⊢
        rw [g5]
        have hcap : capB x y = [(max x.1 y.1, min x.2 y.2)] := by unfold capB; rw [if_pos hlt]
        have hOl : O.length + 1 ≤ 1000000000 := by
          have := congrArg List.length hO
          rw [hcap] at this
          simp only [List.length_append, List.length_cons] at this
          omega
        refine append_big spanC (by decide) (M := [(max x.1 y.1, min x.2 y.2)]) un142 eospan (by decide) s2 d2 sl (Sees.row hqs (by simp [spanC, Cod.rows]) (by simp)) (by simp only [List.length_cons, List.length_nil]; omega) ?_
        intro v' ip' h5 sl' s5 d5
        refine k4 _ h5 ip' v' (by simp (disch := first | exact nq rfl | omega) only [bRtL]) (by simp (disch := first | exact nq rfl | omega) only [bRtL]) (by simp (disch := first | exact nq rfl | omega) only [bRtL]) (by simp (disch := first | exact nq rfl | omega) only [bRtL]) (by simp only [bRtL]) (by rw [hcap]; exact sl') s5 d5
      · have hcap : capB x y = [] := by unfold capB; rw [if_neg hge]
        refine k4 _ h3 ip v (by simp (disch := first | exact nq rfl | omega) only [bRtL]) (by simp (disch := first | exact nq rfl | omega) only [bRtL]) (by simp (disch := first | exact nq rfl | omega) only [bRtL]) (by simp (disch := first | exact nq rfl | omega) only [bRtL]) (by simp (disch := first | exact nq rfl | omega) only [bRtL, g5]) (by rw [hcap, List.append_nil]; exact sl) s1 d1
    · have hj3 : j = B.length := by omega
      rw [dec_f (show ¬ (j : Int) < (B.length : Int) by omega)]
      simp only [bRtL]
      exact fin (by rw [hj3, List.drop_length]; cases A.drop i <;> simp [bothL]) _ (by simp (disch := first | exact nq rfl | omega) only [bRtL, g5])
  · have hi3 : i = A.length := by omega
    rw [dec_f (show ¬ (i : Int) < (A.length : Int) by omega)]
    simp only [bRtL]
    exact fin (by rw [hi3, List.drop_length]; simp [bothL]) _ (by simp (disch := first | exact nq rfl | omega) only [bRtL, g5])
end Go.Proofs.YtfflipnhffknnaaGreatDoor
end

section
/- A text of the proofs. -/
set_option linter.unusedVariables false
set_option maxRecDepth 100000
namespace Go.Proofs.YtfflipnhffknnaaGreatDoor
open Go Go.HL
def md24 : Nat → Hint
  | _ => mh false [] [] [] false
def S24_k1 (G : Hp) (K : EK) (r : Rg) (h : Hp) : Prop :=
  o_ G (Instr.makeSlice 98 (r 0) (r 0)) h fun v4 h4 =>
  o_ G (Instr.build 124 #[(0, v4)]) h4 fun v5 h5 =>
  o_ G (Instr.box 124 v5) h5 fun v6 h6 =>
  K .ret (upd (upd (upd (upd (upd (upd r 10 (r 0)) 11 v4) 12 v5) 13 v6) 2 v6) 3 (.int .i64 0)) h6
def S24 (G : Hp) (K : EK) (r : Rg) (h : Hp) : Prop :=
  o_ G (binOp .lss 3 (r 0) (.int .i64 1)) h fun v0 h0 =>
  gd (wantB v0 false) (fun K1 => K1 (r 0) h0) h0 fun v1 h1 =>
  gd (wantB v0 false) (o_ G (binOp .gtr 3 v1 (.int .i64 256)) h1) h1 fun v2 h2 =>
  opH P_ G (xPick v0 (.bool true) v2) h2 fun v3 h3 =>
  (fun q => cond v3
  (K .ret (upd (upd q 2 (.pointer none)) 3 (.int .i64 1)) h3)
  (S24_k1 G K q h3))
  (upd (upd (upd (upd (upd (upd (upd (upd r 2 (.pointer none)) 3 (.int .i64 0)) 4 (r 0)) 5 v0) 6 v0) 7 v1) 8 v2) 9 v3)
theorem S24_eq : Weq 14 md24 (Tryz.f24.body.getD .skip) S24 := fun _ _ _ _ => by kernel_rfl
theorem enter24 : Ent 14 24 [.tmp 2, .tmp 3] S24 := ent_ S24_eq Tryz.func24 rfl rfl rfl

def md145 : Nat → Hint
  | _ => mh false [] [] [] false
def S145 (G : Hp) (K : EK) (r : Rg) (h : Hp) : Prop :=
  o_ G (Instr.box 34 (r 0)) h fun v0 h0 =>
  o_ G (Instr.box 3 (r 1)) h0 fun v1 h1 =>
  o_ G (Instr.box 3 (r 2)) h1 fun v2 h2 =>
  K .ret (upd (upd (upd (upd (upd (upd r 3 v0) 4 v1) 5 v2) 6 .nilFunc) 7 (.func (.func 164) #[] #[v0, v1, v2])) 6 (.func (.func 164) #[] #[v0, v1, v2])) h2
theorem S145_eq : Weq 8 md145 (Tryz.f145.body.getD .skip) S145 := fun _ _ _ _ => by kernel_rfl
theorem enter145 : Ent 8 145 [.tmp 6] S145 := ent_ S145_eq Tryz.func145 rfl rfl rfl

def md26 : Nat → Hint
  | _ => mh false [] [] [] false
def S26_k1 (G : Hp) (K : EK) (r : Rg) (h : Hp) : Prop :=
  opH P_ G (xNil (r 0)) h fun v1 h1 =>
  o_ G (Instr.fieldAt 124 v1 0) h1 fun v2 h2 =>
  o_ G (Instr.loadAt 98 v2) h2 fun v3 h3 =>
  o_ G (Builtin.len_ #[98] 3 #[v3]) h3 fun v4 h4 =>
  K .ret (upd (upd (upd (upd (upd (upd r 5 (r 0)) 6 v1) 7 v2) 8 v3) 9 v4) 2 v4) h4
def S26 (G : Hp) (K : EK) (r : Rg) (h : Hp) : Prop :=
  opH P_ G (xEq .eql 34 (.tmp 0) (.const .nilFunc) (r 0) (.pointer none)) h fun v0 h0 =>
  cond v0
  (K .ret (upd (upd (upd (upd r 2 (.int .i64 0)) 3 (r 0)) 4 v0) 2 (.int .i64 0)) h0)
  (S26_k1 G K (upd (upd (upd r 2 (.int .i64 0)) 3 (r 0)) 4 v0) h0)
theorem S26_eq : Weq 10 md26 (Tryz.f26.body.getD .skip) S26 := fun _ _ _ _ => by kernel_rfl
theorem enter26 : Ent 10 26 [.tmp 2] S26 := ent_ S26_eq Tryz.func26 rfl rfl rfl

def md103 : Nat → Hint
  | _ => mh false [] [] [] false
def S103 (G : Hp) (K : EK) (r : Rg) (h : Hp) : Prop :=
  opH P_ G (xEq .neq 34 (.tmp 0) (.const .nilFunc) (r 0) (.pointer none)) h fun v0 h0 =>
  gd (wantB v0 true) (fun K1 => K1 (r 1) h0) h0 fun v1 h1 =>
  gd (wantB v0 true) (o_ G (binOp .geq 3 v1 (.int .i64 0)) h1) h1 fun v2 h2 =>
  opH P_ G (xPick v0 v2 (.bool false)) h2 fun v3 h3 =>
  gd (wantB v3 true) (fun K1 => K1 (r 1) h3) h3 fun v4 h4 =>
  gd (wantB v3 true) (fun K1 => K1 (r 0) h4) h4 fun v5 h5 =>
  gd (wantB v3 true) (opH P_ G (xNil v5) h5) h5 fun v6 h6 =>
  gd (wantB v3 true) (o_ G (Instr.fieldAt 124 v6 0) h6) h6 fun v7 h7 =>
  gd (wantB v3 true) (o_ G (Instr.loadAt 98 v7) h7) h7 fun v8 h8 =>
  gd (wantB v3 true) (o_ G (Builtin.len_ #[98] 3 #[v8]) h8) h8 fun v9 h9 =>
  gd (wantB v3 true) (o_ G (binOp .lss 3 v4 v9) h9) h9 fun v10 h10 =>
  opH P_ G (xPick v3 v10 (.bool false)) h10 fun v11 h11 =>
  K .ret (upd (upd (upd (upd (upd (upd (upd (upd (upd (upd (upd (upd (upd (upd (upd (upd (upd r 4 (.bool false)) 5 (r 0)) 6 v0) 7 v0) 8 v1) 9 v2) 10 v3) 11 v3) 12 v4) 13 v5) 14 v6) 15 v7) 16 v8) 17 v9) 18 v10) 19 v11) 4 v11) h11
theorem S103_eq : Weq 20 md103 (Tryz.f103.body.getD .skip) S103 := fun _ _ _ _ => by kernel_rfl
theorem enter103 : Ent 20 103 [.tmp 4] S103 := ent_ S103_eq Tryz.func103 rfl rfl rfl

def md104 : Nat → Hint
  | _ => mh false [] [] [] false
def S104_k1 (G : Hp) (K : EK) (r : Rg) (h : Hp) : Prop :=
  K .ret (upd r 10 (.bool true)) h
def S104_l2_k4 (G : Hp) (K : EK) (r : Rg) (h : Hp) : Prop :=
  o_ G (binOp .add 3 (r 21) (.int .i64 1)) h fun v7 h7 =>
  K .normal (upd (upd r 41 v7) 21 v7) h7
def S104_l2_k3 (G : Hp) (K : EK) (r : Rg) (h : Hp) : Prop :=
  o_ G (Instr.indexAt 99 (r 19) (r 21)) h fun v8 h8 =>
  o_ G (Instr.loadAt 203 v8) h8 fun v9 h9 =>
  o_ G (Instr.alloc 203 true (.tuple #[])) h9 fun v10 h10 =>
  opH P_ G (su (Instr.storeAt 203 v10 v9)) h10 fun v11 h11 =>
  o_ G (Instr.fieldAt 203 v10 2) h11 fun v12 h12 =>
  o_ G (Instr.loadAt 3 v12) h12 fun v13 h13 =>
  opH P_ G (xEq .neq 3 (.tmp 0) (.tmp 0) v13 (r 1)) h13 fun v14 h14 =>
  gd (wantB v14 true) (o_ G (Instr.fieldAt 203 v10 0) h14) h14 fun v15 h15 =>
  gd (wantB v14 true) (o_ G (Instr.loadAt 3 v15) h15) h15 fun v16 h16 =>
  gd (wantB v14 true) (fun K1 => K1 (r 4) h16) h16 fun v17 h17 =>
  gd (wantB v14 true) (o_ G (binOp .lss 3 v16 v17) h17) h17 fun v18 h18 =>
  opH P_ G (xPick v14 v18 (.bool false)) h18 fun v19 h19 =>
  gd (wantB v19 true) (fun K1 => K1 (r 3) h19) h19 fun v20 h20 =>
  gd (wantB v19 true) (o_ G (Instr.fieldAt 203 v10 1) h20) h20 fun v21 h21 =>
  gd (wantB v19 true) (o_ G (Instr.loadAt 3 v21) h21) h21 fun v22 h22 =>
  gd (wantB v19 true) (o_ G (binOp .lss 3 v20 v22) h22) h22 fun v23 h23 =>
  opH P_ G (xPick v19 v23 (.bool false)) h23 fun v24 h24 =>
  (fun q => cond v24
  (K .ret (upd q 10 (.bool false)) h24)
  (S104_l2_k4 G K q h24))
  (upd (upd (upd (upd (upd (upd (upd (upd (upd (upd (upd (upd (upd (upd (upd (upd (upd (upd (upd r 23 v8) 24 v9) 12 v10) 25 v12) 26 v13) 27 (r 1)) 28 v14) 29 v14) 30 v15) 31 v16) 32 v17) 33 v18) 34 v19) 35 v19) 36 v20) 37 v21) 38 v22) 39 v23) 40 v24)
def S104_l2 (G : Hp) (r : Rg) (h : Hp) (K : EK) : Prop :=
  o_ G (binOp .lss 3 (r 21) (r 20)) h fun v6 h6 =>
  cond v6
  (S104_l2_k3 G K (upd r 22 v6) h6)
  (K (.exit 0) (upd r 22 v6) h6)
def S104 (G : Hp) (K : EK) (r : Rg) (h : Hp) : Prop :=
  opH P_ G (xNil (r 0)) h fun v0 h0 =>
  o_ G (Instr.fieldAt 124 v0 0) h0 fun v1 h1 =>
  o_ G (Instr.loadAt 98 v1) h1 fun v2 h2 =>
  o_ G (Instr.indexAt 98 v2 (r 2)) h2 fun v3 h3 =>
  o_ G (Instr.loadAt 99 v3) h3 fun v4 h4 =>
  o_ G (Builtin.len_ #[99] 3 #[v4]) h4 fun v5 h5 =>
  loopP (S104_l2 G) (upd (upd (upd (upd (upd (upd (upd (upd (upd (upd r 10 (.bool false)) 13 (r 0)) 14 v0) 15 v1) 16 v2) 17 (r 2)) 18 v3) 19 v4) 20 v5) 21 (.int .i64 0)) h5 (blockK 0 (thenK (S104_k1 G K) K))
theorem S104_eq : Weq 42 md104 (Tryz.f104.body.getD .skip) S104 := fun _ _ _ _ => by kernel_rfl
theorem enter104 : Ent 42 104 [.tmp 10] S104 := ent_ S104_eq Tryz.func104 rfl rfl rfl

def md106 : Nat → Hint
  | _ => mh false [] [] [] false
def S106_k1 (G : Hp) (K : EK) (r : Rg) (h : Hp) : Prop :=
  o_ G (Builtin.len_ #[99] 3 #[(r 0)]) h fun v2 h2 =>
  o_ G (Instr.makeSlice 99 v2 v2) h2 fun v3 h3 =>
  o_ G (Builtin.copy_ #[99, 99] 3 #[v3, (r 0)]) h3 fun v4 h4 =>
  K .ret (upd (upd (upd (upd (upd (upd (upd (upd (upd r 7 (r 0)) 8 v2) 9 v3) 3 v3) 10 v3) 11 (r 0)) 12 v4) 13 v3) 2 v3) h4
def S106 (G : Hp) (K : EK) (r : Rg) (h : Hp) : Prop :=
  o_ G (Builtin.len_ #[99] 3 #[(r 0)]) h fun v0 h0 =>
  opH P_ G (xEq .eql 3 (.tmp 0) (.const .nilFunc) v0 (.int .i64 0)) h0 fun v1 h1 =>
  (fun q => cond v1
  (K .ret (upd q 2 (.slice none 0 0)) h1)
  (S106_k1 G K q h1))
  (upd (upd (upd (upd r 2 (.slice none 0 0)) 4 (r 0)) 5 v0) 6 v1)
theorem S106_eq : Weq 14 md106 (Tryz.f106.body.getD .skip) S106 := fun _ _ _ _ => by kernel_rfl
theorem enter106 : Ent 14 106 [.tmp 2] S106 := ent_ S106_eq Tryz.func106 rfl rfl rfl

def md164 : Nat → Hint
  | 2 => mh false [0,1,3,7,0,31,63,127,0] [m_,n_,n_,m_,m_,n_,m_,m_,n_] (fs 9) false
  | _ => mh false [] [] [] false
def S164_k2 (G : Hp) (K : EK) (r : Rg) (h : Hp) : Prop :=
  o_ G (binOp .lss 3 (r 5) (.int .i64 4611686018427387904)) h fun v12 h12 =>
  cond v12
  (opH P_ G (xCallV (r 0) #[(r 5), (.int .i64 4611686018427387904)]) h12 fun v13 h13 =>
  K .normal (upd (upd (upd (upd (upd r 43 (r 5)) 44 v12) 45 (r 0)) 46 (r 5)) 47 v13) h13)
  (K .normal (upd (upd r 43 (r 5)) 44 v12) h12)
def S164_l3_k5 (G : Hp) (K : EK) (r : Rg) (h : Hp) : Prop :=
  o_ G (binOp .add 3 (r 20) (.int .i64 1)) h fun v15 h15 =>
  K .normal (upd (upd r 42 v15) 20 v15) h15
def S164_l3_k7 (G : Hp) (K : EK) (r : Rg) (h : Hp) : Prop :=
  o_ G (Instr.fieldAt 203 (r 7) 1) h fun v34 h34 =>
  o_ G (Instr.loadAt 3 v34) h34 fun v35 h35 =>
  S164_l3_k5 G K (upd (upd (upd r 40 v34) 41 v35) 5 v35) h35
def S164_l3_k6 (G : Hp) (K : EK) (r : Rg) (h : Hp) : Prop :=
  o_ G (Instr.fieldAt 203 (r 7) 0) h fun v24 h24 =>
  o_ G (Instr.loadAt 3 v24) h24 fun v25 h25 =>
  o_ G (binOp .gtr 3 v25 (r 5)) h25 fun v26 h26 =>
  gd (wantB v26 true) (fun K1 => K1 (r 0) h26) h26 fun v27 h27 =>
  gd (wantB v26 true) (fun K1 => K1 (r 5) h27) h27 fun v28 h28 =>
  gd (wantB v26 true) (o_ G (Instr.fieldAt 203 (r 7) 0) h28) h28 fun v29 h29 =>
  gd (wantB v26 true) (o_ G (Instr.loadAt 3 v29) h29) h29 fun v30 h30 =>
  gd (wantB v26 true) (opH P_ G (xCallV v27 #[v28, v30]) h30) h30 fun v31 h31 =>
  gd (wantB v26 true) (o_ G (Op.unary .not v31) h31) h31 fun v32 h32 =>
  opH P_ G (xPick v26 v32 (.bool false)) h32 fun v33 h33 =>
  (fun q => cond v33
  (K .ret q h33)
  (S164_l3_k7 G K q h33))
  (upd (upd (upd (upd (upd (upd (upd (upd (upd (upd (upd (upd r 28 v24) 29 v25) 30 (r 5)) 31 v26) 32 v26) 33 v27) 34 v28) 35 v29) 36 v30) 37 v31) 38 v32) 39 v33)
def S164_l3_k4 (G : Hp) (K : EK) (r : Rg) (h : Hp) : Prop :=
  o_ G (Instr.indexAt 99 (r 18) (r 20)) h fun v16 h16 =>
  o_ G (Instr.loadAt 203 v16) h16 fun v17 h17 =>
  o_ G (Instr.alloc 203 true (.tuple #[])) h17 fun v18 h18 =>
  opH P_ G (su (Instr.storeAt 203 v18 v17)) h18 fun v19 h19 =>
  o_ G (Instr.fieldAt 203 v18 2) h19 fun v20 h20 =>
  o_ G (Instr.loadAt 3 v20) h20 fun v21 h21 =>
  o_ G (Instr.loadAt 3 (r 3)) h21 fun v22 h22 =>
  opH P_ G (xEq .eql 3 (.tmp 0) (.tmp 0) v21 v22) h22 fun v23 h23 =>
  (fun q => cond v23
  (S164_l3_k5 G K q h23)
  (S164_l3_k6 G K q h23))
  (upd (upd (upd (upd (upd (upd (upd r 22 v16) 23 v17) 7 v18) 24 v20) 25 v21) 26 v22) 27 v23)
def S164_l3 (G : Hp) (r : Rg) (h : Hp) (K : EK) : Prop :=
  o_ G (binOp .lss 3 (r 20) (r 19)) h fun v14 h14 =>
  cond v14
  (S164_l3_k4 G K (upd r 21 v14) h14)
  (K (.exit 0) (upd r 21 v14) h14)
def S164_k1 (G : Hp) (K : EK) (r : Rg) (h : Hp) : Prop :=
  pureW P_ G h (sv (Instr.loadAt 34 (r 1))) h fun v4 h4 =>
  pureW P_ noHp noHp (xNil v4) h4 fun v5 h5 =>
  p_ (Instr.fieldAt 124 v5 0) h5 fun v6 h6 =>
  pureW P_ G h (sv (Instr.loadAt 98 v6)) h6 fun v7 h7 =>
  pureW P_ G h (sv (Instr.loadAt 3 (r 2))) h7 fun v8 h8 =>
  p_ (Instr.indexAt 98 v7 v8) h8 fun v9 h9 =>
  pureW P_ G h (sv (Instr.loadAt 99 v9)) h9 fun v10 h10 =>
  pureW P_ G h (sv (Builtin.len_ #[99] 3 #[v10])) h10 fun v11 h11 =>
  loopP (S164_l3 G) (upd (upd (upd (upd (upd (upd (upd (upd (upd (upd r 5 (.int .i64 0)) 12 v4) 13 v5) 14 v6) 15 v7) 16 v8) 17 v9) 18 v10) 19 v11) 20 (.int .i64 0)) h11 (blockK 0 (thenK (S164_k2 G K) (scopeK K)))
def S164 (G : Hp) (K : EK) (r : Rg) (h : Hp) : Prop :=
  o_ G (Instr.loadAt 34 (r 1)) h fun v0 h0 =>
  o_ G (Instr.loadAt 3 (r 2)) h0 fun v1 h1 =>
  opH P_ G (callFunc 103 #[v0, v1]) h1 fun v2 h2 =>
  o_ G (Op.unary .not v2) h2 fun v3 h3 =>
  cond v3
  (K .ret (upd (upd (upd (upd r 8 v0) 9 v1) 10 v2) 11 v3) h3)
  (S164_k1 G K (upd (upd (upd (upd r 8 v0) 9 v1) 10 v2) 11 v3) h3)
theorem S164_eq : Weq 48 md164 (Tryz.f164.body.getD .skip) S164 := fun _ _ _ _ => by kernel_rfl
theorem enter164 : Ent 48 164 [] S164 := ent_ S164_eq Tryz.func164 rfl rfl rfl

def md77 : Nat → Hint
  | _ => mh false [] [] [] false
def S77_k1 (G : Hp) (K : EK) (r : Rg) (h : Hp) : Prop :=
  o_ G (Instr.indexAt 110 (r 5) (.int .i64 0)) h fun v9 h9 =>
  o_ G (Instr.loadAt 3 v9) h9 fun v10 h10 =>
  o_ G (Instr.indexAt 110 (r 5) (.int .i64 1)) h10 fun v11 h11 =>
  o_ G (Instr.loadAt 3 v11) h11 fun v12 h12 =>
  o_ G (binOp .add 3 v10 v12) h12 fun v13 h13 =>
  K .ret (upd (upd (upd (upd (upd (upd r 15 v9) 16 v10) 17 v11) 18 v12) 19 v13) 4 v13) h13
def S77 (G : Hp) (K : EK) (r : Rg) (h : Hp) : Prop :=
  opH P_ G (callFunc 126 #[(r 0), (r 1)]) h fun v0 h0 =>
  o_ G (Instr.alloc 110 true (.tuple #[])) h0 fun v1 h1 =>
  opH P_ G (su (Instr.storeAt 110 v1 v0)) h1 fun v2 h2 =>
  o_ G (Instr.indexAt 110 v1 (.int .i64 0)) h2 fun v3 h3 =>
  o_ G (Instr.loadAt 3 v3) h3 fun v4 h4 =>
  o_ G (Instr.indexAt 110 v1 (.int .i64 1)) h4 fun v5 h5 =>
  o_ G (Instr.loadAt 3 v5) h5 fun v6 h6 =>
  o_ G (binOp .sub 3 (.int .i64 4611686018427387904) v6) h6 fun v7 h7 =>
  o_ G (binOp .gtr 3 v4 v7) h7 fun v8 h8 =>
  (fun q => cond v8
  (K .ret (upd q 4 (.int .i64 4611686018427387904)) h8)
  (S77_k1 G K q h8))
  (upd (upd (upd (upd (upd (upd (upd (upd (upd (upd (upd r 4 (.int .i64 0)) 6 (r 0)) 7 (r 1)) 8 v0) 5 v1) 9 v3) 10 v4) 11 v5) 12 v6) 13 v7) 14 v8)
theorem S77_eq : Weq 20 md77 (Tryz.f77.body.getD .skip) S77 := fun _ _ _ _ => by kernel_rfl
theorem enter77 : Ent 20 77 [.tmp 4] S77 := ent_ S77_eq Tryz.func77 rfl rfl rfl

def md143 : Nat → Hint
  | _ => mh false [] [] [] false
def S143 (G : Hp) (K : EK) (r : Rg) (h : Hp) : Prop :=
  o_ G (Instr.box 203 (r 0)) h fun v0 h0 =>
  o_ G (Instr.fieldAt 203 v0 0) h0 fun v1 h1 =>
  o_ G (Instr.loadAt 3 v1) h1 fun v2 h2 =>
  o_ G (binOp .sub 3 v2 (r 1)) h2 fun v3 h3 =>
  K .ret (upd (upd (upd (upd (upd (upd (upd r 2 v0) 4 (.int .i64 0)) 5 v1) 6 v2) 7 (r 1)) 8 v3) 4 v3) h3
theorem S143_eq : Weq 9 md143 (Tryz.f143.body.getD .skip) S143 := fun _ _ _ _ => by kernel_rfl
theorem enter143 : Ent 9 143 [.tmp 4] S143 := ent_ S143_eq Tryz.func143 rfl rfl rfl

def md126 : Nat → Hint
  | _ => mh false [] [] [] false
def S126 (G : Hp) (K : EK) (r : Rg) (h : Hp) : Prop :=
  o_ G (Instr.alloc 110 true (.tuple #[])) h fun v0 h0 =>
  opH P_ G (callFunc 154 #[(r 0)]) h0 fun v1 h1 =>
  opH P_ G (callFunc 154 #[(r 1)]) h1 fun v2 h2 =>
  o_ G (Instr.build 110 #[(0, v1), (1, v2)]) h2 fun v3 h3 =>
  opH P_ G (su (Instr.storeAt 110 v0 v3)) h3 fun v4 h4 =>
  K .ret (upd (upd (upd (upd (upd (upd r 4 v0) 5 (r 0)) 6 v1) 7 (r 1)) 8 v2) 9 v3) h4
theorem S126_eq : Weq 10 md126 (Tryz.f126.body.getD .skip) S126 := fun _ _ _ _ => by kernel_rfl
theorem enter126 : Ent 10 126 [.cell 4 110] S126 := ent_ S126_eq Tryz.func126 rfl rfl rfl

def md154 : Nat → Hint
  | _ => mh false [] [] [] false
def S154 (G : Hp) (K : EK) (r : Rg) (h : Hp) : Prop :=
  o_ G (Builtin.min_ #[3, 3] 3 #[(r 0), (.int .i64 4611686018427387904)]) h fun v0 h0 =>
  o_ G (Builtin.max_ #[3, 3] 3 #[(.int .i64 0), v0]) h0 fun v1 h1 =>
  K .ret (upd (upd (upd (upd (upd r 2 (.int .i64 0)) 3 (r 0)) 4 v0) 5 v1) 2 v1) h1
theorem S154_eq : Weq 6 md154 (Tryz.f154.body.getD .skip) S154 := fun _ _ _ _ => by kernel_rfl
theorem enter154 : Ent 6 154 [.tmp 2] S154 := ent_ S154_eq Tryz.func154 rfl rfl rfl

end Go.Proofs.YtfflipnhffknnaaGreatDoor
end

section
/- Slots as they lie; the table, and what it answers. -/
set_option linter.unusedSimpArgs false
set_option linter.unusedVariables false
set_option maxRecDepth 100000
namespace Go.Proofs.YtfflipnhffknnaaGreatDoor.Rv
open Go Go.HL Go.Proofs.Resv

def bRpVA := jq (jq (jq (jq (jq @Bool.not_false @Bool.not_true) (jq @Bool.true_and @HL.cond_false)) (jq (jq @HL.cond_true @List.length_nil.{0}) (jq @Nat.add_zero (jq @Nat.zero_add @Option.some.injEq.{0})))) (jq (jq (jq @add_mk @and_true) (jq @bin_geq (jq @bin_lss @cf103))) (jq (jq @cf106 @eq34s) (jq @eq_int (jq @exists_eq_left'.{1} @fa124_0))))) (jq (jq (jq (jq @gd_ft @gd_tt) (jq @ld98 (jq @ld99 @ln98))) (jq (jq @ln99 @ne34s) (jq @opH_nil (jq @opH_sv @pick_f)))) (jq (jq (jq @pick_t @regs0) (jq @regs1 (jq @resL_nil1 @resL_tmp))) (jq (jq @retK_ret @true_and) (jq @un_not (jq @upd_eq @upd_ne)))))
def slotC : Cod Slot := ⟨3, fun s => [.int .i64 s.f, .int .i64 s.t, .int .i64 s.r], fun _ => rfl, fun _ v hv => by simp at hv; rcases hv with rfl | rfl | rfl <;> rfl⟩
abbrev slotV (s : Slot) : Value := .agg #[.int .i64 s.f, .int .i64 s.t, .int .i64 s.r]
abbrev slotO (s : Slot) : Obj := .cells #[.int .i64 s.f, .int .i64 s.t, .int .i64 s.r] 203 (0, 0)
theorem eoslot : ElemOk P_ 203 slotC.n 24 := eo203
abbrev Sv := Option Addr × Nat × Nat
def svC : Cod Sv := ⟨1, fun (s : Sv) => [.slice s.1 s.2.1 s.2.2], fun _ => rfl, fun _ v hv => by simp at hv; subst hv; rfl⟩
theorem eosv : ElemOk P_ 99 svC.n 24 := ⟨by kernel_rfl, by kernel_rfl, by kernel_rfl⟩

def TSee (G h : Hp) (tp : Nat) (T : List (List Slot)) : Prop := ∃ rb, cellIn G h ⟨tp, 0, none⟩ = some (.slice (some ⟨rb, 0, none⟩) T.length T.length) ∧
  ∀ c L, T[c]? = some L → ∃ a cap, cellIn G h ⟨rb, c, none⟩ = some (.slice a L.length cap) ∧ Sees slotC G h (.slice a L.length cap) L
theorem TSee.up {G h h' : Hp} {tp : Nat} {T : List (List Slot)} (s : TSee G h tp T) (l : h.le h') (d : Dis G h') : TSee G h' tp T := by
  obtain ⟨rb, e1, e2⟩ := s
  exact ⟨rb, cell_up l d e1, fun c L hc => let ⟨a, cap, e3, e4⟩ := e2 c L hc; ⟨a, cap, cell_up l d e3, e4.up l d⟩⟩

def Rows (pb : Hp) (raws : List Sv) (T : List (List Slot)) : Prop := raws.length = T.length ∧ ∀ (i : Nat) (s : Sv) (L : List Slot), raws[i]? = some s → T[i]? = some L → s.2.1 = L.length ∧ Slc slotC 203 pb (.slice s.1 L.length s.2.2) L
def Tab (ty : TypeId) (a : Hp) (tp : Nat) (T : List (List Slot)) : Prop := ∃ rb raws pb, Sep [noHp.set tp (.cells #[.slice (some ⟨rb, 0, none⟩) T.length T.length] ty (0, 0)), noHp.set rb (.cells (svC.rows raws).toArray 99 (0, 0)), pb] a ∧ Rows pb raws T

theorem sv_get {G h : Hp} {rb c : Nat} {raws : List Sv} {e : TypeId} {s : Sv} (hb : h rb = some (.cells (svC.rows raws).toArray e (0, 0))) (hs : raws[c]? = some s) : cellIn G h ⟨rb, c, none⟩ = some (.slice s.1 s.2.1 s.2.2) := by
  rw [cell_of (look_own hb)]
  have := svC.rows_get (t := []) (j := 0) hs (by decide)
  rw [List.append_nil, show svC.n = 1 from rfl, Nat.mul_one, Nat.add_zero] at this
  exact this

theorem Tab.see {G a h : Hp} {ty : TypeId} {tp : Nat} {T : List (List Slot)} (t : Tab ty a tp T) (l : a.le h) : TSee G h tp T := by
  obtain ⟨rb, raws, pb, s, hl, hr⟩ := t
  refine ⟨rb, ?_, fun c L hc => ?_⟩
  · rw [cell_of (look_own (l _ _ (s.at 0 rfl set_self)))]
    rfl
  · have hlt : c < raws.length := by rw [hl]; exact (List.getElem?_eq_some_iff.1 hc).1
    obtain ⟨e1, o⟩ := hr c _ L (List.getElem?_eq_getElem hlt) hc
    refine ⟨raws[c].1, raws[c].2.2, ?_, o.sees (by decide) ((s.in 2 rfl).trans l)⟩
    rw [sv_get (l _ _ (s.at 1 rfl set_self)) (List.getElem?_eq_getElem hlt), e1]

theorem Sees.slot {G h : Hp} {sa : Option Addr} {cap n : Nat} {L : List Slot} (s : Sees slotC G h (.slice sa n cap) L) {i : Nat} {x : Slot} (hx : L[i]? = some x) :
    ∃ b o, sa = some ⟨b, o, none⟩ ∧ cellIn G h ⟨b, o + i * 3, none⟩ = some (.int .i64 x.f) ∧ cellIn G h ⟨b, o + i * 3 + 1, none⟩ = some (.int .i64 x.t) ∧ cellIn G h ⟨b, o + i * 3 + 2, none⟩ = some (.int .i64 x.r) := by
  obtain ⟨b, o, c, e1, e2⟩ := s.get hx
  simp only [Value.slice.injEq] at e1
  obtain ⟨rfl, -, -⟩ := e1
  have x0 := e2 0 (by decide)
  have x1 := e2 1 (by decide)
  have x2 := e2 2 (by decide)
  simp only [slotC, Nat.add_zero, List.getElem?_cons_zero, List.getElem?_cons_succ] at x0 x1 x2
  exact ⟨b, o, rfl, x0, x1, x2⟩

def hasB (T : List (List Slot)) (c : Int) : Bool := decide (0 ≤ c) && decide (c < T.length)
theorem has_spec {G h : Hp} {tp : Nat} {T : List (List Slot)} {c : Int} (ts : TSee G h tp T) : HCalls P_ G 103 #[.pointer (some ⟨tp, 0, none⟩), .int .i64 c] h (fun u h' => u = .bool (hasB T c) ∧ h' = h) := by
  obtain ⟨rb, e1, _⟩ := ts
  refine enter103 (by simp) ?_
  unfold S103 hasB
  try simp only [bRpVA]
  by_cases h0 : 0 ≤ c
  · try simp only [bRpVA, decide_eq_true h0, show decide (c ≥ 0) = true from decide_eq_true h0, e1]
  · try simp only [bRpVA, decide_eq_false h0, show decide (c ≥ 0) = false from decide_eq_false h0, e1, Bool.false_and]

theorem cells_spec {G h : Hp} {tp : Nat} {T : List (List Slot)} (ts : TSee G h tp T) : HCalls P_ G 26 #[.pointer (some ⟨tp, 0, none⟩)] h (fun u h' => u = .int .i64 T.length ∧ h' = h) := by
  obtain ⟨rb, e1, _⟩ := ts
  refine enter26 (by simp) ?_
  unfold S26
  try simp only [bRpVA]
  unfold S26_k1
  try simp (disch := first | exact nq rfl | omega) only [bRpVA, e1]

theorem list_spec {G h : Hp} {v : Value} {L : List Slot} (sv : Sees slotC G h v L) (hL : L.length ≤ 100000) : HCalls P_ G 106 #[v] h (fun u h' => ∃ b, Slc slotC 203 b u L ∧ Sep [b, h] h' ∧ Dis G h') := by
  obtain ⟨sa, cap, rfl⟩ := sv.len
  refine HCalls.assume fun d => enter106 (by simp) ?_
  unfold S106
  simp only [bRpVA]
  by_cases hL0 : L = []
  · subst hL0
    try simp only [bRpVA, List.length_nil, show (((0 : Nat) : Int) == 0) = true from rfl]
    exact ⟨noHp, Slc.nil, Sep.one.none, d⟩
  · have hpos := List.length_pos_iff.2 hL0
    have e : ((L.length : Int) == 0) = false := by
      have : (L.length : Int) ≠ 0 := by omega
      simpa using this
    try simp only [bRpVA, e]
    unfold S106_k1
    try simp (disch := first | exact nq rfl | omega) only [bRpVA]
    rw [make_eq slotC ⟨0, 0, 0⟩ (by decide) un99 eoslot (by kernel_rfl) (by omega) (by omega)]
    intro x hx gx
    have d1 := d.set (o := .cells (slotC.rows (List.replicate L.length (⟨0, 0, 0⟩ : Slot))).toArray 203 (0, 0)) gx
    rw [copy_row slotC (by decide) un99 eoslot (L := L) set_self (by simp) (sv.up (le_set hx) d1) hL0 rfl, set_set]
    try simp (disch := first | exact nq rfl | omega) only [bRpVA, Nat.reduceAdd, Nat.reduceMul]
    exact ⟨noHp.set x _, ⟨some x, _, [], rfl, by rw [set_self, List.append_nil], by rw [List.append_nil, slotC.rows_length]⟩, Sep.one.new hx, d.set gx⟩

end Go.Proofs.YtfflipnhffknnaaGreatDoor.Rv
end

section
/- The table: is a stretch free; a place found by halves; a slot put into a row. -/
set_option linter.unusedSimpArgs false
set_option linter.unusedVariables false
set_option maxRecDepth 100000
namespace Go.Proofs.YtfflipnhffknnaaGreatDoor.Rv
open Go Go.HL Go.Proofs.Resv

def bRpVB := jq (jq (jq (jq (jq @HL.cond_false (jq @Int.toNat_natCast @List.getElem?_cons_succ.{0})) (jq (jq @List.getElem?_cons_zero.{0} @Nat.add_zero) (jq @Nat.zero_add @Option.some.injEq.{0}))) (jq (jq @add_mk (jq @al203 @and_true)) (jq (jq @bin_add @bin_lss) (jq @bin_sub @blockK_exit)))) (jq (jq (jq @blockK_ret (jq @box_new @callV_fn)) (jq (jq @cell_set_self @cells_agg) (jq @cf143 @eq_int))) (jq (jq (jq @exists_eq_left'.{1} @fa124_0) (jq @fa203_0 @fa203_1)) (jq (jq @fa203_2 @gd_ft) (jq @gd_tt @if_true.{1}))))) (jq (jq (jq (jq @if_true.{0} (jq @ld203 @ld3)) (jq (jq @ld98 @ld99) (jq @ln99 @ne_int))) (jq (jq @opH_nil (jq @opH_su @opH_sv)) (jq (jq @pick_f @pick_t) (jq @regs0 @regs1)))) (jq (jq (jq @regs2 (jq @regs3 @regs4)) (jq (jq @resL_nil1 @resL_nil2) (jq @resL_tmp @retK_ret))) (jq (jq (jq @st203w @thenK_exit) (jq @thenK_normal @thenK_ret)) (jq (jq @true_and @upd_eq) (jq @upd_ne @wrap_in)))))
theorem free_take {L : List Slot} {i : Nat} {s : Slot} {r f t : Int} (hs : L[i]? = some s) : freeB (L.take (i + 1)) r f t = (freeB (L.take i) r f t && (s.r == r || !(decide (s.f < t) && decide (f < s.t)))) := by
  unfold freeB
  rw [List.take_add_one, hs, List.all_append]
  simp
theorem free_not {L : List Slot} {i : Nat} {s : Slot} {r f t : Int} (hs : L[i]? = some s) (h : (s.r == r || !(decide (s.f < t) && decide (f < s.t))) = false) : freeB L r f t = false := by
  unfold freeB
  rw [List.all_eq_false]
  exact ⟨s, List.mem_of_getElem? hs, by rw [h]; simp⟩

theorem free_spec {G h : Hp} {tp : Nat} {T : List (List Slot)} {L : List Slot} {c r f t : Int} (ts : TSee G h tp T) (h0 : 0 ≤ c) (hL : T[c.toNat]? = some L) (hlen : L.length ≤ 100000) :
    HCalls P_ G 104 #[.pointer (some ⟨tp, 0, none⟩), .int .i64 r, .int .i64 c, .int .i64 f, .int .i64 t] h (fun u h' => u = .bool (freeB L r f t) ∧ h' = h) := by
  have h1 : c < T.length := by have := (List.getElem?_eq_some_iff.1 hL).1; omega
  obtain ⟨rb, e1, e2⟩ := ts
  obtain ⟨a, cap, e3, e4⟩ := e2 _ _ hL
  refine HCalls.assume fun d => quietly (enter104 (by simp) ?_)
  unfold S104
  simp only [bRpVB, e1, ix98 h0 h1, Nat.mul_one, e3]
  refine loop_I (fun m q h3 => ∃ i : Nat, m = L.length - i ∧ i ≤ L.length ∧ q 1 = .int .i64 r ∧ q 3 = .int .i64 f ∧ q 4 = .int .i64 t ∧ q 10 = .bool false ∧ q 19 = .slice a L.length cap ∧ q 20 = .int .i64 L.length ∧ q 21 = .int .i64 i ∧ h.le h3 ∧ Dis G h3 ∧ freeB (L.take i) r f t = true) ?_
    (m := L.length) ⟨0, rfl, Nat.zero_le _, by simp (disch := first | exact nq rfl | omega) only [bRpVB], by simp (disch := first | exact nq rfl | omega) only [bRpVB], by simp (disch := first | exact nq rfl | omega) only [bRpVB], by simp (disch := first | exact nq rfl | omega) only [bRpVB], by simp (disch := first | exact nq rfl | omega) only [bRpVB], by simp (disch := first | exact nq rfl | omega) only [bRpVB], by simp only [bRpVB] <;> rfl, Hp.le.refl h, d, rfl⟩
  rintro m q h3 ⟨i, rfl, hi, q1, q3, q4, q10, q19, q20, q21, l3, d3, hf⟩ X HX
  unfold S104_l2
  simp only [bRpVB, q20, q21]
  refine cond_dec (fun hlt => ?_) (fun hge => ?_)
  rotate_left
  · obtain rfl : i = L.length := by omega
    rw [List.take_of_length_le (Nat.le_refl _)] at hf
    try simp (disch := first | exact nq rfl | omega) only [bRpVB, Nat.reduceAdd, Nat.reduceMul]
    unfold S104_k1
    try simp only [bRpVB]
    exact ⟨by rw [hf], l3⟩
  obtain ⟨s, hs⟩ : ∃ s, L[i]? = some s := ⟨_, List.getElem?_eq_getElem (by omega)⟩
  obtain ⟨b, o, rfl, z0, z1, z2⟩ := Sees.slot (e4.up l3 d3) hs
  unfold S104_l2_k3
  simp (disch := first | exact nq rfl | omega) only [bRpVB, q19, q21, ix99 (Int.natCast_nonneg i) hlt, z0, z1, z2]
  intro x hx gx
  simp only [bRpVB, q1]
  generalize eh : Hp.set h3 x _ = h4
  obtain ⟨l4, d4, b4⟩ := boxed eh hx d3 gx
  have cx : ∀ j, cellIn G h4 ⟨x, j, none⟩ = _ := fun j => cell_of (look_own b4)
  have k4 : ∀ q' : Rg, q' 1 = .int .i64 r → q' 3 = .int .i64 f → q' 4 = .int .i64 t → q' 10 = .bool false → q' 19 = q 19 → q' 20 = q 20 → q' 21 = q 21 → (s.r == r || !(decide (s.f < t) && decide (f < s.t))) = true → S104_l2_k4 G (thenK X (blockK 0 (thenK (S104_k1 G (retK P_ G [.tmp 10] fun u h' => u = .bool (freeB L r f t) ∧ h.le h')) (retK P_ G [.tmp 10] fun u h' => u = .bool (freeB L r f t) ∧ h.le h')))) q' h4 := by
    intro q' p1 p3 p4 p10 p19 p20 p21 hc
    unfold S104_l2_k4
    simp (disch := first | exact nq rfl | omega) only [bRpVB, p21, q21]
    exact HX (L.length - (i + 1)) _ _ (by omega) ⟨i + 1, rfl, by omega, by simp (disch := first | exact nq rfl | omega) only [bRpVB, p1], by simp (disch := first | exact nq rfl | omega) only [bRpVB, p3], by simp (disch := first | exact nq rfl | omega) only [bRpVB, p4], by simp (disch := first | exact nq rfl | omega) only [bRpVB, p10], by simp (disch := first | exact nq rfl | omega) only [bRpVB, p19, q19], by simp (disch := first | exact nq rfl | omega) only [bRpVB, p20, q20], by simp only [bRpVB] <;> rfl, l3.trans l4, d4, by rw [free_take hs, hf, hc]; rfl⟩
  cases hb : (s.r != r) with
  | false =>
    try simp only [bRpVB, gd_un, hb]
    exact k4 _ (by simp (disch := first | exact nq rfl | omega) only [bRpVB, q1]) (by simp (disch := first | exact nq rfl | omega) only [bRpVB, q3]) (by simp (disch := first | exact nq rfl | omega) only [bRpVB, q4]) (by simp (disch := first | exact nq rfl | omega) only [bRpVB, q10]) (by simp (disch := first | exact nq rfl | omega) only [bRpVB]) (by simp (disch := first | exact nq rfl | omega) only [bRpVB]) (by simp (disch := first | exact nq rfl | omega) only [bRpVB]) (by simp at hb; simp [hb])
  | true =>
    try simp only [bRpVB, cx, q4]
    by_cases hb2 : s.f < t
    · try simp only [bRpVB, decide_eq_true hb2, q3, cx]
      refine cond_dec (fun hb3 => ?_) (fun hb3 => ?_)
      · try simp (disch := first | exact nq rfl | omega) only [bRpVB, Nat.reduceAdd, Nat.reduceMul]
        have : (s.r == r || !(decide (s.f < t) && decide (f < s.t))) = false := by simp at hb; simp [hb, hb2, hb3]
        exact ⟨by rw [free_not hs this], l3.trans l4⟩
      · exact k4 _ (by simp (disch := first | exact nq rfl | omega) only [bRpVB, q1]) (by simp (disch := first | exact nq rfl | omega) only [bRpVB, q3]) (by simp (disch := first | exact nq rfl | omega) only [bRpVB, q4]) (by simp (disch := first | exact nq rfl | omega) only [bRpVB, q10]) (by simp (disch := first | exact nq rfl | omega) only [bRpVB]) (by simp (disch := first | exact nq rfl | omega) only [bRpVB]) (by simp (disch := first | exact nq rfl | omega) only [bRpVB]) (by simp [hb3])
    · try simp only [bRpVB, decide_eq_false hb2, gd_un]
      exact k4 _ (by simp (disch := first | exact nq rfl | omega) only [bRpVB, q1]) (by simp (disch := first | exact nq rfl | omega) only [bRpVB, q3]) (by simp (disch := first | exact nq rfl | omega) only [bRpVB, q4]) (by simp (disch := first | exact nq rfl | omega) only [bRpVB, q10]) (by simp (disch := first | exact nq rfl | omega) only [bRpVB]) (by simp (disch := first | exact nq rfl | omega) only [bRpVB]) (by simp (disch := first | exact nq rfl | omega) only [bRpVB]) (by simp [hb2])

theorem cmp_spec {G h : Hp} {s : Slot} {n : Int} (h1 : 0 ≤ s.f) (h2 : s.f ≤ FV) (h3 : 0 ≤ n) (h4 : n ≤ FV) : HCalls P_ G 143 #[slotV s, .int .i64 n] h (fun u h' => u = .int .i64 (s.f - n) ∧ h' = h) := by
  refine HCalls.assume fun d => quietly (enter143 (by simp) ?_)
  unfold S143
  simp only [bRpVB]
  intro x hx gx
  have e : IntKind.i64.wrap (s.f - n) = s.f - n := wrap_in (by unfold FV at *; omega) (by unfold FV at *; omega)
  simp only [bRpVB, e]
  exact le_set hx

end Go.Proofs.YtfflipnhffknnaaGreatDoor.Rv
end

section
/- A slot put into a row of one's own: slices.Insert. -/
set_option linter.unusedSimpArgs false
set_option linter.unusedVariables false
set_option maxRecDepth 100000
namespace Go.Proofs.YtfflipnhffknnaaGreatDoor.Rv
open Go Go.HL Go.Proofs.Resv

end Go.Proofs.YtfflipnhffknnaaGreatDoor.Rv
end

section
/- The table: a stretch put. -/
set_option linter.unusedSimpArgs false
set_option linter.unusedVariables false
set_option maxRecDepth 100000
namespace Go.Proofs.YtfflipnhffknnaaGreatDoor.Rv
open Go Go.HL Go.Proofs.Resv

theorem mn_eq {a b : Int} : (if b < a then b else a) = min a b := by split <;> omega
theorem mx_eq {a b : Int} : (if b > a then b else a) = max a b := by split <;> omega
theorem min_two {P : Program} {G h : Hp} {a b : Int} {K : VK} : wpH P G (Builtin.min_ #[3, 3] 3 #[.int .i64 a, .int .i64 b]) h K = K (.int .i64 (min a b)) h := by rw [← mn_eq]; rfl
theorem max_two {P : Program} {G h : Hp} {a b : Int} {K : VK} : wpH P G (Builtin.max_ #[3, 3] 3 #[.int .i64 a, .int .i64 b]) h K = K (.int .i64 (max a b)) h := by rw [← mx_eq]; rfl

end Go.Proofs.YtfflipnhffknnaaGreatDoor.Rv
end

section
/- The table: new, claims. -/
set_option linter.unusedSimpArgs false
set_option linter.unusedVariables false
set_option maxRecDepth 100000
namespace Go.Proofs.YtfflipnhffknnaaGreatDoor.Rv
open Go Go.HL Go.Proofs.Resv

def bRpVE := jq (jq (jq (jq (jq @Bool.not_false (jq @Bool.not_true @HL.cond_false)) (jq (jq @HL.cond_true @Int.toNat_natCast) (jq @List.getElem?_cons_succ.{0} @List.getElem?_cons_zero.{0}))) (jq (jq @Nat.add_zero (jq @Nat.zero_add @Option.some.injEq.{0})) (jq (jq @add_mk @al75) (jq @bd124_0 @bin_add)))) (jq (jq (jq @bin_geq (jq @bin_gtr @bin_lss)) (jq (jq @blockK_exit @blockK_ret) (jq @box_new @cell_set_self))) (jq (jq @cells_agg (jq @cf103 @cf104)) (jq (jq @cf105 @eq34s) (jq @exists_eq_left'.{1} @fa75_0))))) (jq (jq (jq (jq @fa75_1 (jq @fa75_2 @gd_ff)) (jq (jq @gd_tf @if_true.{1}) (jq @if_true.{0} @ld3))) (jq (jq @ld75 (jq @ln71 @opH_su)) (jq (jq @opH_sv @pick_f) (jq @pick_t @regs0)))) (jq (jq (jq @regs1 (jq @regs2 @resL_nil1)) (jq (jq @resL_nil2 @resL_tmp) (jq @retK_ret @st75w))) (jq (jq (jq @thenK_exit @thenK_normal) (jq @thenK_ret @true_and)) (jq (jq @un_not @upd_eq) (jq @upd_ne @wrap_in)))))
def wantC : Cod Want := ⟨3, fun s => [.int .i64 s.c, .int .i64 s.f, .int .i64 s.t], fun _ => rfl, fun _ v hv => by simp at hv; rcases hv with rfl | rfl | rfl <;> rfl⟩
theorem Sees.want {G h : Hp} {sa : Option Addr} {cap n : Nat} {L : List Want} (s : Sees wantC G h (.slice sa n cap) L) {i : Nat} {x : Want} (hx : L[i]? = some x) :
    ∃ b o, sa = some ⟨b, o, none⟩ ∧ cellIn G h ⟨b, o + i * 3, none⟩ = some (.int .i64 x.c) ∧ cellIn G h ⟨b, o + i * 3 + 1, none⟩ = some (.int .i64 x.f) ∧ cellIn G h ⟨b, o + i * 3 + 2, none⟩ = some (.int .i64 x.t) := by
  obtain ⟨b, o, c, e1, e2⟩ := s.get hx
  simp only [Value.slice.injEq] at e1
  obtain ⟨rfl, -, -⟩ := e1
  have x0 := e2 0 (by decide)
  have x1 := e2 1 (by decide)
  have x2 := e2 2 (by decide)
  simp only [wantC, Nat.add_zero, List.getElem?_cons_zero, List.getElem?_cons_succ] at x0 x1 x2
  exact ⟨b, o, rfl, x0, x1, x2⟩

theorem hasB_in {T : Tb} {c : Int} : hasB T c = inT T.length c := rfl
theorem new_spec {G h : Hp} {n : Nat} (h1 : 1 ≤ n) (h2 : n ≤ 256) : HCalls P_ G 24 #[.int .i64 n] h (fun u h' => ∃ a tp, u = .tuple #[.pointer (some ⟨tp, 0, none⟩), .int .i64 0] ∧ Tab 124 a tp (List.replicate n []) ∧ HL.Sep [a, h] h' ∧ Dis G h') := by
  refine HCalls.assume fun d => enter24 (by simp) ?_
  unfold S24
  simp (disch := first | exact nq rfl | omega) only [bRpVE, decide_eq_false (show ¬ (n : Int) < 1 by omega), show decide ((n : Int) > 256) = false from decide_eq_false (by omega)]
  unfold S24_k1
  simp (disch := first | exact nq rfl | omega) only [bRpVE]
  rw [make_eq svC (none, 0, 0) (by decide) un98 eosv (by kernel_rfl) (by omega) (by omega)]
  intro rb hrb grb
  simp only [bRpVE]
  intro tp htp gtp
  have s1 := (Sep.one (h := h)).new (o := .cells (svC.rows (List.replicate n (none, 0, 0))).toArray 99 (0, 0)) hrb
  have d1 := d.set (o := .cells (svC.rows (List.replicate n (none, 0, 0))).toArray 99 (0, 0)) grb
  have s2 := s1.new (o := .cells #[.slice (some ⟨rb, 0, none⟩) n n] 124 (0, 0)) htp
  have s3 := (s2.none.pick 2 rfl rfl).pick 2 rfl rfl
  obtain ⟨a, s4, t4⟩ := sep_pack3 s3
  refine ⟨a, tp, rfl, ⟨rb, List.replicate n (none, 0, 0), noHp, ?_, by simp, fun i s L h1 h2 => ?_⟩, s4, d1.set gtp⟩
  · rw [List.length_replicate]
    exact t4
  · rw [List.getElem?_replicate] at h1 h2
    split at h1
    · rename_i hi
      rw [if_pos hi] at h2
      cases h1
      cases h2
      exact ⟨rfl, Slc.nil⟩
    · cases h1

end Go.Proofs.YtfflipnhffknnaaGreatDoor.Rv
end

section
/- The table: a slot made longer; ticks given back. -/
set_option linter.unusedSimpArgs false
set_option linter.unusedVariables false
set_option maxRecDepth 100000
namespace Go.Proofs.YtfflipnhffknnaaGreatDoor.Rv
open Go Go.HL Go.Proofs.Resv

def bRpVF := jq (jq (jq (jq @List.getElem?_cons_succ.{0} (jq @List.getElem?_cons_zero.{0} @Nat.add_zero)) (jq (jq @Nat.zero_add @Option.some.injEq.{0}) (jq @add_mk @al110))) (jq (jq (jq @and_true @bd110_0_1) (jq @bin_add @bin_gtr)) (jq (jq @bin_sub @cell_set_self) (jq @cf126 @cf154)))) (jq (jq (jq (jq @exists_eq_left'.{1} @ld3) (jq @opH_su @opH_sv)) (jq (jq @regs0 @regs1) (jq @resC_ptr @resL_cell))) (jq (jq (jq @resL_nil1 @resL_tmp) (jq @retK_ret @st110w)) (jq (jq @true_and @upd_eq) (jq @upd_ne @wrap_in))))
theorem un58 : P_.underlying 110 = some (.array 2 3) := by kernel_rfl
theorem sz3' : (P_.info? 3).map (·.size) = some 1 := sz3
theorem ix58a {G h : Hp} {b o : Nat} {K : VK} : wpH P_ G (Instr.indexAt 110 (.pointer (some ⟨b, o, none⟩)) (.int .i64 0)) h K = K (.pointer (some ⟨b, o, none⟩)) h := by
  rw [index_arr un58 sz3' (by decide) (by decide), add_mk]
  rfl
theorem ix58b {G h : Hp} {b o : Nat} {K : VK} : wpH P_ G (Instr.indexAt 110 (.pointer (some ⟨b, o, none⟩)) (.int .i64 1)) h K = K (.pointer (some ⟨b, o + 1, none⟩)) h := by
  rw [index_arr un58 sz3' (by decide) (by decide), add_mk]
  rfl

theorem cut_spec1 {G h : Hp} {a : Int} : HCalls P_ G 154 #[.int .i64 a] h (fun u h' => u = .int .i64 (cutI a) ∧ h' = h) := by
  refine enter154 (by simp) ?_
  unfold S154
  simp only [bRpVF, min_two, max_two]
  simp [cutI, FV]

theorem ldP2 {G h : Hp} {a : Addr} {K : VK} : wpH P_ G (Instr.loadAt 110 (.pointer (some a))) h K = (∃ x0, cellIn G h (a.add 0) = some x0 ∧ ∃ x1, cellIn G h (a.add 1) = some x1 ∧ K (.agg #[x0, x1]) h) := by kernel_rfl
theorem both_spec {G h : Hp} {a b : Int} : HCalls P_ G 126 #[.int .i64 a, .int .i64 b] h (fun u h' => u = .agg #[.int .i64 (cutI a), .int .i64 (cutI b)] ∧ h' = h) := by
  refine HCalls.assume fun d => quietly (enter126 (by simp) ?_)
  unfold S126
  simp (disch := first | exact nq rfl | omega) only [bRpVF, al110]
  intro x hx gx
  refine (cut_spec1 (a := a)).mono ?_
  rintro _ _ ⟨rfl, rfl⟩
  refine (cut_spec1 (a := b)).mono ?_
  rintro _ _ ⟨rfl, rfl⟩
  simp only [bRpVF, ldP2]
  exact le_set hx

theorem cutI_bd {a : Int} : 0 ≤ cutI a ∧ cutI a ≤ FV := by unfold cutI; simp only [FV]; omega

theorem sum_spec {G h : Hp} {a b : Int} : HCalls P_ G 77 #[.int .i64 a, .int .i64 b] h (fun u h' => u = .int .i64 (sumI a b) ∧ h' = h) := by
  refine HCalls.assume fun d => quietly (enter77 (by simp) ?_)
  unfold S77
  simp only [bRpVF]
  refine (both_spec (a := a) (b := b)).mono ?_
  rintro _ _ ⟨rfl, rfl⟩
  obtain ⟨a0, a1⟩ := cutI_bd (a := a)
  obtain ⟨b0, b1⟩ := cutI_bd (a := b)
  simp only [FV] at a1 b1
  simp only [bRpVF, al110]
  intro x hx gx
  simp (disch := first | exact nq rfl | omega) only [bRpVF, ix58a, ix58b]
  refine cond_dec (fun h1 => ?_) (fun h1 => ?_)
  · try simp (disch := first | exact nq rfl | omega) only [bRpVF, Nat.reduceAdd, Nat.reduceMul]
    exact ⟨by unfold sumI; rw [if_pos h1], le_set hx⟩
  · unfold S77_k1
    simp (disch := first | exact nq rfl | omega) only [bRpVF, ix58a, ix58b]
    exact ⟨by unfold sumI; rw [if_neg h1], le_set hx⟩

end Go.Proofs.YtfflipnhffknnaaGreatDoor.Rv
end

section
/- The table: ticks given back. -/
set_option linter.unusedSimpArgs false
set_option linter.unusedVariables false
set_option maxRecDepth 100000
namespace Go.Proofs.YtfflipnhffknnaaGreatDoor.Rv
open Go Go.HL Go.Proofs.Resv

end Go.Proofs.YtfflipnhffknnaaGreatDoor.Rv
end

section
/- A text of the proofs. -/
set_option linter.unusedVariables false
set_option maxRecDepth 100000
namespace Go.Proofs.YtfflipnhffknnaaGreatDoor
open Go Go.HL
end Go.Proofs.YtfflipnhffknnaaGreatDoor
end

section
/- Stretches: told to any yield; gathered in a row. -/
set_option linter.unusedSimpArgs false
set_option linter.unusedVariables false
set_option maxRecDepth 100000
namespace Go.Proofs.YtfflipnhffknnaaGreatDoor.Rv
open Go Go.HL Go.Proofs.Resv

def bRpVH := jq (jq (jq (jq (jq (jq @Bool.not_false @Bool.not_true) (jq @HL.cond_false @HL.cond_true)) (jq (jq @Int.toNat_natCast @List.getElem?_cons_succ.{0}) (jq @List.getElem?_cons_zero.{0} @Nat.add_zero))) (jq (jq (jq @Nat.zero_add @Option.some.injEq.{0}) (jq @add_mk @al203)) (jq (jq @bin_add @bin_gtr) (jq @bin_lss @blockK_exit)))) (jq (jq (jq (jq @blockK_ret @box_new) (jq @cell_set_self @cells_int)) (jq (jq @cells_ptr @cf103) (jq @eq_int @exists_eq_left'.{1}))) (jq (jq (jq @fa124_0p @fa203_0) (jq @fa203_1 @fa203_2)) (jq (jq @gd_ft @gd_tt) (jq @if_true.{1} @if_true.{0}))))) (jq (jq (jq (jq (jq @ld203 @ld3) (jq @ld34 @ld34p)) (jq (jq @ld3p @ld98p) (jq @ld99p @ln99p))) (jq (jq (jq @opH_su @opH_sv) (jq @pick_f @pick_t)) (jq (jq @pureW_nil @pureW_sv) (jq @regs0 @regs1)))) (jq (jq (jq (jq @regs2 @regs3) (jq @resL_nil0 @resL_nil1)) (jq (jq @resL_tmp @retK_normal) (jq @retK_ret @scopeK_exit))) (jq (jq (jq @scopeK_ret @st203w) (jq @thenK_exit @thenK_normal)) (jq (jq @thenK_ret @un_not) (jq @upd_eq (jq @upd_ne @wrap_in))))))
abbrev gapA (g : Int × Int) : Array Value := #[.int .i64 g.1, .int .i64 g.2]
theorem gap_at {r : Int} {L : List Slot} {i : Nat} {s : Slot} {at_ : Int} (hs : L[i]? = some s) : gapsFrom r (L.drop i) at_ = if s.r = r then gapsFrom r (L.drop (i + 1)) at_ else if s.f > at_ then (at_, s.f) :: gapsFrom r (L.drop (i + 1)) s.t else gapsFrom r (L.drop (i + 1)) s.t := by
  obtain ⟨hlt, rfl⟩ := List.getElem?_eq_some_iff.1 hs
  rw [List.drop_eq_getElem_cons hlt, gapsFrom]

theorem gaps_spec17 {G h : Hp} {tp : Nat} {c r : Int} : HCalls P_ G 145 #[.pointer (some ⟨tp, 0, none⟩), .int .i64 c, .int .i64 r] h (fun u h' => ∃ b1 b2 b3, u = .func (.func 164) #[] #[.pointer (some ⟨b1, 0, none⟩), .pointer (some ⟨b2, 0, none⟩), .pointer (some ⟨b3, 0, none⟩)] ∧ h.le h' ∧ Dis G h' ∧ h' b1 = some (.cells #[.pointer (some ⟨tp, 0, none⟩)] 34 (0, 0)) ∧ h' b2 = some (.cells #[.int .i64 c] 3 (0, 0)) ∧ h' b3 = some (.cells #[.int .i64 r] 3 (0, 0)) ∧ ∀ R, HL.Sep R h → HL.Sep R h') := by
  refine HCalls.assume fun d => enter145 (by simp) ?_
  unfold S145
  simp only [bRpVH]
  intro x hx gx y hy gy z hz gz
  have nxy := ne_of_set hy
  have nxz : x ≠ z := fun e => by subst e; rw [set_other nxy, set_self] at hz; cases hz
  have nyz := ne_of_set hz
  refine ⟨x, y, z, rfl, ((le_set hx).trans (le_set hy)).trans (le_set hz), ((d.set gx).set gy).set gz, by rw [set_other nxz, set_other nxy, set_self], by rw [set_other nyz, set_self], set_self, fun R s => ((s.past hx).past hy).past hz⟩

end Go.Proofs.YtfflipnhffknnaaGreatDoor.Rv
end

section
/- The stretches of a cell, told to a yield that always goes on. -/
set_option linter.unusedSimpArgs false
set_option linter.unusedVariables false
set_option maxRecDepth 100000
namespace Go.Proofs.YtfflipnhffknnaaGreatDoor.Rv
open Go Go.HL Go.Proofs.Resv

def bRtM := jq (jq (jq (jq (jq @Bool.not_false (jq @Bool.not_true @HL.cond_false)) (jq (jq @HL.cond_true @Int.toNat_natCast) (jq @List.getElem?_cons_succ.{0} @List.getElem?_cons_zero.{0}))) (jq (jq (jq @Nat.add_zero @Nat.zero_add) (jq @Option.some.injEq.{0} @add_mk)) (jq (jq @al203 @bin_add) (jq @bin_gtr @bin_lss)))) (jq (jq (jq @blockK_exit (jq @blockK_ret @cell_set_self)) (jq (jq @cf103 @eq_int) (jq @exists_eq_left'.{1} @fa124_0p))) (jq (jq (jq @fa203_0 @fa203_1) (jq @fa203_2 @gd_ft)) (jq (jq @gd_tt @if_true.{1}) (jq @if_true.{0} @ld203))))) (jq (jq (jq (jq @ld3 (jq @ld34 @ld34p)) (jq (jq @ld3p @ld98p) (jq @ld99p @ln99p))) (jq (jq (jq @opH_su @opH_sv) (jq @pick_f @pick_t)) (jq (jq @pureW_nil @pureW_sv) (jq @regs0 @regs1)))) (jq (jq (jq @regs2 (jq @regs3 @resL_nil0)) (jq (jq @retK_normal @retK_ret) (jq @scopeK_exit @scopeK_ret))) (jq (jq (jq @st203w @thenK_exit) (jq @thenK_normal @thenK_ret)) (jq (jq @un_not @upd_eq) (jq @upd_ne @wrap_in)))))
theorem gapsN_spec {G h a q : Hp} {y : Value} {Y : List (Int × Int) → Hp → Prop} {N : Nat} {b1 b2 b3 tp : Nat} {T : Tb} {c r : Int}
    (yl : YlN P_ gapA (fun _ => True) N G y Y) (ya : Y [] a) (s : HL.Sep [a, q] h) (h1 : q b1 = some (.cells #[.pointer (some ⟨tp, 0, none⟩)] 34 (0, 0))) (h2 : q b2 = some (.cells #[.int .i64 c] 3 (0, 0))) (h3 : q b3 = some (.cells #[.int .i64 r] 3 (0, 0))) (ts : TSee G q tp T)
    (fw : ∀ L ∈ T, L.length ≤ 50000) (hN : (if inT T.length c = true then gapsL (rowT T c) r else []).length ≤ N + 1) :
    HCalls P_ G 164 #[y, .pointer (some ⟨b1, 0, none⟩), .pointer (some ⟨b2, 0, none⟩), .pointer (some ⟨b3, 0, none⟩)] h (fun _ h' => ToldN G q Y (if inT T.length c = true then gapsL (rowT T c) r else []) h') := by
  refine HCalls.assume fun d => enter164 (by simp) ?_
  unfold S164
  generalize hTT : (if inT T.length c = true then gapsL (rowT T c) r else []) = TT at hN ⊢
  have c1 : ∀ {h' : Hp}, q.le h' → ∀ j, cellIn G h' ⟨b1, j, none⟩ = _ := fun l j => cell_of (look_own (l _ _ h1))
  have c2 : ∀ {h' : Hp}, q.le h' → ∀ j, cellIn G h' ⟨b2, j, none⟩ = _ := fun l j => cell_of (look_own (l _ _ h2))
  have c3 : ∀ {h' : Hp}, q.le h' → ∀ j, cellIn G h' ⟨b3, j, none⟩ = _ := fun l j => cell_of (look_own (l _ _ h3))
  have lq := s.in 1 rfl
  simp only [bRtM, c1 lq, c2 lq]
  refine (has_spec (c := c) (ts.up lq d)).mono ?_
  rintro _ h ⟨rfl, rfl⟩
  rw [hasB_in]
  cases hc : inT T.length c with
  | false =>
    rw [hc, if_neg (by decide)] at hTT
    try simp only [bRtM]
    exact ToldN.go s d ya hTT
  | true =>
  obtain ⟨k0, k1⟩ := inT_iff.1 hc
  have hL := rowT_get k0 k1
  rw [hc, if_pos rfl] at hTT
  generalize hLL : rowT T c = L at *
  obtain ⟨rb, e1, e2⟩ := ts
  obtain ⟨sa, cap, e3, e4⟩ := e2 _ _ hL
  have fL := fw L (List.mem_of_getElem? hL)
  try simp only [bRtM]
  unfold S164_k1
  simp (disch := first | exact nq rfl | omega) only [bRtM, c1 lq, c2 lq, c3 lq, cell_up lq d e1, ix98p k0 k1, Nat.mul_one, cell_up lq d e3]
  generalize hKK : retK P_ G _ _ = KK
  refine loop_I (fun m p h3 => ∃ (i : Nat) (a : Hp) (Lt : List (Int × Int)) (at_ : Int), m = L.length - i ∧ i ≤ L.length ∧ p 0 = y ∧ p 1 = .pointer (some ⟨b1, 0, none⟩) ∧ p 2 = .pointer (some ⟨b2, 0, none⟩) ∧ p 3 = .pointer (some ⟨b3, 0, none⟩) ∧ p 5 = .int .i64 at_ ∧ p 18 = .slice sa L.length cap ∧ p 19 = .int .i64 L.length ∧ p 20 = .int .i64 i ∧
      Y Lt a ∧ HL.Sep [a, q] h3 ∧ Dis G h3 ∧ Lt ++ gapsFrom r (L.drop i) at_ = TT) ?_
    (m := L.length) ⟨0, a, [], 0, rfl, Nat.zero_le _, by simp (disch := first | exact nq rfl | omega) only [bRtM], by simp (disch := first | exact nq rfl | omega) only [bRtM], by simp (disch := first | exact nq rfl | omega) only [bRtM], by simp (disch := first | exact nq rfl | omega) only [bRtM], by simp (disch := first | exact nq rfl | omega) only [bRtM], by simp (disch := first | exact nq rfl | omega) only [bRtM], by simp (disch := first | exact nq rfl | omega) only [bRtM], by simp only [bRtM] <;> rfl, ya, s, d, hTT⟩
  clear ya s d lq
  clear hTT
  clear a h
  rintro m p h ⟨i, a, Lt, at_, rfl, hi, p0, p1, p2, p3, p5, p18, p19, p20, ya, s, d, hTT⟩ X HX
  have lq := s.in 1 rfl
  unfold S164_l3
  simp only [bRtM, p19, p20]
  refine cond_dec (fun hlt => ?_) (fun hge => ?_)
  rotate_left
  · -- the last one
    obtain rfl : i = L.length := by omega
    rw [List.drop_of_length_le (Nat.le_refl _), gapsFrom] at hTT
    try simp (disch := first | exact nq rfl | omega) only [bRtM, Nat.reduceAdd, Nat.reduceMul]
    unfold S164_k2
    simp (disch := first | exact nq rfl | omega) only [bRtM, p5]
    refine cond_dec (fun hl => ?_) (fun hl => ?_)
    · rw [if_pos hl] at hTT
      simp only [bRtM, p0]
      refine opH_mono ?_ (yl Lt (at_, FV) a q h (by rw [← hTT] at hN; simp only [List.length_append, List.length_cons, List.length_nil] at hN; omega) trivial ya s d)
      rintro v h' ⟨a', rfl, s', d', hy⟩
      rw [← hKK]
      try simp only [bRtM]
      exact ToldN.go s' d' hy hTT
    · rw [if_neg hl, List.append_nil] at hTT
      rw [← hKK]
      try simp only [bRtM]
      exact ToldN.go s d ya hTT
  obtain ⟨sl, hs⟩ : ∃ sl, L[i]? = some sl := ⟨_, List.getElem?_eq_getElem (by omega)⟩
  obtain ⟨b', of, rfl, z0, z1, z2⟩ := Sees.slot (e4.up lq d) hs
  rw [gap_at hs] at hTT
  unfold S164_l3_k4
  simp (disch := first | exact nq rfl | omega) only [bRtM, p18, p20, ix99 (Int.natCast_nonneg i) hlt, z0, z1, z2]
  intro x hx gx
  generalize eh : Hp.set h x _ = h4
  obtain ⟨l4, d4, b4⟩ := boxed eh hx d gx
  have s4 : HL.Sep [a, q] h4 := by rw [← eh]; exact s.past hx
  have lq4 := s4.in 1 rfl
  have cx : ∀ j, cellIn G h4 ⟨x, j, none⟩ = _ := fun j => cell_of (look_own b4)
  have next : ∀ (K0 : Exit → Rg → Hp → Prop) (p' : Rg) (h5 a' : Hp) (Lt' : List (Int × Int)) (at' : Int), (∀ k, k ≤ 3 → p' k = p k) → p' 18 = p 18 → p' 19 = p 19 → p' 20 = p 20 → p' 5 = .int .i64 at' → Y Lt' a' → HL.Sep [a', q] h5 → Dis G h5 → Lt' ++ gapsFrom r (L.drop (i + 1)) at' = TT →
      S164_l3_k5 G (thenK X K0) p' h5 := by
    intro K0 p' h5 a' Lt' at' hk w18 w19 w20 w5 ya' s' d' hT'
    unfold S164_l3_k5
    simp (disch := first | exact nq rfl | omega) only [bRtM, w20, p20]
    exact HX (L.length - (i + 1)) _ _ (by omega) ⟨i + 1, a', Lt', at', rfl, by omega, by simp (disch := first | exact nq rfl | omega) only [bRtM, hk 0 (by decide), p0], by simp (disch := first | exact nq rfl | omega) only [bRtM, hk 1 (by decide), p1], by simp (disch := first | exact nq rfl | omega) only [bRtM, hk 2 (by decide), p2], by simp (disch := first | exact nq rfl | omega) only [bRtM, hk 3 (by decide), p3], by simp (disch := first | exact nq rfl | omega) only [bRtM, w5], by simp (disch := first | exact nq rfl | omega) only [bRtM, w18, p18], by simp (disch := first | exact nq rfl | omega) only [bRtM, w19, p19], by simp only [bRtM] <;> rfl, ya', s', d', hT'⟩
  simp only [bRtM, cx, p3, c3 lq4]
  refine cond_bool (fun hb => ?_) (fun hb => ?_)
  · rw [if_pos (by simpa using hb)] at hTT
    exact next _ _ _ a Lt at_ (fun k hk => by simp (disch := omega) only [upd_ne]) (by simp (disch := first | exact nq rfl | omega) only [bRtM]) (by simp (disch := first | exact nq rfl | omega) only [bRtM]) (by simp (disch := first | exact nq rfl | omega) only [bRtM]) (by simp (disch := first | exact nq rfl | omega) only [bRtM, p5]) ya s4 d4 hTT
  rw [if_neg (by simpa using hb)] at hTT
  unfold S164_l3_k6
  have k7 : ∀ (K0 : Exit → Rg → Hp → Prop) (p' : Rg) (h5 a' : Hp) (Lt' : List (Int × Int)), (∀ k, k ≤ 3 → p' k = p k) → p' 18 = p 18 → p' 19 = p 19 → p' 20 = p 20 → p' 7 = .pointer (some ⟨x, 0, none⟩) → h5 x = some (slotO sl) → Y Lt' a' → HL.Sep [a', q] h5 → Dis G h5 → Lt' ++ gapsFrom r (L.drop (i + 1)) sl.t = TT →
      S164_l3_k7 G (thenK X K0) p' h5 := by
    intro K0 p' h5 a' Lt' hk w18 w19 w20 w7 b5 ya' s' d' hT'
    have c5 : ∀ j, cellIn G h5 ⟨x, j, none⟩ = _ := fun j => cell_of (look_own b5)
    unfold S164_l3_k7
    simp only [bRtM, w7, c5]
    exact next _ _ _ a' Lt' sl.t (fun k hk' => by simp (disch := omega) only [upd_ne]; exact hk k hk') (by simp (disch := first | exact nq rfl | omega) only [bRtM, w18]) (by simp (disch := first | exact nq rfl | omega) only [bRtM, w19]) (by simp (disch := first | exact nq rfl | omega) only [bRtM, w20]) (by simp only [bRtM]) ya' s' d' hT'
  simp (disch := first | exact nq rfl | omega) only [bRtM, cx, p5]
  by_cases hg : sl.f > at_
  rotate_left
  · rw [if_neg hg] at hTT
    simp only [bRtM, show decide (sl.f > at_) = false from decide_eq_false hg, gd_un]
    exact k7 _ _ _ a Lt (fun k hk => by simp (disch := omega) only [upd_ne]) (by simp (disch := first | exact nq rfl | omega) only [bRtM]) (by simp (disch := first | exact nq rfl | omega) only [bRtM]) (by simp (disch := first | exact nq rfl | omega) only [bRtM]) (by simp (disch := first | exact nq rfl | omega) only [bRtM]) b4 ya s4 d4 hTT
  rw [if_pos hg] at hTT
  simp only [bRtM, show decide (sl.f > at_) = true from decide_eq_true hg, p0, p5, cx]
  -- the box stays beside the yield's own
  have s5 : HL.Sep [a, q.set x (slotO sl)] h4 := by
    rw [← eh]
    have := (s.swap.grow (o := slotO sl) hx).swap
    exact this
  refine opH_mono ?_ (yl Lt (at_, sl.f) a (q.set x (slotO sl)) h4 (by rw [← hTT] at hN; simp only [List.length_append, List.length_cons] at hN; omega) trivial ya s5 d4)
  rintro v h6 ⟨a', rfl, s', d', hy⟩
  have b6 : h6 x = some (slotO sl) := s'.at 1 rfl set_self
  have s6 : HL.Sep [a', q] h6 := (s'.swap.cut (le_set (s.drop.hd.none hx))).swap
  simp only [bRtM]
  exact k7 _ _ _ a' _ (fun k hk => by simp (disch := omega) only [upd_ne]) (by simp (disch := first | exact nq rfl | omega) only [bRtM]) (by simp (disch := first | exact nq rfl | omega) only [bRtM]) (by simp (disch := first | exact nq rfl | omega) only [bRtM]) (by simp (disch := first | exact nq rfl | omega) only [bRtM]) b6 hy s6 d' (by rw [← hTT]; simp)
end Go.Proofs.YtfflipnhffknnaaGreatDoor.Rv
end

section
/- The stretches in which none of some cells is another robot's. -/
set_option linter.unusedSimpArgs false
set_option linter.unusedVariables false
set_option maxRecDepth 100000
namespace Go.Proofs.YtfflipnhffknnaaGreatDoor
open Go Go.HL Go.Proofs.Resv Go.Proofs.Srch

def bRtN := jq (jq (jq (jq (jq @Int.toNat_natCast @List.getElem?_cons_succ.{0}) (jq @List.getElem?_cons_zero.{0} (jq @List.set_cons_zero.{0} @Nat.add_zero))) (jq (jq @Nat.zero_add (jq @Option.some.injEq.{0} @add_mk)) (jq @al142 (jq @al28 @bd151_0_1)))) (jq (jq (jq @bin_add @bin_lss) (jq @blockK_exit (jq @blockK_normal @blockK_ret))) (jq (jq @bs142_1_0 (jq @cell_set_self @cf145)) (jq @cf146 (jq @cf88 @exists_eq_left'.{1}))))) (jq (jq (jq (jq @if_true.{1} @if_true.{0}) (jq @ld142 (jq @ld28 @ln22))) (jq (jq @opH_su (jq @opH_sv @regs0)) (jq @regs1 (jq @regs2 @regs3)))) (jq (jq (jq @resL_nil1 @resL_tmp) (jq @retK_ret (jq @st28w @thenK_exit))) (jq (jq @thenK_normal (jq @thenK_ret @true_and)) (jq @upd_eq (jq @upd_ne @wrap_in)))))
theorem setR2 {n d e : Nat} {v u : Value} {r : Rg} (hd : d < n) (he : e < n) : setR n #[d, e] #[v, u] r = upd (upd r d v) e u := by
  show putR n (putR n r (some d) v) (some e) u = _
  simp only [putR, if_pos hd, if_pos he]

theorem opE_gaps {G : Hp} {a b c y : Value} {h : Hp} {K : VK} : opE P_ G (xCallV (.func (.func 164) #[] #[a, b, c]) #[y]) h K = HCalls P_ G 164 #[y, a, b, c] h K := by kernel_rfl

def SpY (xb l : Nat) (ob : Obj) (L : List Sp) (b : Hp) : Prop := ∃ ip v, Slc spanC 151 ip v L ∧ Sep [ip, noHp.set xb (.cells #[v] 142 (0, 0)), noHp.set l ob] b

theorem free_yield {G : Hp} {y : Value} {xb l : Nat} {oo : Option Exit → Obj} {r : Rg} (gl : G l = none) (ho : ∀ e, isCells (oo e) = false) (g13 : r 13 = .pointer (some ⟨xb, 0, none⟩))
    (hy : ∀ (args : Array Value) (h1 : Hp) (K1 : Value → Hp → Prop), args.size = 2 → h1 l = some (oo none) →
      S108_l2_a7 G (setR 46 #[33, 34] args r) h1 (fun e r2 h2 => e = .normal ∧ h2 l = some (oo none) ∧ ∀ ob, isCells ob = false → S108_l2_b7 G r2 (h2.set l ob) (fun e _ h3 => h3 l = some ob ∧ match e with
        | .normal => K1 (.bool true) (h3.set l (oo none))
        | .panic _ => False
        | .outgrown => False
        | e => K1 (.bool false) (h3.set l (oo (some e))))) →
      opH P_ G (xCallV y args) h1 K1) : YlN P_ Rv.gapA (fun _ => True) 60000 G y (SpY xb l (oo none)) := by
  rintro L p b q h hL _ ⟨ip, v, sl, sb⟩ s d
  have s1 : Sep [ip, noHp.set xb (.cells #[v] 142 (0, 0)), noHp.set l (oo none), q] h := s.open sb
  refine hy (Rv.gapA p) h _ rfl (s1.at 2 rfl set_self) ?_
  rw [setR2 (by decide) (by decide)]
  unfold S108_l2_a7
  refine ⟨rfl, s1.at 2 rfl set_self, fun ob hob => ?_⟩
  have s2 := (s1.pick 2 rfl rfl).put (o := ob) set_self
  rw [set_set] at s2
  have d2 : Dis G (h.set l ob) := d.set gl
  generalize Hp.set h l ob = h2 at s2 d2 ⊢
  have cb : cellIn G h2 ⟨xb, 0, none⟩ = some v := by rw [cell_of (look_own (s2.at 2 rfl set_self))]; rfl
  unfold S108_l2_b7
  simp (disch := first | exact nq rfl | omega) only [bRtN, g13, cb]
  intro x hx gx
  have s4 := s2.past (o := .cells #[.int .i64 p.1, .int .i64 p.2] 151 (0, 0)) hx
  have d4 := d2.set (o := .cells #[.int .i64 p.1, .int .i64 p.2] 151 (0, 0)) gx
  have hxs : (h2.set x (.cells #[.int .i64 p.1, .int .i64 p.2] 151 (0, 0))) x = some (.cells #[.int .i64 p.1, .int .i64 p.2] 151 (0, 0)) := set_self
  generalize Hp.set h2 x _ = h4 at s4 d4 hxs ⊢
  refine append_piece spanC (by decide) (L := L) (M := [p]) un142 eospan (by decide) (by decide) (s4.pick 1 rfl rfl) d4 sl (Sees.row hxs (by simp [spanC, Cod.rows]) (by simp)) (by simp; omega) ?_
  intro v' ip' h5 sl' s5 d5
  obtain ⟨sa, cap, rfl, hcap⟩ := sl.len (by decide)
  obtain ⟨sa', cap', rfl, hcap'⟩ := sl'.len (by decide)
  have hk5 : h5 xb = some (.cells [Value.slice sa L.length cap].toArray 142 (0, 0)) := s5.at 2 rfl set_self
  try simp (disch := first | exact nq rfl | omega) only [bRtN, Nat.reduceAdd, Nat.reduceMul]
  rw [store1_eq sz142 rfl hk5 (by simp)]
  try simp only [bRtN, List.set_cons_zero]
  have s7 := (s5.pick 2 rfl rfl).put (o := .cells #[.slice sa' (L ++ [p]).length cap'] 142 (0, 0)) set_self
  rw [set_set] at s7
  have d7 := d5.set (o := .cells #[.slice sa' (L ++ [p]).length cap'] 142 (0, 0)) (d5 _ _ hk5)
  generalize Hp.set h5 xb _ = h7 at s7 d7 ⊢
  try simp (disch := first | exact nq rfl | omega) only [bRtN, Nat.reduceAdd, Nat.reduceMul]
  refine ⟨s7.at 2 rfl set_self, ?_⟩
  have s8 := (s7.pick 2 rfl rfl).put (o := oo none) set_self
  rw [set_set] at s8
  obtain ⟨b', t1, t2⟩ := Sep.pack [_, _, _] (s8.sel (L' := [ip', noHp.set xb (.cells #[.slice sa' (L ++ [p]).length cap'] 142 (0, 0)), noHp.set l (oo none), q]) [2, 1, 0, 3] (by decide) rfl)
  exact ⟨b', t1, d7.set gl, ip', _, sl', t2⟩

theorem free_snoc {T : Tb} {r : Int} {N : List Int} {n : Int} : freeL T r (N ++ [n]) = meetL (freeL T r N) (gapsN T r n) := by
  unfold freeL
  rw [List.foldl_append]
  rfl

set_option maxHeartbeats 1000000 in
theorem free_spec {G h : Hp} {g cv : Value} {w k tp bb : Nat} {f : Nat → Nat → Int} {T : Tb} {r : Int} {cells : List Cell} (gs : GS G h g w k f) (ts : Rv.TSee G h tp T) (gt : GoodT T) (fw : Few T bb) (hbb : bb ≤ 50000) (sc : Sees cellC G h cv cells) (hc : cells.length ≤ 300) :
    HCalls P_ G 108 #[g, .pointer (some ⟨tp, 0, none⟩), .int .i64 r, cv] h (fun u h' => ∃ ip, Slc spanC 151 ip u (freeL T r (cells.map (numI w k))) ∧ Sep [ip, h] h' ∧ Dis G h') := by
  obtain ⟨ca, cc, rfl, _⟩ := id sc
  refine HCalls.assume fun d => enter108 (by simp) ?_
  unfold S108
  simp only [bRtN]
  intro x0 hx0 gx0
  have s0 := (Sep.one (h := h)).new (o := .cells #[.int .i64 0, .int .i64 4611686018427387904] 151 (0, 0)) hx0
  have d0 := d.set (o := .cells #[.int .i64 0, .int .i64 4611686018427387904] 151 (0, 0)) gx0
  generalize Hp.set h x0 _ = h0 at s0 d0 ⊢
  generalize hKK : retK P_ G _ _ = KK
  refine loop_I (fun m p h' => ∃ (i : Nat) (ip : Hp) (v : Value), m = cells.length - i ∧ i ≤ cells.length ∧ p 0 = g ∧ p 1 = .pointer (some ⟨tp, 0, none⟩) ∧ p 2 = .int .i64 r ∧ p 9 = v ∧ p 18 = .slice ca cells.length cc ∧ p 19 = .int .i64 cells.length ∧ p 20 = .int .i64 i ∧
    Slc spanC 151 ip v (freeL T r ((cells.take i).map (numI w k))) ∧ Sep [ip, h] h' ∧ Dis G h') ?_ (m := cells.length)
    ⟨0, noHp.set x0 (.cells #[.int .i64 0, .int .i64 4611686018427387904] 151 (0, 0)), .slice (some ⟨x0, 0, none⟩) 1 1, rfl, by omega, by simp (disch := first | exact nq rfl | omega) only [bRtN], by simp (disch := first | exact nq rfl | omega) only [bRtN], by simp (disch := first | exact nq rfl | omega) only [bRtN], by simp (disch := first | exact nq rfl | omega) only [bRtN], by simp (disch := first | exact nq rfl | omega) only [bRtN], by simp (disch := first | exact nq rfl | omega) only [bRtN], by simp only [bRtN]; rfl, ⟨some x0, 1, [], rfl, by rw [set_self]; rfl, rfl⟩, s0, d0⟩
  rintro m p h1 ⟨i, ip, v, rfl, hi, g0, g1, g2, g9, g18, g19, g20, sl, s, d1⟩ X hX
  unfold S108_l2
  simp only [bRtN, g19, g20]
  refine cond_dec (fun hlt => ?_) (fun hge => ?_)
  rotate_left
  · obtain rfl : i = cells.length := by omega
    try simp (disch := first | exact nq rfl | omega) only [bRtN, Nat.reduceAdd, Nat.reduceMul]
    unfold S108_k1
    rw [← hKK]
    try simp (disch := first | exact nq rfl | omega) only [bRtN, g9]
    rw [List.take_length] at sl
    exact ⟨ip, sl, s, d1⟩
  obtain ⟨c, hcx⟩ : ∃ c, cells[i]? = some c := ⟨_, List.getElem?_eq_getElem (by omega)⟩
  obtain ⟨b, o, rfl, e1, e2⟩ := Sees.cell (sc.up (s.in 1 rfl) d1) hcx
  have htk : cells.take (i + 1) = cells.take i ++ [c] := by rw [List.take_add_one, hcx]; rfl
  unfold S108_l2_k3
  simp (disch := first | exact nq rfl | omega) only [bRtN, g18, g20, g0, ix22 (Int.natCast_nonneg i) hlt, e1, e2]
  intro y hy gy
  have s2 := s.past (o := .cells #[.int .i64 c.1, .int .i64 c.2] 28 (0, 0)) hy
  have d2 := d1.set (o := .cells #[.int .i64 c.1, .int .i64 c.2] 28 (0, 0)) gy
  have hys : (h1.set y (.cells #[.int .i64 c.1, .int .i64 c.2] 28 (0, 0))) y = some (.cells #[.int .i64 c.1, .int .i64 c.2] 28 (0, 0)) := set_self
  try simp (disch := first | exact nq rfl | omega) only [bRtN, Nat.reduceAdd, Nat.reduceMul]
  generalize Hp.set h1 y _ = h2 at s2 d2 hys ⊢
  have cy : ∀ k, cellIn G h2 ⟨y, k, none⟩ = _ := fun k => cell_of (look_own hys)
  try simp (disch := first | exact nq rfl | omega) only [bRtN, Nat.reduceAdd, Nat.reduceMul, cy]
  refine (num_spec (c := c) (gs.up (s2.in 1 rfl) d2)).mono ?_
  rintro _ h2 ⟨rfl, rfl⟩
  try simp only [bRtN]
  refine cond_dec (fun hneg => ?_) (fun hpos => ?_)
  · rw [← hKK]
    try simp only [bRtN]
    have hin : inT T.length (numI w k c) = false := by
      cases e : inT T.length (numI w k c) with
      | false => rfl
      | true => have := (inT_iff.1 e).1; omega
    rw [free_out (List.mem_map.2 ⟨c, List.mem_of_getElem? hcx, rfl⟩) hin]
    exact ⟨noHp, Slc.nil, s2.drop.none, d2⟩
  unfold S108_l2_k5
  simp (disch := first | exact nq rfl | omega) only [bRtN, g1, g2]
  intro xb hxb gxb
  have s3 := s2.new (o := .cells #[.slice none 0 0] 142 (0, 0)) hxb
  have d3 := d2.set (o := .cells #[.slice none 0 0] 142 (0, 0)) gxb
  try simp (disch := first | exact nq rfl | omega) only [bRtN, Nat.reduceAdd, Nat.reduceMul]
  generalize Hp.set h2 xb _ = h3 at s3 d3 ⊢
  refine (Rv.gaps_spec17).mono ?_
  rintro _ h4 ⟨b1, b2, b3, rfl, l4, d4, q1, q2, q3, hR⟩
  have s4 := hR _ s3
  have hx4 : h4 xb = some (.cells #[.slice none 0 0] 142 (0, 0)) := s4.at 0 rfl set_self
  have ne1 : b1 ≠ xb := fun e => by rw [e, hx4] at q1; simp at q1
  have ne2 : b2 ≠ xb := fun e => by rw [e, hx4] at q2; simp at q2
  have ne3 : b3 ≠ xb := fun e => by rw [e, hx4] at q3; simp at q3
  obtain ⟨s5, sQ⟩ := s4.but
  generalize hQ : but h4 xb = Q at s5 sQ
  have dQ : Dis G Q := fun b o e => d4 b o (s5.in 1 rfl _ _ e)
  intro y2 l oo hl gl hoo hy2
  rw [opE_gaps]
  have yl := free_yield (xb := xb) gl hoo (by simp (disch := first | exact nq rfl | omega) only [bRtN]) hy2
  have s6 : Sep [noHp, noHp.set xb (.cells #[.slice none 0 0] 142 (0, 0)), noHp.set l (oo none), Q] (h4.set l (oo none)) := ((s5.new (o := oo none) hl).none).sel [0, 2, 1, 3] (by decide) rfl
  obtain ⟨a, s7, sa⟩ := Sep.pack [_, _, _] s6
  refine (Rv.gapsN_spec (T := T) yl ⟨noHp, .slice none 0 0, Slc.nil, sa⟩ s7 (by rw [← hQ, but_ne ne1]; exact q1) (by rw [← hQ, but_ne ne2]; exact q2) (by rw [← hQ, but_ne ne3]; exact q3) (ts.up (sQ.in 1 rfl) dQ) (fun L hL => by have := fw L hL; omega)
    (by have := gapsN_len fw r (numI w k c); unfold gapsN at this; omega)).mono ?_
  rintro _ h8 ⟨a', s8, d8, ip2, v2, sl2, sa2⟩
  obtain ⟨h9, s9, t9⟩ := Sep.pack [_, _, _, _] ((((s8.open sa2).pick 3 rfl rfl).open sQ).sel (L' := [ip2, noHp.set xb (.cells #[v2] 142 (0, 0)), ip, h, noHp.set l (oo none)]) [2, 3, 0, 1, 4] (by decide) rfl)
  have d9 : Dis G h9 := fun b o e => d8 b o (s9.in 0 rfl _ _ e)
  refine ⟨h9, s9.in 0 rfl, ?_, .inl ⟨s9.at 1 rfl set_self, ?_⟩⟩
  · rcases s9.apart (b := noHp.set l (oo none)) (by simp) l with e | e
    · exact e
    · rw [set_self] at e; cases e
  try simp only [bRtN]
  unfold S108_l2_k6
  have cb : cellIn G h9 ⟨xb, 0, none⟩ = some v2 := by rw [cell_of (look_own (t9.at 1 rfl set_self))]; rfl
  simp (disch := first | exact nq rfl | omega) only [bRtN, cb, g9]
  have hlA := free_len gt fw r ((cells.take i).map (numI w k))
  have hlB := gapsN_len fw r (numI w k c)
  have hmul : ((cells.take i).map (numI w k)).length * (bb + 1) ≤ 300 * 50001 := Nat.mul_le_mul (by rw [List.length_map, List.length_take]; omega) (by omega)
  refine (both_spec (A := freeL T r ((cells.take i).map (numI w k))) (B := gapsN T r (numI w k c)) (sl.see (by decide) (t9.in 2 rfl)) (sl2.see (by decide) (t9.in 0 rfl)) (by omega)).mono ?_
  rintro v3 h10 ⟨ip3, sl3, s10, d10⟩
  have s11 : Sep [ip3, h] h10 := (s10.swap.cut (t9.in 3 rfl)).swap
  unfold S108_l2_k4
  simp (disch := first | exact nq rfl | omega) only [bRtN, g20]
  refine hX (cells.length - (i + 1)) _ _ (by omega) ⟨i + 1, ip3, v3, rfl, by omega, by simp (disch := first | exact nq rfl | omega) only [bRtN, g0], by simp (disch := first | exact nq rfl | omega) only [bRtN, g1], by simp (disch := first | exact nq rfl | omega) only [bRtN, g2], by simp (disch := first | exact nq rfl | omega) only [bRtN], by simp (disch := first | exact nq rfl | omega) only [bRtN, g18], by simp (disch := first | exact nq rfl | omega) only [bRtN, g19], by simp only [bRtN]; rfl, ?_, s11, d10⟩
  rw [htk, List.map_append, List.map_cons, List.map_nil, free_snoc, ← both_meet _ _ _ (Nat.le_refl _) (ris_free gt r _) (ris_gaps gt r _)]
  exact sl3
end Go.Proofs.YtfflipnhffknnaaGreatDoor
end

section
/- A text of the proofs. -/
set_option linter.unusedVariables false
set_option maxRecDepth 100000
namespace Go.Proofs.YtfflipnhffknnaaGreatDoor
open Go Go.HL
def md90 : Nat → Hint
  | _ => mh false [] [] [] false
def S90_k1 (G : Hp) (K : EK) (r : Rg) (h : Hp) : Prop :=
  opH P_ G (callFunc 134 #[(r 5), (.func (.func 135) #[] #[(r 2)])]) h fun v8 h8 =>
  opH P_ G (callFunc 136 #[(r 5)]) h8 fun v9 h9 =>
  K .ret (upd (upd (upd (upd (upd (upd r 15 (r 5)) 16 (.func (.func 135) #[] #[(r 2)])) 17 v8) 18 (r 5)) 19 v9) 4 v9) h9
def S90 (G : Hp) (K : EK) (r : Rg) (h : Hp) : Prop :=
  o_ G (Instr.box 68 (r 0)) h fun v0 h0 =>
  o_ G (Instr.box 48 (r 1)) h0 fun v1 h1 =>
  o_ G (Instr.loadAt 68 v0) h1 fun v2 h2 =>
  o_ G (Instr.loadAt 48 v1) h2 fun v3 h3 =>
  opH P_ G (callFunc 127 #[v2, v3]) h3 fun v4 h4 =>
  o_ G (Instr.extract v4 0) h4 fun v5 h5 =>
  o_ G (Instr.extract v4 1) h5 fun v6 h6 =>
  o_ G (Op.unary .not v6) h6 fun v7 h7 =>
  (fun q => cond v7
  (K .ret (upd q 4 (.slice none 0 0)) h7)
  (S90_k1 G K q h7))
  (upd (upd (upd (upd (upd (upd (upd (upd (upd (upd (upd (upd (upd r 2 v0) 3 v1) 4 (.slice none 0 0)) 8 v2) 9 v3) 10 v4) 7 v4) 11 v5) 12 v6) 5 v5) 6 v6) 13 v6) 14 v7)
theorem S90_eq : Weq 20 md90 (Tryz.f90.body.getD .skip) S90 := fun _ _ _ _ => by kernel_rfl
theorem enter90 : Ent 20 90 [.tmp 4] S90 := ent_ S90_eq Tryz.func90 rfl rfl rfl

def md135 : Nat → Hint
  | 1 => mh false [0,0,3,0,0,31,63,127] [m_,m_,e_,m_,m_,e_,n_,n_] [false, false, true, false, false, false, false, false] false
  | _ => mh false [] [] [] false
def S135 (G : Hp) (K : EK) (r : Rg) (h : Hp) : Prop :=
  o_ G (Instr.box 28 (r 0)) h fun v0 h0 =>
  o_ G (Instr.box 28 (r 1)) h0 fun v1 h1 =>
  pureW P_ G h1 (sv (Instr.loadAt 68 (r 2))) h1 fun v2 h2 =>
  pureW P_ G h1 (sv (Instr.loadAt 28 v0)) h2 fun v3 h3 =>
  opH P_ G (callFunc 88 #[v2, v3]) h3 fun v4 h4 => h1.le h4 ∧
  pureW P_ G h1 (sv (Instr.loadAt 68 (r 2))) h4 fun v5 h5 =>
  pureW P_ G h1 (sv (Instr.loadAt 28 v1)) h5 fun v6 h6 =>
  opH P_ G (callFunc 88 #[v5, v6]) h6 fun v7 h7 =>
  p_ (binOp .sub 3 v4 v7) h7 fun v8 h8 =>
  K .ret (upd (upd (upd (upd (upd (upd (upd (upd (upd (upd (upd r 3 v0) 4 v1) 5 (.int .i64 0)) 6 v2) 7 v3) 8 v4) 9 v5) 10 v6) 11 v7) 12 v8) 5 v8) h8
theorem S135_eq : Weq 13 md135 (Tryz.f135.body.getD .skip) S135 := fun _ _ _ _ => by kernel_rfl
theorem enter135 : Ent 13 135 [.tmp 5] S135 := ent_ S135_eq Tryz.func135 rfl rfl rfl

def md136 : Nat → Hint
  | 6 => mh false [0,0,3,7,0,0,32,112,240,511] [n_,n_,n_,m_,n_,n_,n_,n_,m_,m_] (fs 10) false
  | 11 => mh false [0,0,3,7,0,0,32,112,240,511] [n_,n_,n_,m_,n_,n_,n_,n_,m_,m_] (fs 10) false
  | _ => mh false [] [] [] false
def S136_k2 (G : Hp) (K : EK) (r : Rg) (h : Hp) : Prop :=
  K .ret (upd (upd r 60 (r 0)) 2 (r 0)) h
def S136_l3_k5 (G : Hp) (K : EK) (r : Rg) (h : Hp) : Prop :=
  o_ G (binOp .add 3 (r 3) (.int .i64 1)) h fun v4 h4 =>
  K .normal (upd (upd (upd r 14 (r 3)) 15 v4) 3 v4) h4
def S136_l3_k6 (G : Hp) (K : EK) (r : Rg) (h : Hp) : Prop :=
  o_ G (Instr.sliceAt 22 (r 0) (some (r 3)) none none) h fun v12 h12 =>
  o_ G (Builtin.clear_ #[22] 0 #[v12]) h12 fun v13 h13 =>
  o_ G (Instr.sliceAt 22 (r 0) none (some (r 3)) none) h13 fun v14 h14 =>
  K .ret (upd (upd (upd (upd (upd (upd (upd r 54 (r 0)) 55 (r 3)) 56 v12) 57 (r 0)) 58 (r 3)) 59 v14) 2 v14) h14
def S136_l3_l7_k9 (G : Hp) (K : EK) (r : Rg) (h : Hp) : Prop :=
  o_ G (binOp .add 3 (r 5) (.int .i64 1)) h fun v17 h17 =>
  K .normal (upd (upd (upd r 33 (r 5)) 34 v17) 5 v17) h17
def S136_l3_l7_k8 (G : Hp) (K : EK) (r : Rg) (h : Hp) : Prop :=
  p_ (Instr.indexAt 22 (r 4) (r 5)) h fun v18 h18 =>
  pureW P_ G h (sv (Instr.loadAt 28 v18)) h18 fun v19 h19 =>
  p_ (binOp .sub 3 (r 5) (.int .i64 1)) h19 fun v20 h20 =>
  p_ (Instr.indexAt 22 (r 4) v20) h20 fun v21 h21 =>
  pureW P_ G h (sv (Instr.loadAt 28 v21)) h21 fun v22 h22 =>
  pureW P_ G h (xEq .neq 28 (.tmp 0) (.tmp 0) v19 v22) h22 fun v23 h23 =>
  cond v23
  (o_ G (Instr.indexAt 22 (r 4) (r 5)) h23 fun v24 h24 =>
  o_ G (Instr.loadAt 28 v24) h24 fun v25 h25 =>
  o_ G (Instr.indexAt 22 (r 0) (r 3)) h25 fun v26 h26 =>
  opH P_ G (su (Instr.storeAt 28 v26 v25)) h26 fun v27 h27 =>
  o_ G (binOp .add 3 (r 3) (.int .i64 1)) h27 fun v28 h28 =>
  S136_l3_l7_k9 G K (upd (upd (upd (upd (upd (upd (upd (upd (upd (upd (upd (upd (upd (upd (upd (upd (upd (upd (upd (upd r 35 (r 4)) 36 (r 5)) 37 v18) 38 v19) 39 (r 4)) 40 (r 5)) 41 v20) 42 v21) 43 v22) 44 v23) 45 (r 0)) 46 (r 3)) 47 (r 4)) 48 (r 5)) 49 v24) 50 v25) 51 v26) 52 (r 3)) 53 v28) 3 v28) h28)
  (S136_l3_l7_k9 G K (upd (upd (upd (upd (upd (upd (upd (upd (upd (upd r 35 (r 4)) 36 (r 5)) 37 v18) 38 v19) 39 (r 4)) 40 (r 5)) 41 v20) 42 v21) 43 v22) 44 v23) h23)
def S136_l3_l7 (G : Hp) (r : Rg) (h : Hp) (K : EK) : Prop :=
  o_ G (Builtin.len_ #[22] 3 #[(r 4)]) h fun v15 h15 =>
  o_ G (binOp .lss 3 (r 5) v15) h15 fun v16 h16 =>
  cond v16
  (S136_l3_l7_k8 G K (upd (upd (upd (upd r 29 (r 5)) 30 (r 4)) 31 v15) 32 v16) h16)
  (K (.exit 2) (upd (upd (upd (upd r 29 (r 5)) 30 (r 4)) 31 v15) 32 v16) h16)
def S136_l3_k4 (G : Hp) (K : EK) (r : Rg) (h : Hp) : Prop :=
  p_ (Instr.indexAt 22 (r 0) (r 3)) h fun v5 h5 =>
  pureW P_ G h (sv (Instr.loadAt 28 v5)) h5 fun v6 h6 =>
  p_ (binOp .sub 3 (r 3) (.int .i64 1)) h6 fun v7 h7 =>
  p_ (Instr.indexAt 22 (r 0) v7) h7 fun v8 h8 =>
  pureW P_ G h (sv (Instr.loadAt 28 v8)) h8 fun v9 h9 =>
  pureW P_ G h (xEq .eql 28 (.tmp 0) (.tmp 0) v6 v9) h9 fun v10 h10 =>
  cond v10
  (o_ G (Instr.sliceAt 22 (r 0) (some (r 3)) none none) h10 fun v11 h11 =>
  loopP (S136_l3_l7 G) (upd (upd (upd (upd (upd (upd (upd (upd (upd (upd (upd (upd (upd (upd (upd r 16 (r 0)) 17 (r 3)) 18 v5) 19 v6) 20 (r 0)) 21 (r 3)) 22 v7) 23 v8) 24 v9) 25 v10) 26 (r 0)) 27 (r 3)) 28 v11) 4 v11) 5 (.int .i64 1)) h11 (blockK 2 (thenK (S136_l3_k6 G K) (blockK 1 (thenK (S136_l3_k5 G K) K)))))
  (S136_l3_k5 G K (upd (upd (upd (upd (upd (upd (upd (upd (upd (upd r 16 (r 0)) 17 (r 3)) 18 v5) 19 v6) 20 (r 0)) 21 (r 3)) 22 v7) 23 v8) 24 v9) 25 v10) h10)
def S136_l3 (G : Hp) (r : Rg) (h : Hp) (K : EK) : Prop :=
  o_ G (Builtin.len_ #[22] 3 #[(r 0)]) h fun v2 h2 =>
  o_ G (binOp .lss 3 (r 3) v2) h2 fun v3 h3 =>
  cond v3
  (S136_l3_k4 G K (upd (upd (upd (upd r 10 (r 3)) 11 (r 0)) 12 v2) 13 v3) h3)
  (K (.exit 0) (upd (upd (upd (upd r 10 (r 3)) 11 (r 0)) 12 v2) 13 v3) h3)
def S136_k1 (G : Hp) (K : EK) (r : Rg) (h : Hp) : Prop :=
  loopP (S136_l3 G) (upd r 3 (.int .i64 1)) h (blockK 0 (thenK (S136_k2 G K) K))
def S136 (G : Hp) (K : EK) (r : Rg) (h : Hp) : Prop :=
  o_ G (Builtin.len_ #[22] 3 #[(r 0)]) h fun v0 h0 =>
  o_ G (binOp .lss 3 v0 (.int .i64 2)) h0 fun v1 h1 =>
  (fun q => cond v1
  (K .ret (upd (upd q 9 (r 0)) 2 (r 0)) h1)
  (S136_k1 G K q h1))
  (upd (upd (upd (upd r 2 (.slice none 0 0)) 6 (r 0)) 7 v0) 8 v1)
theorem S136_eq : Weq 61 md136 (Tryz.f136.body.getD .skip) S136 := fun _ _ _ _ => by kernel_rfl
theorem enter136 : Ent 61 136 [.tmp 2] S136 := ent_ S136_eq Tryz.func136 rfl rfl rfl

end Go.Proofs.YtfflipnhffknnaaGreatDoor
end

section
/- A text of the proofs. -/
set_option linter.unusedVariables false
set_option maxRecDepth 100000
namespace Go.Proofs.YtfflipnhffknnaaGreatDoor
open Go Go.HL
def md21 : Nat → Hint
  | _ => mh false [] [] [] false
def S21 (G : Hp) (K : EK) (r : Rg) (h : Hp) : Prop :=
  o_ G (Instr.box 26 (r 0)) h fun v0 h0 =>
  o_ G (Instr.fieldAt 26 v0 0) h0 fun v1 h1 =>
  o_ G (Instr.loadAt 3 v1) h1 fun v2 h2 =>
  o_ G (binOp .leq 3 v2 (.int .i64 6)) h2 fun v3 h3 =>
  gd (wantB v3 true) (o_ G (Instr.fieldAt 26 v0 1) h3) h3 fun v4 h4 =>
  gd (wantB v3 true) (o_ G (Instr.loadAt 3 v4) h4) h4 fun v5 h5 =>
  gd (wantB v3 true) (o_ G (binOp .leq 3 v5 (.int .i64 6)) h5) h5 fun v6 h6 =>
  opH P_ G (xPick v3 v6 (.bool false)) h6 fun v7 h7 =>
  gd (wantB v7 true) (o_ G (Instr.fieldAt 26 v0 14) h7) h7 fun v8 h8 =>
  gd (wantB v7 true) (o_ G (Instr.loadAt 3 v8) h8) h8 fun v9 h9 =>
  gd (wantB v7 true) (o_ G (binOp .leq 3 v9 (.int .i64 4000)) h9) h9 fun v10 h10 =>
  opH P_ G (xPick v7 v10 (.bool false)) h10 fun v11 h11 =>
  gd (wantB v11 true) (o_ G (Instr.fieldAt 26 v0 7) h11) h11 fun v12 h12 =>
  gd (wantB v11 true) (o_ G (Instr.loadAt 3 v12) h12) h12 fun v13 h13 =>
  gd (wantB v11 true) (o_ G (binOp .leq 3 v13 (.int .i64 100)) h13) h13 fun v14 h14 =>
  opH P_ G (xPick v11 v14 (.bool false)) h14 fun v15 h15 =>
  gd (wantB v15 true) (o_ G (Instr.fieldAt 26 v0 10) h15) h15 fun v16 h16 =>
  gd (wantB v15 true) (o_ G (Instr.loadAt 3 v16) h16) h16 fun v17 h17 =>
  gd (wantB v15 true) (o_ G (binOp .leq 3 v17 (.int .i64 200)) h17) h17 fun v18 h18 =>
  opH P_ G (xPick v15 v18 (.bool false)) h18 fun v19 h19 =>
  gd (wantB v19 true) (o_ G (Instr.fieldAt 26 v0 11) h19) h19 fun v20 h20 =>
  gd (wantB v19 true) (o_ G (Instr.loadAt 3 v20) h20) h20 fun v21 h21 =>
  gd (wantB v19 true) (o_ G (binOp .leq 3 v21 (.int .i64 200)) h21) h21 fun v22 h22 =>
  opH P_ G (xPick v19 v22 (.bool false)) h22 fun v23 h23 =>
  gd (wantB v23 true) (o_ G (Instr.fieldAt 26 v0 5) h23) h23 fun v24 h24 =>
  gd (wantB v23 true) (o_ G (Instr.loadAt 23 v24) h24) h24 fun v25 h25 =>
  gd (wantB v23 true) (o_ G (Builtin.len_ #[23] 3 #[v25]) h25) h25 fun v26 h26 =>
  gd (wantB v23 true) (o_ G (binOp .leq 3 v26 (.int .i64 4)) h26) h26 fun v27 h27 =>
  opH P_ G (xPick v23 v27 (.bool false)) h27 fun v28 h28 =>
  gd (wantB v28 true) (o_ G (Instr.loadAt 26 v0) h28) h28 fun v29 h29 =>
  gd (wantB v28 true) (opH P_ G (callFunc 38 #[v29]) h29) h29 fun v30 h30 =>
  opH P_ G (xPick v28 v30 (.bool false)) h30 fun v31 h31 =>
  K .ret (upd (upd (upd (upd (upd (upd (upd (upd (upd (upd (upd (upd (upd (upd (upd (upd (upd (upd (upd (upd (upd (upd (upd (upd (upd (upd (upd (upd (upd (upd (upd (upd (upd (upd (upd (upd (upd (upd (upd (upd (upd r 1 v0) 2 (.bool false)) 3 v1) 4 v2) 5 v3) 6 v3) 7 v4) 8 v5) 9 v6) 10 v7) 11 v7) 12 v8) 13 v9) 14 v10) 15 v11) 16 v11) 17 v12) 18 v13) 19 v14) 20 v15) 21 v15) 22 v16) 23 v17) 24 v18) 25 v19) 26 v19) 27 v20) 28 v21) 29 v22) 30 v23) 31 v23) 32 v24) 33 v25) 34 v26) 35 v27) 36 v28) 37 v28) 38 v29) 39 v30) 40 v31) 2 v31) h31
theorem S21_eq : Weq 41 md21 (Tryz.f21.body.getD .skip) S21 := fun _ _ _ _ => by kernel_rfl
theorem enter21 : Ent 41 21 [.tmp 2] S21 := ent_ S21_eq Tryz.func21 rfl rfl rfl

end Go.Proofs.YtfflipnhffknnaaGreatDoor
end

section
/- The stack cells, told to any yield; cells gathered in a row. -/
set_option linter.unusedSimpArgs false
set_option linter.unusedVariables false
set_option maxRecDepth 100000
namespace Go.Proofs.YtfflipnhffknnaaGreatDoor
open Go Go.HL

def pickFrom {α : Type} (p : Nat → Bool) (mk : Nat → α) : Nat → Nat → List α
  | _, 0 => []
  | n, k + 1 => if p n = true then mk n :: pickFrom p mk (n + 1) k else pickFrom p mk (n + 1) k
end Go.Proofs.YtfflipnhffknnaaGreatDoor
end

section
/- The plain law: the program's grid and the reference let in the same configs, and their kinds of cells agree. -/
set_option linter.unusedSimpArgs false
set_option linter.unusedVariables false
namespace Go.Proofs.YtfflipnhffknnaaGreatDoor
open Go Go.HL

theorem few_below : ∀ (n : Nat) (L : List Nat), L.Nodup → (∀ x ∈ L, x < n) → L.length ≤ n
  | 0, L, _, h => by
    cases L with
    | nil => simp
    | cons x L => exact absurd (h x (.head _)) (by omega)
  | n + 1, L, hn, h => by
    by_cases hm : n ∈ L
    · have h1 := few_below n (L.erase n) (hn.erase n) (fun x hx => by
        have h2 := h x (List.mem_of_mem_erase hx)
        have h3 : x ≠ n := (List.Nodup.mem_erase_iff hn).1 hx |>.1
        omega)
      rw [List.length_erase_of_mem hm] at h1
      have := List.length_pos_of_mem hm
      omega
    · have := few_below n L hn (fun x hx => by
        have h2 := h x hx
        have h3 : x ≠ n := fun e => hm (e ▸ hx)
        omega)
      omega

theorem few_cells {w k : Nat} {L : List Cell} (hn : L.Nodup) (h : ∀ c ∈ L, inW w k c = true) : L.length ≤ w * k := by
  have h1 := few_below (w * k) (L.map fun c => c.2.toNat * w + c.1.toNat) ?_ ?_
  · simpa using h1
  · rw [List.nodup_iff_pairwise_ne, List.pairwise_map]
    rw [List.nodup_iff_pairwise_ne] at hn
    refine List.Pairwise.imp_of_mem ?_ hn
    intro a b ha hb hab e
    apply hab
    obtain ⟨a1, a2, a3, a4⟩ := inW_iff.1 (h a ha)
    obtain ⟨b1, b2, b3, b4⟩ := inW_iff.1 (h b hb)
    have hw : 0 < w := by omega
    obtain ⟨x1, y1⟩ := (cellN (n := b.2.toNat * w + b.1.toNat) hw (show a.1.toNat < w by omega)).1 e
    obtain ⟨x2, y2⟩ := (cellN (n := b.2.toNat * w + b.1.toNat) hw (show b.1.toNat < w by omega)).1 rfl
    have e1 : a.1.toNat = b.1.toNat := by rw [x1, ← x2]
    have e2 : a.2.toNat = b.2.toNat := by rw [y1, ← y2]
    exact Prod.ext (by omega) (by omega)
  · intro x hx
    obtain ⟨c, hc, rfl⟩ := List.mem_map.1 hx
    exact (numI_nat (h c hc)).2.2.2

section
variable {C : Conf}

theorem within_wk (hw : withinB C.w 1 16 = true) (hk : withinB C.h 1 16 = true) : C.w = (wC C : Int) ∧ C.h = (kC C : Int) ∧ 1 ≤ wC C ∧ wC C ≤ 16 ∧ 1 ≤ kC C ∧ kC C ≤ 16 := by
  unfold withinB at hw hk
  simp only [Bool.and_eq_true, decide_eq_true_eq] at hw hk
  unfold wC kC
  omega

theorem inW_inB (hw : withinB C.w 1 16 = true) (hk : withinB C.h 1 16 = true) (c : Cell) : inW (wC C) (kC C) c = inB C c := by
  obtain ⟨e1, e2, _⟩ := within_wk hw hk
  rw [Bool.eq_iff_iff, inW_iff]
  unfold inB
  simp only [Bool.and_eq_true, decide_eq_true_eq]
  rw [e1, e2]
  constructor
  · rintro ⟨a, b, c, d⟩; exact ⟨a, c, b, d⟩
  · rintro ⟨a, b, c, d⟩; exact ⟨a, c, b, d⟩

theorem f0_at {c : Cell} (h1 : 0 ≤ c.1) (h2 : 0 ≤ c.2) : fAt (f0C C) c = if c ∈ C.bl then -1 else if c ∈ C.po then (C.po.idxOf c : Int) + 1 else 0 := by
  have e : ((c.1.toNat : Int), (c.2.toNat : Int)) = c := by rw [Int.toNat_of_nonneg h1, Int.toNat_of_nonneg h2]
  unfold fAt f0C kd
  rw [e]
  by_cases hb : c ∈ C.bl
  · rw [if_pos (List.mem_append_left _ hb), if_pos hb, List.idxOf_append, if_pos hb, if_pos (List.idxOf_lt_length_of_mem hb)]
  · rw [if_neg hb]
    by_cases hp : c ∈ C.po
    · rw [if_pos (List.mem_append_right _ hp), if_pos hp, List.idxOf_append, if_neg hb, if_neg (by omega)]
      omega
    · rw [if_neg (by simp [hb, hp]), if_neg hp]

theorem open_eq (hw : withinB C.w 1 16 = true) (hk : withinB C.h 1 16 = true) (c : Cell) : openW (wC C) (kC C) (f0C C) c = openB C c := by
  unfold openW openB
  rw [inW_inB hw hk]
  cases hc : inB C c with
  | false => rfl
  | true =>
    have hc' := hc
    rw [← inW_inB hw hk] at hc'
    obtain ⟨a1, a2, a3, a4⟩ := inW_iff.1 hc'
    rw [f0_at a1 a3]
    simp only [Bool.true_and]
    rw [Bool.eq_iff_iff]
    by_cases hb : c ∈ C.bl
    · simp [hb, List.count_eq_zero]
    · have : List.count c C.bl = 0 := List.count_eq_zero.2 hb
      rw [if_neg hb]
      simp only [this, beq_self_eq_true, iff_true]
      split
      · simp; omega
      · simp

theorem fits_eq (hw : withinB C.w 1 16 = true) (hk : withinB C.h 1 16 = true) (p : Pose) : fitsW (wC C) (kC C) (f0C C) p = fitsB C p := by
  unfold fitsW fitsB
  rw [open_eq hw hk, open_eq hw hk]

theorem keep_eq (hw : withinB C.w 1 16 = true) (hk : withinB C.h 1 16 = true) {c : Cell} (hc : inB C c = true) : keepB (wC C) (kC C) (f0C C) c.1.toNat c.2.toNat = (decide (c ∈ C.bl) || besideB C c) := by
  have hc' := hc
  rw [← inW_inB hw hk] at hc'
  obtain ⟨a1, a2, a3, a4⟩ := inW_iff.1 hc'
  have e1 : (c.1.toNat : Int) = c.1 := Int.toNat_of_nonneg a1
  have e2 : (c.2.toNat : Int) = c.2 := Int.toNat_of_nonneg a3
  have hf := f0_at (C := C) a1 a3
  unfold keepB
  rw [fits_eq hw hk, fits_eq hw hk]
  rw [show f0C C c.1.toNat c.2.toNat = fAt (f0C C) c from rfl, hf]
  unfold fitsB east besideB
  simp only [e1, e2]
  by_cases hb : c ∈ C.bl
  · simp [hb]
  · have ho : openB C (c.1, c.2) = true := by
      unfold openB
      rw [show ((c.1, c.2) : Cell) = c from rfl, hc]
      simp [List.count_eq_zero.2 hb]
    rw [if_neg hb, ho]
    have hne : ((if c ∈ C.po then (C.po.idxOf c : Int) + 1 else 0) == -1) = false := by
      split
      · simp; omega
      · rfl
    rw [hne]
    simp [hb]

theorem home_iff {c : Cell} : homeB C c = true ↔ c ∈ C.ro.flatMap cellsP := by
  unfold homeB
  rw [List.any_eq_true, List.mem_flatMap]
  refine exists_congr fun p => and_congr_right fun _ => ?_
  rw [decide_eq_true_eq, ← List.count_pos_iff]
  omega

theorem port_iff {c : Cell} : portI C c < 0 ↔ c ∉ C.po := by
  unfold portI
  split
  · rename_i h; simp [h] <;> omega
  · rename_i h; simp [h]

theorem f1_at (hw : withinB C.w 1 16 = true) (hk : withinB C.h 1 16 = true) {c : Cell} (hc : inB C c = true) : fAt (f1 (wC C) (kC C) (f0C C)) c = if c ∈ C.bl then -1 else if besideB C c = true then (if c ∈ C.po then (C.po.idxOf c : Int) + 1 else 0) else -2 := by
  have hc' := hc
  rw [← inW_inB hw hk] at hc'
  obtain ⟨a1, a2, a3, a4⟩ := inW_iff.1 hc'
  unfold fAt f1
  rw [keep_eq hw hk hc, show f0C C c.1.toNat c.2.toNat = fAt (f0C C) c from rfl, f0_at a1 a3]
  by_cases hb : c ∈ C.bl
  · simp [hb]
  · by_cases hs : besideB C c = true
    · simp [hb, hs]
    · simp [hb, hs]

theorem f3_at (hw : withinB C.w 1 16 = true) (hk : withinB C.h 1 16 = true) {c : Cell} (hc : inB C c = true) : fAt (f3C C) c = if homeB C c = true then -2 else if c ∈ C.bl then -1 else if besideB C c = true then (if c ∈ C.po then (C.po.idxOf c : Int) + 1 else 0) else -2 := by
  have hc' := hc
  rw [← inW_inB hw hk] at hc'
  obtain ⟨a1, a2, a3, a4⟩ := inW_iff.1 hc'
  have e : ((c.1.toNat : Int), (c.2.toNat : Int)) = c := by rw [Int.toNat_of_nonneg a1, Int.toNat_of_nonneg a3]
  have h1 := f1_at hw hk hc
  unfold f3C fAt f2
  rw [e]
  by_cases hh : c ∈ C.ro.flatMap cellsP
  · rw [if_pos hh, if_pos (home_iff.2 hh)]
  · rw [if_neg hh, if_neg (fun q => hh (home_iff.1 q))]
    exact h1

theorem stacked_eq (hw : withinB C.w 1 16 = true) (hk : withinB C.h 1 16 = true) (c : Cell) : (inW (wC C) (kC C) c = true ∧ fAt (f3C C) c = 0) ↔ stackedB C c = true := by
  rw [inW_inB hw hk]
  unfold stackedB openB
  cases hc : inB C c with
  | false => simp
  | true =>
    rw [f3_at hw hk hc]
    simp only [Bool.true_and, true_and, Bool.and_eq_true, decide_eq_true_eq, beq_iff_eq, Bool.not_eq_true', port_iff, List.count_eq_zero]
    by_cases hh : homeB C c = true
    · simp [hh]
    · have hh' : homeB C c = false := by simpa using hh
      by_cases hb : c ∈ C.bl
      · simp [hh', hb]
      · by_cases hs : besideB C c = true
        · by_cases hp : c ∈ C.po
          · simp [hh', hb, hs, hp]; omega
          · simp [hh', hb, hs, hp]
        · have hs' : besideB C c = false := by simpa using hs
          simp [hh', hb, hs']

theorem six_iff : (∀ n ∈ [C.un, C.ac, C.sp, C.tu, C.ho, C.re], withinB n 1 1000 = true) ↔ withinB C.un 1 1000 = true ∧ withinB C.ac 1 1000 = true ∧ withinB C.sp 1 1000 = true ∧ withinB C.tu 1 1000 = true ∧ withinB C.ho 1 1000 = true ∧ withinB C.re 1 1000 = true := by
  simp only [List.mem_cons, List.not_mem_nil, or_false, forall_eq_or_imp, forall_eq]

theorem made_may : MadeOk C ↔ MayOk C := by
  constructor
  · intro M
    have hw := M.laid.w
    have hk := M.laid.h
    obtain ⟨e1, e2, w1, w2, k1, k2⟩ := within_wk hw hk
    have hm : wC C * kC C ≤ 16 * 16 := Nat.mul_le_mul w2 k2
    obtain ⟨s1, s2, s3, s4, s5, s6⟩ := six_iff.1 M.six
    have hnd := List.nodup_append.1 M.laid.once
    have hall := M.laid.all
    have hin : ∀ c ∈ C.bl ++ C.po, inB C c = true := fun c hc => by rw [← inW_inB hw hk]; exact hall c hc
    have hpb : ∀ c ∈ C.po, besideB C c = true := fun c hc => by
      have hcin := hin c (List.mem_append_right _ hc)
      have hcw := hall c (List.mem_append_right _ hc)
      obtain ⟨a1, a2, a3, a4⟩ := inW_iff.1 hcw
      have hnb : c ∉ C.bl := fun hb => hnd.2.2 c hb c hc rfl
      have hkeep := keep_eq hw hk hcin
      cases hs : besideB C c with
      | true => rfl
      | false =>
        exfalso
        have := M.rob.plain c.1.toNat c.2.toNat (by omega) (by omega) (by rw [hkeep, hs]; simp [hnb])
        rw [show f0C C c.1.toNat c.2.toNat = fAt (f0C C) c from rfl, f0_at a1 a3, if_neg hnb, if_pos hc] at this
        omega
    refine ⟨?_, M.laid.po8, M.rob.r8, ?_, fun c hc => ⟨hin c (List.mem_append_left _ hc), List.nodup_iff_count.1 hnd.1 c, List.count_eq_zero.2 fun hp => hnd.2.2 c hc c hp rfl⟩,
      fun c hc => ⟨hin c (List.mem_append_right _ hc), List.nodup_iff_count.1 hnd.2.1 c, ?_, hpb c hc⟩, fun p hp => by rw [← fits_eq hw hk]; exact M.rob.fit p hp, fun c _ => List.nodup_iff_count.1 M.rob.once c, ?_⟩
    · unfold numbersB
      simp [hw, hk, M.ht, M.qu, M.bu, s1, s2, s3, s4, s5, s6]
    · have := few_cells (w := wC C) (k := kC C) hnd.1 (fun c hc => hall c (List.mem_append_left _ hc))
      omega
    · cases hh : homeB C c with
      | false => rfl
      | true =>
        exfalso
        have := M.rob.low c (home_iff.1 hh)
        rw [f1_at hw hk (hin c (List.mem_append_right _ hc)), if_neg (fun hb => hnd.2.2 c hb c hc rfl), if_pos (hpb c hc), if_pos hc] at this
        omega
    · refine ⟨?_, fun s hs => ?_, M.sta.apart, M.sta.most, M.sta.nums, M.sta.once⟩
      · have := few_cells (w := wC C) (k := kC C) M.sta.apart (fun c hc => by
          obtain ⟨s, hs, rfl⟩ := List.mem_map.1 hc
          exact (M.sta.each s hs).1)
        rw [List.length_map] at this
        omega
      · obtain ⟨q1, q2, q3⟩ := M.sta.each s hs
        exact ⟨(stacked_eq hw hk s.1).1 ⟨q1, q2⟩, q3⟩
  · intro M
    have hn := M.nums
    unfold numbersB at hn
    simp only [Bool.and_eq_true] at hn
    obtain ⟨hw, hk, hht, s1, s2, s3, s4, s5, s6, hqu, hbu⟩ := hn
    obtain ⟨e1, e2, w1, w2, k1, k2⟩ := within_wk hw hk
    have hin : ∀ c ∈ C.bl ++ C.po, inW (wC C) (kC C) c = true := fun c hc => by
      rw [inW_inB hw hk]
      rcases List.mem_append.1 hc with h | h
      · exact (M.blk c h).1
      · exact (M.prt c h).1
    have hnb : C.bl.Nodup := List.nodup_iff_count.2 fun c => by
      by_cases hc : c ∈ C.bl
      · exact (M.blk c hc).2.1
      · rw [List.count_eq_zero.2 hc]; omega
    have hnp : C.po.Nodup := List.nodup_iff_count.2 fun c => by
      by_cases hc : c ∈ C.po
      · exact (M.prt c hc).2.1
      · rw [List.count_eq_zero.2 hc]; omega
    have hdis : ∀ a ∈ C.bl, ∀ b ∈ C.po, a ≠ b := fun a ha b hb e => by
      have := (M.blk a ha).2.2
      rw [List.count_eq_zero] at this
      exact this (e ▸ hb)
    have hnd : (C.bl ++ C.po).Nodup := List.nodup_append.2 ⟨hnb, hnp, hdis⟩
    have hlaid : LaidOk C := ⟨hw, hk, M.po8, by
      have := few_cells (w := wC C) (k := kC C) hnb (fun c hc => hin c (List.mem_append_left _ hc))
      rw [e1, e2, ← Int.natCast_mul]; omega, hin, hnd⟩
    have hro : ∀ c ∈ C.ro.flatMap cellsP, inB C c = true ∧ c ∉ C.bl := fun c hc => by
      obtain ⟨p, hp, hcp⟩ := List.mem_flatMap.1 hc
      have hf := M.fit p hp
      rw [← fits_eq hw hk] at hf
      obtain ⟨q1, q2⟩ := fits_cells hf c hcp
      obtain ⟨a1, a2, a3, a4⟩ := inW_iff.1 q1
      refine ⟨by rw [← inW_inB hw hk]; exact q1, fun hb => q2 ?_⟩
      rw [f0_at a1 a3, if_pos hb]
    refine ⟨six_iff.2 ⟨s1, s2, s3, s4, s5, s6⟩, hht, hqu, hbu, hlaid, ⟨M.ro8, fun x y hx hy hkp => ?_, fun p hp => by rw [fits_eq hw hk]; exact M.fit p hp, fun c hc => ?_, ?_⟩, ⟨fun s hs => ?_, M.bins.apart, M.bins.nums, M.bins.once, M.bins.most⟩⟩
    · have hcw : inW (wC C) (kC C) ((x : Int), (y : Int)) = true := inW_iff.2 ⟨by simp, by simpa using hx, by simp, by simpa using hy⟩
      have hcb := hcw
      rw [inW_inB hw hk] at hcb
      have hkeep := keep_eq hw hk hcb
      simp only [Int.toNat_natCast] at hkeep
      rw [hkp] at hkeep
      have h0 := f0_at (C := C) (c := ((x : Int), (y : Int))) (by simp) (by simp)
      unfold fAt at h0
      simp only [Int.toNat_natCast] at h0
      rw [h0]
      by_cases hp : ((x : Int), (y : Int)) ∈ C.po
      · have := (M.prt _ hp).2.2.2
        rw [this] at hkeep
        simp at hkeep
      · rw [if_neg hp]
        split <;> omega
    · obtain ⟨q1, q2⟩ := hro c hc
      rw [f1_at hw hk q1, if_neg q2]
      split
      · have hnp' : c ∉ C.po := fun hp => by
          have := (M.prt c hp).2.2.1
          rw [home_iff.2 hc] at this
          cases this
        rw [if_neg hnp']
        exact Int.le_refl _
      · omega
    · exact List.nodup_iff_count.2 fun c => by
        by_cases hc : c ∈ C.ro.flatMap cellsP
        · exact M.once c hc
        · rw [List.count_eq_zero.2 hc]; omega
    · obtain ⟨q1, q2⟩ := M.bins.each s hs
      obtain ⟨q3, q4⟩ := (stacked_eq hw hk s.1).2 q1
      exact ⟨q3, q4, q2⟩
end
end Go.Proofs.YtfflipnhffknnaaGreatDoor
end

section
/- The program's grid answers as the reference's. -/
set_option linter.unusedSimpArgs false
set_option linter.unusedVariables false
namespace Go.Proofs.YtfflipnhffknnaaGreatDoor
open Go Go.HL

variable {C : Conf}

end Go.Proofs.YtfflipnhffknnaaGreatDoor
end

section
/- The reference: which moves are legal. -/
set_option linter.unusedSimpArgs false
set_option linter.unusedVariables false
set_option maxRecDepth 100000
namespace Go.Proofs.YtfflipnhffknnaaGreatDoor
open Go Go.HL

end Go.Proofs.YtfflipnhffknnaaGreatDoor
end

section
/- The program's moves, stack cells as the reference's. -/
set_option linter.unusedSimpArgs false
set_option linter.unusedVariables false
namespace Go.Proofs.YtfflipnhffknnaaGreatDoor
open Go Go.HL

variable {C : Conf}

theorem pick_succ {α : Type} {p : Nat → Bool} {mk : Nat → α} {n k : Nat} : pickFrom p mk n (k + 1) = if p n = true then mk n :: pickFrom p mk (n + 1) k else pickFrom p mk (n + 1) k := rfl
end Go.Proofs.YtfflipnhffknnaaGreatDoor
end

section
/- The cells of a way in the grid's order, each once: the plain law. -/
set_option linter.unusedVariables false
namespace Go.Proofs.YtfflipnhffknnaaGreatDoor
open Go Go.HL

def compactL : List Cell → List Cell
  | [] => []
  | a :: L => match L with
    | [] => [a]
    | b :: _ => if a = b then compactL L else a :: compactL L

theorem compact_cons {a b : Cell} {L : List Cell} : compactL (a :: b :: L) = if a = b then compactL (b :: L) else a :: compactL (b :: L) := rfl

theorem compact_mem {x : Cell} : ∀ {L : List Cell}, x ∈ compactL L ↔ x ∈ L := by
  intro L
  induction L with
  | nil => exact Iff.rfl
  | cons a L ih =>
    cases L with
    | nil => exact Iff.rfl
    | cons b L =>
      rw [compact_cons]
      by_cases h : a = b
      · rw [if_pos h, ih]
        subst h
        simp
      · rw [if_neg h, List.mem_cons, ih, List.mem_cons (a := x) (b := a)]

theorem compact_sorted {n : Cell → Int} (inj : ∀ {L : List Cell}, True) : ∀ {L : List Cell}, (∀ a ∈ L, ∀ b ∈ L, n a = n b → a = b) → L.Pairwise (fun a b => n a ≤ n b) → (compactL L).Pairwise (fun a b => n a < n b) := by
  intro L
  induction L with
  | nil => intro _ _; exact .nil
  | cons a L ih =>
    intro hi hp
    obtain ⟨h1, h2⟩ := List.pairwise_cons.1 hp
    cases L with
    | nil => exact List.pairwise_singleton _ _
    | cons b L =>
      have rest := ih (fun x hx y hy => hi x (.tail _ hx) y (.tail _ hy)) h2
      rw [compact_cons]
      by_cases h : a = b
      · rw [if_pos h]; exact rest
      · rw [if_neg h]
        refine List.pairwise_cons.2 ⟨fun x hx => ?_, rest⟩
        rw [compact_mem] at hx
        have hab : n a < n b := by
          have := h1 b (.head _)
          have : n a ≠ n b := fun e => h (hi a (.head _) b (.tail _ (.head _)) e)
          omega
        rcases List.mem_cons.1 hx with rfl | hx'
        · exact hab
        · have := (List.pairwise_cons.1 h2).1 x hx'; omega

theorem rising_ext {n : Cell → Int} : ∀ {L M : List Cell}, L.Pairwise (fun a b => n a < n b) → M.Pairwise (fun a b => n a < n b) → (∀ x, x ∈ L ↔ x ∈ M) → L = M := by
  intro L
  induction L with
  | nil =>
    intro M _ _ h
    cases M with
    | nil => rfl
    | cons a M => exact absurd ((h a).2 (.head _)) (by simp)
  | cons a L ih =>
    intro M hL hM h
    cases M with
    | nil => exact absurd ((h a).1 (.head _)) (by simp)
    | cons b M =>
      obtain ⟨l1, l2⟩ := List.pairwise_cons.1 hL
      obtain ⟨m1, m2⟩ := List.pairwise_cons.1 hM
      have e : a = b := by
        rcases List.mem_cons.1 ((h a).1 (.head _)) with e | e
        · exact e
        · rcases List.mem_cons.1 ((h b).2 (.head _)) with e' | e'
          · exact e'.symm
          · have := m1 a e; have := l1 b e'; omega
      subst e
      rw [ih l2 m2 fun x => ?_]
      constructor
      · intro hx
        rcases List.mem_cons.1 ((h x).1 (.tail _ hx)) with rfl | h2
        · have := l1 _ hx; omega
        · exact h2
      · intro hx
        rcases List.mem_cons.1 ((h x).2 (.tail _ hx)) with rfl | h2
        · have := m1 _ hx; omega
        · exact h2

def sweptL (w k : Nat) (W : List Cell) : List Cell := dirsL (fun y => pickFrom (fun x => decide ((((x : Nat) : Int), ((y : Nat) : Int)) ∈ W)) (fun x => (((x : Nat) : Int), ((y : Nat) : Int))) 0 w) 0 k
def numW (w : Nat) (c : Cell) : Int := c.2 * w + c.1

theorem pick_mem {α : Type} {p : Nat → Bool} {mk : Nat → α} {x : α} : ∀ {k n : Nat}, x ∈ pickFrom p mk n k ↔ ∃ j, n ≤ j ∧ j < n + k ∧ p j = true ∧ x = mk j := by
  intro k
  induction k with
  | zero => intro n; simp [pickFrom]; intro j h1 h2; omega
  | succ k ih =>
    intro n
    rw [pick_succ]
    constructor
    · intro h
      split at h
      · rename_i hp
        rcases List.mem_cons.1 h with rfl | h'
        · exact ⟨n, Nat.le_refl _, by omega, hp, rfl⟩
        · obtain ⟨j, a, b, c, e⟩ := ih.1 h'
          exact ⟨j, by omega, by omega, c, e⟩
      · obtain ⟨j, a, b, c, e⟩ := ih.1 h
        exact ⟨j, by omega, by omega, c, e⟩
    · rintro ⟨j, a, b, c, rfl⟩
      by_cases hj : j = n
      · subst hj
        rw [if_pos c]
        exact .head _
      · have := (ih (n := n + 1)).2 ⟨j, by omega, by omega, c, rfl⟩
        split
        · exact .tail _ this
        · exact this

theorem pick_pw {α : Type} {p : Nat → Bool} {mk : Nat → α} {R : α → α → Prop} (h : ∀ i j, i < j → R (mk i) (mk j)) : ∀ {k n : Nat}, (pickFrom p mk n k).Pairwise R := by
  intro k
  induction k with
  | zero => intro n; exact .nil
  | succ k ih =>
    intro n
    rw [pick_succ]
    split
    · refine List.pairwise_cons.2 ⟨fun x hx => ?_, ih⟩
      obtain ⟨j, a, _, _, rfl⟩ := pick_mem.1 hx
      exact h n j (by omega)
    · exact ih

theorem swept_mem {w k : Nat} {W : List Cell} {x : Cell} : x ∈ sweptL w k W ↔ (0 ≤ x.1 ∧ x.1 < w ∧ 0 ≤ x.2 ∧ x.2 < k) ∧ x ∈ W := by
  unfold sweptL
  suffices H : ∀ (n i : Nat), x ∈ dirsL (fun y => pickFrom (fun x => decide ((((x : Nat) : Int), ((y : Nat) : Int)) ∈ W)) (fun x => (((x : Nat) : Int), ((y : Nat) : Int))) 0 w) i n ↔ ∃ y, i ≤ y ∧ y < i + n ∧ x ∈ pickFrom (fun x => decide ((((x : Nat) : Int), ((y : Nat) : Int)) ∈ W)) (fun x => (((x : Nat) : Int), ((y : Nat) : Int))) 0 w by
    rw [H]
    constructor
    · rintro ⟨y, _, h2, h3⟩
      obtain ⟨j, _, j2, j3, rfl⟩ := pick_mem.1 h3
      exact ⟨⟨by simp, by simp; omega, by simp, by simp; omega⟩, by simpa using j3⟩
    · rintro ⟨⟨a, b, c, d⟩, h⟩
      obtain ⟨x1, x2⟩ := x
      refine ⟨x2.toNat, by omega, by simp at d c; omega, pick_mem.2 ⟨x1.toNat, by omega, by simp at a b; omega, ?_, ?_⟩⟩
      · simp only at a c
        rw [show ((x1.toNat : Nat) : Int) = x1 by omega, show ((x2.toNat : Nat) : Int) = x2 by omega]
        simpa using h
      · simp only at a c
        rw [show ((x1.toNat : Nat) : Int) = x1 by omega, show ((x2.toNat : Nat) : Int) = x2 by omega]
  intro n
  induction n with
  | zero => intro i; simp [dirsL]; intro y h1 h2; omega
  | succ n ih =>
    intro i
    rw [dirsL, List.mem_append, ih]
    constructor
    · rintro (h | ⟨y, a, b, c⟩)
      · exact ⟨i, Nat.le_refl _, by omega, h⟩
      · exact ⟨y, by omega, by omega, c⟩
    · rintro ⟨y, a, b, c⟩
      by_cases e : y = i
      · subst e; exact .inl c
      · exact .inr ⟨y, by omega, by omega, c⟩

theorem swept_rising {w k : Nat} {W : List Cell} : (sweptL w k W).Pairwise (fun a b => numW w a < numW w b) := by
  unfold sweptL
  suffices H : ∀ (n i : Nat), (dirsL (fun y => pickFrom (fun x => decide ((((x : Nat) : Int), ((y : Nat) : Int)) ∈ W)) (fun x => (((x : Nat) : Int), ((y : Nat) : Int))) 0 w) i n).Pairwise (fun a b => numW w a < numW w b) ∧
      ∀ x ∈ dirsL (fun y => pickFrom (fun x => decide ((((x : Nat) : Int), ((y : Nat) : Int)) ∈ W)) (fun x => (((x : Nat) : Int), ((y : Nat) : Int))) 0 w) i n, ((i * w : Nat) : Int) ≤ numW w x from (H k 0).1
  intro n
  induction n with
  | zero => intro i; exact ⟨.nil, fun _ h => by cases h⟩
  | succ n ih =>
    intro i
    rw [dirsL]
    obtain ⟨h1, h2⟩ := ih (i + 1)
    have hrow : ∀ x ∈ pickFrom (fun x => decide ((((x : Nat) : Int), ((i : Nat) : Int)) ∈ W)) (fun x => (((x : Nat) : Int), ((i : Nat) : Int))) 0 w, ((i * w : Nat) : Int) ≤ numW w x ∧ numW w x < (((i + 1) * w : Nat) : Int) := by
      intro x hx
      obtain ⟨j, _, j2, _, rfl⟩ := pick_mem.1 hx
      unfold numW
      simp only
      have e1 : (((i + 1) * w : Nat) : Int) = ((i * w : Nat) : Int) + (w : Int) := by rw [Nat.succ_mul]; push_cast; rfl
      have e2 : ((i : Nat) : Int) * (w : Int) = ((i * w : Nat) : Int) := by push_cast; rfl
      rw [e1, e2]
      omega
    refine ⟨List.pairwise_append.2 ⟨pick_pw fun a b hab => ?_, h1, fun a ha b hb => ?_⟩, fun x hx => ?_⟩
    · unfold numW
      simp only
      omega
    · have := (hrow a ha).2
      have := h2 b hb
      omega
    · rcases List.mem_append.1 hx with h | h
      · exact (hrow x h).1
      · have := h2 x h
        have e1 : (((i + 1) * w : Nat) : Int) = ((i * w : Nat) : Int) + (w : Int) := by rw [Nat.succ_mul]; push_cast; rfl
        omega

theorem compact_swept {w k : Nat} {W S : List Cell} (hw : 0 < w) (hin : ∀ c ∈ W, 0 ≤ c.1 ∧ c.1 < w ∧ 0 ≤ c.2 ∧ c.2 < k) (hp : S.Perm W) (hs : S.Pairwise fun a b => numW w a ≤ numW w b) : compactL S = sweptL w k W := by
  refine rising_ext (n := numW w) (compact_sorted (fun {_} => trivial) (fun a ha b hb e => ?_) hs) swept_rising fun x => ?_
  · obtain ⟨a1, a2, a3, a4⟩ := hin a (hp.mem_iff.1 ha)
    obtain ⟨b1, b2, b3, b4⟩ := hin b (hp.mem_iff.1 hb)
    obtain ⟨x, y⟩ := a
    obtain ⟨x', y'⟩ := b
    unfold numW at e
    simp only at *
    have ey : y = y' := by
      rcases Int.lt_trichotomy y y' with h | h | h
      · have : (y + 1) * (w : Int) ≤ y' * w := Int.mul_le_mul_of_nonneg_right (by omega) (by omega)
        rw [Int.add_mul, Int.one_mul] at this
        omega
      · exact h
      · have : (y' + 1) * (w : Int) ≤ y * w := Int.mul_le_mul_of_nonneg_right (by omega) (by omega)
        rw [Int.add_mul, Int.one_mul] at this
        omega
    subst ey
    rw [show x = x' by omega]
  · rw [compact_mem, swept_mem, hp.mem_iff]
    exact ⟨fun h => ⟨hin x h, h⟩, fun h => h.2⟩

end Go.Proofs.YtfflipnhffknnaaGreatDoor
end

section
/- slices.Compact of cells; the cells that a move sweeps. -/
set_option linter.unusedSimpArgs false
set_option linter.unusedVariables false
set_option maxRecDepth 100000
namespace Go.Proofs.YtfflipnhffknnaaGreatDoor
open Go Go.HL

def bRpSb := jq (jq (jq (jq (jq @Bool.and_true @Bool.not_false) (jq @Bool.not_true @HL.cond_false)) (jq (jq @HL.cond_true @Int.toNat_natCast) (jq @Nat.add_zero (jq @Nat.zero_add @Option.some.injEq.{0})))) (jq (jq (jq @add_mk @bin_add) (jq @bin_lss @bin_subp)) (jq (jq @blockK_exit @blockK_ret) (jq @eq28p (jq @exists_eq_left'.{1} @if_true.{1}))))) (jq (jq (jq (jq @if_true.{0} @ix22) (jq @ld28 @ld28p)) (jq (jq @ln22 @ne28p) (jq @opH_su (jq @opH_sv @pureW_sv)))) (jq (jq (jq @regs0 @resL_nil1) (jq @resL_tmp (jq @retK_ret @thenK_exit))) (jq (jq @thenK_normal @thenK_ret) (jq @upd_eq (jq @upd_ne @wrap_in)))))
theorem clear_own {P : Program} {G h : Hp} {α : Type} (c : Cod α) (d0 : α) {T e : TypeId} (hu : P.underlying T = some (.slice e)) (hn : 0 < c.n) (hz : ((P.info? e).bind (·.zero)).map (·.cells.toList) = some (c.enc d0)) {ty : TypeId} {b off n cap : Nat} {l : List Value} {e' : TypeId}
    (hb : h b = some (.cells l.toArray e' (0, 0))) (h0 : 0 < n) (hfit : off + n * c.n ≤ l.length) {K : VK}
    (H : ∀ l' : List Value, l'.length = l.length → l'.take off = l.take off → K (.tuple #[]) (h.set b (.cells l'.toArray e' (0, 0)))) :
    wpH P G (Builtin.clear_ #[T] ty #[.slice (some ⟨b, off, none⟩) n cap]) h K := by
  cases hi : P.info? e with
  | none => rw [hi] at hz; cases hz
  | some inf =>
  rw [hi] at hz
  simp only [Option.bind_some] at hz
  cases hzz : inf.zero with
  | none => rw [hzz] at hz; cases hz
  | some z =>
  rw [hzz] at hz
  simp only [Option.map_some, Option.some.injEq] at hz
  obtain ⟨n', rfl⟩ : ∃ n', n = n' + 1 := ⟨n - 1, by omega⟩
  have hrow := rows_replicate c d0 (n' + 1) z.cells hz.symm hn
  have hsz : z.cells.size = c.n := by rw [← Array.length_toList, hz, c.len]
  have hcells : (Builtin.zeroCells z.cells (n' + 1)).toList = c.rows (List.replicate (n' + 1) d0) := by
    refine Eq.trans ?_ ((congrArg Array.toList hrow).trans (by simp))
    rw [← hsz]
    rfl
  have key : wpH P G (storeCells ⟨b, off, none⟩ (c.rows (List.replicate (n' + 1) d0))) h (fun _ h' => K (.tuple #[]) h') := by
    rw [storeCells_eq _ (k := 0) hb (by rw [c.rows_length, List.length_replicate]; omega) (c.rows_one _)]
    exact H _ (putL_length _ _ _) (by
      rw [putL_eq _ _ _ (by rw [c.rows_length, List.length_replicate]; omega), List.append_assoc, List.take_append_of_le_length (by rw [List.length_take]; omega), Nat.add_zero, List.take_take, Nat.min_self])
  unfold Builtin.clear_ underlying
  simp only [List.getElem?_toArray, List.getElem?_cons_zero, bind, wpH_bind, program, wpH, hu, pure]
  simp only [zeroValue, typeInfo, program, bind, wpH_bind, wpH, hi, hzz, pure]
  rw [hcells]
  exact key

theorem comp_snoc {y x : Cell} : ∀ {T : List Cell}, compactL (T ++ [y, x]) = if y = x then compactL (T ++ [y]) else compactL (T ++ [y]) ++ [x]
  | [] => by
    show compactL (y :: [x]) = if y = x then compactL [y] else compactL [y] ++ [x]
    rw [compact_cons]
    by_cases h : y = x <;> simp [h, compactL]
  | [a] => by
    show compactL (a :: y :: [x]) = if y = x then compactL (a :: y :: []) else compactL (a :: y :: []) ++ [x]
    simp only [compact_cons]
    by_cases h1 : a = y <;> by_cases h2 : y = x <;> simp [h1, h2, compactL]
  | a :: b :: T => by
    show compactL (a :: b :: (T ++ [y, x])) = if y = x then compactL (a :: b :: (T ++ [y])) else compactL (a :: b :: (T ++ [y])) ++ [x]
    rw [compact_cons, compact_cons]
    have ih := comp_snoc (y := y) (x := x) (T := b :: T)
    simp only [List.cons_append] at ih
    rw [ih]
    by_cases h1 : a = b <;> by_cases h2 : y = x <;> simp [h1, h2]
theorem comp_step {L : List Cell} {k : Nat} {y x : Cell} (hk : 1 ≤ k) (hy : L[k - 1]? = some y) (hx : L[k]? = some x) : compactL (L.take (k + 1)) = if y = x then compactL (L.take k) else compactL (L.take k) ++ [x] := by
  obtain ⟨j, rfl⟩ : ∃ j, k = j + 1 := ⟨k - 1, by omega⟩
  rw [Nat.add_sub_cancel] at hy
  rw [List.take_add_one, List.take_add_one, hx, hy]
  simp only [Option.toList, List.append_assoc, List.cons_append, List.nil_append]
  exact comp_snoc
theorem comp_short {L : List Cell} (h : L.length < 2) : compactL L = L := by
  match L, h with
  | [], _ => rfl
  | [a], _ => rfl

theorem st_elem {G h : Hp} {b i : Nat} {M : List Cell} {t : List Value} {x : Cell} {K : Unit → Hp → Prop} (hb : h b = some (.cells (cellC.rows M ++ t).toArray 28 (0, 0))) (hi : i < M.length) :
    wpH P_ G (Instr.storeAt 28 (.pointer (some ⟨b, i * 2, none⟩)) (.agg #[.int .i64 x.1, .int .i64 x.2])) h K = K () (h.set b (.cells (cellC.rows (M.set i x) ++ t).toArray 28 (0, 0))) := by
  rw [store_eq (n := 2) sz28 hb rfl (by rw [List.length_append, cellC.rows_length, show cellC.n = 2 from rfl]; omega) (by intro v hv; simp [Value.cells] at hv; rcases hv with rfl | rfl <;> rfl)]
  have := cellC.rows_put (t := t) (x := x) hi
  rw [← this]
  rfl
theorem row_cell {G h : Hp} {b : Nat} {M : List Cell} {t : List Value} (hb : HL.look G h b = some (.cells (cellC.rows M ++ t).toArray 28 (0, 0))) {i : Nat} {x : Cell} (hx : M[i]? = some x) : cellIn G h ⟨b, i * 2, none⟩ = some (.int .i64 x.1) ∧ cellIn G h ⟨b, i * 2 + 1, none⟩ = some (.int .i64 x.2) := by
  have g0 := cellC.rows_get (t := t) hx (j := 0) (by decide)
  have g1 := cellC.rows_get (t := t) hx (j := 1) (by decide)
  rw [show cellC.n = 2 from rfl] at g0 g1
  exact ⟨(cell_of hb).trans g0, (cell_of hb).trans g1⟩

set_option maxHeartbeats 8000000 in
theorem compact_spec {G h a : Hp} {R : List Hp} {v : Value} {L : List Cell} (s : HL.Sep (a :: R) h) (o : Slc cellC 28 a v L) (hL : L.length ≤ 100000) : HCalls P_ G 136 #[v] h (fun u h' => ∃ a', Slc cellC 28 a' u (compactL L) ∧ HL.Sep (a' :: R) h' ∧ Dis G h') := by
  refine HCalls.assume fun d => enter136 (by simp) ?_
  unfold S136
  obtain ⟨sa, cap, rfl, hcap⟩ := o.len (by decide)
  simp only [bRpSb]
  refine cond_dec (fun hlt => ?_) (fun hge => ?_)
  · try simp (disch := first | exact nq rfl | omega) only [bRpSb, Nat.reduceAdd, Nat.reduceMul]
    exact ⟨a, by rw [comp_short (by omega)]; exact o, s, d⟩
  unfold S136_k1
  obtain ⟨ob, o'⟩ := id o
  cases ob with
  | none => exact absurd o'.2 (fun e => by rw [e] at hge; simp at hge)
  | some b =>
  obtain ⟨cap', t, e9, hb, hbl⟩ := o'
  simp only [Value.slice.injEq, true_and] at e9
  obtain ⟨rfl, rfl⟩ := e9
  have hbh := s.at 0 rfl hb
  have rd := fun {i : Nat} {x : Cell} (hx : L[i]? = some x) => row_cell (G := G) (look_own hbh) hx
  try simp (disch := first | exact nq rfl | omega) only [bRpSb, Nat.reduceAdd, Nat.reduceMul]
  generalize hKK : retK P_ G _ _ = KK
  refine loop_I (fun m q h3 => ∃ k : Nat, m = L.length - k ∧ 1 ≤ k ∧ k ≤ L.length ∧ q 0 = .slice (some ⟨b, 0, none⟩) L.length cap ∧ q 3 = .int .i64 k ∧ h3 = h ∧ compactL (L.take k) = L.take k) ?_
    (m := L.length - 1) ⟨1, rfl, Nat.le_refl _, by omega, by simp (disch := first | exact nq rfl | omega) only [bRpSb], by simp only [bRpSb] <;> rfl, rfl, comp_short (by rw [List.length_take]; omega)⟩
  rintro m q h3 ⟨k, rfl, h1, hk, q0, q3, rfl, hc⟩ X HX
  unfold S136_l3
  simp only [bRpSb, q0, q3]
  refine cond_dec (fun hlt => ?_) (fun hge2 => ?_)
  rotate_left
  · obtain rfl : k = L.length := by omega
    rw [List.take_of_length_le (Nat.le_refl _)] at hc
    try simp (disch := first | exact nq rfl | omega) only [bRpSb, Nat.reduceAdd, Nat.reduceMul]
    unfold S136_k2
    rw [← hKK]
    try simp (disch := first | exact nq rfl | omega) only [bRpSb, q0]
    exact ⟨a, by rw [hc]; exact o, s, d⟩
  obtain ⟨x, hx⟩ : ∃ x, L[k]? = some x := ⟨_, List.getElem?_eq_getElem (by omega)⟩
  obtain ⟨y, hy⟩ : ∃ y, L[k - 1]? = some y := ⟨_, List.getElem?_eq_getElem (by omega)⟩
  obtain ⟨x0, x1⟩ := rd hx
  obtain ⟨y0, y1⟩ := rd hy
  have ek : (k : Int) - 1 = ((k - 1 : Nat) : Int) := by omega
  unfold S136_l3_k4
  try simp (disch := first | exact nq rfl | omega) only [bRpSb, q0, q3, ek, ix22p (Int.natCast_nonneg k) hlt, ix22p (Int.natCast_nonneg (k - 1)) (show ((k - 1 : Nat) : Int) < (L.length : Nat) by omega), Int.toNat_natCast, x0, x1, y0, y1, cell_beq]
  refine cond_bool (fun hb2 => ?_) (fun hb2 => ?_)
  rotate_left
  · unfold S136_l3_k5
    try simp (disch := first | exact nq rfl | omega) only [bRpSb, q3]
    refine HX (L.length - (k + 1)) _ _ (by omega) ⟨k + 1, rfl, by omega, by omega, by simp (disch := first | exact nq rfl | omega) only [bRpSb, q0], by simp only [bRpSb] <;> rfl, rfl, ?_⟩
    rw [comp_step h1 hy hx, if_neg (fun e => by rw [e, beq_self_eq_true] at hb2; cases hb2), hc, List.take_add_one, hx]
    rfl
  have exy : y = x := (eq_of_beq hb2).symm
  try simp (disch := first | exact nq rfl | omega) only [bRpSb, Nat.reduceAdd, Nat.reduceMul, q0, q3]
  rw [slice_from un22 sz28 (by omega) (by omega) hcap]
  rw [Int.toNat_natCast, if_neg (show ¬ cap = k by omega), add_mk, Nat.zero_add]
  have hmax : (cellC.rows L ++ t).length = cap * 2 := hbl
  try simp (disch := first | exact nq rfl | omega) only [bRpSb, Nat.reduceAdd, Nat.reduceMul]
  refine loop_I (fun m q h4 => ∃ (w j : Nat) (M : List Cell) (a : Hp), m = L.length - j ∧ k ≤ w ∧ w < j ∧ k + 1 ≤ j ∧ j ≤ L.length ∧ M.length = L.length ∧ q 0 = .slice (some ⟨b, 0, none⟩) L.length cap ∧ q 3 = .int .i64 w ∧ q 4 = .slice (some ⟨b, k * 2, none⟩) (L.length - k) (cap - k) ∧ q 5 = .int .i64 (((j - k : Nat) : Nat) : Int) ∧
      a b = some (.cells (cellC.rows M ++ t).toArray 28 (0, 0)) ∧ HL.Sep (a :: R) h4 ∧ Dis G h4 ∧ M.take w = compactL (L.take j) ∧ ∀ p, j - 1 ≤ p → M[p]? = L[p]?) ?_
    (m := L.length - (k + 1)) ⟨k, k + 1, L, a, rfl, Nat.le_refl _, by omega, Nat.le_refl _, by omega, rfl, by simp (disch := first | exact nq rfl | omega) only [bRpSb, q0], by simp (disch := first | exact nq rfl | omega) only [bRpSb, q3], by simp (disch := first | exact nq rfl | omega) only [bRpSb], by simp only [bRpSb] <;> (rw [show k + 1 - k = 1 by omega]; rfl), hb, s, d, by rw [comp_step h1 hy hx, if_pos exy, hc], fun p _ => rfl⟩
  clear HX q0 q3 x0 x1 y0 y1 hc hx hy exy hb2 ek rd hbh hb o s d
  rintro m q h4 ⟨w, j, M, a, rfl, hkw, hwj, hkj, hj, hM, q0, q3, q4, q5, hb, s, d, htk, hsame⟩ X HX
  have hbh := s.at 0 rfl hb
  have rd := fun {i : Nat} {x : Cell} (hx : M[i]? = some x) => row_cell (G := G) (look_own hbh) hx
  unfold S136_l3_l7
  simp only [bRpSb, q4, q5]
  refine cond_dec (fun hlt2 => ?_) (fun hge3 => ?_)
  · obtain ⟨x, hx⟩ : ∃ x, L[j]? = some x := ⟨_, List.getElem?_eq_getElem (by omega)⟩
    obtain ⟨y, hy⟩ : ∃ y, L[j - 1]? = some y := ⟨_, List.getElem?_eq_getElem (by omega)⟩
    obtain ⟨x0, x1⟩ := rd ((hsame j (by omega)).trans hx)
    obtain ⟨y0, y1⟩ := rd ((hsame (j - 1) (Nat.le_refl _)).trans hy)
    have ej : j * 2 = k * 2 + (j - k) * 2 := by omega
    have ej1 : (j - 1) * 2 = k * 2 + (j - k - 1) * 2 := by omega
    rw [ej] at x0 x1
    rw [ej1] at y0 y1
    have e5 : (((j - k : Nat) : Nat) : Int) - 1 = ((j - k - 1 : Nat) : Int) := by omega
    unfold S136_l3_l7_k8
    try simp (disch := first | exact nq rfl | omega) only [bRpSb, q4, q5, e5, ix22p (Int.natCast_nonneg (j - k)) hlt2, ix22p (Int.natCast_nonneg (j - k - 1)) (show ((j - k - 1 : Nat) : Int) < ((L.length - k : Nat) : Int) by omega), Int.toNat_natCast, x0, x1, y0, y1, cell_beq]
    have nxt : (((j - k : Nat) : Nat) : Int) + 1 = ((j + 1 - k : Nat) : Int) := by omega
    cases hxy : (x == y) with
    | true =>
      try simp only [bRpSb]
      unfold S136_l3_l7_k9
      try simp (disch := first | exact nq rfl | omega) only [bRpSb, q5]
      refine HX (L.length - (j + 1)) _ _ (by omega) ⟨w, j + 1, M, a, rfl, hkw, by omega, by omega, by omega, hM, by simp (disch := first | exact nq rfl | omega) only [bRpSb, q0], by simp (disch := first | exact nq rfl | omega) only [bRpSb, q3], by simp (disch := first | exact nq rfl | omega) only [bRpSb, q4], by simp only [bRpSb] <;> rw [nxt], hb, s, d, ?_, fun p hp => hsame p (by omega)⟩
      rw [htk, comp_step (by omega) hy hx, if_pos (eq_of_beq hxy).symm]
    | false =>
      have hwl : (w : Int) < (L.length : Nat) := by omega
      try simp (disch := first | exact nq rfl | omega) only [bRpSb, q0, q3, q4, q5, ix22 (Int.natCast_nonneg (j - k)) hlt2, ix22 (Int.natCast_nonneg w) hwl, Int.toNat_natCast, x0, x1]
      rw [st_elem (x := x) hbh (by omega)]
      have s5 := s.put (o := .cells (cellC.rows (M.set w x) ++ t).toArray 28 (0, 0)) hb
      have d5 := d.set (o := .cells (cellC.rows (M.set w x) ++ t).toArray 28 (0, 0)) (d _ _ hbh)
      generalize Hp.set h4 b _ = h5 at s5 d5 ⊢
      try simp (disch := first | exact nq rfl | omega) only [bRpSb, Nat.reduceAdd, Nat.reduceMul, q3]
      unfold S136_l3_l7_k9
      try simp (disch := first | exact nq rfl | omega) only [bRpSb, q5]
      refine HX (L.length - (j + 1)) _ _ (by omega) ⟨w + 1, j + 1, M.set w x, _, rfl, by omega, by omega, by omega, by omega, by rw [List.length_set, hM], by simp (disch := first | exact nq rfl | omega) only [bRpSb, q0], by simp (disch := first | exact nq rfl | omega) only [bRpSb] <;> rfl, by simp (disch := first | exact nq rfl | omega) only [bRpSb, q4], by simp only [bRpSb] <;> rw [nxt], set_self, s5, d5, ?_, fun p hp => ?_⟩
      · rw [comp_step (by omega) hy hx, if_neg (fun e => by rw [e, beq_self_eq_true] at hxy; cases hxy), ← htk, List.take_add_one, List.getElem?_set_self (by omega), List.take_set_of_le (Nat.le_refl _)]
        rfl
      · rw [List.getElem?_set_ne (by omega)]
        exact hsame p (by omega)
  · obtain rfl : j = L.length := by omega
    rw [List.take_of_length_le (Nat.le_refl _)] at htk
    clear HX
    have hwl : w < L.length := hwj
    try simp (disch := first | exact nq rfl | omega) only [bRpSb, Nat.reduceAdd, Nat.reduceMul]
    unfold S136_l3_k6
    try simp (disch := first | exact nq rfl | omega) only [bRpSb, q0, q3]
    rw [slice_from un22 sz28 (by omega) (by omega) hcap]
    rw [Int.toNat_natCast, if_neg (show ¬ cap = w by omega), add_mk, Nat.zero_add]
    try simp (disch := first | exact nq rfl | omega) only [bRpSb, Nat.reduceAdd, Nat.reduceMul]
    have hlen : (cellC.rows M ++ t).length = cap * 2 := by
      rw [List.length_append, cellC.rows_length, hM, ← cellC.rows_length, ← List.length_append, hmax]
    refine clear_own cellC ((0, 0) : Cell) un22 (by decide) (by kernel_rfl) hbh (by omega) (by rw [hlen, show cellC.n = 2 from rfl]; omega) fun l' hl1 hl2 => ?_
    have s5 := s.put (o := .cells l'.toArray 28 (0, 0)) hb
    have d5 := d.set (o := .cells l'.toArray 28 (0, 0)) (d _ _ hbh)
    generalize Hp.set h4 b _ = h5 at s5 d5 ⊢
    try simp (disch := first | exact nq rfl | omega) only [bRpSb, Nat.reduceAdd, Nat.reduceMul, q0, q3]
    rw [slice_to un22 sz28 (by omega) (by omega)]
    rw [Int.toNat_natCast]
    rw [← hKK]
    try simp only [bRpSb]
    have hcl : compactL L = M.take w := htk.symm
    have hml : (M.take w).length = w := by rw [List.length_take]; omega
    have hl3 : l' = cellC.rows (compactL L) ++ l'.drop (w * 2) := by
      rw [hcl]
      have := cellC.rows_take (L := M) (t := t) (k := w) (by omega)
      rw [show cellC.n = 2 from rfl] at this
      rw [← this, ← hl2, List.take_append_drop]
    refine ⟨_, ⟨some b, cap, l'.drop (w * 2), by rw [hcl, hml], ?_, ?_⟩, s5, d5⟩
    · rw [← hl3]; exact set_self
    · rw [← hl3, hl1, hlen]; rfl

end Go.Proofs.YtfflipnhffknnaaGreatDoor
end

section
/- slices.SortFunc of cells: where the library's text lies in this program (printed by the shelf's own layer). -/
set_option linter.unusedVariables false
set_option maxRecDepth 100000
namespace Go.Proofs.YtfflipnhffknnaaGreatDoor
open Go Go.HL Go.Proofs
def sortCells_ren : Go.Shelf.Ren := ⟨fun | 6 => 134 | 15 => 161 | 14 => 160 | 28 => 179 | 29 => 180 | 20 => 171 | 21 => 172 | 22 => 173 | 23 => 174 | 24 => 175 | 25 => 176 | 26 => 177 | 27 => 178 | 46 => 188 | 47 => 189 | 48 => 190 | 49 => 191 | 50 => 192 | 57 => 198 | n => n, fun | 22 => 22 | 24 => 28 | 25 => 247 | 3 => 3 | 39 => 272 | 0 => 0 | 53 => 159 | 55 => 284 | 4 => 4 | 46 => 277 | 45 => 276 | 50 => 251 | 5 => 5 | 9 => 9 | 66 => 289 | 70 => 293 | 76 => 299 | 77 => 300 | n => n, fun | n => n⟩
theorem sortCells : Go.Proofs.SlLaysF0.n6 P_ sortCells_ren where
  mixed := by kernel_rfl
  f6 := ⟨ "slices.SortFunc[[]skep/api.Cell,skep/api.Cell]", by decide, Tryz.func134.trans (congrArg some (by kernel_rfl))⟩
  f14 := ⟨ "slices.pdqsortCmpFunc[skep/api.Cell]", by decide, Tryz.func160.trans (congrArg some (by kernel_rfl))⟩
  f15 := Tryz.func161.trans (congrArg some (by kernel_rfl))
  f20 := ⟨ "slices.insertionSortCmpFunc[skep/api.Cell]", by decide, Tryz.func171.trans (congrArg some (by kernel_rfl))⟩
  f21 := ⟨ "slices.heapSortCmpFunc[skep/api.Cell]", by decide, Tryz.func172.trans (congrArg some (by kernel_rfl))⟩
  f22 := ⟨ "slices.breakPatternsCmpFunc[skep/api.Cell]", by decide, Tryz.func173.trans (congrArg some (by kernel_rfl))⟩
  f23 := ⟨ "slices.choosePivotCmpFunc[skep/api.Cell]", by decide, Tryz.func174.trans (congrArg some (by kernel_rfl))⟩
  f24 := ⟨ "slices.reverseRangeCmpFunc[skep/api.Cell]", by decide, Tryz.func175.trans (congrArg some (by kernel_rfl))⟩
  f25 := ⟨ "slices.partialInsertionSortCmpFunc[skep/api.Cell]", by decide, Tryz.func176.trans (congrArg some (by kernel_rfl))⟩
  f26 := ⟨ "slices.partitionEqualCmpFunc[skep/api.Cell]", by decide, Tryz.func177.trans (congrArg some (by kernel_rfl))⟩
  f27 := ⟨ "slices.partitionCmpFunc[skep/api.Cell]", by decide, Tryz.func178.trans (congrArg some (by kernel_rfl))⟩
  f28 := Tryz.func179.trans (congrArg some (by kernel_rfl))
  f29 := Tryz.func180.trans (congrArg some (by kernel_rfl))
  f46 := ⟨ "slices.siftDownCmpFunc[skep/api.Cell]", by decide, Tryz.func188.trans (congrArg some (by kernel_rfl))⟩
  f47 := Tryz.func189.trans (congrArg some (by kernel_rfl))
  f48 := Tryz.func190.trans (congrArg some (by kernel_rfl))
  f49 := ⟨ "slices.medianAdjacentCmpFunc[skep/api.Cell]", by decide, Tryz.func191.trans (congrArg some (by kernel_rfl))⟩
  f50 := ⟨ "slices.medianCmpFunc[skep/api.Cell]", by decide, Tryz.func192.trans (congrArg some (by kernel_rfl))⟩
  f57 := ⟨ "slices.order2CmpFunc[skep/api.Cell]", by decide, Tryz.func198.trans (congrArg some (by kernel_rfl))⟩
  t0 := Tryz.underlying0
  a0 := Tryz.isAgg0
  z0 := Tryz.sizeOf0
  v0 := Tryz.zeroValue0
  t3 := Tryz.underlying3
  a3 := Tryz.isAgg3
  z3 := Tryz.sizeOf3
  v3 := Tryz.zeroValue3
  t4 := Tryz.underlying4
  a4 := Tryz.isAgg4
  z4 := Tryz.sizeOf4
  v4 := Tryz.zeroValue4
  t5 := Tryz.underlying5
  a5 := Tryz.isAgg5
  z5 := Tryz.sizeOf5
  v5 := Tryz.zeroValue5
  t9 := Tryz.underlying9
  a9 := Tryz.isAgg9
  z9 := Tryz.sizeOf9
  v9 := Tryz.zeroValue9
  t22 := Tryz.underlying22
  a22 := Tryz.isAgg22
  z22 := Tryz.sizeOf22
  v22 := Tryz.zeroValue22
  t25 := Tryz.underlying247
  a25 := Tryz.isAgg247
  z25 := Tryz.sizeOf247
  v25 := Tryz.zeroValue247
  t39 := Tryz.underlying272
  a39 := Tryz.isAgg272
  z39 := Tryz.sizeOf272
  v39 := Tryz.zeroValue272
  t45 := Tryz.underlying276
  a45 := Tryz.isAgg276
  z45 := Tryz.sizeOf276
  v45 := Tryz.zeroValue276
  t46 := Tryz.underlying277
  a46 := Tryz.isAgg277
  z46 := Tryz.sizeOf277
  v46 := Tryz.zeroValue277
  t50 := Tryz.underlying251
  a50 := Tryz.isAgg251
  z50 := Tryz.sizeOf251
  v50 := Tryz.zeroValue251
  t53 := Tryz.underlying159
  a53 := Tryz.isAgg159
  z53 := Tryz.sizeOf159
  v53 := Tryz.zeroValue159
  t55 := Tryz.underlying284
  a55 := Tryz.isAgg284
  z55 := Tryz.sizeOf284
  v55 := Tryz.zeroValue284
  t66 := Tryz.underlying289
  a66 := Tryz.isAgg289
  z66 := Tryz.sizeOf289
  v66 := Tryz.zeroValue289
  t70 := Tryz.underlying293
  a70 := Tryz.isAgg293
  z70 := Tryz.sizeOf293
  v70 := Tryz.zeroValue293
  t76 := Tryz.underlying299
  a76 := Tryz.isAgg299
  z76 := Tryz.sizeOf299
  v76 := Tryz.zeroValue299
  t77 := Tryz.underlying300
  a77 := Tryz.isAgg300
  z77 := Tryz.sizeOf300
  v77 := Tryz.zeroValue300
end Go.Proofs.YtfflipnhffknnaaGreatDoor
end

section
/- The cells that a move sweeps: the program's, the reference's. -/
set_option linter.unusedSimpArgs false
set_option linter.unusedVariables false
set_option maxRecDepth 100000
namespace Go.Proofs.YtfflipnhffknnaaGreatDoor
open Go Go.HL

def bRpSc := jq (jq (jq (jq (jq @Bool.not_false @Bool.not_true) (jq @HL.cond_false @HL.cond_true)) (jq (jq @List.getElem?_cons_succ.{0} @List.getElem?_cons_zero.{0}) (jq @Nat.add_zero (jq @Nat.zero_add @Option.some.injEq.{0})))) (jq (jq (jq @add_mk @bin_subp) (jq @box_new (jq @cell_set_self @cells_agg))) (jq (jq @cells_ptr @cf127) (jq @cf134 (jq @cf136 @cf88))))) (jq (jq (jq (jq @ex0 @ex1) (jq @exists_eq_left'.{1} (jq @ld28p @ld48))) (jq (jq @ld68 @ld68p) (jq @opH_sv (jq @pureW_sv @regs0)))) (jq (jq (jq @regs1 @regs2) (jq @resL_nil1 (jq @resL_tmp @retK_ret))) (jq (jq @true_and @un_not) (jq @upd_eq (jq @upd_ne @wrap_in)))))
theorem open_in {w k : Nat} {f : Nat → Nat → Int} {c : Cell} (h : openW w k f c = true) : inW w k c = true := by
  unfold openW at h
  rw [Bool.and_eq_true] at h
  exact h.1
theorem way_in {w k : Nat} {f : Nat → Nat → Int} {m : Move} (h : wayB w k f m = true) : ∀ c ∈ wayL m, inW w k c = true := by
  intro c hc
  unfold wayB at h
  unfold wayL at hc
  rw [Bool.and_eq_true] at h
  obtain ⟨hf, h⟩ := h
  by_cases h1 : m.k = 1
  · rw [if_pos h1] at h hc
    simp only [Bool.and_eq_true, List.all_eq_true, List.mem_flatMap] at h hc
    obtain ⟨i, hi, hc⟩ := hc
    have := h.2.1 i hi
    unfold stepB at this
    rw [Bool.and_eq_true] at this
    exact (fits_cells this.2 c hc).1
  · rw [if_neg h1] at h hc
    by_cases h2 : m.k = 2
    · rw [if_pos h2] at h hc
      simp only [Bool.and_eq_true, List.all_eq_true] at h
      exact open_in (h.2.1 c hc)
    · rw [if_neg h2] at hc
      exact (fits_cells hf c hc).1
theorem flat_two {D : Nat → List Cell} (h : ∀ i, (D i).length = 2) : ∀ n, ((List.range n).flatMap D).length = 2 * n
  | 0 => rfl
  | n + 1 => by
    rw [List.range_succ, List.flatMap_append, List.length_append, flat_two h n]
    simp [h]
    omega
theorem way_len {w k : Nat} {f : Nat → Nat → Int} {m : Move} (h : wayB w k f m = true) : (wayL m).length ≤ 34 ∧ wayL m ≠ [] := by
  unfold wayB at h
  rw [Bool.and_eq_true] at h
  obtain ⟨hf, h⟩ := h
  unfold wayL
  by_cases h1 : m.k = 1
  · rw [if_pos h1] at h ⊢
    simp only [Bool.and_eq_true, List.all_eq_true, List.mem_range, decide_eq_true_eq] at h
    have := h.2.1 m.n.toNat (by omega)
    unfold stepB okS at this
    simp only [Bool.and_eq_true] at this
    have hn := withinB_iff.1 this.1.1
    have e := flat_two (D := fun (i : Nat) => cellsP (shiftP m.f m.d i)) (fun i => rfl) (m.n.toNat + 1)
    refine ⟨by rw [e]; omega, fun hn => ?_⟩
    rw [hn] at e
    simp at e
  · rw [if_neg h1]
    split
    · exact ⟨by simp [squareL], by simp [squareL]⟩
    · exact ⟨by simp [cellsP], by simp [cellsP]⟩

theorem numI_in {w k : Nat} {c : Cell} (h : inW w k c = true) : numI w k c = numW w c := by
  unfold numI numW
  rw [if_pos h]
theorem in_bd {w k : Nat} {c : Cell} (h : inW w k c = true) : 0 ≤ c.1 ∧ c.1 < w ∧ 0 ≤ c.2 ∧ c.2 < k := by
  unfold inW at h
  rw [Bool.and_eq_true] at h
  have h1 := withinB_iff.1 h.1
  have h2 := withinB_iff.1 h.2
  omega
theorem numI_bd {w k : Nat} {c : Cell} (hw : w ≤ 16) (hk : k ≤ 16) : -1 ≤ numI w k c ∧ numI w k c ≤ 1000 := by
  unfold numI
  split
  · rename_i h
    obtain ⟨a, b, c1, d⟩ := in_bd h
    have h1 : 0 ≤ c.2 * (w : Int) := Int.mul_nonneg c1 (by omega)
    have h2 : c.2 * (w : Int) ≤ 16 * 16 := Int.mul_le_mul (by omega) (by omega) (by omega) (by omega)
    omega
  · omega

theorem cmp_spec {G h : Hp} {v0 w k : Nat} {f : Nat → Nat → Int} {g : Value} {a b : Cell} (hv : ∀ j, cellIn G h ⟨v0, j, none⟩ = [g][j]?) (gs : GS G h g w k f) : HCalls P_ G 135 #[cellV a, cellV b, .pointer (some ⟨v0, 0, none⟩)] h (fun u h' => u = .int .i64 (numI w k a - numI w k b) ∧ h' = h) := by
  obtain ⟨gp, kb, hgp, _⟩ := gs.ex
  refine HCalls.assume fun d => quietly (enter135 (by simp) ?_)
  unfold S135
  simp only [bRpSc]
  intro x hx gx
  generalize e1 : Hp.set h x _ = h1
  obtain ⟨l1, d1, b1⟩ := boxed e1 hx d gx
  intro y hy gy
  generalize e2 : Hp.set h1 y _ = h2
  obtain ⟨l2, d2, b2⟩ := boxed e2 hy d1 gy
  have cx : ∀ j, cellIn G h2 ⟨x, j, none⟩ = _ := fun j => cell_of (look_own (l2 _ _ b1))
  have cy : ∀ j, cellIn G h2 ⟨y, j, none⟩ = _ := fun j => cell_of (look_own b2)
  have l02 := l1.trans l2
  have cv : cellIn G h2 ⟨v0, 0, none⟩ = some g := cell_up l02 d2 (hv 0)
  have gs2 := gs.up l02 d2
  subst hgp
  try simp only [bRpSc, cx, cy, cv]
  refine (num_spec (c := a) gs2).mono ?_
  rintro _ h3 ⟨rfl, rfl⟩
  refine ⟨Hp.le.refl _, ?_⟩
  try simp (disch := first | exact nq rfl | omega) only [bRpSc, Nat.reduceAdd, Nat.reduceMul, cx, cy, cv]
  refine (num_spec (c := b) gs2).mono ?_
  rintro _ h3 ⟨rfl, rfl⟩
  have ba := numI_bd (c := a) gs.w2 gs.k2
  have bb := numI_bd (c := b) gs.w2 gs.k2
  try simp (disch := first | exact nq rfl | omega) only [bRpSc]
  first | exact l02 | exact ⟨rfl, l02⟩

instance : Inhabited Cell := ⟨(0, 0)⟩
theorem swo_num (n : Cell → Int) : Go.Sort.SWO (Go.Proofs.ltOf fun a b => n a - n b) := by
  refine ⟨fun x => ?_, fun x y z h1 h2 => ?_, fun x y z h1 h2 => ?_⟩ <;> simp only [Go.Proofs.ltOf, decide_eq_true_eq, decide_eq_false_iff_not] at * <;> omega

def sweptM (w k : Nat) (f : Nat → Nat → Int) (m : Move) : List Cell := if wayB w k f m = true then sweptL w k (wayL m) else []

set_option maxHeartbeats 4000000 in
theorem swept_spec {G h : Hp} {g : Value} {w k : Nat} {f : Nat → Nat → Int} {m : Move} (gs : GS G h g w k f) (st : Steps G) (mb : MB m) : HCalls P_ G 90 #[g, moveV m] h (fun u h' => ∃ ip, Slc cellC 28 ip u (sweptM w k f m) ∧ HL.Sep [ip, h] h' ∧ Dis G h') := by
  obtain ⟨gp, kb, hgp, _⟩ := gs.ex
  subst hgp
  refine HCalls.assume fun d => enter90 (by simp) ?_
  unfold S90
  simp only [bRpSc]
  intro x hx gx
  generalize e1 : Hp.set h x _ = h1
  obtain ⟨l1, d1, b1⟩ := boxed e1 hx d gx
  intro y hy gy
  generalize e2 : Hp.set h1 y _ = h2
  obtain ⟨l2, d2, b2⟩ := boxed e2 hy d1 gy
  have cx : ∀ j, cellIn G h2 ⟨x, j, none⟩ = _ := fun j => cell_of (look_own (l2 _ _ b1))
  have cy : ∀ j, cellIn G h2 ⟨y, j, none⟩ = _ := fun j => cell_of (look_own b2)
  have l02 := l1.trans l2
  have gs2 := gs.up l02 d2
  try simp only [bRpSc, cx, cy]
  refine (way_spec (m := m) gs2 st mb).mono ?_
  rintro _ h3 ⟨ip, v, L, rfl, o, s3, d3, hL⟩
  try simp only [bRpSc]
  cases hw : wayB w k f m with
  | false =>
    try simp only [bRpSc]
    refine ⟨noHp, ?_, (s3.drop.cut l02).none, d3⟩
    unfold sweptM
    rw [hw]
    exact Slc.nil
  | true =>
    obtain rfl := hL hw
    obtain ⟨wl, wn⟩ := way_len hw
    try simp only [bRpSc]
    unfold S90_k1
    obtain ⟨ob, o'⟩ := o
    cases ob with
    | none => exact absurd o'.2 wn
    | some b =>
    obtain ⟨cap, t, rfl, hb, hbl⟩ := o'
    try simp (disch := first | exact nq rfl | omega) only [bRpSc]
    have hx3 : h2 x = some _ := l2 _ _ b1
    refine HCalls.mono (f := 134) (sort_call (ρ := sortCells_ren) sortCells cellC (by decide) Tryz.isAgg28 Tryz.sizeOf28 (swo_num (numI w k)) (g := 135) (cb := #[.pointer (some ⟨x, 0, none⟩)])
      (enters_of Tryz.func135 (by kernel_rfl) rfl) s3 d3 hb (fun p q h' s' d' => cmp_spec (a := p) (b := q) (fun j => by rw [cell_of (look_own (s'.in 0 rfl _ _ hx3))]) (gs2.up (s'.in 0 rfl) d')) (by omega)) ?_
    rintro _ h4 ⟨rfl, S, hp, hs, rfl⟩
    have s4 := s3.put (o := .cells (cellC.rows S ++ t).toArray 28 (0, 0)) hb
    have d4 := d3.set (o := .cells (cellC.rows S ++ t).toArray 28 (0, 0)) (d3 _ _ (s3.at 0 rfl hb))
    have hlS : S.length = (wayL m).length := hp.length_eq
    have o4 : Slc cellC 28 (ip.set b (.cells (cellC.rows S ++ t).toArray 28 (0, 0))) (.slice (some ⟨b, 0, none⟩) (wayL m).length cap) S := ⟨some b, cap, t, by rw [hlS], set_self, by rw [← hbl, List.length_append, List.length_append, cellC.rows_length, cellC.rows_length, hlS]⟩
    generalize Hp.set h3 b _ = h4 at s4 d4 ⊢
    generalize Hp.set ip b _ = ip4 at s4 o4
    try simp (disch := first | exact nq rfl | omega) only [bRpSc, Nat.reduceAdd, Nat.reduceMul]
    refine (compact_spec s4 o4 (by omega)).mono ?_
    rintro u5 h5 ⟨a5, o5, s5, d5⟩
    try simp (disch := first | exact nq rfl | omega) only [bRpSc, Nat.reduceAdd, Nat.reduceMul]
    refine ⟨a5, ?_, ((s5.pick 1 rfl rfl).cut l02).pick 1 rfl rfl, d5⟩
    have hin := way_in hw
    have e := compact_swept (w := w) (k := k) (W := wayL m) (S := S) (by have := gs.w1; omega) (fun c hc => in_bd (hin c hc)) hp (hs.imp_of_mem fun {a b} ha hb h => by
      rw [numI_in (hin a (hp.mem_iff.1 ha)), numI_in (hin b (hp.mem_iff.1 hb))] at h
      omega)
    unfold sweptM
    rw [hw, if_pos rfl, ← e]
    exact o5

end Go.Proofs.YtfflipnhffknnaaGreatDoor
end

section
/- The search finds the earliest: what can be reached is reached as early. Plain. -/
set_option linter.unusedVariables false
set_option linter.unusedSimpArgs false
set_option linter.unusedSectionVars false
namespace Go.Proofs.Srch
open Go.Proofs.Resv
variable {P M : Type} [DecidableEq P]

variable {E : Env P M}

def Up (S S' : List (St P M)) : Prop := ∀ x ∈ S, ∃ x' ∈ S', x'.p = x.p ∧ x'.i = x.i ∧ x'.a ≤ x.a ∧ (x.dn = true → x' = x)

theorem Up.refl (S : List (St P M)) : Up S S := fun x hx => ⟨x, hx, rfl, rfl, Int.le_refl _, fun _ => rfl⟩
theorem Up.trans {S S' S'' : List (St P M)} (a : Up S S') (b : Up S' S'') : Up S S'' := fun x hx => by
  obtain ⟨y, hy, e1, e2, e3, e4⟩ := a x hx
  obtain ⟨z, hz, f1, f2, f3, f4⟩ := b y hy
  refine ⟨z, hz, f1.trans e1, f2.trans e2, by omega, fun hd => ?_⟩
  have := e4 hd; subst this
  exact f4 hd

def Noted (E : Env P M) (S : List (St P M)) (x : St P M) (w : M × P × Int × List Sp) (s : Sp) : Prop :=
  x.s.1 ≤ s.1 → s.2 ≤ x.s.2 → sumI (max x.a s.1) w.2.2.1 ≤ s.2 → sumI (max x.a s.1) w.2.2.1 < FV → ∀ j, inside (E.spans w.2.1) (sumI (max x.a s.1) w.2.2.1) = some j → ∃ y ∈ S, y.p = w.2.1 ∧ y.i = j ∧ y.a ≤ sumI (max x.a s.1) w.2.2.1

theorem Noted.up {S S' : List (St P M)} {x : St P M} {w : M × P × Int × List Sp} {s : Sp} (n : Noted E S x w s) (u : Up S S') : Noted E S' x w s := fun h1 h2 h3 h4 j hj => by
  obtain ⟨y, hy, e1, e2, e3⟩ := n h1 h2 h3 h4 j hj
  obtain ⟨z, hz, f1, f2, f3, _⟩ := u y hy
  exact ⟨z, hz, f1.trans e1, f2.trans e2, by omega⟩

end Go.Proofs.Srch
end

section
/- The plain law of the heap of waits: what lies in heap order; up and down keep it; what is taken out is the least. -/
set_option linter.unusedSimpArgs false
set_option linter.unusedVariables false
namespace Go.Proofs.Wt

structure It where
  k : Int
  m : Int
  s : Int
  n : Int

def It.b4 (x y : It) : Bool := decide (x.k < y.k ∨ (x.k = y.k ∧ (x.m < y.m ∨ (x.m = y.m ∧ x.s < y.s))))
def It.lt (x y : It) : Bool := if x.b4 y = true then true else if y.b4 x = true then false else decide (x.n < y.n)

def swapL (L : List It) (i j : Nat) : List It := match L[i]?, L[j]? with
  | some x, some y => (L.set i y).set j x
  | _, _ => L

theorem swapL_length (L : List It) (i j : Nat) : (swapL L i j).length = L.length := by
  unfold swapL
  split <;> simp

def aheadL (L : List It) (i j : Nat) : Bool := match L[i]?, L[j]? with
  | some x, some y => x.lt y
  | _, _ => false

def siftUp (L : List It) (i : Nat) : List It := if h : 0 < i ∧ aheadL L i ((i - 1) / 2) = true then siftUp (swapL L i ((i - 1) / 2)) ((i - 1) / 2) else L
  termination_by i
  decreasing_by omega

theorem siftUp_length (L : List It) (i : Nat) : (siftUp L i).length = L.length := by
  induction i using Nat.strongRecOn generalizing L with
  | _ i ih =>
    rw [siftUp]
    split
    · rw [ih _ (by omega), swapL_length]
    · rfl

def pickFirst (L : List It) (first k : Nat) : Nat := if k < L.length ∧ aheadL L k first = true then k else first
def firstOf (L : List It) (i : Nat) : Nat := pickFirst L (pickFirst L i (2 * i + 1)) (2 * i + 2)

theorem pick_or (L : List It) (f k : Nat) : pickFirst L f k = f ∨ (pickFirst L f k = k ∧ k < L.length) := by
  unfold pickFirst
  split
  · rename_i h; exact .inr ⟨rfl, h.1⟩
  · exact .inl rfl
theorem firstOf_or (L : List It) (i : Nat) : firstOf L i = i ∨ (i < firstOf L i ∧ firstOf L i < L.length) := by
  unfold firstOf
  rcases pick_or L (pickFirst L i (2 * i + 1)) (2 * i + 2) with h | ⟨h, h2⟩
  · rw [h]
    rcases pick_or L i (2 * i + 1) with h | ⟨h, h2⟩
    · exact .inl h
    · rw [h]; exact .inr ⟨by omega, h2⟩
  · rw [h]; exact .inr ⟨by omega, h2⟩

def siftDown (L : List It) (i : Nat) : List It := if h : firstOf L i = i then L else siftDown (swapL L i (firstOf L i)) (firstOf L i)
  termination_by L.length - i
  decreasing_by
  rw [swapL_length]
  have := (firstOf_or L i).resolve_left h
  omega

theorem siftDown_length (L : List It) (i : Nat) : (siftDown L i).length = L.length := by
  have key : ∀ m L i, L.length - i ≤ m → (siftDown L i).length = L.length := by
    intro m
    induction m with
    | zero =>
      intro L i hm
      rw [siftDown]
      split
      · rfl
      · rename_i h; have := (firstOf_or L i).resolve_left h; omega
    | succ m ih =>
      intro L i hm
      rw [siftDown]
      split
      · rfl
      · rename_i h
        have := (firstOf_or L i).resolve_left h
        rw [ih _ _ (by rw [swapL_length]; omega), swapL_length]
  exact key _ L i (Nat.le_refl _)

def popL (L : List It) : List It := siftDown ((swapL L 0 (L.length - 1)).dropLast) 0

theorem popL_length (L : List It) : (popL L).length = L.length - 1 := by
  unfold popL
  rw [siftDown_length, List.length_dropLast, swapL_length]

theorem last_set (L : List It) (x : It) (h : L ≠ []) : L.set (L.length - 1) x = L.dropLast ++ [x] := by
  rw [List.set_eq_take_append_cons_drop, if_pos (by have := List.length_pos_iff.2 h; omega), List.dropLast_eq_take]
  have : 0 < L.length := List.length_pos_iff.2 h
  rw [show L.length - 1 + 1 = L.length by omega, List.drop_length]

theorem lt_iff {x y : It} : x.lt y = true ↔ x.k < y.k ∨ (x.k = y.k ∧ (x.m < y.m ∨ (x.m = y.m ∧ (x.s < y.s ∨ (x.s = y.s ∧ x.n < y.n))))) := by
  unfold It.lt It.b4
  simp only [decide_eq_true_eq]
  split
  · simp; omega
  · split
    · simp; omega
    · simp; omega

def It.le (x y : It) : Prop := y.lt x = false

theorem le_iff {x y : It} : x.le y ↔ x.k < y.k ∨ (x.k = y.k ∧ (x.m < y.m ∨ (x.m = y.m ∧ (x.s < y.s ∨ (x.s = y.s ∧ x.n ≤ y.n))))) := by
  unfold It.le
  rw [Bool.eq_false_iff, ne_eq, lt_iff]
  omega

theorem It.le.trans {x y z : It} (a : x.le y) (b : y.le z) : x.le z := by
  rw [le_iff] at *; omega
theorem It.le.refl (x : It) : x.le x := by rw [le_iff]; omega
theorem le_of_lt {x y : It} (a : x.lt y = true) : x.le y := by rw [le_iff]; rw [lt_iff] at a; omega
def at_ (L : List It) (i : Nat) : It := L.getD i ⟨0, 0, 0, 0⟩

theorem at_get {L : List It} {i : Nat} (h : i < L.length) : L[i]? = some (at_ L i) := by
  unfold at_
  rw [List.getD_eq_getElem?_getD, List.getElem?_eq_getElem h]
  rfl

theorem ahead_at {L : List It} {i j : Nat} (hi : i < L.length) (hj : j < L.length) : aheadL L i j = (at_ L i).lt (at_ L j) := by
  simp [aheadL, at_get hi, at_get hj]

theorem swap_at {L : List It} {i j : Nat} (hi : i < L.length) (hj : j < L.length) (k : Nat) : at_ (swapL L i j) k = if k = j then at_ L i else if k = i then at_ L j else at_ L k := by
  unfold swapL
  rw [at_get hi, at_get hj]
  simp only
  unfold at_
  simp only [List.getD_eq_getElem?_getD]
  by_cases h1 : k = j
  · subst h1; rw [if_pos rfl, List.getElem?_set_self (by simpa using hj)]; rfl
  · rw [if_neg h1, List.getElem?_set_ne (Ne.symm h1)]
    by_cases h2 : k = i
    · subst h2; rw [if_pos rfl, List.getElem?_set_self hi]; rfl
    · rw [if_neg h2, List.getElem?_set_ne (Ne.symm h2)]

theorem swap_perm (L : List It) (i j : Nat) : (swapL L i j).Perm L := by
  unfold swapL
  split
  · rename_i x y hx hy
    obtain ⟨hi, rfl⟩ := List.getElem?_eq_some_iff.1 hx
    obtain ⟨hj, rfl⟩ := List.getElem?_eq_some_iff.1 hy
    exact List.set_set_perm hi hj
  · exact .refl _

def heapOk (L : List It) : Prop := ∀ j, 0 < j → j < L.length → (at_ L ((j - 1) / 2)).le (at_ L j)

def upOk (L : List It) (i : Nat) : Prop := (∀ j, 0 < j → j < L.length → j ≠ i → (at_ L ((j - 1) / 2)).le (at_ L j)) ∧
  (∀ j, 0 < j → j < L.length → (j - 1) / 2 = i → 0 < i → (at_ L ((i - 1) / 2)).le (at_ L j))

theorem siftUp_ok : ∀ (i : Nat) (L : List It), i < L.length → upOk L i → heapOk (siftUp L i) := by
  intro i
  induction i using Nat.strongRecOn with
  | _ i ih =>
    intro L hi ⟨h1, h2⟩
    rw [siftUp]
    split
    · rename_i h
      obtain ⟨h0, ha⟩ := h
      have hp : (i - 1) / 2 < L.length := by omega
      rw [ahead_at hi hp] at ha
      refine ih _ (by omega) _ (by rw [swapL_length]; exact hp) ⟨?_, ?_⟩
      · intro j j0 jl jne
        rw [swapL_length] at jl
        rw [swap_at hi hp, swap_at hi hp]
        by_cases e1 : j = i
        · subst e1
          rw [if_pos rfl, if_neg jne, if_pos rfl]
          exact le_of_lt ha
        · rw [if_neg jne, if_neg e1]
          by_cases e2 : (j - 1) / 2 = (i - 1) / 2
          · rw [if_pos e2]
            have := h1 j j0 jl e1
            rw [e2] at this
            exact (le_of_lt ha).trans this
          · rw [if_neg e2]
            by_cases e3 : (j - 1) / 2 = i
            · rw [if_pos e3]
              exact h2 j j0 jl e3 h0
            · rw [if_neg e3]
              exact h1 j j0 jl e1
      · intro j j0 jl jp p0
        rw [swapL_length] at jl
        rw [swap_at hi hp, swap_at hi hp]
        rw [if_neg (by omega), if_neg (by omega), if_neg (by omega)]
        by_cases e1 : j = i
        · rw [if_pos e1]
          exact h1 _ p0 hp (by omega)
        · rw [if_neg e1]
          have a1 := h1 j j0 jl e1
          rw [jp] at a1
          exact (h1 _ p0 hp (by omega)).trans a1
    · rename_i h
      intro j j0 jl
      by_cases e : j = i
      · subst e
        have : aheadL L j ((j - 1) / 2) = false := by
          cases ha : aheadL L j ((j - 1) / 2) with
          | false => rfl
          | true => exact absurd ⟨j0, ha⟩ h
        rw [ahead_at jl (by omega)] at this
        exact this
      · exact h1 j j0 jl e

theorem siftUp_perm (i : Nat) : ∀ L : List It, (siftUp L i).Perm L := by
  induction i using Nat.strongRecOn with
  | _ i ih =>
    intro L
    rw [siftUp]
    split
    · rename_i h
      exact (ih _ (by omega) _).trans (swap_perm _ _ _)
    · exact .refl _

def downOk (L : List It) (i : Nat) : Prop := (∀ j, 0 < j → j < L.length → (j - 1) / 2 ≠ i → (at_ L ((j - 1) / 2)).le (at_ L j)) ∧
  (∀ j, 0 < j → j < L.length → (j - 1) / 2 = i → 0 < i → (at_ L ((i - 1) / 2)).le (at_ L j))

theorem pick_le {L : List It} {f k : Nat} (hf : f < L.length) : (at_ L (pickFirst L f k)).le (at_ L f) ∧ (k < L.length → (at_ L (pickFirst L f k)).le (at_ L k)) := by
  unfold pickFirst
  split
  · rename_i h
    rw [ahead_at h.1 hf] at h
    exact ⟨le_of_lt h.2, fun _ => .refl _⟩
  · rename_i h
    refine ⟨.refl _, fun hk => ?_⟩
    have : aheadL L k f = false := by
      cases ha : aheadL L k f with
      | false => rfl
      | true => exact absurd ⟨hk, ha⟩ h
    rw [ahead_at hk hf] at this
    exact this

theorem firstOf_le {L : List It} {i : Nat} (hi : i < L.length) : (at_ L (firstOf L i)).le (at_ L i) ∧ ∀ j, 0 < j → j < L.length → (j - 1) / 2 = i → (at_ L (firstOf L i)).le (at_ L j) := by
  have h1 := pick_le (L := L) (f := i) (k := 2 * i + 1) hi
  have hp : pickFirst L i (2 * i + 1) < L.length := by
    rcases pick_or L i (2 * i + 1) with h | ⟨h, h'⟩ <;> omega
  have h2 := pick_le (L := L) (f := pickFirst L i (2 * i + 1)) (k := 2 * i + 2) hp
  refine ⟨h2.1.trans h1.1, fun j j0 jl jp => ?_⟩
  rcases (show j = 2 * i + 1 ∨ j = 2 * i + 2 by omega) with rfl | rfl
  · exact h2.1.trans (h1.2 jl)
  · exact h2.2 jl

theorem firstOf_par {L : List It} {i : Nat} (h : firstOf L i ≠ i) : (firstOf L i - 1) / 2 = i := by
  unfold firstOf at *
  rcases pick_or L (pickFirst L i (2 * i + 1)) (2 * i + 2) with e | ⟨e, _⟩
  · rw [e] at h ⊢
    rcases pick_or L i (2 * i + 1) with e | ⟨e, _⟩
    · exact absurd e h
    · rw [e]; omega
  · rw [e]; omega

theorem siftDown_ok : ∀ (m : Nat) (i : Nat) (L : List It), L.length - i ≤ m → i < L.length → downOk L i → heapOk (siftDown L i) := by
  intro m
  induction m with
  | zero => intro i L hm hi; omega
  | succ m ih =>
    intro i L hm hi ⟨h1, h2⟩
    have hle := firstOf_le hi
    rw [siftDown]
    split
    · rename_i h
      intro j j0 jl
      by_cases e : (j - 1) / 2 = i
      · rw [h] at hle
        rw [e]
        exact hle.2 j j0 jl e
      · exact h1 j j0 jl e
    · rename_i h
      obtain ⟨f1, f2⟩ := (firstOf_or L i).resolve_left h
      have fp := firstOf_par h
      generalize firstOf L i = f at *
      refine ih f _ (by rw [swapL_length]; omega) (by rw [swapL_length]; exact f2) ⟨?_, ?_⟩
      · intro j j0 jl jp
        rw [swapL_length] at jl
        rw [swap_at hi f2, swap_at hi f2]
        by_cases e1 : j = f
        · subst e1
          rw [if_pos rfl, if_neg jp, if_pos fp]
          exact hle.1
        · rw [if_neg jp, if_neg e1]
          by_cases e2 : j = i
          · subst e2
            rw [if_pos rfl, if_neg (by omega)]
            exact h2 f (by omega) f2 fp j0
          · rw [if_neg e2]
            by_cases e3 : (j - 1) / 2 = i
            · rw [if_pos e3]
              exact hle.2 j j0 jl e3
            · rw [if_neg e3]
              exact h1 j j0 jl e3
      · intro j j0 jl jp _
        rw [swapL_length] at jl
        rw [swap_at hi f2, swap_at hi f2, fp]
        rw [if_neg (by omega), if_pos rfl, if_neg (by omega), if_neg (by omega)]
        have := h1 j j0 jl (by omega)
        rwa [jp] at this

theorem siftDown_perm : ∀ (m : Nat) (i : Nat) (L : List It), L.length - i ≤ m → (siftDown L i).Perm L := by
  intro m
  induction m with
  | zero =>
    intro i L hm
    rw [siftDown]
    split
    · exact .refl _
    · rename_i h; have := (firstOf_or L i).resolve_left h; omega
  | succ m ih =>
    intro i L hm
    rw [siftDown]
    split
    · exact .refl _
    · rename_i h
      have := (firstOf_or L i).resolve_left h
      exact (ih _ _ (by rw [swapL_length]; omega)).trans (swap_perm _ _ _)

theorem heap_root {L : List It} (h : heapOk L) : ∀ j, j < L.length → (at_ L 0).le (at_ L j) := by
  intro j
  induction j using Nat.strongRecOn with
  | _ j ih =>
    intro hj
    by_cases j0 : j = 0
    · subst j0; exact .refl _
    · exact (ih _ (by omega) (by omega)).trans (h j (by omega) hj)

theorem at_append_left {L M : List It} {j : Nat} (h : j < L.length) : at_ (L ++ M) j = at_ L j := by
  unfold at_
  simp only [List.getD_eq_getElem?_getD]
  rw [List.getElem?_append_left h]

theorem push_ok {L : List It} {x : It} (h : heapOk L) : heapOk (siftUp (L ++ [x]) L.length) ∧ (siftUp (L ++ [x]) L.length).Perm (x :: L) := by
  refine ⟨siftUp_ok _ _ (by simp) ⟨fun j j0 jl jne => ?_, fun j j0 jl jp _ => ?_⟩, (siftUp_perm _ _).trans (List.perm_append_singleton _ _)⟩
  · simp at jl
    rw [at_append_left (by omega), at_append_left (by omega)]
    exact h j j0 (by omega)
  · simp at jl
    omega

theorem at_dropLast {L : List It} {j : Nat} (h : j < L.length - 1) : at_ L.dropLast j = at_ L j := by
  unfold at_
  simp only [List.getD_eq_getElem?_getD, List.dropLast_eq_take]
  rw [List.getElem?_take_of_lt h]

theorem pop_ok {x : It} {L : List It} (h : heapOk (x :: L)) : heapOk (popL (x :: L)) ∧ (x :: L).Perm (x :: popL (x :: L)) ∧ ∀ y ∈ L, x.le y := by
  have hroot : ∀ y ∈ L, x.le y := by
    intro y hy
    obtain ⟨i, hi, rfl⟩ := List.getElem_of_mem hy
    have := heap_root h (i + 1) (by simpa using hi)
    simpa [at_, List.getD_eq_getElem?_getD, hi] using this
  have hM : (x :: L).length - 1 < (x :: L).length := by simp
  have h0 : 0 < (x :: L).length := by simp
  have hsl := swapL_length (x :: L) 0 ((x :: L).length - 1)
  have hpop : heapOk (popL (x :: L)) := by
    unfold popL
    by_cases hl : L = []
    · subst hl
      intro j j0 jl
      rw [siftDown_length, List.length_dropLast, swapL_length] at jl
      simp at jl
    · have hl' : 0 < L.length := List.length_pos_iff.2 hl
      refine siftDown_ok _ 0 _ (Nat.le_refl _) (by rw [List.length_dropLast, swapL_length]; simpa using hl') ⟨fun j j0 jl jp => ?_, fun j j0 jl jp i0 => by omega⟩
      rw [List.length_dropLast, swapL_length] at jl
      rw [at_dropLast (by rw [swapL_length]; omega), at_dropLast (by rw [swapL_length]; omega), swap_at h0 hM, swap_at h0 hM]
      simp only [List.length_cons, Nat.add_sub_cancel] at jl ⊢
      rw [if_neg (by omega), if_neg (by omega), if_neg (by omega), if_neg (by omega)]
      exact h j j0 (by simp; omega)
  refine ⟨hpop, ?_, hroot⟩
  have p1 : (swapL (x :: L) 0 ((x :: L).length - 1)).Perm (x :: L) := swap_perm _ _ _
  have hne : swapL (x :: L) 0 ((x :: L).length - 1) ≠ [] := by intro e; rw [e] at hsl; simp at hsl
  have hlast : (swapL (x :: L) 0 ((x :: L).length - 1)).getLast hne = x := by
    rw [List.getLast_eq_getElem]
    have e := swap_at h0 hM ((x :: L).length - 1)
    rw [if_pos rfl] at e
    unfold at_ at e
    rw [List.getD_eq_getElem?_getD, List.getElem?_eq_getElem (by rw [hsl]; exact hM)] at e
    simp only [Option.getD_some] at e
    simp only [hsl]
    rw [e]
    rfl
  have p2 : (swapL (x :: L) 0 ((x :: L).length - 1)).Perm (x :: (swapL (x :: L) 0 ((x :: L).length - 1)).dropLast) := by
    conv => lhs; rw [← List.dropLast_concat_getLast hne, hlast]
    exact List.perm_append_singleton _ _
  exact p1.symm.trans (p2.trans ((siftDown_perm _ 0 _ (Nat.le_refl _)).symm.cons x))

end Go.Proofs.Wt
end

section
/- The heap of waits beside the states: what is popped is stale, or the least. Plain. -/
set_option linter.unusedVariables false
set_option linter.unusedSimpArgs false
set_option linter.unusedSectionVars false
namespace Go.Proofs.Srch
open Go.Proofs.Resv Go.Proofs.Wt
variable {P M : Type} [DecidableEq P] {E : Env P M}

structure QI (E : Env P M) (L : List It) (S : List (St P M)) : Prop where
  old : ∀ w ∈ L, ∃ x ∈ S, E.num x.p = w.m ∧ (x.i : Int) = w.s ∧ x.a ≤ w.k
  all : ∀ x ∈ S, x.dn = false → ∃ w ∈ L, w.k = x.a ∧ w.m = E.num x.p ∧ w.s = x.i

theorem QI.perm {L L' : List It} {S : List (St P M)} (q : QI E L S) (h : L'.Perm L) : QI E L' S :=
  ⟨fun w hw => q.old w (h.mem_iff.1 hw), fun x hx hd => let ⟨w, hw, e⟩ := q.all x hx hd; ⟨w, h.mem_iff.2 hw, e⟩⟩

def pushB (E : Env P M) (S : List (St P M)) (p : P) (t : Int) : Option Nat := match inside (E.spans p) t with
  | none => none
  | some i => match key S p i with
    | none => some i
    | some k => match S[k]? with
      | none => none
      | some x => if t < x.a then some i else none

theorem note_q {L L' : List It} {S : List (St P M)} {p : P} {t : Int} {m : M} {b n : Int} (q : QI E L S)
    (h : match pushB E S p t with
      | some i => L'.Perm (⟨t, E.num p, i, n⟩ :: L)
      | none => L' = L) : QI E L' (note E S p t m b) := by
  unfold note
  unfold pushB at h
  cases hi : inside (E.spans p) t with
  | none => rw [hi] at h; simp only at h ⊢; rw [h]; exact q
  | some i =>
    rw [hi] at h
    simp only at h ⊢
    unfold noteK
    cases hk : key S p i with
    | none =>
      rw [hk] at h
      simp only at h ⊢
      refine QI.perm ⟨fun w hw => ?_, fun x hx hd => ?_⟩ h
      · rcases List.mem_cons.1 hw with rfl | hw
        · exact ⟨_, List.mem_append_right _ (.head _), rfl, rfl, Int.le_refl _⟩
        · obtain ⟨x, hx, e⟩ := q.old w hw
          exact ⟨x, List.mem_append_left _ hx, e⟩
      · rcases List.mem_append.1 hx with hx | hx
        · obtain ⟨w, hw, e⟩ := q.all x hx hd
          exact ⟨w, .tail _ hw, e⟩
        · rw [List.mem_singleton] at hx; subst hx
          exact ⟨_, .head _, rfl, rfl, rfl⟩
    | some k =>
      obtain ⟨x, hx, e1, e2⟩ := key_some hk
      rw [hk] at h
      simp only [hx] at h ⊢
      by_cases hlt : t < x.a
      · rw [if_pos hlt] at h ⊢
        simp only at h
        have hkl : k < S.length := (List.getElem?_eq_some_iff.1 hx).1
        have hself : (S.set k { x with a := t, mv := m, b := b })[k]? = some { x with a := t, mv := m, b := b } := by rw [List.getElem?_set_self hkl]
        refine QI.perm ⟨fun w hw => ?_, fun y hy hd => ?_⟩ h
        · rcases List.mem_cons.1 hw with rfl | hw
          · exact ⟨_, List.mem_of_getElem? hself, by simp only [e1], by simp only [e2], Int.le_refl _⟩
          · obtain ⟨y, hy, f1, f2, f3⟩ := q.old w hw
            obtain ⟨j, hj, rfl⟩ := List.getElem_of_mem hy
            by_cases hjk : j = k
            · subst hjk
              have hxe : S[j] = x := (List.getElem?_eq_some_iff.1 hx).2
              rw [hxe] at f1 f2 f3
              exact ⟨_, List.mem_of_getElem? hself, f1, f2, by simp only; omega⟩
            · have : (S.set k { x with a := t, mv := m, b := b })[j]? = some S[j] := by rw [List.getElem?_set_ne (Ne.symm hjk), List.getElem?_eq_getElem hj]
              exact ⟨_, List.mem_of_getElem? this, f1, f2, f3⟩
        · rcases List.mem_or_eq_of_mem_set hy with hy | rfl
          · obtain ⟨w, hw, e⟩ := q.all y hy hd
            exact ⟨w, .tail _ hw, e⟩
          · exact ⟨_, .head _, rfl, by simp only [e1], by simp only [e2]⟩
      · rw [if_neg hlt] at h ⊢
        simp only at h
        rw [h]; exact q

theorem pop_nilQ {S : List (St P M)} (q : QI E [] S) : least E S = none := by
  cases h : least E S with
  | none => rfl
  | some r =>
    obtain ⟨k, x⟩ := r
    obtain ⟨h1, h2, h3⟩ := least_some h
    obtain ⟨w, hw, _⟩ := q.all x (List.mem_of_getElem? h1) h2
    cases hw

theorem popQ (ok : EnvOk E) {p0 : P} {t0 lo : Int} {z : M} {S : List (St P M)} (v : Inv E p0 t0 z lo S) {w : It} {L L' : List It} (q : QI E (w :: L) S) (hmin : ∀ y ∈ L, w.le y) (hL : L'.Perm L) :
    ∃ k x, S[k]? = some x ∧ E.num x.p = w.m ∧ (x.i : Int) = w.s ∧ ((x.dn = true ∨ x.a ≠ w.k) → QI E L' S) ∧ (x.dn = false → x.a = w.k → least E S = some (k, x) ∧ QI E L' (take S k x)) := by
  obtain ⟨x, hxm, e1, e2, e3⟩ := q.old w (.head _)
  obtain ⟨k, hk, rfl⟩ := List.getElem_of_mem hxm
  have hk? : S[k]? = some S[k] := List.getElem?_eq_getElem hk
  generalize hx : S[k] = x at *
  -- who else has the same keys is x
  have same : ∀ y ∈ S, E.num y.p = w.m → (y.i : Int) = w.s → y = x := fun y hy f1 f2 => by
    obtain ⟨j, hj, rfl⟩ := List.getElem_of_mem hy
    have hp := ok.inj _ _ (v.ok _ hy) (v.ok _ hxm) (f1.trans e1.symm)
    have := v.uniq (List.getElem?_eq_getElem hj) hk? hp (by omega)
    subst this
    exact hx
  refine ⟨k, x, hk?, e1, e2, fun hst => QI.perm ⟨fun u hu => q.old u (.tail _ hu), fun y hy hd => ?_⟩ hL, fun hnd ha => ?_⟩
  · obtain ⟨u, hu, f1, f2, f3⟩ := q.all y hy hd
    rcases List.mem_cons.1 hu with rfl | hu
    · have := same y hy f2.symm f3.symm
      subst this
      rcases hst with h | h
      · rw [hd] at h; cases h
      · exact absurd f1.symm h
    · exact ⟨u, hu, f1, f2, f3⟩
  · have least1 : ∀ y ∈ S, y.dn = false → ltK E y x = false := fun y hy hd => by
      obtain ⟨u, hu, f1, f2, f3⟩ := q.all y hy hd
      have hle : w.le u := by
        rcases List.mem_cons.1 hu with rfl | hu
        · exact .refl _
        · exact hmin u hu
      rw [le_iff] at hle
      unfold ltK
      simp only [decide_eq_false_iff_not]
      omega
    refine ⟨?_, QI.perm ⟨fun u hu => ?_, fun y hy hd => ?_⟩ hL⟩
    · cases hl : least E S with
      | none => have := least_none hl x hxm; rw [hnd] at this; cases this
      | some r =>
        obtain ⟨j, y⟩ := r
        obtain ⟨g1, g2, g3⟩ := least_some hl
        have hym := List.mem_of_getElem? g1
        obtain ⟨c1, c2, c3⟩ := ltK_tot (g3 x hxm hnd) (least1 y hym g2)
        have hp := ok.inj _ _ (v.ok _ hym) (v.ok _ hxm) c2.symm
        have := v.uniq g1 hk? hp c3.symm
        subst this
        rw [hk?] at g1
        cases g1
        rfl
    · obtain ⟨y, hy, f⟩ := q.old u (.tail _ hu)
      obtain ⟨j, hj, rfl⟩ := List.getElem_of_mem hy
      unfold take
      by_cases hjk : j = k
      · subst hjk
        rw [hx] at f
        exact ⟨{ x with dn := true }, List.mem_of_getElem? (i := j) (by rw [List.getElem?_set_self hk]), f⟩
      · exact ⟨_, List.mem_of_getElem? (by rw [List.getElem?_set_ne (Ne.symm hjk)]; exact List.getElem?_eq_getElem hj), f⟩
    · unfold take at hy
      rcases List.mem_or_eq_of_mem_set hy with hy | rfl
      · obtain ⟨u, hu, f1, f2, f3⟩ := q.all y hy hd
        rcases List.mem_cons.1 hu with rfl | hu
        · have hyx := same y hy f2.symm f3.symm
          -- y is x, at k, where it is done now
          exfalso
          obtain ⟨j, hj, rfl⟩ := List.getElem_of_mem ‹y ∈ S.set k { x with dn := true }›
          rw [List.getElem_set] at hyx hd
          split at hd
          · cases hd
          · rename_i hjk
            rw [if_neg hjk] at hyx
            have hj' : j < S.length := by simpa using hj
            exact hjk (v.uniq (List.getElem?_eq_getElem hj') hk? (by rw [hyx]) (by rw [hyx])).symm
        · exact ⟨u, hu, f1, f2, f3⟩
      · cases hd

inductive Chain (S : List (St P M)) : Nat → List (Nat × St P M) → Prop where
  | start {k : Nat} {x : St P M} (h : S[k]? = some x) (hb : x.b < 0) : Chain S k [(k, x)]
  | step {k j : Nat} {x : St P M} {l : List (Nat × St P M)} (h : S[k]? = some x) (hb : x.b = (j : Nat)) (c : Chain S j l) : Chain S k ((k, x) :: l)

theorem chain_ex {p0 : P} {t0 lo : Int} {z : M} {S : List (St P M)} (v : Inv E p0 t0 z lo S) : ∀ (n k : Nat) (x : St P M), S[k]? = some x → (S.filter (fun y => decide (y.a < x.a))).length ≤ n → ∃ l, Chain S k l ∧ l.length ≤ n + 1
  | n, k, x, hk, hn => by
    rcases v.by_ x (List.mem_of_getElem? hk) with ⟨h, _⟩ | ⟨y, h0, hy, hd, hlt, _⟩
    · exact ⟨_, .start hk (by omega), by simp⟩
    · have hym := List.mem_of_getElem? hy
      have hmono : (S.filter (fun u => decide (u.a < y.a))).length < (S.filter (fun u => decide (u.a < x.a))).length := by
        have h1 : (S.filter (fun u => decide (u.a < y.a))) = (S.filter (fun u => decide (u.a < x.a))).filter (fun u => decide (u.a < y.a)) := by
          rw [List.filter_filter]
          congr 1
          funext u
          rw [← Bool.decide_and]
          exact decide_eq_decide.2 (by omega)
        rw [h1]
        have h2 : y ∈ S.filter (fun u => decide (u.a < x.a)) := List.mem_filter.2 ⟨hym, by simpa using hlt⟩
        refine List.length_filter_lt_length_iff_exists.2 ⟨y, h2, by simp⟩
      cases n with
      | zero => omega
      | succ n =>
        obtain ⟨l, hl, hll⟩ := chain_ex v n x.b.toNat y hy (by omega)
        exact ⟨_, .step hk (by omega) hl, by simp; omega⟩

def movesOf : List (Nat × St P M) → List M
  | [] => []
  | [_] => []
  | p :: l => p.2.mv :: movesOf l

theorem path_chain {S : List (St P M)} {k : Nat} {l : List (Nat × St P M)} (c : Chain S k l) : ∀ (f : Nat) (acc : List M), l.length ≤ f → path S f k acc = (movesOf l).reverse ++ acc := by
  induction c with
  | start h hb =>
    intro f acc hf
    cases f with
    | zero => simp at hf
    | succ f => unfold path; rw [h]; simp only [if_pos hb]; rfl
  | @step k j x l h hb c ih =>
    intro f acc hf
    cases f with
    | zero => simp at hf
    | succ f =>
      unfold path
      rw [h]
      have h0 : ¬ x.b < 0 := by omega
      simp only [if_neg h0]
      rw [show x.b.toNat = j by omega, ih f _ (by simpa using hf)]
      cases c <;> simp [movesOf]

theorem chain_len {p0 : P} {t0 lo : Int} {z : M} {S : List (St P M)} (v : Inv E p0 t0 z lo S) {k : Nat} {x : St P M} (hk : S[k]? = some x) : ∃ l, Chain S k l ∧ l.length ≤ S.length := by
  have hlt : (S.filter (fun y => decide (y.a < x.a))).length < S.length :=
    List.length_filter_lt_length_iff_exists.2 ⟨x, List.mem_of_getElem? hk, by simp⟩
  obtain ⟨l, c, h⟩ := chain_ex v _ k x hk (Nat.le_refl _)
  exact ⟨l, c, by omega⟩
end Go.Proofs.Srch
end

section
/- The search as it lies: its numbers, the stretches and poses that it keeps. -/
set_option linter.unusedSimpArgs false
set_option linter.unusedVariables false
set_option maxRecDepth 100000
namespace Go.Proofs.YtfflipnhffknnaaGreatDoor
open Go Go.HL Go.Proofs.Resv Go.Proofs.Srch

def bRtR := jq (jq (jq (jq (jq @HL.cond_false @HL.cond_true) (jq @List.getElem?_cons_succ.{0} @List.getElem?_cons_zero.{0})) (jq (jq @Nat.add_zero @Nat.zero_add) (jq @Option.some.injEq.{0} (jq @add_mk @bin_add)))) (jq (jq (jq @bin_mulp @box_new) (jq @cell_set_self @cells_agg)) (jq (jq @cf88 @exists_eq_left'.{1}) (jq @fa134_1p (jq @fa134_7p @fa30_0p))))) (jq (jq (jq (jq @fa30_1 @ld130p) (jq @ld28p @ld30p)) (jq (jq @ld4 @ld68p) (jq @opH_su (jq @opH_sv @pureW_nil)))) (jq (jq (jq @pureW_sv @regs0) (jq @regs1 @resL_nil1)) (jq (jq @resL_tmp @retK_ret) (jq @upd_eq (jq @upd_ne @wrap_in)))))
def numP (w k : Nat) (p : Pose) : Int := 2 * numI w k (p.x, p.y) + (if p.d = true then 1 else 0)
def spansP (w k : Nat) (T : Tb) (r : Int) (p : Pose) : List Sp := freeL T r ((cellsP p).map (numI w k))
def wayE (C : Conf) (w k : Nat) (f : Nat → Nat → Int) (T : Tb) (r : Int) (m : Move) : Move × Pose × Int × List Sp := (m, m.t, lastsI C m, freeL T r ((sweptM w k f m).map (numI w k)))
def waysP (C : Conf) (w k : Nat) (f : Nat → Nat → Int) (T : Tb) (r : Int) (p : Pose) : List (Move × Pose × Int × List Sp) := (movesW w k f p).map (wayE C w k f T r)
def stampM (m : Move) (a e : Int) : Move := { m with a := a, e := e }
def envE (C : Conf) (w k : Nat) (f : Nat → Nat → Int) (T : Tb) (r : Int) : Env Pose Move := ⟨numP w k, fun p => fitsW w k f p = true, spansP w k T r, waysP C w k f T r, stampM⟩

theorem fits_in {w k : Nat} {f : Nat → Nat → Int} {p : Pose} (h : fitsW w k f p = true) : inW w k (p.x, p.y) = true := by
  unfold fitsW at h
  rw [Bool.and_eq_true] at h
  exact open_in h.1

theorem num_inj {w k : Nat} {c e : Cell} (hc : inW w k c = true) (he : inW w k e = true) (h : numI w k c = numI w k e) : c = e := by
  unfold numI at h
  rw [if_pos hc, if_pos he] at h
  obtain ⟨a1, a2, a3, a4⟩ := inW_iff.1 hc
  obtain ⟨b1, b2, b3, b4⟩ := inW_iff.1 he
  have h1 : c.1 = (c.2 * w + c.1) % w := by rw [Int.add_comm, Int.add_mul_emod_self_right, Int.emod_eq_of_lt a1 a2]
  have h2 : e.1 = (e.2 * w + e.1) % w := by rw [Int.add_comm, Int.add_mul_emod_self_right, Int.emod_eq_of_lt b1 b2]
  have h3 : c.1 = e.1 := by rw [h1, h2, h]
  have h4 : c.2 * (w : Int) = e.2 * (w : Int) := by omega
  have h5 : c.2 = e.2 := Int.eq_of_mul_eq_mul_right (by omega) h4
  exact Prod.ext h3 h5

theorem numP_inj {w k : Nat} {f : Nat → Nat → Int} {p q : Pose} (hp : fitsW w k f p = true) (hq : fitsW w k f q = true) (h : numP w k p = numP w k q) : p = q := by
  have hpi := fits_in hp
  have hqi := fits_in hq
  unfold numP at h
  have hd : p.d = q.d := by
    cases h1 : p.d <;> cases h2 : q.d <;> simp only [h1, h2, if_true, if_false, Bool.false_eq_true] at h <;> first | rfl | omega
  rw [hd] at h
  have hn := num_inj hpi hqi (show numI w k (p.x, p.y) = numI w k (q.x, q.y) by omega)
  cases p; cases q
  simp only [Prod.mk.injEq] at hn hd
  obtain ⟨rfl, rfl⟩ := hn
  subst hd
  rfl

structure Cs where
  L1 : List (Int × Value)
  L2 : List (Int × Value)
  L3 : List (Int × Value)
  P : Hp

def Gro (L L' : List (Int × Value)) : Prop := ∀ k v, mget L k = some v → mget L' k = some v
theorem Gro.refl (L : List (Int × Value)) : Gro L L := fun _ _ h => h
theorem Gro.trans {L M N : List (Int × Value)} (a : Gro L M) (b : Gro M N) : Gro L N := fun k v h => b k v (a k v h)

structure Cs.le (c c' : Cs) : Prop where
  l1 : Gro c.L1 c'.L1
  l2 : Gro c.L2 c'.L2
  l3 : Gro c.L3 c'.L3
  p : c.P.le c'.P
theorem Cs.le.refl (c : Cs) : c.le c := ⟨.refl _, .refl _, .refl _, .refl _⟩
theorem Cs.le.trans {a b c : Cs} (x : a.le b) (y : b.le c) : a.le c := ⟨x.l1.trans y.l1, x.l2.trans y.l2, x.l3.trans y.l3, x.p.trans y.p⟩

structure RawW where
  m : Move
  d : Int
  a : Option Addr
  n : Nat
  c : Nat
def rawWC : Cod RawW := ⟨13, fun x => [.int .i64 x.m.k, .int .i64 x.m.d, .int .i64 x.m.n, .int .i64 x.m.f.x, .int .i64 x.m.f.y, .bool x.m.f.d, .int .i64 x.m.t.x, .int .i64 x.m.t.y, .bool x.m.t.d, .int .i64 x.m.a, .int .i64 x.m.e, .int .i64 x.d, .slice x.a x.n x.c], fun _ => rfl,
  fun _ v hv => by simp at hv; rcases hv with rfl | rfl | rfl | rfl | rfl | rfl | rfl | rfl | rfl | rfl | rfl | rfl | rfl <;> rfl⟩
theorem eoway : ElemOk P_ 232 rawWC.n 120 := eo232

def WayS (P : Hp) (v : Value) (W : List (Move × Pose × Int × List Sp)) : Prop := ∃ raws : List RawW, Slc rawWC 232 P v raws ∧ raws.length = W.length ∧
  ∀ (i : Nat) (x : RawW) (y : Move × Pose × Int × List Sp), raws[i]? = some x → W[i]? = some y → x.m = y.1 ∧ x.d = y.2.2.1 ∧ x.n = y.2.2.2.length ∧ Slc spanC 151 P (.slice x.a x.n x.c) y.2.2.2
theorem WayS.le {P P' : Hp} {v : Value} {W : List (Move × Pose × Int × List Sp)} (h : WayS P v W) (l : P.le P') : WayS P' v W := by
  obtain ⟨raws, h1, h2, h3⟩ := h
  exact ⟨raws, h1.le l, h2, fun i x y hx hy => let ⟨a, b, c, d⟩ := h3 i x y hx hy; ⟨a, b, c, d.le l⟩⟩

structure Par where
  C : Conf
  w : Nat
  k : Nat
  f : Nat → Nat → Int
  T : Tb
  r : Int
def Par.E (p : Par) : Env Pose Move := envE p.C p.w p.k p.f p.T p.r

structure Ch (q : Par) (a : Hp) (ms mw mp : Nat) (c : Cs) : Prop where
  sep : ∃ o1 o2 o3, MapO o1 c.L1 ∧ MapO o2 c.L2 ∧ MapO o3 c.L3 ∧ HL.Sep [noHp.set ms o1, noHp.set mw o2, noHp.set mp o3, c.P] a
  m1 : ∀ n v, mget c.L1 n = some v → ∃ p, fitsW q.w q.k q.f p = true ∧ numP q.w q.k p = n ∧ Slc spanC 151 c.P v (spansP q.w q.k q.T q.r p)
  m2 : ∀ n v, mget c.L2 n = some v → ∃ p, fitsW q.w q.k q.f p = true ∧ numP q.w q.k p = n ∧ WayS c.P v (waysP q.C q.w q.k q.f q.T q.r p)
  m3 : ∀ n v, mget c.L3 n = some v → ∃ p, fitsW q.w q.k q.f p = true ∧ numP q.w q.k p = n ∧ v = poseV p

def searchL (C : Conf) (vb vp vr vz g : Value) (kp tp : Nat) (r : Int) (ms mw mp mt hp : Nat) : List Value :=
  [.int .i64 C.w, .int .i64 C.h, .int .i64 C.ht, vb, vp, vr, vz, .int .i64 C.un, .int .i64 C.ac, .int .i64 C.sp, .int .i64 C.tu, .int .i64 C.ho, .int .i64 C.qu, .int .i64 C.re, .int .i64 C.bu, .bool C.back, g, .pointer (some ⟨kp, 0, none⟩), .pointer (some ⟨tp, 0, none⟩), .int .i64 r, .map (some ms), .map (some mw), .map (some mp), .map (some mt), .pointer (some ⟨hp, 0, none⟩)]

structure Bg (G : Hp) (q : Par) (sp : Nat) (kp ms mw mp mt hp : Nat) : Prop where
  ex : ∃ (ab : Option Addr) (cb : Nat) (ap : Option Addr) (cp : Nat) (ar : Option Addr) (cr : Nat) (az : Option Addr) (cs : Nat) (gp tp : Nat), ∀ h, Dis G h →
    CA G h q.C ab cb ap cp ar cr az cs ∧ (∀ j, j < 25 → cellIn G h ⟨sp, j, none⟩ = (searchL q.C (.slice ab q.C.bl.length cb) (.slice ap q.C.po.length cp) (.slice ar q.C.ro.length cr) (.slice az q.C.st.length cs) (.pointer (some ⟨gp, 0, none⟩)) kp tp q.r ms mw mp mt hp)[j]?) ∧
    GS G h (.pointer (some ⟨gp, 0, none⟩)) q.w q.k q.f ∧ Rv.TSee G h tp q.T
  st : Steps G
  gt : GoodT q.T
  fw : Few q.T 100

structure BC (G h : Hp) (sp : Nat) (g : Value) (kp tp : Nat) (r : Int) (ms mw mp mt hp : Nat) : Prop where
  g : cellIn G h ⟨sp, 16, none⟩ = some g
  k : cellIn G h ⟨sp, 17, none⟩ = some (.pointer (some ⟨kp, 0, none⟩))
  t : cellIn G h ⟨sp, 18, none⟩ = some (.pointer (some ⟨tp, 0, none⟩))
  r : cellIn G h ⟨sp, 19, none⟩ = some (.int .i64 r)
  ms : cellIn G h ⟨sp, 20, none⟩ = some (.map (some ms))
  mw : cellIn G h ⟨sp, 21, none⟩ = some (.map (some mw))
  mp : cellIn G h ⟨sp, 22, none⟩ = some (.map (some mp))
  mt : cellIn G h ⟨sp, 23, none⟩ = some (.map (some mt))
  hp : cellIn G h ⟨sp, 24, none⟩ = some (.pointer (some ⟨hp, 0, none⟩))

theorem bc_of {G h : Hp} {C : Conf} {vb vp vr vz g : Value} {sp kp tp : Nat} {r : Int} {ms mw mp mt hp : Nat} (c : ∀ j, j < 25 → cellIn G h ⟨sp, j, none⟩ = (searchL C vb vp vr vz g kp tp r ms mw mp mt hp)[j]?) : BC G h sp g kp tp r ms mw mp mt hp :=
  ⟨by rw [c _ (by decide)]; rfl, by rw [c _ (by decide)]; rfl, by rw [c _ (by decide)]; rfl, by rw [c _ (by decide)]; rfl, by rw [c _ (by decide)]; rfl, by rw [c _ (by decide)]; rfl, by rw [c _ (by decide)]; rfl, by rw [c _ (by decide)]; rfl, by rw [c _ (by decide)]; rfl⟩

theorem sees_gnd {α : Type} {c : Cod α} {G a B h h' : Hp} {v : Value} {L : List α} (x : Sees c G B v L) (s : Sep [a, B] h) (d : Dis G h) (d' : Dis (HL.under G h a) h') : Sees c (HL.under G h a) h' v L := by
  obtain ⟨s', cap, e, hc, hcs⟩ := x
  refine ⟨s', cap, e, hc, hcs.imp id fun ⟨b, o, e2, hx⟩ => ⟨b, o, e2, fun i y hy j hj => ?_⟩⟩
  have := hx i y hy j hj
  rw [List.getElem?_eq_getElem (by rw [c.len]; exact hj)] at this ⊢
  exact under_cell2 s d d' this

theorem Bg.of {G a B h : Hp} {q : Par} {sp kp ms mw mp mt hp : Nat} {ab : Option Addr} {cb : Nat} {ap : Option Addr} {cp : Nat} {ar : Option Addr} {cr : Nat} {az : Option Addr} {cs gp tp : Nat} (s : Sep [a, B] h) (d : Dis G h)
    (ca : CA G B q.C ab cb ap cp ar cr az cs) (hB : ∀ j, j < 25 → cellIn G B ⟨sp, j, none⟩ = (searchL q.C (.slice ab q.C.bl.length cb) (.slice ap q.C.po.length cp) (.slice ar q.C.ro.length cr) (.slice az q.C.st.length cs) (.pointer (some ⟨gp, 0, none⟩)) kp tp q.r ms mw mp mt hp)[j]?)
    (gs : GS G B (.pointer (some ⟨gp, 0, none⟩)) q.w q.k q.f) (ts : Rv.TSee G B tp q.T) (st : Steps G) (gt : GoodT q.T) (fw : Few q.T 100) : Bg (HL.under G h a) q sp kp ms mw mp mt hp := by
  refine ⟨⟨ab, cb, ap, cp, ar, cr, az, cs, gp, tp, fun h' d' => ⟨?_, fun j hj => ?_, ?_, ?_⟩⟩, st.under d (s.in 0 rfl), gt, fw⟩
  · obtain ⟨c1, c2, c3, raw, c4, c5⟩ := ca
    exact ⟨sees_gnd c1 s d d', sees_gnd c2 s d d', sees_gnd c3 s d d', raw, sees_gnd c4 s d d', fun i r s' h1 h2 => let ⟨x, y, z⟩ := c5 i r s' h1 h2; ⟨x, y, sees_gnd z s d d'⟩⟩
  · have := hB j hj
    rw [List.getElem?_eq_getElem (by simpa [searchL] using hj)] at this ⊢
    exact under_cell2 s d d' this
  · obtain ⟨⟨gp', kb, e, h1, h2⟩, x1, x2, x3, x4⟩ := gs
    refine ⟨⟨gp', kb, e, fun j hj => ?_, fun n x hx => under_cell2 s d d' (h2 n x hx)⟩, x1, x2, x3, x4⟩
    have := h1 j hj
    rw [List.getElem?_eq_getElem (by simpa using hj)] at this ⊢
    exact under_cell2 s d d' this
  · obtain ⟨rb, e1, e2⟩ := ts
    exact ⟨rb, under_cell2 s d d' e1, fun c L hc => let ⟨x, cap, e3, e4⟩ := e2 c L hc; ⟨x, cap, under_cell2 s d d' e3, sees_gnd e4 s d d'⟩⟩

theorem un3r : P_.underlying 3 = some (.int .i64) := by kernel_rfl
theorem unms : P_.underlying 128 = some (.map 3 142) := by kernel_rfl
theorem unmw : P_.underlying 129 = some (.map 3 229) := by kernel_rfl
theorem unmp : P_.underlying 130 = some (.map 3 30) := by kernel_rfl
theorem zeros : zeroOf P_ 142 = some (.slice none 0 0) := by kernel_rfl
theorem zerow : zeroOf P_ 229 = some (.slice none 0 0) := by kernel_rfl
theorem zerop : zeroOf P_ 30 = some (.agg #[.int .i64 0, .int .i64 0, .bool false]) := by kernel_rfl

theorem in_pb {w k : Nat} (hw : w ≤ 16) (hk : k ≤ 16) {p : Pose} (h : inW w k (p.x, p.y) = true) : PB p := by
  obtain ⟨a1, a2, a3, a4⟩ := inW_iff.1 h
  simp only at a1 a2 a3 a4
  exact ⟨⟨by omega, by omega⟩, ⟨by omega, by omega⟩⟩

theorem number_spec {G h a : Hp} {R : List Hp} {q : Par} {sp kp ms mw mp mt hp : Nat} {c : Cs} {p : Pose} (ch : Ch q a ms mw mp c) (bg : Bg G q sp kp ms mw mp mt hp) (s : Sep (a :: R) h) (hpf : fitsW q.w q.k q.f p = true) :
    HCalls P_ G 115 #[.pointer (some ⟨sp, 0, none⟩), poseV p] h (fun u h' => u = .int .i64 (numP q.w q.k p) ∧ ∃ a' c', Ch q a' ms mw mp c' ∧ c.le c' ∧ c'.L1 = c.L1 ∧ c'.L2 = c.L2 ∧ c'.P = c.P ∧ mget c'.L3 (numP q.w q.k p) = some (poseV p) ∧ Sep (a' :: R) h' ∧ Dis G h') := by
  obtain ⟨ab, cb, ap, cp, ar, cr, az, cs, gp, tp, hbg⟩ := bg.ex
  refine HCalls.assume fun d => enter115 (by simp) ?_
  have hin := fits_in hpf
  unfold S115
  simp only [bRtR]
  intro x hx gx
  have s1 := s.past (o := .cells #[.int .i64 p.x, .int .i64 p.y, .bool p.d] 30 (0, 0)) hx
  have d1 := d.set (o := .cells #[.int .i64 p.x, .int .i64 p.y, .bool p.d] 30 (0, 0)) gx
  have hxs : (h.set x (.cells #[.int .i64 p.x, .int .i64 p.y, .bool p.d] 30 (0, 0))) x = some (.cells #[.int .i64 p.x, .int .i64 p.y, .bool p.d] 30 (0, 0)) := set_self
  generalize Hp.set h x _ = h1 at s1 d1 hxs ⊢
  have cx : ∀ k, cellIn G h1 ⟨x, k, none⟩ = _ := fun k => cell_of (look_own hxs)
  obtain ⟨ca, hB, gs, ts⟩ := hbg h1 d1
  have b := bc_of hB
  try simp only [bRtR, cx, b.g]
  refine (num_spec (c := (p.x, p.y)) gs).mono ?_
  rintro _ h1 ⟨rfl, rfl⟩
  have nb := numI_bd (c := (p.x, p.y)) gs.w2 gs.k2
  try simp (disch := first | exact nq rfl | omega) only [bRtR, cx]
  obtain ⟨o1, o2, o3, m1, m2, m3, sa⟩ := ch.sep
  have hmp : h1 mp = some o3 := (s1.open sa).at 2 rfl set_self
  have k1 : ∀ (r' : Rg) (n : Int), n = numP q.w q.k p → r' 0 = .pointer (some ⟨sp, 0, none⟩) → r' 3 = .pointer (some ⟨x, 0, none⟩) → r' 5 = .int .i64 n → S115_k1 G (retK P_ G [.tmp 4] fun u h' => u = .int .i64 (numP q.w q.k p) ∧ ∃ a' c', Ch q a' ms mw mp c' ∧ c.le c' ∧ c'.L1 = c.L1 ∧ c'.L2 = c.L2 ∧ c'.P = c.P ∧ mget c'.L3 (numP q.w q.k p) = some (poseV p) ∧ Sep (a' :: R) h' ∧ Dis G h') r' h1 := by
    intro r' n hn e0 e3 e5
    unfold S115_k1
    simp only [bRtR, e0, e3, e5, b.mp, cx]
    refine mapput_int unmp un3r hmp m3 fun o' mo' => ?_
    try simp (disch := first | exact nq rfl | omega) only [bRtR, Nat.reduceAdd, Nat.reduceMul, e5]
    have s2 := ((s1.open sa).pick 2 rfl rfl).put (o := o') set_self
    rw [set_set] at s2
    have d2 := d1.set (o := o') (d1 _ _ hmp)
    generalize Hp.set h1 mp _ = h2 at s2 d2 ⊢
    obtain ⟨a', s3, t3⟩ := Sep.pack [noHp.set mp o', noHp.set ms o1, noHp.set mw o2, c.P] s2
    subst hn
    refine ⟨rfl, a', ⟨c.L1, c.L2, mput c.L3 (numP q.w q.k p) (poseV p), c.P⟩, ⟨⟨o1, o2, o', m1, m2, mo', t3.sel [1, 2, 0, 3] (by decide) rfl⟩, ch.m1, ch.m2, ?_⟩, ⟨.refl _, .refl _, ?_, .refl _⟩, rfl, rfl, rfl, ?_, s3, d2⟩
    · intro n v hv
      rw [mget_put] at hv
      split at hv
      · rename_i e
        cases hv
        exact ⟨p, hpf, e, rfl⟩
      · exact ch.m3 n v hv
    · intro n v hv
      rw [mget_put]
      split
      · rename_i e
        obtain ⟨p', f', n', rfl⟩ := ch.m3 n v hv
        rw [numP_inj hpf f' (e.trans n'.symm)]
      · exact hv
    · rw [mget_put, if_pos rfl]
  cases hd : p.d with
  | true =>
    rw [hd] at cx
    try simp only [bRtR]
    refine k1 _ (2 * numI q.w q.k (p.x, p.y) + 1) (by simp [numP, hd]) (by simp (disch := first | exact nq rfl | omega) only [bRtR]) (by simp (disch := first | exact nq rfl | omega) only [bRtR]) (by simp only [bRtR])
  | false =>
    rw [hd] at cx
    try simp only [bRtR]
    refine k1 _ (2 * numI q.w q.k (p.x, p.y)) (by simp [numP, hd]) (by simp (disch := first | exact nq rfl | omega) only [bRtR]) (by simp (disch := first | exact nq rfl | omega) only [bRtR]) (by simp (disch := first | exact nq rfl | omega) only [bRtR])
end Go.Proofs.YtfflipnhffknnaaGreatDoor
end

section
/- The search: a pose's stretches, kept. -/
set_option linter.unusedSimpArgs false
set_option linter.unusedVariables false
set_option maxRecDepth 100000
namespace Go.Proofs.YtfflipnhffknnaaGreatDoor
open Go Go.HL Go.Proofs.Resv Go.Proofs.Srch

def bRtRb := jq (jq (jq (jq (jq @Bool.not_false @Bool.not_true) (jq @HL.cond_false (jq @HL.cond_true @List.getElem?_cons_succ.{0}))) (jq (jq @List.getElem?_cons_zero.{0} @Nat.add_zero) (jq @Nat.zero_add (jq @Option.some.injEq.{0} @add_mk)))) (jq (jq (jq @box_new @cell_set_self) (jq @cells_agg (jq @cf108 @cf115))) (jq (jq @cf89 (jq @ex0 @ex1)) (jq @exists_eq_left'.{1} (jq @fa134_1p @fa134_3p))))) (jq (jq (jq (jq @fa134_4p @fa134_5) (jq @ld128 (jq @ld30 @ld30p))) (jq (jq @ld34p @ld3p) (jq @ld68p (jq @opH_nil @opH_su)))) (jq (jq (jq @opH_sv @pureW_nil) (jq @pureW_sv (jq @regs0 @regs1))) (jq (jq @resL_nil1 (jq @resL_tmp @retK_ret)) (jq @un_not (jq @upd_eq @upd_ne)))))
theorem _root_.Go.HL.Sep.fr (A : List Hp) {R A' : List Hp} {h : Hp} (s : HL.Sep (A ++ R) h) (is : List Nat) (nd : is.Nodup) (e : is.filterMap (fun i => A[i]?) = A') : HL.Sep (A' ++ R) h := by
  have sub : ∀ x ∈ A', x ∈ A := fun x hx => by
    rw [← e, List.mem_filterMap] at hx
    obtain ⟨i, _, hi⟩ := hx
    exact List.mem_of_getElem? hi
  have hp := List.pairwise_append.1 s.2
  have sA : HL.Sep A h := ⟨fun x hx => s.1 x (List.mem_append_left _ hx), hp.1⟩
  have sA' := sA.sel is nd e
  refine ⟨fun x hx => ?_, List.pairwise_append.2 ⟨sA'.2, hp.2.1, fun x hx y hy => hp.2.2 x (sub x hx) y hy⟩⟩
  rcases List.mem_append.1 hx with h1 | h1
  · exact sA'.1 x h1
  · exact s.1 x (List.mem_append_right _ h1)

theorem Ch.look1 {q : Par} {a : Hp} {ms mw mp : Nat} {c : Cs} (ch : Ch q a ms mw mp c) {p : Pose} {v : Value} (hp : fitsW q.w q.k q.f p = true) (h : mget c.L1 (numP q.w q.k p) = some v) : Slc spanC 151 c.P v (spansP q.w q.k q.T q.r p) := by
  obtain ⟨p', f', n', s'⟩ := ch.m1 _ _ h
  rw [numP_inj f' hp n'] at s'
  exact s'
theorem Ch.look2 {q : Par} {a : Hp} {ms mw mp : Nat} {c : Cs} (ch : Ch q a ms mw mp c) {p : Pose} {v : Value} (hp : fitsW q.w q.k q.f p = true) (h : mget c.L2 (numP q.w q.k p) = some v) : WayS c.P v (waysP q.C q.w q.k q.f q.T q.r p) := by
  obtain ⟨p', f', n', s'⟩ := ch.m2 _ _ h
  rw [numP_inj f' hp n'] at s'
  exact s'
theorem Ch.pool {q : Par} {a : Hp} {ms mw mp : Nat} {c : Cs} (ch : Ch q a ms mw mp c) : c.P.le a := by
  obtain ⟨o1, o2, o3, _, _, _, s⟩ := ch.sep
  exact s.in 3 rfl

theorem Ch.put1 {q : Par} {ms mw mp : Nat} {c : Cs} {o2 o3 o' : Obj} {ip b : Hp} {p : Pose} {v : Value} (m1 : ∀ n v, mget c.L1 n = some v → ∃ p, fitsW q.w q.k q.f p = true ∧ numP q.w q.k p = n ∧ Slc spanC 151 c.P v (spansP q.w q.k q.T q.r p))
    (ch : Ch q b ms mw mp c) (k1 : MapO o' (mput c.L1 (numP q.w q.k p) v)) (k2 : MapO o2 c.L2) (k3 : MapO o3 c.L3) {h : Hp} {R : List Hp} (s : HL.Sep (noHp.set ms o' :: noHp.set mw o2 :: noHp.set mp o3 :: c.P :: ip :: R) h) (hp : fitsW q.w q.k q.f p = true) (hn : mget c.L1 (numP q.w q.k p) = none)
    (sl : Slc spanC 151 ip v (spansP q.w q.k q.T q.r p)) : ∃ a' c', Ch q a' ms mw mp c' ∧ c.le c' ∧ mget c'.L1 (numP q.w q.k p) = some v ∧ c'.L2 = c.L2 ∧ c'.L3 = c.L3 ∧ HL.Sep (a' :: R) h := by
  obtain ⟨P', s1, t1⟩ := Sep.pack [ip, c.P] (R := noHp.set ms o' :: noHp.set mw o2 :: noHp.set mp o3 :: R) (Sep.fr (R := R) [noHp.set ms o', noHp.set mw o2, noHp.set mp o3, c.P, ip] s [4, 3, 0, 1, 2] (by decide) rfl)
  obtain ⟨a', s2, t2⟩ := Sep.pack [noHp.set ms o', noHp.set mw o2, noHp.set mp o3, P'] (R := R) (Sep.fr (R := R) [P', noHp.set ms o', noHp.set mw o2, noHp.set mp o3] s1 [1, 2, 3, 0] (by decide) rfl)
  refine ⟨a', ⟨mput c.L1 (numP q.w q.k p) v, c.L2, c.L3, P'⟩, ⟨⟨o', o2, o3, k1, k2, k3, t2⟩, ?_, ?_, ch.m3⟩, ⟨?_, .refl _, .refl _, t1.in 1 rfl⟩, by rw [mget_put, if_pos rfl], rfl, rfl, s2⟩
  · intro n u hu
    rw [mget_put] at hu
    split at hu
    · rename_i e
      cases hu
      exact ⟨p, hp, e, sl.le (t1.in 0 rfl)⟩
    · obtain ⟨p', f', n', s'⟩ := m1 n u hu
      exact ⟨p', f', n', s'.le (t1.in 1 rfl)⟩
  · intro n u hu
    obtain ⟨p', f', n', s'⟩ := ch.m2 n u hu
    exact ⟨p', f', n', s'.le (t1.in 1 rfl)⟩
  · intro n u hu
    rw [mget_put]
    split
    · rename_i e; rw [← e, hn] at hu; cases hu
    · exact hu

theorem stretches_spec {G h a : Hp} {R : List Hp} {q : Par} {sp kp ms mw mp mt hp : Nat} {c : Cs} {p : Pose} (ch : Ch q a ms mw mp c) (bg : Bg G q sp kp ms mw mp mt hp) (s : HL.Sep (a :: R) h) (hpf : fitsW q.w q.k q.f p = true) :
    HCalls P_ G 66 #[.pointer (some ⟨sp, 0, none⟩), poseV p] h (fun u h' => ∃ a' c', Ch q a' ms mw mp c' ∧ c.le c' ∧ c'.L2 = c.L2 ∧ mget c'.L1 (numP q.w q.k p) = some u ∧ mget c'.L3 (numP q.w q.k p) = some (poseV p) ∧ HL.Sep (a' :: R) h' ∧ Dis G h') := by
  obtain ⟨ab, cb, ap, cp, ar, cr, az, cs, gp, tp, hbg⟩ := id bg.ex
  refine HCalls.assume fun d => enter66 (by simp) ?_
  have hin := fits_in hpf
  obtain ⟨_, _, gs, _⟩ := hbg h d
  have hpb := in_pb gs.w2 gs.k2 hin
  unfold S66
  simp only [bRtRb]
  intro x hx gx
  have s1 := (s.new (o := .cells #[.int .i64 p.x, .int .i64 p.y, .bool p.d] 30 (0, 0)) hx).swap
  have d1 := d.set (o := .cells #[.int .i64 p.x, .int .i64 p.y, .bool p.d] 30 (0, 0)) gx
  generalize Hp.set h x _ = h1 at s1 d1 ⊢
  have cx : ∀ k, cellIn G h1 ⟨x, k, none⟩ = _ := fun k => cell_of (look_own (s1.at 1 rfl set_self))
  try simp (disch := first | exact nq rfl | omega) only [bRtRb, Nat.reduceAdd, Nat.reduceMul, cx]
  refine (number_spec ch bg s1 hpf).mono ?_
  rintro _ h2 ⟨rfl, a2, c2, ch2, cl2, e1, e2, e3, hm3, s2, d2⟩
  obtain ⟨ca2, hB2, gs2, ts2⟩ := hbg h2 d2
  have b2 := bc_of hB2
  obtain ⟨o1, o2, o3, m1, m2, m3, sa⟩ := id ch2.sep
  have hms : h2 ms = some o1 := (s2.open sa).at 0 rfl set_self
  try simp only [bRtRb, b2.ms]
  rw [lookup2_int unms un3r zeros (look_own hms) m1]
  cases hg : mget c2.L1 (numP q.w q.k p) with
  | some v =>
    try simp only [bRtRb, Option.getD_some, Option.isSome_some]
    unfold S66_k1
    try simp (disch := first | exact nq rfl | omega) only [bRtRb]
    exact ⟨a2, c2, ch2, cl2, e2, hg, hm3, s2.swap.drop, d2⟩
  | none =>
    have cx2 : ∀ k, cellIn G h2 ⟨x, k, none⟩ = _ := fun k => cell_of (look_own (s2.at 1 rfl set_self))
    try simp only [bRtRb, Option.getD_none, Option.isSome_none, b2.g, b2.t, b2.r, cx2]
    refine (cells_spec (p := p) bg.st hpb).mono ?_
    rintro _ h3 ⟨b, rfl, hb, gb, rfl⟩
    have s3 := s2.past (o := .cells #[.int .i64 p.x, .int .i64 p.y, .int .i64 (east p).1, .int .i64 (east p).2] 28 (0, 0)) hb
    have d3 := d2.set (o := .cells #[.int .i64 p.x, .int .i64 p.y, .int .i64 (east p).1, .int .i64 (east p).2] 28 (0, 0)) gb
    have hbs : (h2.set b (.cells #[.int .i64 p.x, .int .i64 p.y, .int .i64 (east p).1, .int .i64 (east p).2] 28 (0, 0))) b = some (.cells #[.int .i64 p.x, .int .i64 p.y, .int .i64 (east p).1, .int .i64 (east p).2] 28 (0, 0)) := set_self
    refine ⟨le_set hb, ?_⟩
    generalize Hp.set h2 b _ = h3 at s3 d3 hbs ⊢
    have sc : Sees cellC G h3 (.slice (some ⟨b, 0, none⟩) (cellsP p).length 2) (cellsP p) := Sees.row hbs (by simp [cellC, Cod.rows, cellsP]) (by simp [cellsP])
    refine (free_spec (bb := 100) (hbg h3 d3).2.2.1 (hbg h3 d3).2.2.2 bg.gt bg.fw (by omega) sc (by simp [cellsP])).mono ?_
    rintro u h4 ⟨ip, sl, s4, d4⟩
    have s5 := (s4.swap.open s3).perm (List.perm_append_singleton _ _)
    have s6 := (Sep.fr [ip, a2] s5 [1, 0] (by decide) rfl).open sa
    have b4 := bc_of (hbg h4 d4).2.1
    have hms4 : h4 ms = some o1 := s6.at 0 rfl set_self
    obtain ⟨su, cu, rfl, _⟩ := sl.len (by decide)
    try simp only [bRtRb, b4.ms]
    refine mapput_int unms un3r hms4 m1 fun o' mo' => ?_
    try simp (disch := first | exact nq rfl | omega) only [bRtRb, Nat.reduceAdd, Nat.reduceMul]
    have s7 := s6.put (o := o') set_self
    rw [set_set] at s7
    have d7 := d4.set (o := o') (d4 _ _ hms4)
    generalize Hp.set h4 ms _ = h7 at s7 d7 ⊢
    unfold S66_k1
    try simp (disch := first | exact nq rfl | omega) only [bRtRb]
    obtain ⟨a8, c8, ch8, cl8, g8, l28, l38, s8⟩ := Ch.put1 ch2.m1 ch2 mo' m2 m3 s7 hpf hg sl
    exact ⟨a8, c8, ch8, cl2.trans cl8, by rw [l28, e2], g8, by rw [l38]; exact hm3, s8.swap.drop, d7⟩
end Go.Proofs.YtfflipnhffknnaaGreatDoor
end
