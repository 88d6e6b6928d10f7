/- Texts of the proof, one behind the other. -/
import Derived.Test.YtfflipnhffknnaaGreatDoorM1
import Derived.Test.YtfflipnhffknnaaGreatDoorH4
import Derived.Test.YtfflipnhffknnaaGreatDoorH3
set_option linter.defProp false
section
/- The robots' times: how far a robot brakes, the next speed. -/
set_option linter.unusedSimpArgs false
set_option linter.unusedVariables false
set_option maxRecDepth 100000
namespace Go.Proofs.YtfflipnhffknnaaGreatDoor
open Go Go.HL Go.Proofs.Resv Go.Proofs.Srch

def bRtK := jq (jq (jq (jq (jq @HL.cond_false @HL.cond_true) (jq @Nat.zero_add (jq @Option.some.injEq.{0} @add_mk))) (jq (jq @bin_add @bin_gtr) (jq @bin_lss (jq @bin_sub @bin_subp)))) (jq (jq (jq @blockK_exit @cf187) (jq @eq50s (jq @exists_eq_left'.{1} @fa173_1))) (jq (jq @fa173_1p (jq @fa173_2p @gd_ff)) (jq @gd_ft (jq @gd_tt @if_true.{1}))))) (jq (jq (jq (jq @if_true.{0} @ld3) (jq @ld3p (jq @opH_nil @opH_sv))) (jq (jq @pick_f @pick_t) (jq @pureW_nil (jq @pureW_sv @regs0)))) (jq (jq (jq @regs1 @regs2) (jq @regs3 (jq @resL_nil1 @resL_tmp))) (jq (jq @retK_ret (jq @thenK_exit @thenK_normal)) (jq @upd_eq (jq @upd_ne @wrap_in)))))
def KR (G h : Hp) (kp : Nat) (U A V : Int) : Prop := ∀ j, j < 3 → cellIn G h ⟨kp, j, none⟩ = [Value.int .i64 U, .int .i64 A, .int .i64 V][j]?

structure KB (U A V : Int) : Prop where
  u1 : 1 ≤ U
  u2 : U ≤ 1000
  a1 : 1 ≤ A
  a2 : A ≤ 1000
  v1 : 1 ≤ V
  v2 : V ≤ 1000

theorem brk_bd {a : Int} (ha : 1 ≤ a) : ∀ (n : Nat) (v : Int), v ≤ 1000 → 0 ≤ brk a n v ∧ brk a n v ≤ n * 1000
  | 0, v, _ => by simp [brk]
  | n + 1, v, h => by
    unfold brk
    split
    · have := brk_bd ha n (v - a) (by omega); omega
    · omega
theorem brk_neg {a : Int} : ∀ (n : Nat) {v : Int}, v ≤ 0 → brk a n v = 0
  | 0, v, _ => rfl
  | n + 1, v, h => by unfold brk; rw [if_neg (by omega)]
theorem brake_bd {a s : Int} (ha : 1 ≤ a) (hs : s ≤ 1000) : 0 ≤ brakeI a s ∧ brakeI a s ≤ 1000000 := by
  unfold brakeI
  have := brk_bd ha s.toNat (s - a) (by omega)
  omega

theorem minE {a b : Int} : (if b < a then b else a) = min a b := by split <;> omega
theorem maxE {a b : Int} : (if b > a then b else a) = max a b := by split <;> omega
theorem min2p {P : Program} {G h : Hp} {a b : Int} {K : Value → Prop} : pw P G h (Builtin.min_ #[3, 3] 3 #[.int .i64 a, .int .i64 b]) K = K (.int .i64 (min a b)) := by rw [← minE]; rfl
theorem max2p {P : Program} {G h : Hp} {a b : Int} {K : Value → Prop} : pw P G h (Builtin.max_ #[3, 3] 3 #[.int .i64 a, .int .i64 b]) K = K (.int .i64 (max a b)) := by rw [← maxE]; rfl
theorem max2w {P : Program} {G h : Hp} {a b : Int} {K : VK} : wpH P G (Builtin.max_ #[3, 3] 3 #[.int .i64 a, .int .i64 b]) h K = K (.int .i64 (max a b)) h := by rw [← maxE]; rfl
theorem min3w {P : Program} {G h : Hp} {a b c : Int} {K : VK} : wpH P G (Builtin.min_ #[3, 3, 3] 3 #[.int .i64 a, .int .i64 b, .int .i64 c]) h K = K (.int .i64 (min (min a b) c)) h := by rw [← minE, ← minE]; rfl

theorem brake_spec {G h : Hp} {kp : Nat} {U A V q : Int} (kr : KR G h kp U A V) (kb : KB U A V) (h0 : 0 ≤ q) (h1 : q ≤ V) :
    HCalls P_ G 187 #[.pointer (some ⟨kp, 0, none⟩), .int .i64 q] h (fun v h' => v = .int .i64 (brakeI A q) ∧ h' = h) := by
  have c1 : cellIn G h ⟨kp, 1, none⟩ = some (.int .i64 A) := kr 1 (by decide)
  have c2 : cellIn G h ⟨kp, 2, none⟩ = some (.int .i64 V) := kr 2 (by decide)
  obtain ⟨ku1, ku2, ka1, ka2, kv1, kv2⟩ := kb
  refine quietly (enter187 (by simp) ?_)
  unfold S187
  simp only [bRtK, c1]
  rw [dec_f (show ¬ A < 1 by omega)]
  simp only [bRtK]
  unfold S187_k1
  simp (disch := first | exact nq rfl | omega) only [bRtK, c1, c2, min2p, max2p]
  rw [show max 0 (min q V) = q by omega]
  have hbd := brake_bd ka1 (show q ≤ 1000 by omega)
  refine loop_I (fun m r h' => h' = h ∧ r 0 = .pointer (some ⟨kp, 0, none⟩) ∧ ∃ s v : Int, r 5 = .int .i64 s ∧ r 6 = .int .i64 v ∧ v.toNat = m ∧ v ≤ 1000 ∧ -1000 ≤ v ∧ 0 ≤ s ∧ ∃ n : Nat, v ≤ n ∧ s + brk A n v = brakeI A q) ?_ (m := (q - A).toNat)
    ⟨rfl, by simp (disch := first | exact nq rfl | omega) only [bRtK], 0, q - A, by simp (disch := first | exact nq rfl | omega) only [bRtK], by simp only [bRtK], rfl, by omega, by omega, by omega, q.toNat, by omega, by unfold brakeI; omega⟩
  rintro m r h' ⟨rfl, g0, s, v, g5, g6, rfl, hv, hv2, hs, n, hn, hsum⟩ X hX
  unfold S187_l3
  simp only [bRtK, g6]
  by_cases hp : v > 0
  · rw [dec_t hp]
    obtain ⟨n, rfl⟩ : ∃ k, n = k + 1 := ⟨n - 1, by omega⟩
    unfold brk at hsum
    rw [if_pos hp] at hsum
    have hb := brk_bd ka1 n (v - A) (by omega)
    simp only [bRtK]
    unfold S187_l3_k4
    simp (disch := first | exact nq rfl | omega) only [bRtK, g5, g6]
    unfold S187_l3_k5
    simp (disch := first | exact nq rfl | omega) only [bRtK, g0, g6, c1]
    refine hX (v - A).toNat _ _ (by omega) ⟨rfl, by simp (disch := first | exact nq rfl | omega) only [bRtK, g0], s + v, v - A, by simp (disch := first | exact nq rfl | omega) only [bRtK], by simp only [bRtK], rfl, by omega, by omega, by omega, n, by omega, by omega⟩
  · rw [dec_f hp]
    rw [brk_neg n (by omega)] at hsum
    simp only [bRtK]
    unfold S187_k2
    simp (disch := first | exact nq rfl | omega) only [bRtK, g5]
    exact ⟨by rw [← hsum]; simp, Hp.le.refl _⟩

theorem next_spec {G h : Hp} {kp : Nat} {U A V x s v : Int} (kr : KR G h kp U A V) (kb : KB U A V) (hx1 : 1 ≤ x) (hx2 : x ≤ 100000) (hs : 0 ≤ s) (hs2 : s ≤ 1000) (hv1 : 1 ≤ v) (hv2 : v ≤ V) :
    HCalls P_ G 170 #[.pointer (some ⟨kp, 0, none⟩), .int .i64 x, .int .i64 s, .int .i64 v] h (fun u h' => u = .int .i64 (nextI A x s v) ∧ h' = h) := by
  have c1 : cellIn G h ⟨kp, 1, none⟩ = some (.int .i64 A) := kr 1 (by decide)
  have kb' := kb
  obtain ⟨ku1, ku2, ka1, ka2, kv1, kv2⟩ := kb
  refine quietly (enter170 (by simp) ?_)
  unfold S170
  simp (disch := first | exact nq rfl | omega) only [bRtK, c1, min3w]
  refine loop_I (fun m r h' => h' = h ∧ r 0 = .pointer (some ⟨kp, 0, none⟩) ∧ r 1 = .int .i64 x ∧ ∃ q : Int, r 9 = .int .i64 q ∧ q.toNat = m ∧ q ≤ V ∧ 1 ≤ q ∧ ∃ n : Nat, q ≤ n ∧ dq A x n q = nextI A x s v) ?_ (m := (min (min (s + A) v) x).toNat)
    ⟨rfl, by simp (disch := first | exact nq rfl | omega) only [bRtK], by simp (disch := first | exact nq rfl | omega) only [bRtK], min (min (s + A) v) x, by simp only [bRtK], rfl, by omega, by omega, (min (min (s + A) v) x).toNat, by omega, rfl⟩
  rintro m r h' ⟨rfl, g0, g1, q, g9, rfl, hq, hq1, n, hn, hd⟩ X hX
  unfold S170_l2
  simp only [bRtK, g0, g1, g9]
  obtain ⟨n, rfl⟩ : ∃ k, n = k + 1 := ⟨n - 1, by omega⟩
  unfold dq at hd
  by_cases hp : q > 1
  · rw [dec_t hp]
    simp (disch := first | exact nq rfl | omega) only [bRtK]
    refine (brake_spec kr kb' (by omega) hq).mono ?_
    rintro _ _ ⟨rfl, rfl⟩
    have hbd := brake_bd ka1 (show q ≤ 1000 by omega)
    simp only [bRtK]
    refine cond_dec (fun hb => ?_) (fun hb => ?_)
    · rw [if_pos ⟨hp, hb⟩] at hd
      unfold S170_l2_k3
      simp (disch := first | exact nq rfl | omega) only [bRtK, g9]
      refine hX (q - 1).toNat _ _ (by omega) ⟨rfl, by simp (disch := first | exact nq rfl | omega) only [bRtK, g0], by simp (disch := first | exact nq rfl | omega) only [bRtK, g1], q - 1, by simp only [bRtK], rfl, by omega, by omega, n, by omega, hd⟩
    · rw [if_neg (by omega)] at hd
      unfold S170_k1
      simp (disch := first | exact nq rfl | omega) only [bRtK, g9]
      exact ⟨by rw [hd], Hp.le.refl _⟩
  · rw [dec_f hp]
    rw [if_neg (by omega)] at hd
    simp only [bRtK]
    unfold S170_k1
    simp (disch := first | exact nq rfl | omega) only [bRtK, g9]
    exact ⟨by rw [hd], Hp.le.refl _⟩
end Go.Proofs.YtfflipnhffknnaaGreatDoor
end

section
/- The robots' times: the places of a run, told to any yield. -/
set_option linter.unusedSimpArgs false
set_option linter.unusedVariables false
set_option maxRecDepth 100000
namespace Go.Proofs.YtfflipnhffknnaaGreatDoor
open Go Go.HL Go.Proofs.Resv Go.Proofs.Srch

def bRtKb := jq (jq (jq (jq (jq @Bool.not_true @HL.cond_false) (jq @HL.cond_true (jq @List.getElem?_cons_zero.{0} @List.set_cons_zero.{0}))) (jq (jq @Nat.zero_add @Option.some.injEq.{0}) (jq @add_mk (jq @bin_add @bin_lss)))) (jq (jq (jq @bin_sub @blockK_exit) (jq @blockK_ret (jq @cell_set_self @cf170))) (jq (jq @exists_eq_left'.{1} @fa173_2) (jq @if_true.{1} (jq @if_true.{0} @ld3))))) (jq (jq (jq (jq @ld4 @ld50) (jq @opH_nil (jq @opH_su @opH_sv))) (jq (jq @regs0 @regs1) (jq @regs2 (jq @regs3 @regs4)))) (jq (jq (jq @regs5 @resL_nil0) (jq @retK_normal (jq @retK_ret @thenK_exit))) (jq (jq @thenK_normal (jq @thenK_ret @un_not)) (jq @upd_eq (jq @upd_ne @wrap_in)))))
def KH (a : Hp) (kp : Nat) (U A V : Int) : Prop := ∃ l e, a kp = some (.cells l e (0, 0)) ∧ ∀ j, j < 3 → l[j]? = [Value.int .i64 U, .int .i64 A, .int .i64 V][j]?

theorem KH.kr {G a h : Hp} {kp : Nat} {U A V : Int} (k : KH a kp U A V) (l : a.le h) : KR G h kp U A V := by
  obtain ⟨cs, e, h1, h2⟩ := k
  intro j hj
  rw [cell_of (look_own (l _ _ h1))]
  rw [Array.getElem?_toList]; exact h2 j hj

abbrev plA (p : Int) : Array Value := #[.int .i64 p]

def Yf (G : Hp) (y : Value) (Y : List Int → Hp → Prop) : Prop := ∀ (L : List Int) (m : Int) (a q h : Hp), L.length ≤ 16000 → Y L a → Sep [a, q] h → Dis G h →
    opH P_ G (xCallV y (plA m)) h (fun v h' => ∃ a', v = .bool true ∧ Sep [a', q] h' ∧ Dis G h' ∧ Y (L ++ [m]) a')

theorem steps1_spec {G h a q : Hp} {y : Value} {Y : List Int → Hp → Prop} {kb fb sb pb eb kp : Nat} {U A V e : Int}
    (yl : Yf G y Y) (yk : ∀ L a, Y L a → KH a kp U A V) (kbd : KB U A V) (ya : Y [] a)
    (s : Sep [a, noHp.set sb (.cells #[.int .i64 0] 3 (0, 0)), noHp.set pb (.cells #[.int .i64 0] 3 (0, 0)), q] h)
    (h1 : q kb = some (.cells #[.pointer (some ⟨kp, 0, none⟩)] 50 (0, 0))) (h2 : q fb = some (.cells #[.bool false] 4 (0, 0))) (h3 : q eb = some (.cells #[.int .i64 e] 3 (0, 0))) (he : 0 ≤ e) (he2 : e ≤ 16000) :
    HCalls P_ G 169 #[y, .pointer (some ⟨kb, 0, none⟩), .pointer (some ⟨fb, 0, none⟩), .pointer (some ⟨sb, 0, none⟩), .pointer (some ⟨pb, 0, none⟩), .pointer (some ⟨eb, 0, none⟩)] h
      (fun _ h' => ∃ a', Sep [a', q] h' ∧ Dis G h' ∧ Y (prof A V e e.toNat 0 0) a') := by
  obtain ⟨W, hW⟩ : ∃ W, W = prof A V e e.toNat 0 0 := ⟨_, rfl⟩
  rw [← hW]
  refine HCalls.assume fun d => enter169 (by simp) ?_
  have kb' := kbd
  obtain ⟨ku1, ku2, ka1, ka2, kv1, kv2⟩ := kbd
  have ck : cellIn G h ⟨kb, 0, none⟩ = some (.pointer (some ⟨kp, 0, none⟩)) := by rw [cell_of (look_own (s.at 3 rfl h1))]; rfl
  have cf : cellIn G h ⟨fb, 0, none⟩ = some (.bool false) := by rw [cell_of (look_own (s.at 3 rfl h2))]; rfl
  have c2 : cellIn G h ⟨kp, 2, none⟩ = some (.int .i64 V) := (yk _ _ ya).kr (s.in 0 rfl) 2 (by decide)
  unfold S169
  simp only [bRtKb, ck, cf, c2]
  unfold S169_k1
  refine loop_I (fun m r h' => ∃ (a' : Hp) (M : List Int) (p sp : Int), m = (e - p).toNat ∧ r 0 = y ∧ r 1 = .pointer (some ⟨kb, 0, none⟩) ∧ r 2 = .pointer (some ⟨fb, 0, none⟩) ∧ r 3 = .pointer (some ⟨sb, 0, none⟩) ∧ r 4 = .pointer (some ⟨pb, 0, none⟩) ∧ r 5 = .pointer (some ⟨eb, 0, none⟩) ∧ r 7 = .int .i64 V ∧
      Y M a' ∧ Sep [a', noHp.set sb (.cells #[.int .i64 sp] 3 (0, 0)), noHp.set pb (.cells #[.int .i64 p] 3 (0, 0)), q] h' ∧ Dis G h' ∧ 0 ≤ p ∧ 0 ≤ sp ∧ sp ≤ V ∧ p ≤ e ∧ ∃ n : Nat, e - p ≤ n ∧ M ++ prof A V e n p sp = W) ?_ (m := (e - 0).toNat)
    ⟨a, [], 0, 0, rfl, by simp (disch := first | exact nq rfl | omega) only [bRtKb], by simp (disch := first | exact nq rfl | omega) only [bRtKb], by simp (disch := first | exact nq rfl | omega) only [bRtKb], by simp (disch := first | exact nq rfl | omega) only [bRtKb], by simp (disch := first | exact nq rfl | omega) only [bRtKb], by simp (disch := first | exact nq rfl | omega) only [bRtKb], by simp (disch := first | exact nq rfl | omega) only [bRtKb], ya, s, d, by omega, by omega, by omega, by omega, e.toNat, by omega, hW.symm⟩
  rintro m r h' ⟨a', M, p, sp, rfl, g0, g1, g2, g3, g4, g5, g7, ya', s', d', hp0, hsp0, hspV, hpe, n, hn, hprof⟩ X hX
  have cp : cellIn G h' ⟨pb, 0, none⟩ = some (.int .i64 p) := by rw [cell_of (look_own (s'.at 2 rfl set_self))]; rfl
  have cs : cellIn G h' ⟨sb, 0, none⟩ = some (.int .i64 sp) := by rw [cell_of (look_own (s'.at 1 rfl set_self))]; rfl
  have ce : cellIn G h' ⟨eb, 0, none⟩ = some (.int .i64 e) := by rw [cell_of (look_own (s'.at 3 rfl h3))]; rfl
  have ck' : cellIn G h' ⟨kb, 0, none⟩ = some (.pointer (some ⟨kp, 0, none⟩)) := by rw [cell_of (look_own (s'.at 3 rfl h1))]; rfl
  unfold S169_l2
  simp only [bRtKb, g4, g5, cp, ce]
  by_cases hlt : p < e
  · rw [dec_t hlt]
    simp only [bRtKb]
    unfold S169_l2_k3
    simp (disch := first | exact nq rfl | omega) only [bRtKb, g1, g5, g4, g3, g7, ck', ce, cp, cs]
    refine (next_spec ((yk _ _ ya').kr (s'.in 0 rfl)) kb' (x := e - p) (s := sp) (v := V) (by omega) (by omega) hsp0 (by omega) (by omega) (by omega)).mono ?_
    rintro _ h' ⟨rfl, rfl⟩
    have hnx := next_bd ka1 (show 1 ≤ e - p by omega) hsp0 kv1
    obtain ⟨n, rfl⟩ : ∃ k, n = k + 1 := ⟨n - 1, by omega⟩
    unfold prof at hprof
    rw [if_pos hlt] at hprof
    generalize nextI A (e - p) sp V = x at *
    have hsb : h' sb = some (.cells [Value.int .i64 sp].toArray 3 (0, 0)) := s'.at 1 rfl set_self
    rw [store1_eq sz3 (v := .int .i64 x) rfl hsb (by simp)]
    try simp only [bRtKb, List.set_cons_zero]
    have s1 := (s'.pick 1 rfl rfl).put (o := .cells #[.int .i64 x] 3 (0, 0)) set_self
    rw [set_set] at s1
    have d1 : Dis G (h'.set sb (.cells #[.int .i64 x] 3 (0, 0))) := d'.set (d' _ _ hsb)
    generalize Hp.set h' sb _ = h4 at s1 d1 ⊢
    have cf4 : cellIn G h4 ⟨fb, 0, none⟩ = some (.bool false) := by rw [cell_of (look_own (s1.at 3 rfl h2))]; rfl
    simp only [bRtKb, g2, cf4]
    unfold S169_l2_k4
    have cp4 : cellIn G h4 ⟨pb, 0, none⟩ = some (.int .i64 p) := by rw [cell_of (look_own (s1.at 2 rfl set_self))]; rfl
    have cs4 : cellIn G h4 ⟨sb, 0, none⟩ = some (.int .i64 x) := by rw [cell_of (look_own (s1.at 0 rfl set_self))]; rfl
    have hpb : h4 pb = some (.cells [Value.int .i64 p].toArray 3 (0, 0)) := s1.at 2 rfl set_self
    simp (disch := first | exact nq rfl | omega) only [bRtKb, g3, g4, cp4, cs4]
    rw [store1_eq sz3 (v := .int .i64 (p + x)) rfl hpb (by simp)]
    try simp only [bRtKb, List.set_cons_zero]
    have s2 := (s1.pick 2 rfl rfl).put (o := .cells #[.int .i64 (p + x)] 3 (0, 0)) set_self
    rw [set_set] at s2
    have d2 : Dis G (h4.set pb (.cells #[.int .i64 (p + x)] 3 (0, 0))) := d1.set (d1 _ _ hpb)
    generalize Hp.set h4 pb _ = h5 at s2 d2 ⊢
    have cp5 : cellIn G h5 ⟨pb, 0, none⟩ = some (.int .i64 (p + x)) := by rw [cell_of (look_own (s2.at 0 rfl set_self))]; rfl
    try simp only [bRtKb, g4, cp5, g0]
    obtain ⟨Q, s3, sQ⟩ := sep_pack3 (s2.pick 2 rfl rfl).swap
    obtain ⟨Q, s3, sQ⟩ : ∃ b, Sep [a', b] h5 ∧ Sep [noHp.set pb (.cells #[.int .i64 (p + x)] 3 (0, 0)), noHp.set sb (.cells #[.int .i64 x] 3 (0, 0)), q] b := by
      obtain ⟨b, t1, t2⟩ := sep_pack3 (s2.sel (L' := [noHp.set pb (.cells #[.int .i64 (p + x)] 3 (0, 0)), noHp.set sb (.cells #[.int .i64 x] 3 (0, 0)), q, a']) [0, 1, 3, 2] (by decide) rfl)
      exact ⟨b, t1.swap, t2⟩
    refine opH_mono (fun v h6 H => ?_) (yl M (p + x) a' Q h5 (by have e1 := congrArg List.length hprof; have e2 := prof_len (a := A) (v := V) (e := e) e.toNat 0 0; rw [hW] at e1; simp only [List.length_append] at e1; omega) ya' s3 d2)
    obtain ⟨a6, rfl, s6, d6, z6⟩ := H
    have s7 : Sep [a6, noHp.set pb (.cells #[.int .i64 (p + x)] 3 (0, 0)), noHp.set sb (.cells #[.int .i64 x] 3 (0, 0)), q] h6 := by
      have := s6.split sQ
      simpa using this
    simp only [bRtKb]
    refine hX (e - (p + x)).toNat _ _ (by omega) ⟨a6, M ++ [p + x], p + x, x, rfl, by simp (disch := first | exact nq rfl | omega) only [bRtKb, g0], by simp (disch := first | exact nq rfl | omega) only [bRtKb, g1], by simp (disch := first | exact nq rfl | omega) only [bRtKb, g2], by simp (disch := first | exact nq rfl | omega) only [bRtKb, g3], by simp (disch := first | exact nq rfl | omega) only [bRtKb, g4], by simp (disch := first | exact nq rfl | omega) only [bRtKb, g5], by simp (disch := first | exact nq rfl | omega) only [bRtKb, g7], by simpa using z6, s7.sel [0, 2, 1, 3] (by decide) rfl, d6, by omega, by omega, by omega, by omega, n, by omega, ?_⟩
    rw [← hprof]
    simp
  · rw [dec_f hlt]
    simp only [bRtKb]
    have hz : prof A V e n p sp = [] := by
      cases n with
      | zero => rfl
      | succ n => unfold prof; rw [if_neg hlt]
    rw [hz, List.append_nil] at hprof
    exact ⟨a', s'.sel [0, 3] (by decide) rfl, d', by rw [← hprof]; exact ya'⟩
end Go.Proofs.YtfflipnhffknnaaGreatDoor
end

section
/- The robots' times: the places of a run, gathered in its row. -/
set_option linter.unusedSimpArgs false
set_option linter.unusedVariables false
set_option maxRecDepth 100000
namespace Go.Proofs.YtfflipnhffknnaaGreatDoor
open Go Go.HL Go.Proofs.Resv Go.Proofs.Srch

def bRtKc := jq (jq (jq (jq (jq @Nat.add_zero @Option.some.injEq.{0}) (jq @add_mk @bin_mulp)) (jq (jq @blockK_normal @box_new) (jq @bs168_1_0 (jq @cells_bool @cells_int)))) (jq (jq (jq @cells_ptr @cf152) (jq @exists_eq_left'.{1} @fa170_1p)) (jq (jq @fa173_0p @ld168p) (jq @ld261p (jq @ld3p @ld50p))))) (jq (jq (jq (jq @opH_su @opH_sv) (jq @pureW_nil @pureW_sv)) (jq (jq @regs0 @regs1) (jq @regs2 (jq @regs3 @regs4)))) (jq (jq (jq @resL_nil0 @resL_nil1) (jq @resL_tmp @retK_normal)) (jq (jq @retK_ret @true_and) (jq @upd_eq (jq @upd_ne @wrap_in)))))
theorem steps_spec {G h : Hp} {kp : Nat} {p s e : Int} : HCalls P_ G 152 #[.pointer (some ⟨kp, 0, none⟩), .int .i64 p, .int .i64 s, .int .i64 e, .bool false] h (fun u h' => ∃ b1 b2 b3 b4 b5,
    u = .func (.func 169) #[] #[.pointer (some ⟨b1, 0, none⟩), .pointer (some ⟨b2, 0, none⟩), .pointer (some ⟨b3, 0, none⟩), .pointer (some ⟨b4, 0, none⟩), .pointer (some ⟨b5, 0, none⟩)] ∧
    Sep [noHp.set b3 (.cells #[.int .i64 s] 3 (0, 0)), noHp.set b4 (.cells #[.int .i64 p] 3 (0, 0)), noHp.set b1 (.cells #[.pointer (some ⟨kp, 0, none⟩)] 50 (0, 0)), noHp.set b2 (.cells #[.bool false] 4 (0, 0)), noHp.set b5 (.cells #[.int .i64 e] 3 (0, 0)), h] h' ∧ Dis G h') := by
  refine HCalls.assume fun d => enter152 (by simp) ?_
  unfold S152
  simp only [bRtKc]
  intro x1 hx1 gx1 x2 hx2 gx2 x3 hx3 gx3 x4 hx4 gx4 x5 hx5 gx5
  have s1 := (Sep.one (h := h)).new (o := .cells #[.pointer (some ⟨kp, 0, none⟩)] 50 (0, 0)) hx1
  have s2 := s1.new (o := .cells #[.int .i64 p] 3 (0, 0)) hx2
  have s3 := s2.new (o := .cells #[.int .i64 s] 3 (0, 0)) hx3
  have s4 := s3.new (o := .cells #[.int .i64 e] 3 (0, 0)) hx4
  have s5 := s4.new (o := .cells #[.bool false] 4 (0, 0)) hx5
  exact ⟨x1, x5, x3, x2, x4, rfl, s5.sel [2, 3, 4, 0, 1, 5] (by decide) rfl, ((((d.set gx1).set gx2).set gx3).set gx4).set gx5⟩

theorem opE_steps {G : Hp} {a b c e f y : Value} {h : Hp} {K : VK} : opE P_ G (xCallV (.func (.func 169) #[] #[a, b, c, e, f]) #[y]) h K = HCalls P_ G 169 #[y, a, b, c, e, f] h K := by kernel_rfl

def KYi (kp o rb l : Nat) (ob : Obj) (l0 : List Value) (pb : Hp) (L : List Int) (b : Hp) : Prop := ∃ ip v, Slc icC 3 ip v L ∧ Sep [noHp.set kp (.cells (l0.set (o + 3) v).toArray 173 (0, 0)), ip, pb, noHp.set rb (.cells #[.pointer (some ⟨kp, o, none⟩)] 261 (0, 0)), noHp.set l ob] b

theorem eoint8 : ElemOk P_ 3 icC.n 8 := eo3

set_option maxHeartbeats 1000000 in
theorem places_yield {G : Hp} {y : Value} {kp o rb l : Nat} {oo : Option Exit → Obj} {l0 : List Value} {pb : Hp} {r : Rg} (gl : G l = none) (ho : ∀ e, isCells (oo e) = false) (hlen : o + 3 < l0.length) (g2 : r 2 = .pointer (some ⟨rb, 0, none⟩))
    (hy : ∀ (args : Array Value) (h1 : Hp) (K1 : Value → Hp → Prop), args.size = 1 → h1 l = some (oo none) →
      S151_a1 G (setR 23 #[12] args r) h1 (fun e r2 h2 => e = .normal ∧ h2 l = some (oo none) ∧ ∀ ob, isCells ob = false → S151_b1 G r2 (h2.set l ob) (fun e _ h3 => h3 l = some ob ∧ match e with
        | .normal => K1 (.bool true) (h3.set l (oo none))
        | .panic _ => False
        | .outgrown => False
        | e => K1 (.bool false) (h3.set l (oo (some e))))) →
      opH P_ G (xCallV y args) h1 K1) :
    Yf G y (KYi kp o rb l (oo none) l0 pb) := by
  rintro L p b q h hL ⟨ip, v, sl, sb⟩ s d
  have s1 : Sep [q, noHp.set kp (.cells (l0.set (o + 3) v).toArray 173 (0, 0)), ip, pb, noHp.set rb (.cells #[.pointer (some ⟨kp, o, none⟩)] 261 (0, 0)), noHp.set l (oo none)] h := by
    have := s.swap.split sb
    simpa using this
  refine hy (plA p) h _ rfl (s1.at 5 rfl set_self) ?_
  rw [setR1 (by decide)]
  unfold S151_a1
  refine ⟨rfl, s1.at 5 rfl set_self, fun ob hob => ?_⟩
  have s2 := (s1.pick 5 rfl rfl).put (o := ob) set_self
  rw [set_set] at s2
  have d2 : Dis G (h.set l ob) := d.set gl
  generalize Hp.set h l ob = h2 at s2 d2 ⊢
  obtain ⟨sa, cap, rfl, hcap⟩ := sl.len (by decide)
  -- [l, q, K, ip, pb, rb]
  obtain ⟨Q, s3, sQ⟩ := sep_pack2 (s2.sel (L' := [noHp.set rb (.cells #[.pointer (some ⟨kp, o, none⟩)] 261 (0, 0)), noHp.set kp (.cells (l0.set (o + 3) (.slice sa L.length cap)).toArray 173 (0, 0)), ip, pb, noHp.set l ob, q]) [5, 2, 3, 4, 0, 1] (by decide) rfl)
  have cr : cellIn G Q ⟨rb, 0, none⟩ = some (.pointer (some ⟨kp, o, none⟩)) := by rw [cell_of (look_own (sQ.at 0 rfl set_self))]; rfl
  have ck : cellIn G Q ⟨kp, o + 3, none⟩ = some (.slice sa L.length cap) := by
    rw [cell_of (look_own (sQ.at 1 rfl set_self))]
    simp [hlen]
  unfold S151_b1
  refine ⟨Q, s3.in 0 rfl, ?_⟩
  simp (disch := first | exact nq rfl | omega) only [bRtKc, g2, cr, ck]
  intro x hx gx
  have s4 := s3.past (o := .cells #[.int .i64 p] 3 (0, 0)) hx
  have d4 := d2.set (o := .cells #[.int .i64 p] 3 (0, 0)) gx
  have hxs : (h2.set x (.cells #[.int .i64 p] 3 (0, 0))) x = some (.cells #[.int .i64 p] 3 (0, 0)) := set_self
  generalize Hp.set h2 x _ = h4 at s4 d4 hxs ⊢
  refine append_piece icC (by decide) (L := L) (M := [p]) un168 eoint8 (by decide) (by decide) (s4.pick 1 rfl rfl) d4 sl (Sees.row hxs (by simp [icC, Cod.rows]) (by simp)) (by simp; omega) ?_
  intro v' ip' h5 sl' s5 d5
  refine ⟨s5.in 1 rfl, ?_⟩
  have s6 : Sep [noHp.set rb (.cells #[.pointer (some ⟨kp, o, none⟩)] 261 (0, 0)), noHp.set kp (.cells (l0.set (o + 3) (.slice sa L.length cap)).toArray 173 (0, 0)), pb, noHp.set l ob, q, ip'] h5 :=
    ((s5.pick 1 rfl rfl).open sQ).sel [0, 1, 3, 4, 5, 2] (by decide) rfl
  obtain ⟨sa', cap', rfl, hcap'⟩ := sl'.len (by decide)
  have hk5 : h5 kp = some (.cells (l0.set (o + 3) (.slice sa L.length cap)).toArray 173 (0, 0)) := s6.at 1 rfl set_self
  try simp (disch := first | exact nq rfl | omega) only [bRtKc, Nat.reduceAdd, Nat.reduceMul]
  rw [store1_eq sz168 rfl hk5 (by simpa using hlen)]
  have s7 := (s6.pick 1 rfl rfl).put (o := .cells ((l0.set (o + 3) (.slice sa L.length cap)).set (o + 3) (.slice sa' (L ++ [p]).length cap')).toArray 173 (0, 0)) set_self
  rw [set_set, List.set_set] at s7
  rw [List.set_set]
  have d7 := d5.set (o := .cells (l0.set (o + 3) (.slice sa' (L ++ [p]).length cap')).toArray 173 (0, 0)) (d5 _ _ hk5)
  generalize Hp.set h5 kp _ = h7 at s7 d7 ⊢
  try simp (disch := first | exact nq rfl | omega) only [bRtKc, Nat.reduceAdd, Nat.reduceMul]
  have hl7 : h7 l = some ob := s7.at 3 rfl set_self
  refine ⟨hl7, ?_⟩
  have s8 := (s7.pick 3 rfl rfl).put (o := oo none) set_self
  rw [set_set] at s8
  obtain ⟨b', t1, t2⟩ := Sep.pack [_, _, _, _, _] (s8.sel (L' := [noHp.set kp (.cells (l0.set (o + 3) (.slice sa' (L ++ [p]).length cap')).toArray 173 (0, 0)), ip', pb, noHp.set rb (.cells #[.pointer (some ⟨kp, o, none⟩)] 261 (0, 0)), noHp.set l (oo none), q]) [1, 5, 3, 2, 0, 4] (by decide) rfl)
  exact ⟨b', t1, d7.set gl, ip', _, sl', t2⟩

theorem KYi.kh {kp o rb l : Nat} {ob : Obj} {l0 : List Value} {pb b : Hp} {L : List Int} {U A V : Int} (k : KYi kp o rb l ob l0 pb L b) (ho : 3 ≤ o) (h : ∀ j, j < 3 → l0[j]? = [Value.int .i64 U, .int .i64 A, .int .i64 V][j]?) : KH b kp U A V := by
  obtain ⟨ip, v, _, s⟩ := k
  refine ⟨_, _, s.at 0 rfl set_self, fun j hj => ?_⟩
  rw [List.getElem?_toArray, List.getElem?_set_ne (by omega)]
  exact h j hj

theorem places1_spec {G h q pb : Hp} {kb nb rb kp o : Nat} {l0 : List Value} {U A V n : Int} (hl0 : ∀ j, j < 3 → l0[j]? = [Value.int .i64 U, .int .i64 A, .int .i64 V][j]?) (ho : 3 ≤ o) (hlen : o + 3 < l0.length) (h3 : l0[o + 3]? = some (.slice none 0 0)) (kbd : KB U A V) (n1 : 1 ≤ n) (n2 : n ≤ 16)
    (s : Sep [noHp.set kp (.cells l0.toArray 173 (0, 0)), pb, noHp.set rb (.cells #[.pointer (some ⟨kp, o, none⟩)] 261 (0, 0)), q] h) (h1 : q kb = some (.cells #[.pointer (some ⟨kp, 0, none⟩)] 50 (0, 0))) (h2 : q nb = some (.cells #[.int .i64 n] 3 (0, 0))) :
    HCalls P_ G 151 #[.pointer (some ⟨kb, 0, none⟩), .pointer (some ⟨nb, 0, none⟩), .pointer (some ⟨rb, 0, none⟩)] h (fun v h' => v = .tuple #[] ∧ ∃ ip v', Slc icC 3 ip v' (placesI U A V n) ∧
      Sep [noHp.set kp (.cells (l0.set (o + 3) v').toArray 173 (0, 0)), ip, pb, noHp.set rb (.cells #[.pointer (some ⟨kp, o, none⟩)] 261 (0, 0)), q] h' ∧ Dis G h') := by
  refine HCalls.assume fun d => enter151 (by simp) ?_
  have hnU : 1 * 1 ≤ n * U := Int.mul_le_mul n1 kbd.u1 (by omega) (by omega)
  have hnU2 : n * U ≤ 16 * 1000 := Int.mul_le_mul n2 kbd.u2 (by have := kbd.u1; omega) (by omega)
  have c1 : cellIn G h ⟨kb, 0, none⟩ = some (.pointer (some ⟨kp, 0, none⟩)) := by rw [cell_of (look_own (s.at 3 rfl h1))]; rfl
  have c2 : cellIn G h ⟨nb, 0, none⟩ = some (.int .i64 n) := by rw [cell_of (look_own (s.at 3 rfl h2))]; rfl
  have c3 : cellIn G h ⟨kp, 0, none⟩ = some (.int .i64 U) := by rw [cell_of (look_own (s.at 0 rfl set_self))]; exact hl0 0 (by decide)
  unfold S151
  simp (disch := first | exact nq rfl | omega) only [bRtKc, c1, c2, c3]
  refine steps_spec.mono ?_
  rintro _ h4 ⟨b1, b2, b3, b4, b5, rfl, s4, d4⟩
  intro y l oo hl gl hoo hy
  rw [opE_steps]
  have yl := places_yield (kp := kp) (o := o) (rb := rb) (l0 := l0) (pb := pb) gl hoo hlen (by simp (disch := first | exact nq rfl | omega) only [bRtKc]) hy
  have hself : l0.set (o + 3) (.slice none 0 0) = l0 := by
    apply List.ext_getElem?
    intro i
    by_cases hi : o + 3 = i
    · subst hi; rw [List.getElem?_set_self hlen, h3]
    · rw [List.getElem?_set_ne hi]
  -- the pieces
  have s5 : Sep [noHp.set l (oo none), noHp.set b3 (.cells #[.int .i64 0] 3 (0, 0)), noHp.set b4 (.cells #[.int .i64 0] 3 (0, 0)), noHp.set b1 (.cells #[.pointer (some ⟨kp, 0, none⟩)] 50 (0, 0)), noHp.set b2 (.cells #[.bool false] 4 (0, 0)), noHp.set b5 (.cells #[.int .i64 (n * U)] 3 (0, 0)),
      noHp.set kp (.cells l0.toArray 173 (0, 0)), pb, noHp.set rb (.cells #[.pointer (some ⟨kp, o, none⟩)] 261 (0, 0)), q] (h4.set l (oo none)) :=
    (((s4.pick 5 rfl rfl).open s).new (o := oo none) hl).sel [0, 5, 6, 7, 8, 9, 1, 2, 3, 4] (by decide) rfl
  have d5 : Dis G (h4.set l (oo none)) := d4.set gl
  obtain ⟨a, s6, sa⟩ := Sep.pack [_, _, _, _, _] (s5.none.sel (L' := [noHp.set kp (.cells l0.toArray 173 (0, 0)), noHp, pb, noHp.set rb (.cells #[.pointer (some ⟨kp, o, none⟩)] 261 (0, 0)), noHp.set l (oo none), noHp.set b1 (.cells #[.pointer (some ⟨kp, 0, none⟩)] 50 (0, 0)), noHp.set b2 (.cells #[.bool false] 4 (0, 0)), noHp.set b5 (.cells #[.int .i64 (n * U)] 3 (0, 0)), q, noHp.set b3 (.cells #[.int .i64 0] 3 (0, 0)), noHp.set b4 (.cells #[.int .i64 0] 3 (0, 0))]) [7, 0, 8, 9, 1, 4, 5, 6, 10, 2, 3] (by decide) rfl)
  obtain ⟨Q, s7, sQ⟩ := Sep.pack [_, _, _, _] (s6.sel (L' := [noHp.set b1 (.cells #[.pointer (some ⟨kp, 0, none⟩)] 50 (0, 0)), noHp.set b2 (.cells #[.bool false] 4 (0, 0)), noHp.set b5 (.cells #[.int .i64 (n * U)] 3 (0, 0)), q, a, noHp.set b3 (.cells #[.int .i64 0] 3 (0, 0)), noHp.set b4 (.cells #[.int .i64 0] 3 (0, 0))]) [1, 2, 3, 4, 0, 5, 6] (by decide) rfl)
  refine (steps1_spec (kp := kp) yl (fun L a h => h.kh ho hl0) kbd (a := a) (q := Q) ⟨noHp, .slice none 0 0, Slc.nil, by rw [hself]; exact sa⟩ (s7.sel [1, 2, 3, 0] (by decide) rfl) (sQ.at 0 rfl set_self) (sQ.at 1 rfl set_self) (sQ.at 2 rfl set_self) (by omega) (by omega)).mono ?_
  rintro _ h8 ⟨a', s8, d8, ip, v', sl, sa'⟩
  have hpl : prof A V (n * U) (n * U).toNat 0 0 = placesI U A V n := by unfold placesI; rw [if_pos ⟨n1, n2⟩]
  rw [hpl] at sl
  have s9 : Sep [noHp.set kp (.cells (l0.set (o + 3) v').toArray 173 (0, 0)), ip, pb, noHp.set rb (.cells #[.pointer (some ⟨kp, o, none⟩)] 261 (0, 0)), q, noHp.set l (oo none)] h8 :=
    (((s8.open sa').pick 5 rfl rfl).open sQ).sel [4, 5, 6, 7, 3, 8] (by decide) rfl
  obtain ⟨h9, s10, t10⟩ := Sep.pack [_, _, _, _, _] s9
  refine ⟨h9, s10.in 0 rfl, ?_, .inl ⟨s10.at 1 rfl set_self, ?_⟩⟩
  · rcases s10.apart (b := noHp.set l (oo none)) (by simp) l with e | e
    · exact e
    · rw [set_self] at e; cases e
  try simp only [bRtKc]
  exact ⟨ip, v', sl, t10, fun b o e => d8 b o (s10.in 0 rfl _ _ e)⟩
end Go.Proofs.YtfflipnhffknnaaGreatDoor
end

section
/- The robots' times: the places of a run, reckoned once; how long a run takes. -/
set_option linter.unusedSimpArgs false
set_option linter.unusedVariables false
set_option maxRecDepth 100000
namespace Go.Proofs.YtfflipnhffknnaaGreatDoor
open Go Go.HL Go.Proofs.Resv Go.Proofs.Srch

def bRtKd := jq (jq (jq (jq (jq @HL.cond_false (jq @HL.cond_true @List.getElem?_cons_zero.{0})) (jq (jq @List.set_cons_zero.{0} @Nat.add_zero) (jq @Nat.zero_add @Option.some.injEq.{0}))) (jq (jq (jq @add_mk @al261) (jq @and_true @bd155_0_1_2)) (jq (jq @bin_add @bin_gtr) (jq @bin_lss @blockK_exit)))) (jq (jq (jq @blockK_ret (jq @box_new @cell_set_self)) (jq (jq @cells_agg @cells_int) (jq @cells_ptr @cf123))) (jq (jq (jq @cf150 @eq50s) (jq @exists_eq_left'.{1} @fa170_0)) (jq (jq @fa170_1 @fa173_0) (jq @fa173_3p @gd_ff))))) (jq (jq (jq (jq @gd_tf (jq @if_true.{1} @if_true.{0})) (jq (jq @ld168 @ld261) (jq @ld3 @ld3p))) (jq (jq (jq @ld50 @ld50p) (jq @ln168 @opH_nil)) (jq (jq @opH_su @opH_sv) (jq @pick_f @pick_t)))) (jq (jq (jq (jq @pureW_nil @pureW_sv) (jq @regs0 @regs1)) (jq (jq @regs2 @resL_nil1) (jq @resL_nil2 @resL_tmp))) (jq (jq (jq @retK_ret @thenK_exit) (jq @thenK_normal @thenK_ret)) (jq (jq @true_and @upd_eq) (jq @upd_ne @wrap_in)))))
abbrev RunE := Bool × Option Addr × Nat × Nat
def runC : Cod RunE := ⟨4, fun x => [.int .u32 (if x.1 = true then 1 else 0), .int .i32 0, .int .u32 0, .slice x.2.1 x.2.2.1 x.2.2.2], fun _ => rfl, fun _ v hv => by simp at hv; rcases hv with rfl | rfl | rfl | rfl <;> rfl⟩

def kCells (U A V : Int) (R : List RunE) : List Value := .int .i64 U :: .int .i64 A :: .int .i64 V :: runC.rows R

def KP (a : Hp) (kp : Nat) (U A V : Int) : Prop := KB U A V ∧ ∃ (R : List RunE) (pb : Hp), R.length = 17 ∧ Sep [noHp.set kp (.cells (kCells U A V R).toArray 173 (0, 0)), pb] a ∧
  ∀ (i : Nat) (x : RunE), R[i]? = some x → (x.1 = true → Slc icC 3 pb (.slice x.2.1 x.2.2.1 x.2.2.2) (placesI U A V i)) ∧ (x.1 = false → x.2 = (none, 0, 0))

theorem kcell {U A V : Int} {R : List RunE} {i j : Nat} {x : RunE} (h : R[i]? = some x) (hj : j < 4) : (kCells U A V R)[i * 4 + 3 + j]? = (runC.enc x)[j]? := by
  unfold kCells
  rw [show i * 4 + 3 + j = (i * 4 + j) + 1 + 1 + 1 by omega, List.getElem?_cons_succ, List.getElem?_cons_succ, List.getElem?_cons_succ]
  have := runC.rows_get (t := []) (j := j) h hj
  rw [List.append_nil] at this
  exact this

theorem kdone {U A V : Int} {R : List RunE} {i : Nat} {x : RunE} (h : R[i]? = some x) {s : Option Addr} {n c : Nat} :
    ((((kCells U A V R).set (i * 4 + 3 + 1) (.int .i32 1)).set (i * 4 + 3 + 3) (.slice s n c)).set (i * 4 + 3) (.int .u32 1)).set (i * 4 + 3 + 1) (.int .i32 0) = kCells U A V (R.set i (true, s, n, c)) := by
  have hil : i < R.length := (List.getElem?_eq_some_iff.1 h).1
  have c2 : (runC.rows R)[i * 4 + 2]? = some (.int .u32 0) := by
    have := runC.rows_get (t := []) (j := 2) h (by decide)
    rw [List.append_nil] at this
    exact this
  have hrl : (runC.rows R).length = R.length * 4 := by rw [runC.rows_length]; rfl
  have hp := runC.rows_put (t := []) (x := ((true, s, n, c) : RunE)) hil
  rw [List.append_nil, List.append_nil] at hp
  unfold kCells
  simp only [show i * 4 + 3 + 1 = (i * 4 + 1) + 1 + 1 + 1 by omega, show i * 4 + 3 + 3 = (i * 4 + 3) + 1 + 1 + 1 by omega, show i * 4 + 3 = (i * 4) + 1 + 1 + 1 by omega, List.set_cons_succ]
  rw [← hp]
  simp only [List.cons.injEq, true_and]
  have e : putL (runC.rows R) (i * runC.n) (runC.enc (true, s, n, c)) = ((((runC.rows R).set (i * 4) (.int .u32 1)).set (i * 4 + 1) (.int .i32 0)).set (i * 4 + 1 + 1) (.int .u32 0)).set (i * 4 + 1 + 1 + 1) (.slice s n c) := rfl
  rw [e]
  apply List.ext_getElem?
  intro j
  simp only [List.getElem?_set, List.length_set]
  rw [hrl]
  repeat' split
  all_goals first
    | rfl
    | (exfalso; omega)
    | (rw [← ‹i * 4 + 1 + 1 = j›]; exact c2)

theorem un17 : P_.underlying 171 = some (.array 17 170) := by kernel_rfl
theorem szrun : (P_.info? 170).map (·.size) = some 4 := by kernel_rfl

theorem places_spec {G h a : Hp} {R : List Hp} {kp : Nat} {U A V n : Int} (k : KP a kp U A V) (s : Sep (a :: R) h) (hn : -9223372036854775808 ≤ n ∧ n ≤ 9223372036854775807) :
    HCalls P_ G 123 #[.pointer (some ⟨kp, 0, none⟩), .int .i64 n] h (fun v h' => ∃ a' sa cap, v = .slice sa (placesI U A V n).length cap ∧ KP a' kp U A V ∧ Sep (a' :: R) h' ∧ Dis G h') := by
  obtain ⟨kbd, L, pb, hL, sp, hr⟩ := id k
  have kbd' := kbd
  obtain ⟨ku1, ku2, ka1, ka2, kv1, kv2⟩ := kbd
  refine HCalls.assume fun d => enter123 (by simp) ?_
  unfold S123
  simp only [bRtKd]
  intro x hx gx y hy gy
  have hxy : x ≠ y := ne_of_set hy
  have s1 := (s.open sp).new (o := .cells #[.pointer (some ⟨kp, 0, none⟩)] 50 (0, 0)) hx
  have s2 := s1.new (o := .cells #[.int .i64 n] 3 (0, 0)) hy
  have d2 := (d.set (o := .cells #[.pointer (some ⟨kp, 0, none⟩)] 50 (0, 0)) gx).set (o := .cells #[.int .i64 n] 3 (0, 0)) gy
  generalize Hp.set (Hp.set h x _) y _ = h2 at s2 d2 ⊢
  have cx : cellIn G h2 ⟨x, 0, none⟩ = some (.pointer (some ⟨kp, 0, none⟩)) := by rw [cell_of (look_own (s2.at 1 rfl set_self))]; rfl
  have cy : cellIn G h2 ⟨y, 0, none⟩ = some (.int .i64 n) := by rw [cell_of (look_own (s2.at 0 rfl set_self))]; rfl
  have c0 : cellIn G h2 ⟨kp, 0, none⟩ = some (.int .i64 U) := by rw [cell_of (look_own (s2.at 2 rfl set_self))]; rfl
  simp only [bRtKd, cx, cy, c0, dec_f (show ¬ U < 1 by omega)]
  have out : ¬ (1 ≤ n ∧ n ≤ 16) → ∃ a' sa cap, (.slice none 0 0 : Value) = .slice sa (placesI U A V n).length cap ∧ KP a' kp U A V ∧ Sep (a' :: R) h2 ∧ Dis G h2 := fun hno => by
    have e : placesI U A V n = [] := by unfold placesI; rw [if_neg hno]
    rw [e]
    obtain ⟨a', t1, t2⟩ := Sep.pack [_, _] (s2.drop.drop)
    exact ⟨a', none, 0, rfl, ⟨kbd', L, pb, hL, t2, hr⟩, t1, d2⟩
  by_cases h1 : n < 1
  · simp only [bRtKd, dec_t h1, gd_un]
    exact out (by omega)
  by_cases h16 : n > 16
  · simp only [bRtKd, cy, dec_f h1, dec_t h16]
    exact out (by omega)
  simp only [bRtKd, cy, dec_f h1, dec_f h16]
  unfold S123_k1
  simp (disch := first | exact nq rfl | omega) only [bRtKd, cx, cy, index_arrp un17 szrun (show 0 ≤ n by omega) (show n < (17 : Nat) by omega)]
  intro z hz gz
  have s3 := s2.new (o := .cells #[.pointer (some ⟨kp, n.toNat * 4 + 3, none⟩)] 261 (0, 0)) hz
  have d3 := d2.set (o := .cells #[.pointer (some ⟨kp, n.toNat * 4 + 3, none⟩)] 261 (0, 0)) gz
  rw [show 3 + n.toNat * 4 = n.toNat * 4 + 3 by omega]
  rw [store1_eq sz261 rfl set_self (by simp), set_set]
  try simp only [bRtKd, List.set_cons_zero]
  generalize Hp.set h2 z _ = h3 at s3 d3 ⊢
  have cz : cellIn G h3 ⟨z, 0, none⟩ = some (.pointer (some ⟨kp, n.toNat * 4 + 3, none⟩)) := by rw [cell_of (look_own (s3.at 0 rfl set_self))]; rfl
  try simp (disch := first | exact nq rfl | omega) only [bRtKd, Nat.reduceAdd, Nat.reduceMul, cz]
  obtain ⟨e, he⟩ : ∃ e, L[n.toNat]? = some e := ⟨_, List.getElem?_eq_getElem (by omega)⟩
  obtain ⟨r1, r2⟩ := hr _ _ he
  have hni : ((n.toNat : Nat) : Int) = n := by omega
  have hkp : h3 kp = some (.cells (kCells U A V L).toArray 173 (0, 0)) := s3.at 3 rfl set_self
  cases hd : e.1 with
  | true =>
    have sl := r1 hd
    rw [hni] at sl
    refine (On.once_done hkp (by rw [kcell he (j := 0) (by decide)]; simp [runC, hd])).mono ?_
    rintro _ h3 ⟨rfl, rfl⟩
    have c3 : cellIn G h3 ⟨kp, n.toNat * 4 + 3 + 3, none⟩ = some (.slice e.2.1 e.2.2.1 e.2.2.2) := by
      rw [cell_of (look_own hkp)]
      exact kcell he (j := 3) (by decide)
    try simp only [bRtKd, cz, c3]
    obtain ⟨sa, cap, e2, _⟩ := sl.len (by decide)
    obtain ⟨a', t1, t2⟩ := Sep.pack [_, _] (s3.drop.drop.drop)
    exact ⟨a', sa, cap, e2, ⟨kbd', L, pb, hL, t2, hr⟩, t1, d3⟩
  | false =>
    have sl := r2 hd
    obtain ⟨q, s4, sq⟩ := Sep.rest [_, _, _] ((s3.pick 3 rfl rfl).pick 4 rfl rfl).swap
    have hcell : ∀ j, j < 4 → (kCells U A V L)[n.toNat * 4 + 3 + j]? = (runC.enc e)[j]? := fun j hj => kcell he hj
    have hlen : (kCells U A V L).length = 71 := by unfold kCells; simp only [List.length_cons]; rw [runC.rows_length, hL]; rfl
    have c0' := hcell 0 (by decide)
    have c1' := hcell 1 (by decide)
    have c3' := hcell 3 (by decide)
    have s5 := s4.put (o := .cells ((kCells U A V L).set (n.toNat * 4 + 3 + 1) (.int .i32 1)).toArray 173 (0, 0)) set_self
    rw [set_set] at s5
    have hpl := (places1_spec (G := G) (kp := kp) (o := n.toNat * 4 + 3) (l0 := (kCells U A V L).set (n.toNat * 4 + 3 + 1) (.int .i32 1)) (n := n) (fun j hj => by rw [List.getElem?_set_ne (by omega)]; unfold kCells; rcases (show j = 0 ∨ j = 1 ∨ j = 2 by omega) with rfl | rfl | rfl <;> rfl) (by omega) (by rw [List.length_set, hlen]; omega)
      (by rw [List.getElem?_set_ne (by omega), c3']; simp [runC, sl]) kbd' (by omega) (by omega) s5 (sq.at 1 rfl set_self) (sq.at 0 rfl set_self))
    refine (On.once_first (Q := fun l' h' => ∃ ip v', l' = ((kCells U A V L).set (n.toNat * 4 + 3 + 1) (.int .i32 1)).set (n.toNat * 4 + 3 + 3) v' ∧ Slc icC 3 ip v' (placesI U A V n) ∧ Sep [noHp.set kp (.cells l'.toArray 173 (0, 0)), ip, pb, noHp.set z (.cells #[.pointer (some ⟨kp, n.toNat * 4 + 3, none⟩)] 261 (0, 0)), q] h' ∧ Dis G h')
      hkp (by rw [c0']; simp [runC, hd]) (by rw [c1']; rfl) (fun args w => by kernel_rfl) (hpl.mono ?_)).mono ?_
    · rintro _ h' ⟨rfl, ip, v', sl', s6, d6⟩
      refine ⟨rfl, _, s6.at 0 rfl set_self, ?_, ?_, ip, v', rfl, sl', s6, d6⟩
      · rw [List.getElem?_set_ne (by omega), List.getElem?_set_ne (by omega), c0']; simp [runC, hd]
      · rw [List.getElem?_set_ne (by omega), List.getElem?_set_self (by rw [hlen]; omega)]
    · rintro _ h4 ⟨rfl, l', h1, ⟨ip, v', rfl, sl', s6, d6⟩, hk1, rfl⟩
      obtain ⟨sa, cap, rfl, hcap⟩ := sl'.len (by decide)
      rw [kdone he]
      have s7 := s6.put (o := .cells (kCells U A V (L.set n.toNat (true, sa, (placesI U A V n).length, cap))).toArray 173 (0, 0)) set_self
      rw [set_set] at s7
      have d7 := d6.set (o := .cells (kCells U A V (L.set n.toNat (true, sa, (placesI U A V n).length, cap))).toArray 173 (0, 0)) (d6 _ _ hk1)
      generalize Hp.set h1 kp _ = h7 at s7 d7 ⊢
      have cz7 : cellIn G h7 ⟨z, 0, none⟩ = some (.pointer (some ⟨kp, n.toNat * 4 + 3, none⟩)) := by rw [cell_of (look_own (s7.at 3 rfl set_self))]; rfl
      have he7 : (L.set n.toNat (true, sa, (placesI U A V n).length, cap))[n.toNat]? = some (true, sa, (placesI U A V n).length, cap) := by rw [List.getElem?_set_self (by omega)]
      have c37 : cellIn G h7 ⟨kp, n.toNat * 4 + 3 + 3, none⟩ = some (.slice sa (placesI U A V n).length cap) := by
        rw [cell_of (look_own (s7.at 0 rfl set_self))]
        exact kcell he7 (j := 3) (by decide)
      try simp only [bRtKd, cz7, c37]
      have s8 := Sep.unrest [_, _, _, _] s7 sq
      -- kp, ip, pb, z, y, x, R
      obtain ⟨pb', s9, t9⟩ := Sep.pack [_, _] (((s8.pick 1 rfl rfl).pick 2 rfl rfl).swap)
      obtain ⟨a', s10, t10⟩ := Sep.pack [_, _] s9.swap
      refine ⟨a', sa, cap, rfl, ⟨kbd', _, pb', by rw [List.length_set]; exact hL, t10, fun i u hu => ?_⟩, s10.swap.drop.swap.drop.swap.drop, d7⟩
      by_cases hi : n.toNat = i
      · subst hi
        rw [he7] at hu
        cases hu
        refine ⟨fun _ => ?_, fun h => by cases h⟩
        rw [hni]
        exact sl'.le (t9.in 0 rfl)
      · rw [List.getElem?_set_ne hi] at hu
        obtain ⟨q1, q2⟩ := hr i u hu
        exact ⟨fun h => (q1 h).le (t9.in 1 rfl), q2⟩

theorem time_spec {G h a : Hp} {R : List Hp} {kp : Nat} {U A V n : Int} (k : KP a kp U A V) (s : Sep (a :: R) h) (hn : -9223372036854775808 ≤ n ∧ n ≤ 9223372036854775807) :
    HCalls P_ G 72 #[.pointer (some ⟨kp, 0, none⟩), .int .i64 n] h (fun v h' => v = .int .i64 (timeI U A V n) ∧ ∃ a', KP a' kp U A V ∧ Sep (a' :: R) h' ∧ Dis G h') := by
  refine enter72 (by simp) ?_
  unfold S72
  simp only [bRtKd]
  refine (places_spec k s hn).mono ?_
  rintro _ h1 ⟨a', sa, cap, rfl, k', s', d'⟩
  simp only [bRtKd]
  exact ⟨rfl, a', k', s', d'⟩

def kZero (U A V : Int) : List RunE := List.replicate 17 (false, none, 0, 0)

theorem bdkin {G h : Hp} {U A V : Int} {K : VK} : wpH P_ G (Instr.build 173 #[(0, .int .i64 U), (1, .int .i64 A), (2, .int .i64 V)]) h K = K (.agg (kCells U A V (kZero U A V)).toArray) h := by kernel_rfl

theorem kin_spec {G h : Hp} {U A V : Int} : HCalls P_ G 29 #[.int .i64 U, .int .i64 A, .int .i64 V] h (fun v h' =>
    (KB U A V ∧ ∃ a kp, v = .tuple #[.pointer (some ⟨kp, 0, none⟩), .int .i64 0] ∧ KP a kp U A V ∧ Sep [a, h] h' ∧ Dis G h') ∨ (¬ KB U A V ∧ v = .tuple #[.pointer none, .int .i64 1] ∧ h' = h)) := by
  refine HCalls.assume fun d => enter29 (by simp) ?_
  unfold S29
  simp only [bRtKd]
  refine loop_I (fun m r h' => ∃ i : Nat, m = 3 - i ∧ i ≤ 3 ∧ h' = h ∧ r 0 = .int .i64 U ∧ r 1 = .int .i64 A ∧ r 2 = .int .i64 V ∧ r 13 = .agg #[.int .i64 U, .int .i64 A, .int .i64 V] ∧ r 14 = .int .i64 i ∧ ∀ j x, j < i → [U, A, V][j]? = some x → 1 ≤ x ∧ x ≤ 1000) ?_ (m := 3)
    ⟨0, rfl, by omega, rfl, by simp (disch := first | exact nq rfl | omega) only [bRtKd], by simp (disch := first | exact nq rfl | omega) only [bRtKd], by simp (disch := first | exact nq rfl | omega) only [bRtKd], by simp (disch := first | exact nq rfl | omega) only [bRtKd], by simp only [bRtKd]; rfl, fun j x hj => by omega⟩
  rintro m r h' ⟨i, rfl, hi, rfl, g0, g1, g2, g13, g14, hall⟩ X hX
  unfold S29_l2
  simp only [bRtKd, g14]
  by_cases h3 : i < 3
  · rw [dec_t (show (i : Int) < 3 by omega)]
    simp only [bRtKd]
    obtain ⟨x, hx⟩ : ∃ x, [U, A, V][i]? = some x := ⟨_, List.getElem?_eq_getElem (by simpa using h3)⟩
    have hix : ∀ (K : Value → Hp → Prop), wpH P_ G (Instr.index 155 (.agg #[.int .i64 U, .int .i64 A, .int .i64 V]) (.int .i64 (i : Int))) h' K = K (.int .i64 x) h' := by
      intro K
      rcases (show i = 0 ∨ i = 1 ∨ i = 2 by omega) with rfl | rfl | rfl <;> cases hx <;> kernel_rfl
    have hno : ¬ (1 ≤ x ∧ x ≤ 1000) → ¬ KB U A V := fun hno kb => by
      obtain ⟨q1, q2, q3, q4, q5, q6⟩ := kb
      rcases (show i = 0 ∨ i = 1 ∨ i = 2 by omega) with rfl | rfl | rfl <;> cases hx <;> omega
    unfold S29_l2_k3
    simp (disch := first | exact nq rfl | omega) only [bRtKd, g13, g14, hix]
    by_cases hx1 : x < 1
    · rw [dec_t hx1]
      simp only [bRtKd, gd_un]
      exact .inr (hno (by omega))
    · rw [dec_f hx1]
      simp only [bRtKd]
      by_cases hx2 : x > 1000
      · rw [dec_t hx2]
        simp only [bRtKd]
        exact .inr (hno (by omega))
      · rw [dec_f hx2]
        simp only [bRtKd]
        unfold S29_l2_k4
        simp (disch := first | exact nq rfl | omega) only [bRtKd, g14]
        refine hX (3 - (i + 1)) _ _ (by omega) ⟨i + 1, rfl, h3, rfl, by simp (disch := first | exact nq rfl | omega) only [bRtKd, g0], by simp (disch := first | exact nq rfl | omega) only [bRtKd, g1], by simp (disch := first | exact nq rfl | omega) only [bRtKd, g2], by simp (disch := first | exact nq rfl | omega) only [bRtKd, g13], by simp only [bRtKd]; rfl, fun j y hj hy => ?_⟩
        rcases (show j < i ∨ j = i by omega) with hj | rfl
        · exact hall j y hj hy
        · rw [hx] at hy; cases hy; omega
  · obtain rfl : i = 3 := by omega
    rw [dec_f (show ¬ ((3 : Nat) : Int) < 3 by omega)]
    have kb : KB U A V := by
      have a0 := hall 0 U (by omega) rfl
      have a1 := hall 1 A (by omega) rfl
      have a2 := hall 2 V (by omega) rfl
      exact ⟨a0.1, a0.2, a1.1, a1.2, a2.1, a2.2⟩
    simp only [bRtKd]
    unfold S29_k1
    simp (disch := first | exact nq rfl | omega) only [bRtKd, g0, g1, g2, bdkin]
    intro x hx gx
    refine .inl ⟨kb, noHp.set x (.cells (kCells U A V (kZero U A V)).toArray 173 (0, 0)), x, rfl, ⟨kb, kZero U A V, noHp, by simp [kZero], Sep.one.none.swap, fun i e he => ?_⟩, Sep.one.new hx, d.set gx⟩
    have : e = (false, none, 0, 0) := by
      unfold kZero at he
      rw [List.getElem?_replicate] at he
      split at he
      · exact (Option.some.inj he).symm
      · cases he
    subst this
    exact ⟨fun h => (by cases h), fun _ => rfl⟩
end Go.Proofs.YtfflipnhffknnaaGreatDoor
end

section
/- The reference's answers on cells, poses: open, port, home, beside, stacked. -/
set_option linter.unusedSimpArgs false
set_option linter.unusedVariables false
set_option maxRecDepth 100000
namespace Go.Proofs.YtfflipnhffknnaaGreatDoor
open Go Go.HL

def bRpB := jq (jq (jq (jq (jq (jq @Bool.and_true @Bool.not_false) (jq @Bool.not_true (jq @Bool.true_and @HL.cond_false))) (jq (jq @HL.cond_true @Int.toNat_natCast) (jq @List.getElem?_cons_succ.{0} (jq @List.getElem?_cons_zero.{0} @Nat.add_zero)))) (jq (jq (jq @Nat.zero_add @Option.some.injEq.{0}) (jq @add_mk (jq @bd28_0_1 @bin_add))) (jq (jq @bin_gtrp @bin_lss) (jq @blockK_exit (jq @blockK_ret @box_new))))) (jq (jq (jq (jq @bs22_2_0_1 @cell_set_self) (jq @cells_agg (jq @cf159 @cf40))) (jq (jq @cf60 @cf82) (jq @cf83 (jq @cf84 @cf85)))) (jq (jq (jq @eq28p @eq_int) (jq @exists_eq_left'.{1} (jq @fa26_3 @fa26_4))) (jq (jq @fa26_4p @fa26_5) (jq @fa26_5p (jq @fa28_0 @fa28_1)))))) (jq (jq (jq (jq (jq @fa30_0 @fa30_1) (jq @gd_ff (jq @gd_ft @gd_tf))) (jq (jq @gd_tt @if_true.{1}) (jq @if_true.{0} (jq @ld22 @ld22p)))) (jq (jq (jq @ld23 @ld23p) (jq @ld26 (jq @ld26p @ld28))) (jq (jq @ld28p @ld3) (jq @ld30 (jq @ld30p @ld4))))) (jq (jq (jq (jq @ln22 @ln23) (jq @opH_sv (jq @pick_f @pick_fp))) (jq (jq @pick_t @pick_tp) (jq @pureW_sv (jq @regs0 @regs1)))) (jq (jq (jq @resL_nil1 @resL_tmp) (jq @retK_ret (jq @thenK_exit @thenK_normal))) (jq (jq @thenK_ret (jq @true_and @un_not)) (jq @upd_eq (jq @upd_ne @wrap_in))))))
theorem boxed {G h h1 : Hp} {x : Nat} {o : Obj} (e : h.set x o = h1) (hx : h x = none) (d : Dis G h) (gx : G x = none) : h.le h1 ∧ Dis G h1 ∧ h1 x = some o := by
  subst e
  exact ⟨le_set hx, d.set gx, set_self⟩

theorem ropen_spec {G h : Hp} {v : Value} {C : Conf} {c : Cell} (hv : CV G h v C) (hL : C.bl.length ≤ 100000000000000) : HCalls P_ G 60 #[v, cellV c] h (fun u h' => u = .bool (openB C c) ∧ h' = h) := by
  have hv0 := hv
  obtain ⟨ab, cb, ap, cp, ar, cr, az, cs, rfl, ca⟩ := hv
  refine HCalls.assume fun d => quietly (enter60 (by simp) ?_)
  unfold S60
  simp only [bRpB]
  intro x hx gx
  generalize e1 : Hp.set h x _ = h1
  obtain ⟨l1, d1, b1⟩ := boxed e1 hx d gx
  intro y hy gy
  generalize e2 : Hp.set h1 y _ = h2
  obtain ⟨l2, d2, b2⟩ := boxed e2 hy d1 gy
  have cx : ∀ k, cellIn G h2 ⟨x, k, none⟩ = _ := fun k => cell_of (look_own (l2 _ _ b1))
  have cy : ∀ k, cellIn G h2 ⟨y, k, none⟩ = _ := fun k => cell_of (look_own b2)
  have ca2 := ca.up (l1.trans l2) d2
  try simp only [bRpB, cx, cy]
  refine (in_spec ca2.cv).mono ?_
  rintro _ _ ⟨rfl, rfl⟩
  unfold openB
  cases hc : inB C c with
  | false => simp only [bRpB, hc]; exact ⟨rfl, l1.trans l2⟩
  | true =>
  simp only [bRpB, hc, cx, cy]
  refine (among_spec ca2.bl hL).mono ?_
  rintro _ _ ⟨rfl, rfl⟩
  simp only [bRpB]
  refine ⟨?_, l1.trans l2⟩
  congr 1
  rw [Bool.eq_iff_iff]
  simp

theorem rport_spec {G h : Hp} {v : Value} {C : Conf} {c : Cell} (hv : CV G h v C) (hL : C.po.length ≤ 100000000000000) : HCalls P_ G 159 #[v, cellV c] h (fun u h' => u = .int .i64 (portI C c) ∧ h' = h) := by
  obtain ⟨ab, cb, ap, cp, ar, cr, az, cs, rfl, ca⟩ := hv
  refine HCalls.assume fun d => quietly (enter159 (by simp) ?_)
  unfold S159
  simp only [bRpB]
  intro x hx gx
  generalize e1 : Hp.set h x _ = h1
  obtain ⟨l1, d1, b1⟩ := boxed e1 hx d gx
  intro y hy gy
  generalize e2 : Hp.set h1 y _ = h2
  obtain ⟨l2, d2, b2⟩ := boxed e2 hy d1 gy
  have cx : ∀ k, cellIn G h2 ⟨x, k, none⟩ = _ := fun k => cell_of (look_own (l2 _ _ b1))
  have cy : ∀ k, cellIn G h2 ⟨y, k, none⟩ = _ := fun k => cell_of (look_own b2)
  have ca2 := ca.up (l1.trans l2) d2
  refine loop_I (fun m r h3 => ∃ i : Nat, m = C.po.length - i ∧ i ≤ C.po.length ∧ r 2 = .pointer (some ⟨x, 0, none⟩) ∧ r 3 = .pointer (some ⟨y, 0, none⟩) ∧ r 5 = .int .i64 i ∧ c ∉ C.po.take i ∧ h3 = h2) ?_
    (m := C.po.length) ⟨0, rfl, Nat.zero_le _, by simp (disch := first | exact nq rfl | omega) only [bRpB], by simp (disch := first | exact nq rfl | omega) only [bRpB], by simp only [bRpB] <;> rfl, by simp, rfl⟩
  rintro m r h3 ⟨i, rfl, hi, g2, g3, g5, hni, rfl⟩ X HX
  unfold S159_l2
  simp only [bRpB, g2, g5, cx]
  refine cond_dec (fun hlt => ?_) (fun hge => ?_)
  · have hlt' : i < C.po.length := by omega
    obtain ⟨z, hz⟩ : ∃ x, C.po[i]? = some x := ⟨_, List.getElem?_eq_getElem hlt'⟩
    obtain ⟨b, o, rfl, y0, y1⟩ := Sees.cell ca2.po hz
    have htk : C.po.take (i + 1) = C.po.take i ++ [z] := by rw [List.take_add_one, hz]; rfl
    unfold S159_l2_k3
    simp (disch := first | exact nq rfl | omega) only [bRpB, g2, g5, g3, cx, cy, ix22p (Int.natCast_nonneg i) hlt, y0, y1, cell_beq]
    cases hb : (z == c) with
    | true =>
      simp only [bRpB, g5]
      have hzc : z = c := by simpa using hb
      subst hzc
      refine ⟨?_, l1.trans l2⟩
      have hm : z ∈ C.po := List.mem_of_getElem? hz
      unfold portI
      rw [if_pos hm]
      congr 1
      have h1 : C.po = C.po.take i ++ z :: C.po.drop (i + 1) := by
        have := List.getElem?_eq_some_iff.1 hz
        conv => lhs; rw [← List.take_append_drop i C.po, List.drop_eq_getElem_cons hlt', this.2]
      rw [h1, List.idxOf_append, if_neg hni, List.idxOf_cons_self, List.length_take]
      omega
    | false =>
      simp only [bRpB]
      unfold S159_l2_k4
      simp (disch := first | exact nq rfl | omega) only [bRpB, g5]
      refine HX (C.po.length - (i + 1)) _ _ (by omega) ⟨i + 1, rfl, hlt', by simp (disch := first | exact nq rfl | omega) only [bRpB, g2], by simp (disch := first | exact nq rfl | omega) only [bRpB, g3], by simp only [bRpB] <;> rfl, ?_, rfl⟩
      rw [htk, List.mem_append, List.mem_singleton]
      rintro (h | rfl)
      · exact hni h
      · simp at hb
  · obtain rfl : i = C.po.length := by omega
    rw [List.take_of_length_le (Nat.le_refl _)] at hni
    show S159_k1 _ _ _ _
    unfold S159_k1
    simp only [bRpB]
    refine ⟨?_, l1.trans l2⟩
    unfold portI
    rw [if_neg hni]

theorem rcells_spec {G h : Hp} {p : Pose} : HCalls P_ G 40 #[poseV p] h (fun u h' => ∃ b, u = .slice (some ⟨b, 0, none⟩) 2 2 ∧ h b = none ∧ G b = none ∧ h' = h.set b (.cells #[.int .i64 p.x, .int .i64 p.y, .int .i64 (east p).1, .int .i64 (east p).2] 28 (0, 0))) := by
  refine HCalls.assume fun d => HCalls.less (enter40 (by simp) (R := fun u h' => ∃ b, u = .slice (some ⟨b, 0, none⟩) 2 2 ∧ h b = none ∧ G b = none ∧ (h.set b (.cells #[.int .i64 p.x, .int .i64 p.y, .int .i64 (east p).1, .int .i64 (east p).2] 28 (0, 0))).le h') ?_) ?_
  rotate_left
  · rintro v h' ⟨b, e, h1, h2, h3⟩
    exact ⟨_, h3, b, e, h1, h2, rfl⟩
  unfold S40
  simp only [bRpB]
  intro x hx gx
  generalize e1 : Hp.set h x _ = h1
  obtain ⟨l1, d1, b1⟩ := boxed e1 hx d gx
  have cx : ∀ k, cellIn G h1 ⟨x, k, none⟩ = _ := fun k => cell_of (look_own b1)
  try simp (disch := first | exact nq rfl | omega) only [bRpB, Nat.reduceAdd, Nat.reduceMul, cx]
  unfold east wr
  cases hd : p.d with
  | true =>
    try simp only [bRpB, cx]
    intro b hb gb
    exact ⟨b, rfl, l1.none hb, gb, l1.both⟩
  | false =>
    try simp only [bRpB, cx]
    unfold S40_k1
    simp (disch := first | exact nq rfl | omega) only [bRpB, cx]
    intro b hb gb
    exact ⟨b, rfl, l1.none hb, gb, l1.both⟩

theorem rfits_spec {G h : Hp} {v : Value} {C : Conf} {p : Pose} (hv : CV G h v C) (hL : C.bl.length ≤ 100000000000000) : HCalls P_ G 22 #[v, poseV p] h (fun u h' => u = .bool (fitsB C p) ∧ h' = h) := by
  obtain ⟨ab, cb, ap, cp, ar, cr, az, cs, rfl, ca⟩ := hv
  refine HCalls.assume fun d => quietly (enter22 (by simp) ?_)
  unfold S22
  simp only [bRpB]
  intro x hx gx
  generalize e1 : Hp.set h x _ = h1
  obtain ⟨l1, d1, b1⟩ := boxed e1 hx d gx
  intro y hy gy
  generalize e2 : Hp.set h1 y _ = h2
  obtain ⟨l2, d2, b2⟩ := boxed e2 hy d1 gy
  have cy : ∀ k, cellIn G h2 ⟨y, k, none⟩ = _ := fun k => cell_of (look_own b2)
  try simp (disch := first | exact nq rfl | omega) only [bRpB, Nat.reduceAdd, Nat.reduceMul, cy]
  refine rcells_spec.mono ?_
  rintro _ _ ⟨b, rfl, hb, gb, rfl⟩
  generalize e3 : Hp.set h2 b _ = h3
  obtain ⟨l3, d3, b3⟩ := boxed e3 hb d2 gb
  have L := (l1.trans l2).trans l3
  have cx : ∀ k, cellIn G h3 ⟨x, k, none⟩ = _ := fun k => cell_of (look_own (l3 _ _ (l2 _ _ b1)))
  have cb3 : ∀ k, cellIn G h3 ⟨b, k, none⟩ = _ := fun k => cell_of (look_own b3)
  have ca3 := ca.up L d3
  try simp only [bRpB, cx, cb3, ix22p (by decide : (0 : Int) ≤ 0) (by decide : (0 : Int) < (2 : Nat)), Int.toNat_zero, Nat.zero_mul]
  refine (ropen_spec (c := (p.x, p.y)) ca3.cv hL).mono ?_
  rintro _ _ ⟨rfl, rfl⟩
  unfold fitsB
  cases hc : openB C (p.x, p.y) with
  | false => simp only [bRpB, hc]; exact ⟨rfl, L⟩
  | true =>
  try simp only [bRpB, Nat.reduceAdd, cx, cb3, ix22p (by decide : (0 : Int) ≤ 1) (by decide : (1 : Int) < (2 : Nat)), Int.toNat_one, Nat.one_mul]
  refine (ropen_spec (c := east p) ca3.cv hL).mono ?_
  rintro _ _ ⟨rfl, rfl⟩
  try simp only [bRpB]
  first | exact L | exact ⟨by simp, L⟩

theorem rbeside_spec {G h : Hp} {v : Value} {C : Conf} {c : Cell} (hv : CV G h v C) (hL : C.bl.length ≤ 100000000000000) : HCalls P_ G 85 #[v, cellV c] h (fun u h' => u = .bool (besideB C c) ∧ h' = h) := by
  obtain ⟨ab, cb, ap, cp, ar, cr, az, cs, rfl, ca⟩ := hv
  refine HCalls.assume fun d => quietly (enter85 (by simp) ?_)
  unfold S85
  simp only [bRpB]
  intro x hx gx
  generalize e1 : Hp.set h x _ = h1
  obtain ⟨l1, d1, b1⟩ := boxed e1 hx d gx
  intro y hy gy
  generalize e2 : Hp.set h1 y _ = h2
  obtain ⟨l2, d2, b2⟩ := boxed e2 hy d1 gy
  have L := l1.trans l2
  have cx : ∀ k, cellIn G h2 ⟨x, k, none⟩ = _ := fun k => cell_of (look_own (l2 _ _ b1))
  have cy : ∀ k, cellIn G h2 ⟨y, k, none⟩ = _ := fun k => cell_of (look_own b2)
  have ca2 := ca.up L d2
  try simp only [bRpB, cx, cy]
  refine (ropen_spec (c := (IntKind.i64.wrap (c.1 + 1), c.2)) ca2.cv hL).mono ?_
  rintro _ _ ⟨rfl, rfl⟩
  unfold besideB wr
  cases hc : openB C (IntKind.i64.wrap (c.1 + 1), c.2) with
  | true => simp only [bRpB, hc]; first | exact L | exact ⟨rfl, L⟩
  | false =>
  try simp only [bRpB, cx, cy]
  refine (ropen_spec (c := (c.1, IntKind.i64.wrap (c.2 + 1))) ca2.cv hL).mono ?_
  rintro _ _ ⟨rfl, rfl⟩
  try simp (disch := first | exact nq rfl | omega) only [bRpB, Nat.reduceAdd, Nat.reduceMul]
  first | exact L | exact ⟨by simp, L⟩

theorem rhome_spec {G h : Hp} {v : Value} {C : Conf} {c : Cell} (hv : CV G h v C) (hL : C.ro.length ≤ 100000000000000) : HCalls P_ G 84 #[v, cellV c] h (fun u h' => u = .bool (homeB C c) ∧ h' = h) := by
  obtain ⟨ab, cb, ap, cp, ar, cr, az, cs, rfl, ca⟩ := hv
  refine HCalls.assume fun d => quietly (enter84 (by simp) ?_)
  unfold S84
  simp only [bRpB]
  intro x hx gx
  generalize e1 : Hp.set h x _ = h1
  obtain ⟨l1, d1, b1⟩ := boxed e1 hx d gx
  intro y hy gy
  generalize e2 : Hp.set h1 y _ = h2
  obtain ⟨l2, d2, b2⟩ := boxed e2 hy d1 gy
  have L := l1.trans l2
  have b1' := l2 _ _ b1
  have ca2 := ca.up L d2
  refine loop_I (fun m r h3 => ∃ i : Nat, m = C.ro.length - i ∧ i ≤ C.ro.length ∧ r 2 = .pointer (some ⟨x, 0, none⟩) ∧ r 3 = .pointer (some ⟨y, 0, none⟩) ∧ r 5 = .int .i64 i ∧ ((C.ro.take i).any fun p => decide (((cellsP p).count c : Int) > 0)) = false ∧ h2.le h3 ∧ Dis G h3) ?_
    (m := C.ro.length) ⟨0, rfl, Nat.zero_le _, by simp (disch := first | exact nq rfl | omega) only [bRpB], by simp (disch := first | exact nq rfl | omega) only [bRpB], by simp only [bRpB] <;> rfl, by simp, Hp.le.refl _, d2⟩
  rintro m r h3 ⟨i, rfl, hi, g2, g3, g5, hni, l3, d3⟩ X HX
  have cx : ∀ k, cellIn G h3 ⟨x, k, none⟩ = _ := fun k => cell_of (look_own (l3 _ _ b1'))
  unfold S84_l2
  simp only [bRpB, g2, g5, cx]
  refine cond_dec (fun hlt => ?_) (fun hge => ?_)
  · have hlt' : i < C.ro.length := by omega
    obtain ⟨z, hz⟩ : ∃ x, C.ro[i]? = some x := ⟨_, List.getElem?_eq_getElem hlt'⟩
    have ca3 := ca2.up l3 d3
    obtain ⟨b, o, rfl, y0, y1, y2⟩ := Sees.pose ca3.ro hz
    have htk : C.ro.take (i + 1) = C.ro.take i ++ [z] := by rw [List.take_add_one, hz]; rfl
    unfold S84_l2_k3
    refine ⟨h3, Hp.le.refl _, ?_⟩
    simp (disch := first | exact nq rfl | omega) only [bRpB, g2, g5, g3, cx, ix23p (Int.natCast_nonneg i) hlt, y0, y1, y2]
    refine (rcells_spec (p := z)).mono ?_
    rintro _ _ ⟨b', rfl, hb, gb, rfl⟩
    generalize e4 : Hp.set h3 b' _ = h4
    obtain ⟨l4, d4, b4⟩ := boxed e4 hb d3 gb
    have cy : ∀ k, cellIn G h3 ⟨y, k, none⟩ = _ := fun k => cell_of (look_own (l3 _ _ b2))
    refine ⟨l4, ?_⟩
    try simp only [bRpB, g3, cy]
    refine (among_spec (L := cellsP z) (c := c) (Sees.row b4 rfl (Nat.le_refl _)) (by simp [cellsP])).mono ?_
    rintro _ _ ⟨rfl, rfl⟩
    try simp only [bRpB]
    cases hb : decide (((cellsP z).count c : Int) > 0) with
    | true =>
      try simp only [bRpB, hb]
      refine ⟨?_, (L.trans l3).trans l4⟩
      unfold homeB
      congr 1
      symm
      rw [List.any_eq_true]
      exact ⟨z, List.mem_of_getElem? hz, hb⟩
    | false =>
      try simp only [bRpB, hb]
      unfold S84_l2_k4
      simp (disch := first | exact nq rfl | omega) only [bRpB, g5]
      refine HX (C.ro.length - (i + 1)) _ _ (by omega) ⟨i + 1, rfl, hlt', by simp (disch := first | exact nq rfl | omega) only [bRpB, g2], by simp (disch := first | exact nq rfl | omega) only [bRpB, g3], by simp only [bRpB] <;> rfl, ?_, l3.trans l4, d4⟩
      rw [htk, List.any_append, hni]
      simp only [List.any_cons, List.any_nil, hb]
      rfl
  · obtain rfl : i = C.ro.length := by omega
    rw [List.take_of_length_le (Nat.le_refl _)] at hni
    show S84_k1 _ _ _ _
    unfold S84_k1
    simp only [bRpB]
    refine ⟨?_, L.trans l3⟩
    unfold homeB
    rw [hni]

theorem rstacked_spec {G h : Hp} {v : Value} {C : Conf} {c : Cell} (hv : CV G h v C) (hL : C.bl.length ≤ 100000000000000) (hP : C.po.length ≤ 100000000000000) (hR : C.ro.length ≤ 100000000000000) : HCalls P_ G 133 #[v, cellV c] h (fun u h' => u = .bool (stackedB C c) ∧ h' = h) := by
  obtain ⟨ab, cb, ap, cp, ar, cr, az, cs, rfl, ca⟩ := hv
  refine HCalls.assume fun d => quietly (enter133 (by simp) ?_)
  unfold S133
  simp only [bRpB]
  intro x hx gx
  generalize e1 : Hp.set h x _ = h1
  obtain ⟨l1, d1, b1⟩ := boxed e1 hx d gx
  intro y hy gy
  generalize e2 : Hp.set h1 y _ = h2
  obtain ⟨l2, d2, b2⟩ := boxed e2 hy d1 gy
  have L := l1.trans l2
  have cx : ∀ k, cellIn G h2 ⟨x, k, none⟩ = _ := fun k => cell_of (look_own (l2 _ _ b1))
  have cy : ∀ k, cellIn G h2 ⟨y, k, none⟩ = _ := fun k => cell_of (look_own b2)
  have ca2 := ca.up L d2
  unfold stackedB
  try simp only [bRpB, cx, cy]
  refine (ropen_spec ca2.cv hL).mono ?_
  rintro _ _ ⟨rfl, rfl⟩
  cases hc : openB C c with
  | false => simp only [bRpB, hc]; exact ⟨by simp, L⟩
  | true =>
  try simp only [bRpB, cx, cy]
  refine (rport_spec ca2.cv hP).mono ?_
  rintro _ _ ⟨rfl, rfl⟩
  try simp only [bRpB]
  cases hc2 : decide (portI C c < 0) with
  | false => simp only [bRpB, hc2]; exact ⟨by simp, L⟩
  | true =>
  try simp only [bRpB, cx, cy]
  refine (rhome_spec ca2.cv hR).mono ?_
  rintro _ _ ⟨rfl, rfl⟩
  try simp only [bRpB]
  cases hc3 : homeB C c with
  | true => simp only [bRpB, hc3]; exact ⟨by simp, L⟩
  | false =>
  try simp only [bRpB, cx, cy]
  refine (rbeside_spec ca2.cv hL).mono ?_
  rintro _ _ ⟨rfl, rfl⟩
  try simp only [bRpB]
  first | exact L | exact ⟨by simp, L⟩

end Go.Proofs.YtfflipnhffknnaaGreatDoor
end

section
/- The reference: the numbers, the stacks, what may be. -/
set_option linter.unusedSimpArgs false
set_option linter.unusedVariables false
set_option maxRecDepth 100000
namespace Go.Proofs.YtfflipnhffknnaaGreatDoor
open Go Go.HL

def bRpC := jq (jq (jq (jq (jq @Bool.and_true (jq @Bool.not_false @Bool.not_true)) (jq (jq @Bool.true_and @HL.cond_false) (jq @HL.cond_true @Int.toNat_natCast))) (jq (jq (jq @List.getElem?_cons_succ.{0} @List.getElem?_cons_zero.{0}) (jq @Nat.add_zero @Nat.zero_add)) (jq (jq @Option.some.injEq.{0} @add_mk) (jq @bin_add @bin_gtr)))) (jq (jq (jq (jq @bin_lss @blockK_exit) (jq @blockK_ret @box_new)) (jq (jq @cell_set_self @cells_agg) (jq @cf98 @eq28p))) (jq (jq (jq @eq_intp @exists_eq_left'.{1}) (jq @fa234_0p @fa26_0)) (jq (jq @fa26_1 @fa26_10) (jq @fa26_11 @fa26_12))))) (jq (jq (jq (jq (jq @fa26_13 @fa26_14) (jq @fa26_2 @fa26_6p)) (jq (jq @fa26_7 @fa26_8) (jq @fa26_9 @gd_ft))) (jq (jq (jq @gd_tt @if_true.{1}) (jq @if_true.{0} @ld24p)) (jq (jq @ld28p @ld3) (jq @ld3p @ln168)))) (jq (jq (jq (jq @opH_sv @pick_f) (jq @pick_t @pureW_sv)) (jq (jq @regs0 @resL_nil1) (jq @resL_tmp @retK_ret))) (jq (jq (jq @thenK_exit @thenK_normal) (jq @thenK_ret @true_and)) (jq (jq @un_not @upd_eq) (jq @upd_ne @wrap_in)))))
def numbersB (C : Conf) : Bool := withinB C.w 1 16 && (withinB C.h 1 16 && (withinB C.ht 1 8 && (withinB C.un 1 1000 && (withinB C.ac 1 1000 && (withinB C.sp 1 1000 && (withinB C.tu 1 1000 && (withinB C.ho 1 1000 && (withinB C.re 1 1000 && (withinB C.qu 1 16 && (withinB C.bu 1 1048576))))))))))

theorem numbers_spec {G h : Hp} {v : Value} {C : Conf} (hv : CV G h v C) : HCalls P_ G 81 #[v] h (fun u h' => u = .bool (numbersB C) ∧ h' = h) := by
  obtain ⟨ab, cb, ap, cp, ar, cr, az, cs, rfl, ca⟩ := hv
  refine HCalls.assume fun d => quietly (enter81 (by simp) ?_)
  unfold S81
  simp only [bRpC]
  intro x hx gx
  generalize e1 : Hp.set h x _ = h1
  obtain ⟨l1, d1, b1⟩ := boxed e1 hx d gx
  have cx : ∀ k, cellIn G h1 ⟨x, k, none⟩ = _ := fun k => cell_of (look_own b1)
  unfold numbersB
  try simp (disch := first | exact nq rfl | omega) only [bRpC, Nat.reduceAdd, Nat.reduceMul, cx]
  refine (rwithin_spec (n := C.w) (a := 1) (b := 16)).mono ?_
  rintro _ _ ⟨rfl, rfl⟩
  cases hc0 : withinB C.w 1 16 with
  | false => try simp only [bRpC, hc0]; exact ⟨by simp, l1⟩
  | true =>
  try simp only [bRpC, cx]
  refine (rwithin_spec (n := C.h) (a := 1) (b := 16)).mono ?_
  rintro _ _ ⟨rfl, rfl⟩
  cases hc1 : withinB C.h 1 16 with
  | false => try simp only [bRpC, hc1]; exact ⟨by simp, l1⟩
  | true =>
  try simp only [bRpC, cx]
  refine (rwithin_spec (n := C.ht) (a := 1) (b := 8)).mono ?_
  rintro _ _ ⟨rfl, rfl⟩
  cases hc2 : withinB C.ht 1 8 with
  | false => try simp only [bRpC, hc2]; exact ⟨by simp, l1⟩
  | true =>
  try simp only [bRpC, cx]
  refine (rwithin_spec (n := C.un) (a := 1) (b := 1000)).mono ?_
  rintro _ _ ⟨rfl, rfl⟩
  cases hc3 : withinB C.un 1 1000 with
  | false => try simp only [bRpC, hc3]; exact ⟨by simp, l1⟩
  | true =>
  try simp only [bRpC, cx]
  refine (rwithin_spec (n := C.ac) (a := 1) (b := 1000)).mono ?_
  rintro _ _ ⟨rfl, rfl⟩
  cases hc4 : withinB C.ac 1 1000 with
  | false => try simp only [bRpC, hc4]; exact ⟨by simp, l1⟩
  | true =>
  try simp only [bRpC, cx]
  refine (rwithin_spec (n := C.sp) (a := 1) (b := 1000)).mono ?_
  rintro _ _ ⟨rfl, rfl⟩
  cases hc5 : withinB C.sp 1 1000 with
  | false => try simp only [bRpC, hc5]; exact ⟨by simp, l1⟩
  | true =>
  try simp only [bRpC, cx]
  refine (rwithin_spec (n := C.tu) (a := 1) (b := 1000)).mono ?_
  rintro _ _ ⟨rfl, rfl⟩
  cases hc6 : withinB C.tu 1 1000 with
  | false => try simp only [bRpC, hc6]; exact ⟨by simp, l1⟩
  | true =>
  try simp only [bRpC, cx]
  refine (rwithin_spec (n := C.ho) (a := 1) (b := 1000)).mono ?_
  rintro _ _ ⟨rfl, rfl⟩
  cases hc7 : withinB C.ho 1 1000 with
  | false => try simp only [bRpC, hc7]; exact ⟨by simp, l1⟩
  | true =>
  try simp only [bRpC, cx]
  refine (rwithin_spec (n := C.re) (a := 1) (b := 1000)).mono ?_
  rintro _ _ ⟨rfl, rfl⟩
  cases hc8 : withinB C.re 1 1000 with
  | false => try simp only [bRpC, hc8]; exact ⟨by simp, l1⟩
  | true =>
  try simp only [bRpC, cx]
  refine (rwithin_spec (n := C.qu) (a := 1) (b := 16)).mono ?_
  rintro _ _ ⟨rfl, rfl⟩
  cases hc9 : withinB C.qu 1 16 with
  | false => try simp only [bRpC, hc9]; exact ⟨by simp, l1⟩
  | true =>
  try simp only [bRpC, cx]
  refine (rwithin_spec (n := C.bu) (a := 1) (b := 1048576)).mono ?_
  rintro _ _ ⟨rfl, rfl⟩
  try simp only [bRpC]
  first | exact l1 | exact ⟨by simp, l1⟩

theorem icget {G h : Hp} {b o i : Nat} {x : Int} (e : ∀ j, j < icC.n → cellIn G h ⟨b, o + i * icC.n + j, none⟩ = (icC.enc x)[j]?) : cellIn G h ⟨b, o + i * 1, none⟩ = some (.int .i64 x) := e 0 (by decide)
theorem Sees.int {G h : Hp} {sa : Option Addr} {n cap : Nat} {L : List Int} (s : Sees icC G h (.slice sa n cap) L) {i : Nat} {x : Int} (hx : L[i]? = some x) :
    ∃ b o, sa = some ⟨b, o, none⟩ ∧ cellIn G h ⟨b, o + i, none⟩ = some (.int .i64 x) := by
  obtain ⟨b, o, c, e1, e2⟩ := s.get hx
  simp only [Value.slice.injEq] at e1
  have := icget e2
  rw [Nat.mul_one] at this
  exact ⟨b, o, e1.1, this⟩

theorem CA.stk {G h : Hp} {C : Conf} {ab : Option Addr} {cb : Nat} {ap : Option Addr} {cp : Nat} {ar : Option Addr} {cr : Nat} {az : Option Addr} {cs : Nat} (ca : CA G h C ab cb ap cp ar cr az cs) {i : Nat} {s : Cell × List Int} (hs : C.st[i]? = some s) :
    ∃ b o a c, az = some ⟨b, o, none⟩ ∧ cellIn G h ⟨b, o + i * 3, none⟩ = some (.int .i64 s.1.1) ∧ cellIn G h ⟨b, o + i * 3 + 1, none⟩ = some (.int .i64 s.1.2) ∧ cellIn G h ⟨b, o + i * 3 + 2, none⟩ = some (.slice a s.2.length c) ∧ Sees icC G h (.slice a s.2.length c) s.2 := by
  obtain ⟨raw, h1, h2⟩ := ca.st
  obtain ⟨sa, cp2, e⟩ := h1.len
  have hl : C.st.length = raw.length := by simp only [Value.slice.injEq] at e; exact e.2.1
  have hi : i < raw.length := by rw [← hl]; exact (List.getElem?_eq_some_iff.1 hs).1
  have hr : raw[i]? = some raw[i] := List.getElem?_eq_getElem hi
  obtain ⟨k1, k2, k3⟩ := h2 i _ s hr hs
  obtain ⟨b, o, c, e1, e2⟩ := h1.get hr
  simp only [Value.slice.injEq] at e1
  have z0 := e2 0 (by decide)
  have z1 := e2 1 (by decide)
  have z2 := e2 2 (by decide)
  simp only [rawC, Nat.add_zero, List.getElem?_cons_zero, List.getElem?_cons_succ] at z0 z1 z2
  refine ⟨b, o, _, _, e1.1, ?_, ?_, ?_, k3⟩
  · rw [z0, ← k1]
  · rw [z1, ← k1]
  · rw [z2, k2]

structure BinsOk (C : Conf) : Prop where
  few : C.st.length ≤ 257
  each : ∀ s ∈ C.st, stackedB C s.1 = true ∧ (s.2.length : Int) ≤ C.ht
  apart : (C.st.map Prod.fst).Nodup
  most : (C.st.flatMap Prod.snd).length ≤ 512
  nums : ∀ b ∈ C.st.flatMap Prod.snd, withinB b 1 1000000000 = true
  once : (C.st.flatMap Prod.snd).Nodup

theorem bins_in1 {G h : Hp} {C : Conf} {ab : Option Addr} {cb : Nat} {ap : Option Addr} {cp : Nat} {ar : Option Addr} {cr : Nat} {az : Option Addr} {cs : Nat} (ca : CA G h C ab cb ap cp ar cr az cs) {x : Nat}
    (cx : ∀ k, cellIn G h ⟨x, k, none⟩ = [Value.int .i64 C.w, .int .i64 C.h, .int .i64 C.ht, .slice ab C.bl.length cb, .slice ap C.po.length cp, .slice ar C.ro.length cr, .slice az C.st.length cs, .int .i64 C.un, .int .i64 C.ac, .int .i64 C.sp, .int .i64 C.tu, .int .i64 C.ho, .int .i64 C.qu, .int .i64 C.re, .int .i64 C.bu, .bool C.back][k]?)
    {i : Nat} {s : Cell × List Int} (hs : C.st[i]? = some s) (hi : i < 1000) {KK : EK} (r : Rg) (g1 : r 1 = .pointer (some ⟨x, 0, none⟩)) (g4 : r 4 = .int .i64 i) (g5 : r 5 = .int .i64 0)
    (H1 : s.1 ∉ (C.st.take i).map Prod.fst → ∀ r' : Rg, r' 1 = r 1 → r' 3 = r 3 → r' 4 = r 4 → KK (.exit 2) r' h)
    (H2 : s.1 ∈ (C.st.take i).map Prod.fst → ∀ r' : Rg, r' 2 = .bool false → KK .ret r' h) : loopP (S86_l11_l16 G) r h KK := by
  have hil : i < C.st.length := (List.getElem?_eq_some_iff.1 hs).1
  obtain ⟨b, o, a, c, e1, z0, z1, z2, z3⟩ := ca.stk hs
  refine loop_I (fun m r2 h3 => ∃ k : Nat, m = i - k ∧ k ≤ i ∧ r2 1 = r 1 ∧ r2 3 = r 3 ∧ r2 4 = r 4 ∧ r2 5 = .int .i64 k ∧ h3 = h ∧ s.1 ∉ (C.st.take k).map Prod.fst) ?_
    (m := i) ⟨0, rfl, Nat.zero_le _, rfl, rfl, rfl, by rw [g5]; rfl, rfl, by simp⟩
  rintro m r2 h3 ⟨k, rfl, hk, k1, k3, k4, k5, rfl, hn⟩ X HX
  rw [g1] at k1
  rw [g4] at k4
  unfold S86_l11_l16
  simp only [bRpC, k4, k5]
  refine cond_dec (fun hlt => ?_) (fun hge => ?_)
  · have hlt' : k < i := by omega
    obtain ⟨t, ht⟩ : ∃ x, C.st[k]? = some x := ⟨_, List.getElem?_eq_getElem (by omega)⟩
    obtain ⟨b', o', a', c', e1', y0, y1, y2, y3⟩ := ca.stk ht
    subst e1
    cases e1'
    have htk : C.st.take (k + 1) = C.st.take k ++ [t] := by rw [List.take_add_one, ht]; rfl
    unfold S86_l11_l16_k17
    simp (disch := first | exact nq rfl | omega) only [bRpC, k1, k4, k5, cx, ix24p (Int.natCast_nonneg k) (show (k : Int) < C.st.length by omega), ix24p (Int.natCast_nonneg i) (show (i : Int) < C.st.length by omega), z0, z1, y0, y1, cell_beq]
    cases hb : (t.1 == s.1) with
    | true =>
      try simp only [bRpC]
      refine H2 ?_ _ (by simp only [bRpC])
      have : t.1 = s.1 := by simpa using hb
      rw [← this]
      exact List.mem_map_of_mem (f := Prod.fst) (List.mem_of_getElem? (i := k) (by rw [List.getElem?_take, if_pos hlt', ht]))
    | false =>
      try simp only [bRpC]
      unfold S86_l11_l16_k18
      simp (disch := first | exact nq rfl | omega) only [bRpC, k5]
      refine HX (i - (k + 1)) _ _ (by omega) ⟨k + 1, rfl, hlt', by simp (disch := first | exact nq rfl | omega) only [bRpC, k1, g1], by simp (disch := first | exact nq rfl | omega) only [bRpC, k3], by simp (disch := first | exact nq rfl | omega) only [bRpC, k4, g4], by simp only [bRpC] <;> rfl, rfl, ?_⟩
      rw [htk, List.map_append, List.mem_append]
      rintro (q | q)
      · exact hn q
      · simp at q
        rw [q] at hb
        simp at hb
  · obtain rfl : k = i := by omega
    exact H1 hn _ (by simp (disch := first | exact nq rfl | omega) only [bRpC, k1, g1]) (by simp (disch := first | exact nq rfl | omega) only [bRpC, k3]) (by simp (disch := first | exact nq rfl | omega) only [bRpC, k4, g4])

theorem eoint : ElemOk P_ 3 icC.n 8 := ⟨by kernel_rfl, by kernel_rfl, by kernel_rfl⟩

theorem bins_in2 {G h : Hp} {v : Value} {L : List Int} (sv : Sees icC G h v L) {i : Nat} {y : Int} (hy : L[i]? = some y) (hi : i < 100000) {KK : EK} (r : Rg) (g3 : r 3 = v) (g6 : r 6 = .int .i64 i) (g7 : r 7 = .int .i64 0)
    (H1 : y ∉ L.take i → ∀ r' : Rg, r' 3 = r 3 → r' 6 = r 6 → KK (.exit 6) r' h)
    (H2 : y ∈ L.take i → ∀ r' : Rg, r' 2 = .bool false → KK .ret r' h) : loopP (S86_l4_l8 G) r h KK := by
  have hil : i < L.length := (List.getElem?_eq_some_iff.1 hy).1
  obtain ⟨sa, cap, rfl⟩ := sv.len
  obtain ⟨b, o, e1, z0⟩ := Sees.int sv hy
  refine loop_I (fun m r2 h3 => ∃ k : Nat, m = i - k ∧ k ≤ i ∧ r2 3 = r 3 ∧ r2 6 = r 6 ∧ r2 7 = .int .i64 k ∧ h3 = h ∧ y ∉ L.take k) ?_
    (m := i) ⟨0, rfl, Nat.zero_le _, rfl, rfl, by rw [g7]; rfl, rfl, by simp⟩
  rintro m r2 h3 ⟨k, rfl, hk, k3, k6, k7, rfl, hn⟩ X HX
  rw [g3] at k3
  rw [g6] at k6
  subst e1
  unfold S86_l4_l8
  simp only [bRpC, k6, k7]
  refine cond_dec (fun hlt => ?_) (fun hge => ?_)
  · have hlt' : k < i := by omega
    obtain ⟨t, ht⟩ : ∃ x, L[k]? = some x := ⟨_, List.getElem?_eq_getElem (by omega)⟩
    obtain ⟨b', o', e1', y0⟩ := Sees.int sv ht
    cases e1'
    have htk : L.take (k + 1) = L.take k ++ [t] := by rw [List.take_add_one, ht]; rfl
    unfold S86_l4_l8_k9
    simp (disch := first | exact nq rfl | omega) only [bRpC, k3, k6, k7, ix168p (Int.natCast_nonneg k) (show (k : Int) < L.length by omega), ix168p (Int.natCast_nonneg i) (show (i : Int) < L.length by omega), Nat.mul_one, z0, y0]
    cases hb : (t == y) with
    | true =>
      try simp only [bRpC]
      refine H2 ?_ _ (by simp only [bRpC])
      have : t = y := by simpa using hb
      rw [← this]
      exact List.mem_of_getElem? (i := k) (by rw [List.getElem?_take, if_pos hlt', ht])
    | false =>
      try simp only [bRpC]
      unfold S86_l4_l8_k10
      simp (disch := first | exact nq rfl | omega) only [bRpC, k7]
      refine HX (i - (k + 1)) _ _ (by omega) ⟨k + 1, rfl, hlt', by simp (disch := first | exact nq rfl | omega) only [bRpC, k3, g3], by simp (disch := first | exact nq rfl | omega) only [bRpC, k6, g6], by simp only [bRpC] <;> rfl, rfl, ?_⟩
      rw [htk, List.mem_append]
      rintro (q | q)
      · exact hn q
      · simp at q
        rw [q] at hb
        simp at hb
  · obtain rfl : k = i := by omega
    exact H1 hn _ (by simp (disch := first | exact nq rfl | omega) only [bRpC, k3, g3]) (by simp (disch := first | exact nq rfl | omega) only [bRpC, k6, g6])

theorem take_get {α : Type} {L : List α} {i : Nat} {x : α} (hx : L[i]? = some x) : L.take (i + 1) = L.take i ++ [x] := by rw [List.take_add_one, hx]; rfl
theorem nodup_take_succ {α : Type} {L : List α} {i : Nat} {x : α} (hx : L[i]? = some x) (h1 : (L.take i).Nodup) (h2 : x ∉ L.take i) : (L.take (i + 1)).Nodup := by
  rw [take_get hx]
  exact List.nodup_append.2 ⟨h1, by simp, fun a ha b hb => by simp at hb; subst hb; exact fun e => h2 (e ▸ ha)⟩
theorem not_nodup {α : Type} {L : List α} {i : Nat} {x : α} (hx : L[i]? = some x) (h2 : x ∈ L.take i) : ¬ L.Nodup := by
  intro h
  have : (L.take (i + 1)).Nodup := h.sublist (List.take_sublist _ _)
  rw [take_get hx] at this
  exact (List.nodup_append.1 this).2.2 x h2 x (by simp) rfl

theorem bins_out {G h : Hp} {v : Value} {L : List Int} (sv : Sees icC G h v L) (hL : L.length ≤ 10000) (R : Bool → Prop) {h0 : Hp} (h0l : h0.le h) (r : Rg) (g3 : r 3 = v)
    (H1 : L.length ≤ 512 → (∀ b ∈ L, withinB b 1 1000000000 = true) → L.Nodup → R true) (H2 : L.length > 512 ∨ (∃ b ∈ L, withinB b 1 1000000000 = false) ∨ ¬ L.Nodup → R false) :
    S86_k1 G (retK P_ G [.tmp 2] fun u h' => (∃ b, u = .bool b ∧ R b) ∧ h0.le h') r h := by
  obtain ⟨sa, cap, hve⟩ := sv.len
  unfold S86_k1
  simp only [bRpC, g3, hve]
  by_cases hlen : L.length ≤ 512
  rotate_left
  · have e : decide ((L.length : Int) > 512) = true := by rw [decide_eq_true_iff]; omega
    simp only [bRpC, e]
    exact ⟨⟨_, rfl, H2 (.inl (by omega))⟩, h0l⟩
  have e : decide ((L.length : Int) > 512) = false := by rw [decide_eq_false_iff_not]; omega
  simp only [bRpC, e]
  unfold S86_k2
  refine loop_I (fun m r2 h3 => ∃ i : Nat, m = L.length - i ∧ i ≤ L.length ∧ r2 3 = v ∧ r2 6 = .int .i64 i ∧ h3 = h ∧ (∀ b ∈ L.take i, withinB b 1 1000000000 = true) ∧ (L.take i).Nodup) ?_
    (m := L.length) ⟨0, rfl, Nat.zero_le _, by simp (disch := first | exact nq rfl | omega) only [bRpC, g3, hve], by simp only [bRpC] <;> rfl, rfl, by simp, by simp⟩
  rintro m r2 h3 ⟨i, rfl, hi, k3, k6, rfl, hw, hnd⟩ X HX
  unfold S86_l4
  simp only [bRpC, k3, hve, k6]
  refine cond_dec (fun hlt => ?_) (fun hge => ?_)
  rotate_left
  · obtain rfl : i = L.length := by omega
    rw [List.take_of_length_le (Nat.le_refl _)] at hw hnd
    try simp (disch := first | exact nq rfl | omega) only [bRpC, Nat.reduceAdd, Nat.reduceMul]
    unfold S86_k3
    simp only [bRpC]
    exact ⟨⟨_, rfl, H1 hlen hw hnd⟩, h0l⟩
  have hlt' : i < L.length := by omega
  obtain ⟨y, hy⟩ : ∃ x, L[i]? = some x := ⟨_, List.getElem?_eq_getElem hlt'⟩
  rw [hve] at sv
  obtain ⟨b, o, rfl, z0⟩ := Sees.int sv hy
  unfold S86_l4_k5
  simp (disch := first | exact nq rfl | omega) only [bRpC, k3, hve, k6, ix168 (Int.natCast_nonneg i) (show (i : Int) < L.length by omega), Nat.mul_one, z0]
  refine (rwithin_spec (n := y) (a := 1) (b := 1000000000)).mono ?_
  rintro _ _ ⟨rfl, rfl⟩
  cases hb : withinB y 1 1000000000 with
  | false =>
    try simp only [bRpC]
    exact ⟨⟨_, rfl, H2 (.inr (.inl ⟨y, List.mem_of_getElem? hy, hb⟩))⟩, h0l⟩
  | true =>
    try simp only [bRpC]
    unfold S86_l4_k7
    refine bins_in2 sv hy (by omega) _ (by simp (disch := first | exact nq rfl | omega) only [bRpC, k3, hve]) (by simp (disch := first | exact nq rfl | omega) only [bRpC, k6]) (by simp only [bRpC]) (fun hn r' j3 j6 => ?_) (fun hm r' j2 => ?_)
    · simp only [blockK_exit, if_true, blockK_normal, thenK_normal]
      unfold S86_l4_k6
      have j6' : r' 6 = .int .i64 i := j6.trans (by simp (disch := first | exact nq rfl | omega) only [bRpC, k6])
      simp (disch := first | exact nq rfl | omega) only [bRpC, j6']
      refine HX (L.length - (i + 1)) _ _ (by omega) ⟨i + 1, rfl, hlt', ?_, by simp only [bRpC] <;> rfl, rfl, ?_, nodup_take_succ hy hnd hn⟩
      · simp (disch := first | exact nq rfl | omega) only [bRpC, j3, k3]
      · rw [take_get hy]
        intro c hc
        rcases List.mem_append.1 hc with hc | hc
        · exact hw c hc
        · simp at hc; rw [hc]; exact hb
    · simp only [bRpC, j2]
      exact ⟨⟨_, rfl, H2 (.inr (.inr (not_nodup hy hm)))⟩, h0l⟩

end Go.Proofs.YtfflipnhffknnaaGreatDoor
end

section
/- The reference: the stacks, and what may be. -/
set_option linter.unusedSimpArgs false
set_option linter.unusedVariables false
set_option maxRecDepth 100000
namespace Go.Proofs.YtfflipnhffknnaaGreatDoor
open Go Go.HL

def bRpD := jq (jq (jq (jq (jq @Bool.not_false (jq @Bool.not_true @HL.cond_false)) (jq @HL.cond_true (jq @Int.toNat_natCast @List.getElem?_cons_succ.{0}))) (jq (jq @List.getElem?_cons_zero.{0} (jq @Nat.add_zero @Nat.zero_add)) (jq (jq @Option.some.injEq.{0} @add_mk) (jq @bin_add @bin_gtrp)))) (jq (jq (jq @bin_lss (jq @blockK_exit @blockK_ret)) (jq (jq @box_new @cells_agg) (jq @cf133 @exists_eq_left'.{1}))) (jq (jq @fa234_0p (jq @fa234_1 @fa234_1p)) (jq (jq @fa26_2p @fa26_6) (jq @fa26_6p @gd_ff))))) (jq (jq (jq (jq @gd_tf (jq @if_true.{1} @if_true.{0})) (jq @ld168 (jq @ld168p @ld24))) (jq (jq @ld24p (jq @ld26p @ld28p)) (jq (jq @ld3p @ln168p) (jq @ln24 @opH_sv)))) (jq (jq (jq @pick_fp (jq @pick_tp @pureW_sv)) (jq (jq @regs0 @resL_nil1) (jq @resL_tmp @retK_ret))) (jq (jq @thenK_exit (jq @thenK_normal @thenK_ret)) (jq (jq @un_notp @upd_eq) (jq @upd_ne @wrap_in)))))
theorem flat_len {C : Conf} {L : List (Cell × List Int)} (h : ∀ s ∈ L, (s.2.length : Int) ≤ C.ht) (ht : C.ht ≤ 8) : (L.flatMap Prod.snd).length ≤ 8 * L.length := by
  induction L with
  | nil => simp
  | cons s L ih =>
    have h1 := h s (.head _)
    have h2 := ih fun t ht => h t (.tail _ ht)
    rw [List.flatMap_cons, List.length_append, List.length_cons]
    omega

set_option maxHeartbeats 1000000 in
theorem bins_spec {G h : Hp} {v : Value} {C : Conf} (hv : CV G h v C) (ht : C.ht ≤ 8) (hL : C.bl.length ≤ 100000000000000) (hP : C.po.length ≤ 100000000000000) (hR : C.ro.length ≤ 100000000000000) :
    HCalls P_ G 86 #[v] h (fun u h' => (∃ b, u = .bool b ∧ (b = true ↔ BinsOk C)) ∧ h' = h) := by
  obtain ⟨ab, cb, ap, cp, ar, cr, az, cs, rfl, ca⟩ := hv
  refine HCalls.assume fun d => quietly (enter86 (by simp) ?_)
  unfold S86
  simp only [bRpD]
  intro x hx gx
  generalize e1 : Hp.set h x _ = h1
  obtain ⟨l1, d1, b1⟩ := boxed e1 hx d gx
  refine loop_I (fun m r h3 => ∃ (i : Nat) (lp : Hp) (v3 : Value), m = C.st.length - i ∧ i ≤ C.st.length ∧ i ≤ 257 ∧ r 1 = .pointer (some ⟨x, 0, none⟩) ∧ r 3 = v3 ∧ r 4 = .int .i64 i ∧
     (∀ s ∈ C.st.take i, stackedB C s.1 = true ∧ (s.2.length : Int) ≤ C.ht) ∧ ((C.st.take i).map Prod.fst).Nodup ∧ Slc icC 3 lp v3 ((C.st.take i).flatMap Prod.snd) ∧ Sep [lp, h1] h3 ∧ Dis G h3) ?_
    (m := C.st.length) ⟨0, noHp, _, rfl, Nat.zero_le _, Nat.zero_le _, by simp (disch := first | exact nq rfl | omega) only [bRpD], by simp (disch := first | exact nq rfl | omega) only [bRpD] <;> rfl, by simp only [bRpD] <;> rfl, by simp, by simp, Slc.nil, Sep.one.none, d1⟩
  rintro m r h3 ⟨i, lp, v3, rfl, hi, hi2, g1, g3, g4, hok, hnd, o3, s3, d3⟩ X HX
  have l3 : h1.le h3 := s3.in 1 rfl
  have cx : ∀ k, cellIn G h3 ⟨x, k, none⟩ = _ := fun k => cell_of (look_own (l3 _ _ b1))
  have ca3 := ca.up (l1.trans l3) d3
  have hfl := flat_len (C := C) (fun s hs => (hok s hs).2) ht
  rw [List.length_take, Nat.min_eq_left hi] at hfl
  unfold S86_l11
  simp only [bRpD, g1, g4, cx]
  refine cond_dec (fun hlt => ?_) (fun hge => ?_)
  rotate_left
  · obtain rfl : i = C.st.length := by omega
    rw [List.take_of_length_le (Nat.le_refl _)] at hok hnd o3 hfl
    try simp (disch := first | exact nq rfl | omega) only [bRpD, Nat.reduceAdd, Nat.reduceMul]
    refine bins_out (v := v3) (o3.sees (by decide) s3.hd) (by omega) (fun b => b = true ↔ BinsOk C) (l1.trans l3) _ (by simp (disch := first | exact nq rfl | omega) only [bRpD, g3]) (fun h1 h2 h3 => ?_) (fun hbad => ?_)
    · exact ⟨fun _ => ⟨hi2, hok, hnd, h1, h2, h3⟩, fun _ => rfl⟩
    · refine ⟨fun e => absurd e (by decide), fun B => ?_⟩
      exfalso
      rcases hbad with hb | ⟨b, hb1, hb2⟩ | hb
      · have := B.most; omega
      · have := B.nums b hb1; rw [hb2] at this; cases this
      · exact hb B.once
  have hlt' : i < C.st.length := by omega
  obtain ⟨s, hs⟩ : ∃ x, C.st[i]? = some x := ⟨_, List.getElem?_eq_getElem hlt'⟩
  have hsm : s ∈ C.st := List.mem_of_getElem? hs
  obtain ⟨b, o, a, c, rfl, z0, z1, z2, z3⟩ := ca3.stk hs
  have no : ∀ {P : Prop}, ¬ P → (false = true ↔ P) := fun h => ⟨fun e => absurd e (by decide), fun p => (h p).elim⟩
  unfold S86_l11_k12
  by_cases h257 : i < 257
  rotate_left
  · have e : decide ((i : Int) > 256) = true := by rw [decide_eq_true_iff]; omega
    simp (disch := first | exact nq rfl | omega) only [bRpD, g4, e]
    exact ⟨⟨_, rfl, no fun B => by have := B.few; omega⟩, l1.trans l3⟩
  have e : decide ((i : Int) > 256) = false := by rw [decide_eq_false_iff_not]; omega
  simp (disch := first | exact nq rfl | omega) only [bRpD, g4, e, g1, cx, ix24p (Int.natCast_nonneg i) hlt, z0, z1, z2]
  refine (rstacked_spec (c := s.1) ca3.cv hL hP hR).mono ?_
  rintro _ _ ⟨rfl, rfl⟩
  cases hst : stackedB C s.1 with
  | false =>
    try simp only [bRpD]
    exact ⟨⟨_, rfl, no fun B => by have := (B.each s hsm).1; rw [hst] at this; cases this⟩, l1.trans l3⟩
  | true =>
  try simp only [bRpD, g1, cx, ix24p (Int.natCast_nonneg i) hlt, z2]
  by_cases hlen : (s.2.length : Int) ≤ C.ht
  rotate_left
  · have e : decide ((s.2.length : Int) > C.ht) = true := by rw [decide_eq_true_iff]; omega
    simp only [bRpD, e]
    exact ⟨⟨_, rfl, no fun B => hlen (B.each s hsm).2⟩, l1.trans l3⟩
  have e : decide ((s.2.length : Int) > C.ht) = false := by rw [decide_eq_false_iff_not]; omega
  simp only [bRpD, e]
  unfold S86_l11_k14
  refine bins_in1 ca3 cx hs (by omega) _ (by simp (disch := first | exact nq rfl | omega) only [bRpD, g1]) (by simp (disch := first | exact nq rfl | omega) only [bRpD, g4]) (by simp only [bRpD]) (fun hn r' j1 j3 j4 => ?_) (fun hm r' j2 => ?_)
  · simp only [blockK_exit, if_true, blockK_normal, thenK_normal]
    have j1' : r' 1 = .pointer (some ⟨x, 0, none⟩) := j1.trans (by simp (disch := first | exact nq rfl | omega) only [bRpD, g1])
    have j3' : r' 3 = v3 := j3.trans (by simp (disch := first | exact nq rfl | omega) only [bRpD, g3])
    have j4' : r' 4 = .int .i64 i := j4.trans (by simp (disch := first | exact nq rfl | omega) only [bRpD, g4])
    unfold S86_l11_k15
    simp only [bRpD, j1', j3', j4', cx, ix24 (Int.natCast_nonneg i) hlt, z2]
    refine append_piece icC (by decide) un168 eoint (by decide) (by decide) s3 d3 o3 z3 (by omega) fun v' a' h' o' s' d' => ?_
    unfold S86_l11_k13
    simp (disch := first | exact nq rfl | omega) only [bRpD, j4']
    refine HX (C.st.length - (i + 1)) _ _ (by omega) ⟨i + 1, a', v', rfl, hlt', by omega, by simp (disch := first | exact nq rfl | omega) only [bRpD, j1'], by simp (disch := first | exact nq rfl | omega) only [bRpD], by simp only [bRpD] <;> rfl, ?_, ?_, ?_, s', d'⟩
    · rw [take_get hs]
      intro t ht'
      rcases List.mem_append.1 ht' with q | q
      · exact hok t q
      · simp at q; rw [q]; exact ⟨hst, hlen⟩
    · rw [take_get hs, List.map_append]
      exact List.nodup_append.2 ⟨hnd, by simp, fun p hp q hq => by simp at hq; subst hq; exact fun e => hn (e ▸ hp)⟩
    · rw [take_get hs, List.flatMap_append]
      simpa using o'
  · simp only [bRpD, j2]
    refine ⟨⟨_, rfl, no fun B => ?_⟩, l1.trans l3⟩
    refine not_nodup (L := C.st.map Prod.fst) (i := i) (x := s.1) (by rw [List.getElem?_map, hs]; rfl) ?_ B.apart
    rw [← List.map_take]
    exact hm

end Go.Proofs.YtfflipnhffknnaaGreatDoor
end

section
/- The reference: what may be. -/
set_option linter.unusedSimpArgs false
set_option linter.unusedVariables false
set_option maxRecDepth 100000
namespace Go.Proofs.YtfflipnhffknnaaGreatDoor
open Go Go.HL

def bRpE := jq (jq (jq (jq (jq (jq @Bool.not_false @Bool.not_true) (jq @HL.cond_false @HL.cond_true)) (jq (jq @Int.toNat_natCast @List.getElem?_cons_succ.{0}) (jq @List.getElem?_cons_zero.{0} @Nat.add_zero))) (jq (jq (jq @Nat.zero_add @Option.some.injEq.{0}) (jq @add_mk @bin_add)) (jq (jq @bin_gtr @bin_gtrp) (jq @bin_lss @blockK_ret)))) (jq (jq (jq (jq @box_new @cell_set_self) (jq @cells_agg @cf22)) (jq (jq @cf40 @cf81) (jq @cf82 @cf83))) (jq (jq (jq @cf84 @cf85) (jq @cf86 @exists_eq_left'.{1})) (jq (jq @fa26_3 @fa26_3p) (jq @fa26_4 (jq @fa26_4p @fa26_5)))))) (jq (jq (jq (jq (jq @fa26_5p @gd_ff) (jq @gd_tf @ld22)) (jq (jq @ld22p @ld23) (jq @ld23p @ld26))) (jq (jq (jq @ld26p @ld28) (jq @ld28p @ld30)) (jq (jq @ld30p @ln22) (jq @ln23 @opH_sv)))) (jq (jq (jq (jq @pick_f @pick_fp) (jq @pick_t @pick_tp)) (jq (jq @pureW_sv @regs0) (jq @resL_nil1 @resL_tmp))) (jq (jq (jq @retK_ret @thenK_exit) (jq @thenK_normal @thenK_ret)) (jq (jq @un_not @un_notp) (jq @upd_eq (jq @upd_ne @wrap_in))))))
structure MayOk (C : Conf) : Prop where
  nums : numbersB C = true
  po8 : C.po.length ≤ 8
  ro8 : C.ro.length ≤ 8
  bl256 : C.bl.length ≤ 256
  blk : ∀ c ∈ C.bl, inB C c = true ∧ C.bl.count c ≤ 1 ∧ C.po.count c = 0
  prt : ∀ c ∈ C.po, inB C c = true ∧ C.po.count c ≤ 1 ∧ homeB C c = false ∧ besideB C c = true
  fit : ∀ p ∈ C.ro, fitsB C p = true
  once : ∀ c ∈ C.ro.flatMap cellsP, (C.ro.flatMap cellsP).count c ≤ 1
  bins : BinsOk C

theorem may_bl {G h : Hp} {C : Conf} {ab : Option Addr} {cb : Nat} {ap : Option Addr} {cp : Nat} {ar : Option Addr} {cr : Nat} {az : Option Addr} {cs : Nat} (ca : CA G h C ab cb ap cp ar cr az cs) {x : Nat}
    (cx : ∀ k, cellIn G h ⟨x, k, none⟩ = [Value.int .i64 C.w, .int .i64 C.h, .int .i64 C.ht, .slice ab C.bl.length cb, .slice ap C.po.length cp, .slice ar C.ro.length cr, .slice az C.st.length cs, .int .i64 C.un, .int .i64 C.ac, .int .i64 C.sp, .int .i64 C.tu, .int .i64 C.ho, .int .i64 C.qu, .int .i64 C.re, .int .i64 C.bu, .bool C.back][k]?) {KK : EK} (hL : C.bl.length ≤ 256) (hP : C.po.length ≤ 8) (r : Rg) (g1 : r 1 = .pointer (some ⟨x, 0, none⟩)) (g3 : r 3 = .int .i64 0)
    (H1 : (∀ c ∈ C.bl, inB C c = true ∧ C.bl.count c ≤ 1 ∧ C.po.count c = 0) → ∀ r' : Rg, r' 1 = r 1 → KK (.exit 0) r' h)
    (H2 : (∃ c ∈ C.bl, ¬ (inB C c = true ∧ C.bl.count c ≤ 1 ∧ C.po.count c = 0)) → ∀ r' : Rg, r' 2 = .bool false → KK .ret r' h) : loopP (S38_l16 G) r h KK := by
  refine loop_I (fun m r2 h3 => ∃ i : Nat, m = C.bl.length - i ∧ i ≤ C.bl.length ∧ r2 1 = r 1 ∧ r2 3 = .int .i64 i ∧ h3 = h ∧ (∀ c ∈ C.bl.take i, inB C c = true ∧ C.bl.count c ≤ 1 ∧ C.po.count c = 0)) ?_
    (m := C.bl.length) ⟨0, rfl, Nat.zero_le _, rfl, by rw [g3]; rfl, rfl, by simp⟩
  rintro m r2 h3 ⟨i, rfl, hi, k1, k3, rfl, hw⟩ X HX
  rw [g1] at k1
  unfold S38_l16
  simp only [bRpE, k1, cx, k3]
  refine cond_dec (fun hlt => ?_) (fun hge => ?_)
  rotate_left
  · obtain rfl : i = C.bl.length := by omega
    rw [List.take_of_length_le (Nat.le_refl _)] at hw
    exact H1 hw _ (by simp (disch := first | exact nq rfl | omega) only [bRpE, k1, g1])
  have hlt' : i < C.bl.length := by omega
  obtain ⟨y, hy⟩ : ∃ x, C.bl[i]? = some x := ⟨_, List.getElem?_eq_getElem hlt'⟩
  have hym : y ∈ C.bl := List.mem_of_getElem? hy
  obtain ⟨b, o, rfl, z0, z1⟩ := Sees.cell ca.bl hy
  unfold S38_l16_k17
  simp (disch := first | exact nq rfl | omega) only [bRpE, k1, cx, k3, ix22p (Int.natCast_nonneg i) hlt, z0, z1]
  refine (in_spec (c := y) ca.cv).mono ?_
  rintro _ _ ⟨rfl, rfl⟩
  cases h1 : inB C y with
  | false =>
    try simp only [bRpE]
    exact H2 ⟨y, hym, fun q => by rw [h1] at q; exact absurd q.1 (by decide)⟩ _ (by simp only [bRpE])
  | true =>
  try simp only [bRpE, k1, cx, k3, ix22p (Int.natCast_nonneg i) hlt, z0, z1]
  refine (among_spec (c := y) ca.bl (by omega)).mono ?_
  rintro _ _ ⟨rfl, rfl⟩
  try simp only [bRpE]
  by_cases h2 : C.bl.count y ≤ 1
  rotate_left
  · have e : decide ((C.bl.count y : Int) > 1) = true := by rw [decide_eq_true_iff]; omega
    simp only [bRpE, e]
    exact H2 ⟨y, hym, fun q => h2 q.2.1⟩ _ (by simp only [bRpE])
  have e : decide ((C.bl.count y : Int) > 1) = false := by rw [decide_eq_false_iff_not]; omega
  try simp only [bRpE, e, k1, cx, k3, ix22p (Int.natCast_nonneg i) hlt, z0, z1]
  refine (among_spec (c := y) ca.po (by omega)).mono ?_
  rintro _ _ ⟨rfl, rfl⟩
  try simp only [bRpE]
  by_cases h3 : C.po.count y = 0
  rotate_left
  · have e : decide ((C.po.count y : Int) > 0) = true := by rw [decide_eq_true_iff]; omega
    simp only [bRpE, e]
    exact H2 ⟨y, hym, fun q => h3 q.2.2⟩ _ (by simp only [bRpE])
  have e : decide ((C.po.count y : Int) > 0) = false := by rw [decide_eq_false_iff_not]; omega
  simp only [bRpE, e]
  unfold S38_l16_k18
  simp (disch := first | exact nq rfl | omega) only [bRpE, k3]
  refine HX (C.bl.length - (i + 1)) _ _ (by omega) ⟨i + 1, rfl, hlt', by simp (disch := first | exact nq rfl | omega) only [bRpE, k1, g1], by simp only [bRpE] <;> rfl, rfl, ?_⟩
  rw [take_get hy]
  intro c hc
  rcases List.mem_append.1 hc with q | q
  · exact hw c q
  · simp at q; rw [q]; exact ⟨h1, h2, h3⟩

theorem may_po {G h : Hp} {C : Conf} {ab : Option Addr} {cb : Nat} {ap : Option Addr} {cp : Nat} {ar : Option Addr} {cr : Nat} {az : Option Addr} {cs : Nat} (ca : CA G h C ab cb ap cp ar cr az cs) {x : Nat}
    (cx : ∀ k, cellIn G h ⟨x, k, none⟩ = [Value.int .i64 C.w, .int .i64 C.h, .int .i64 C.ht, .slice ab C.bl.length cb, .slice ap C.po.length cp, .slice ar C.ro.length cr, .slice az C.st.length cs, .int .i64 C.un, .int .i64 C.ac, .int .i64 C.sp, .int .i64 C.tu, .int .i64 C.ho, .int .i64 C.qu, .int .i64 C.re, .int .i64 C.bu, .bool C.back][k]?) {KK : EK} (hL : C.bl.length ≤ 256) (hP : C.po.length ≤ 8) (hR : C.ro.length ≤ 8) (r : Rg) (g1 : r 1 = .pointer (some ⟨x, 0, none⟩)) (g4 : r 4 = .int .i64 0)
    (H1 : (∀ c ∈ C.po, inB C c = true ∧ C.po.count c ≤ 1 ∧ homeB C c = false ∧ besideB C c = true) → ∀ r' : Rg, r' 1 = r 1 → KK (.exit 2) r' h)
    (H2 : (∃ c ∈ C.po, ¬ (inB C c = true ∧ C.po.count c ≤ 1 ∧ homeB C c = false ∧ besideB C c = true)) → ∀ r' : Rg, r' 2 = .bool false → KK .ret r' h) : loopP (S38_l13 G) r h KK := by
  refine loop_I (fun m r2 h3 => ∃ i : Nat, m = C.po.length - i ∧ i ≤ C.po.length ∧ r2 1 = r 1 ∧ r2 4 = .int .i64 i ∧ h3 = h ∧ (∀ c ∈ C.po.take i, inB C c = true ∧ C.po.count c ≤ 1 ∧ homeB C c = false ∧ besideB C c = true)) ?_
    (m := C.po.length) ⟨0, rfl, Nat.zero_le _, rfl, by rw [g4]; rfl, rfl, by simp⟩
  rintro m r2 h3 ⟨i, rfl, hi, k1, k4, rfl, hw⟩ X HX
  rw [g1] at k1
  unfold S38_l13
  simp only [bRpE, k1, cx, k4]
  refine cond_dec (fun hlt => ?_) (fun hge => ?_)
  rotate_left
  · obtain rfl : i = C.po.length := by omega
    rw [List.take_of_length_le (Nat.le_refl _)] at hw
    exact H1 hw _ (by simp (disch := first | exact nq rfl | omega) only [bRpE, k1, g1])
  have hlt' : i < C.po.length := by omega
  obtain ⟨y, hy⟩ : ∃ x, C.po[i]? = some x := ⟨_, List.getElem?_eq_getElem hlt'⟩
  have hym : y ∈ C.po := List.mem_of_getElem? hy
  obtain ⟨b, o, rfl, z0, z1⟩ := Sees.cell ca.po hy
  unfold S38_l13_k14
  simp (disch := first | exact nq rfl | omega) only [bRpE, k1, cx, k4, ix22p (Int.natCast_nonneg i) hlt, z0, z1]
  refine (in_spec (c := y) ca.cv).mono ?_
  rintro _ _ ⟨rfl, rfl⟩
  cases h1 : inB C y with
  | false =>
    try simp only [bRpE]
    exact H2 ⟨y, hym, fun q => by rw [h1] at q; exact absurd q.1 (by decide)⟩ _ (by simp only [bRpE])
  | true =>
  try simp only [bRpE, k1, cx, k4, ix22p (Int.natCast_nonneg i) hlt, z0, z1]
  refine (among_spec (c := y) ca.po (by omega)).mono ?_
  rintro _ _ ⟨rfl, rfl⟩
  try simp only [bRpE]
  by_cases h2 : C.po.count y ≤ 1
  rotate_left
  · have e : decide ((C.po.count y : Int) > 1) = true := by rw [decide_eq_true_iff]; omega
    simp only [bRpE, e]
    exact H2 ⟨y, hym, fun q => h2 q.2.1⟩ _ (by simp only [bRpE])
  have e : decide ((C.po.count y : Int) > 1) = false := by rw [decide_eq_false_iff_not]; omega
  try simp only [bRpE, e, k1, cx, k4, ix22p (Int.natCast_nonneg i) hlt, z0, z1]
  refine (rhome_spec (c := y) ca.cv (by omega)).mono ?_
  rintro _ _ ⟨rfl, rfl⟩
  cases h3 : homeB C y with
  | true =>
    try simp only [bRpE]
    exact H2 ⟨y, hym, fun q => by rw [h3] at q; exact absurd q.2.2.1 (by decide)⟩ _ (by simp only [bRpE])
  | false =>
  try simp only [bRpE, k1, cx, k4, ix22p (Int.natCast_nonneg i) hlt, z0, z1]
  refine (rbeside_spec (c := y) ca.cv (by omega)).mono ?_
  rintro _ _ ⟨rfl, rfl⟩
  cases h4 : besideB C y with
  | false =>
    try simp only [bRpE]
    exact H2 ⟨y, hym, fun q => by rw [h4] at q; exact absurd q.2.2.2 (by decide)⟩ _ (by simp only [bRpE])
  | true =>
  try simp only [bRpE]
  unfold S38_l13_k15
  simp (disch := first | exact nq rfl | omega) only [bRpE, k4]
  refine HX (C.po.length - (i + 1)) _ _ (by omega) ⟨i + 1, rfl, hlt', by simp (disch := first | exact nq rfl | omega) only [bRpE, k1, g1], by simp only [bRpE] <;> rfl, rfl, ?_⟩
  rw [take_get hy]
  intro c hc
  rcases List.mem_append.1 hc with q | q
  · exact hw c q
  · simp at q; rw [q]; exact ⟨h1, h2, h3, h4⟩

theorem eocell : ElemOk P_ 28 cellC.n 16 := ⟨by kernel_rfl, by kernel_rfl, by kernel_rfl⟩

theorem flat_cells (L : List Pose) : (L.flatMap cellsP).length = 2 * L.length := by
  induction L with
  | nil => rfl
  | cons p L ih => rw [List.flatMap_cons, List.length_append, ih, List.length_cons]; simp [cellsP]; omega

theorem may_ro {G h0 : Hp} {C : Conf} {ab : Option Addr} {cb : Nat} {ap : Option Addr} {cp : Nat} {ar : Option Addr} {cr : Nat} {az : Option Addr} {cs : Nat} (ca : CA G h0 C ab cb ap cp ar cr az cs) {x : Nat} (d0 : Dis G h0)
    (bx : h0 x = some (.cells #[.int .i64 C.w, .int .i64 C.h, .int .i64 C.ht, .slice ab C.bl.length cb, .slice ap C.po.length cp, .slice ar C.ro.length cr, .slice az C.st.length cs, .int .i64 C.un, .int .i64 C.ac, .int .i64 C.sp, .int .i64 C.tu, .int .i64 C.ho, .int .i64 C.qu, .int .i64 C.re, .int .i64 C.bu, .bool C.back] 26 (0, 0)))
    {KK : EK} (hL : C.bl.length ≤ 256) (hR : C.ro.length ≤ 8) (r : Rg) (g1 : r 1 = .pointer (some ⟨x, 0, none⟩)) (g5 : r 5 = .slice none 0 0) (g6 : r 6 = .int .i64 0)
    (H1 : (∀ p ∈ C.ro, fitsB C p = true) → ∀ (r' : Rg) h' lp, r' 1 = r 1 → h0.le h' → Dis G h' → lp.le h' → Slc cellC 28 lp (r' 5) (C.ro.flatMap cellsP) → KK (.exit 4) r' h')
    (H2 : (∃ p ∈ C.ro, fitsB C p = false) → ∀ (r' : Rg) h', h0.le h' → r' 2 = .bool false → KK .ret r' h') : loopP (S38_l9 G) r h0 KK := by
  refine loop_I (fun m r2 h3 => ∃ (i : Nat) (lp : Hp), m = C.ro.length - i ∧ i ≤ C.ro.length ∧ r2 1 = r 1 ∧ r2 6 = .int .i64 i ∧ (∀ p ∈ C.ro.take i, fitsB C p = true) ∧ Slc cellC 28 lp (r2 5) ((C.ro.take i).flatMap cellsP) ∧ Sep [lp, h0] h3 ∧ Dis G h3) ?_
    (m := C.ro.length) ⟨0, noHp, rfl, Nat.zero_le _, rfl, by rw [g6]; rfl, by simp, by rw [g5]; exact Slc.nil, Sep.one.none, d0⟩
  rintro m r2 h3 ⟨i, lp, rfl, hi, k1, k6, hw, o3, s3, d3⟩ X HX
  rw [g1] at k1
  have l3 : h0.le h3 := s3.in 1 rfl
  have cx : ∀ k, cellIn G h3 ⟨x, k, none⟩ = _ := fun k => cell_of (look_own (l3 _ _ bx))
  have ca3 := ca.up l3 d3
  unfold S38_l9
  simp only [bRpE, k1, cx, k6]
  refine cond_dec (fun hlt => ?_) (fun hge => ?_)
  rotate_left
  · obtain rfl : i = C.ro.length := by omega
    rw [List.take_of_length_le (Nat.le_refl _)] at hw o3
    exact H1 hw _ _ lp (by simp (disch := first | exact nq rfl | omega) only [bRpE, k1, g1]) l3 d3 s3.hd (by simp (disch := first | exact nq rfl | omega) only [bRpE]; exact o3)
  have hlt' : i < C.ro.length := by omega
  obtain ⟨y, hy⟩ : ∃ x, C.ro[i]? = some x := ⟨_, List.getElem?_eq_getElem hlt'⟩
  have hym : y ∈ C.ro := List.mem_of_getElem? hy
  obtain ⟨b, o, rfl, z0, z1, z2⟩ := Sees.pose ca3.ro hy
  unfold S38_l9_k10
  simp (disch := first | exact nq rfl | omega) only [bRpE, k1, cx, k6, ix23p (Int.natCast_nonneg i) hlt, z0, z1, z2]
  refine (rfits_spec (p := y) ca3.cv (by omega)).mono ?_
  rintro _ h3 ⟨rfl, rfl⟩
  cases h1 : fitsB C y with
  | false =>
    try simp only [bRpE]
    exact H2 ⟨y, hym, h1⟩ _ _ l3 (by simp only [bRpE])
  | true =>
  try simp only [bRpE]
  unfold S38_l9_k12
  simp (disch := first | exact nq rfl | omega) only [bRpE, k1, cx, k6, ix23 (Int.natCast_nonneg i) hlt, z0, z1, z2]
  refine (rcells_spec (p := y)).mono ?_
  rintro _ _ ⟨b', rfl, hb, gb, rfl⟩
  generalize e4 : Hp.set h3 b' _ = h4
  obtain ⟨l4, d4, b4⟩ := boxed e4 hb d3 gb
  have hlen := flat_cells (C.ro.take i)
  rw [List.length_take] at hlen
  have s4 : Sep [lp, h0] h4 := s3.le l4
  try simp (disch := first | exact nq rfl | omega) only [bRpE, Nat.reduceAdd, Nat.reduceMul]
  refine append_piece cellC (by decide) un22 eocell (by decide) (by decide) (M := cellsP y) s4 d4 o3 (Sees.row b4 rfl (Nat.le_refl _)) (by rw [hlen, show (cellsP y).length = 2 from rfl]; omega) fun v' a' h' o' s' d' => ?_
  unfold S38_l9_k11
  simp (disch := first | exact nq rfl | omega) only [bRpE, k6]
  refine HX (C.ro.length - (i + 1)) _ _ (by omega) ⟨i + 1, a', rfl, hlt', by simp (disch := first | exact nq rfl | omega) only [bRpE, k1, g1], by simp only [bRpE] <;> rfl, ?_, ?_, s', d'⟩
  · rw [take_get hy]
    intro c hc
    rcases List.mem_append.1 hc with q | q
    · exact hw c q
    · simp at q; rw [q]; exact h1
  · simp (disch := first | exact nq rfl | omega) only [bRpE]
    rw [take_get hy, List.flatMap_append]
    simpa using o'

theorem may_once {G h : Hp} {L : List Cell} {v : Value} (sv : Sees cellC G h v L) (hL : L.length ≤ 1000) {KK : EK} (r : Rg) (g5 : r 5 = v) (g7 : r 7 = .int .i64 0)
    (H1 : (∀ c ∈ L, L.count c ≤ 1) → ∀ r' : Rg, r' 1 = r 1 → KK (.exit 6) r' h)
    (H2 : (∃ c ∈ L, ¬ L.count c ≤ 1) → ∀ r' : Rg, r' 2 = .bool false → KK .ret r' h) : loopP (S38_l6 G) r h KK := by
  obtain ⟨sa, cap, rfl⟩ := sv.len
  refine loop_I (fun m r2 h3 => ∃ i : Nat, m = L.length - i ∧ i ≤ L.length ∧ r2 1 = r 1 ∧ r2 5 = r 5 ∧ r2 7 = .int .i64 i ∧ h3 = h ∧ (∀ c ∈ L.take i, L.count c ≤ 1)) ?_
    (m := L.length) ⟨0, rfl, Nat.zero_le _, rfl, rfl, by rw [g7]; rfl, rfl, by simp⟩
  rintro m r2 h3 ⟨i, rfl, hi, k1, k5, k7, rfl, hw⟩ X HX
  rw [g5] at k5
  unfold S38_l6
  simp only [bRpE, k5, k7]
  refine cond_dec (fun hlt => ?_) (fun hge => ?_)
  rotate_left
  · obtain rfl : i = L.length := by omega
    rw [List.take_of_length_le (Nat.le_refl _)] at hw
    exact H1 hw _ (by simp (disch := first | exact nq rfl | omega) only [bRpE, k1])
  have hlt' : i < L.length := by omega
  obtain ⟨y, hy⟩ : ∃ x, L[i]? = some x := ⟨_, List.getElem?_eq_getElem hlt'⟩
  obtain ⟨b, o, rfl, z0, z1⟩ := Sees.cell sv hy
  unfold S38_l6_k7
  simp (disch := first | exact nq rfl | omega) only [bRpE, k5, k7, ix22 (Int.natCast_nonneg i) hlt, z0, z1]
  refine (among_spec (c := y) sv (by omega)).mono ?_
  rintro _ _ ⟨rfl, rfl⟩
  try simp only [bRpE]
  by_cases h2 : L.count y ≤ 1
  rotate_left
  · have e : decide ((L.count y : Int) > 1) = true := by rw [decide_eq_true_iff]; omega
    simp only [bRpE, e]
    exact H2 ⟨y, List.mem_of_getElem? hy, h2⟩ _ (by simp only [bRpE])
  have e : decide ((L.count y : Int) > 1) = false := by rw [decide_eq_false_iff_not]; omega
  simp only [bRpE, e]
  unfold S38_l6_k8
  simp (disch := first | exact nq rfl | omega) only [bRpE, k7]
  refine HX (L.length - (i + 1)) _ _ (by omega) ⟨i + 1, rfl, hlt', by simp (disch := first | exact nq rfl | omega) only [bRpE, k1], by simp (disch := first | exact nq rfl | omega) only [bRpE, k5, g5], by simp only [bRpE] <;> rfl, rfl, ?_⟩
  rw [take_get hy]
  intro c hc
  rcases List.mem_append.1 hc with q | q
  · exact hw c q
  · simp at q; rw [q]; exact h2

set_option maxHeartbeats 1000000 in
theorem rmay_spec {G h : Hp} {v : Value} {C : Conf} (hv : CV G h v C) :
    HCalls P_ G 38 #[v] h (fun u h' => (∃ b, u = .bool b ∧ (b = true ↔ MayOk C)) ∧ h' = h) := by
  obtain ⟨ab, cb, ap, cp, ar, cr, az, cs, rfl, ca⟩ := hv
  refine HCalls.assume fun d => quietly (enter38 (by simp) ?_)
  unfold S38
  simp only [bRpE]
  intro x hx gx
  generalize e1 : Hp.set h x _ = h1
  obtain ⟨l1, d1, b1⟩ := boxed e1 hx d gx
  have cx : ∀ k, cellIn G h1 ⟨x, k, none⟩ = _ := fun k => cell_of (look_own b1)
  have ca1 := ca.up l1 d1
  have no : ∀ {P : Prop}, ¬ P → (false = true ↔ P) := fun h => ⟨fun e => absurd e (by decide), fun p => (h p).elim⟩
  try simp (disch := first | exact nq rfl | omega) only [bRpE, Nat.reduceAdd, Nat.reduceMul, cx]
  refine (numbers_spec ca1.cv).mono ?_
  rintro _ _ ⟨rfl, rfl⟩
  cases hn : numbersB C with
  | false =>
    try simp only [bRpE]
    exact ⟨⟨_, rfl, no fun M => by have := M.nums; rw [hn] at this; cases this⟩, l1⟩
  | true =>
  have hht : C.ht ≤ 8 := by
    unfold numbersB withinB at hn
    simp only [Bool.and_eq_true, decide_eq_true_eq] at hn
    exact hn.2.2.1.2
  try simp only [bRpE, cx]
  by_cases hP : C.po.length ≤ 8
  rotate_left
  · have e : decide ((C.po.length : Int) > 8) = true := by rw [decide_eq_true_iff]; omega
    simp only [bRpE, e]
    exact ⟨⟨_, rfl, no fun M => hP M.po8⟩, l1⟩
  have e : decide ((C.po.length : Int) > 8) = false := by rw [decide_eq_false_iff_not]; omega
  try simp only [bRpE, e, cx]
  by_cases hR : C.ro.length ≤ 8
  rotate_left
  · have e : decide ((C.ro.length : Int) > 8) = true := by rw [decide_eq_true_iff]; omega
    simp only [bRpE, e]
    exact ⟨⟨_, rfl, no fun M => hR M.ro8⟩, l1⟩
  have e : decide ((C.ro.length : Int) > 8) = false := by rw [decide_eq_false_iff_not]; omega
  try simp only [bRpE, e, cx]
  by_cases hL : C.bl.length ≤ 256
  rotate_left
  · have e : decide ((C.bl.length : Int) > 256) = true := by rw [decide_eq_true_iff]; omega
    simp only [bRpE, e]
    exact ⟨⟨_, rfl, no fun M => hL M.bl256⟩, l1⟩
  have e : decide ((C.bl.length : Int) > 256) = false := by rw [decide_eq_false_iff_not]; omega
  simp only [bRpE, e]
  unfold S38_k1
  refine may_bl ca1 cx hL hP _ (by simp (disch := first | exact nq rfl | omega) only [bRpE]) (by simp only [bRpE]) (fun hbl r' j1 => ?_) (fun ⟨c, hc, hbad⟩ r' j2 => ?_)
  rotate_left
  · simp only [bRpE, j2]
    exact ⟨⟨_, rfl, no fun M => hbad (M.blk c hc)⟩, l1⟩
  simp only [blockK_exit, if_true, blockK_normal, thenK_normal]
  have j1' : r' 1 = .pointer (some ⟨x, 0, none⟩) := j1.trans (by simp (disch := first | exact nq rfl | omega) only [bRpE])
  unfold S38_k2
  refine may_po ca1 cx hL hP hR _ (by simp (disch := first | exact nq rfl | omega) only [bRpE, j1']) (by simp only [bRpE]) (fun hpo r'' j1 => ?_) (fun ⟨c, hc, hbad⟩ r' j2 => ?_)
  rotate_left
  · simp only [bRpE, j2]
    exact ⟨⟨_, rfl, no fun M => hbad (M.prt c hc)⟩, l1⟩
  simp only [blockK_exit, if_true, blockK_normal, thenK_normal]
  have j1'' : r'' 1 = .pointer (some ⟨x, 0, none⟩) := j1.trans (by simp (disch := first | exact nq rfl | omega) only [bRpE, j1'])
  unfold S38_k3
  refine may_ro ca1 d1 b1 hL hR _ (by simp (disch := first | exact nq rfl | omega) only [bRpE, j1'']) (by simp (disch := first | exact nq rfl | omega) only [bRpE]) (by simp only [bRpE]) (fun hro r3 h3 lp j1 l3 d3 llp o3 => ?_) (fun ⟨p, hp, hbad⟩ r3 h3 l3 j2 => ?_)
  rotate_left
  · simp only [bRpE, j2]
    exact ⟨⟨_, rfl, no fun M => by have := M.fit p hp; rw [hbad] at this; cases this⟩, l1.trans l3⟩
  simp only [blockK_exit, if_true, blockK_normal, thenK_normal]
  have j31 : r3 1 = .pointer (some ⟨x, 0, none⟩) := j1.trans (by simp (disch := first | exact nq rfl | omega) only [bRpE, j1''])
  unfold S38_k4
  refine may_once (o3.sees (by decide) llp) (by rw [flat_cells]; omega) _ (by simp (disch := first | exact nq rfl | omega) only [bRpE]) (by simp only [bRpE]) (fun hon r4 j1 => ?_) (fun ⟨c, hc, hbad⟩ r4 j2 => ?_)
  rotate_left
  · simp only [bRpE, j2]
    exact ⟨⟨_, rfl, no fun M => hbad (M.once c hc)⟩, l1.trans l3⟩
  simp only [blockK_exit, if_true, blockK_normal, thenK_normal]
  have j41 : r4 1 = .pointer (some ⟨x, 0, none⟩) := j1.trans (by simp (disch := first | exact nq rfl | omega) only [bRpE, j31])
  have cx3 : ∀ k, cellIn G h3 ⟨x, k, none⟩ = _ := fun k => cell_of (look_own (l3 _ _ b1))
  unfold S38_k5
  simp only [bRpE, j41, cx3]
  refine (bins_spec (ca1.up l3 d3).cv hht (by omega) (by omega) (by omega)).mono ?_
  rintro _ h3 ⟨⟨b, rfl, hb⟩, rfl⟩
  try simp (disch := first | exact nq rfl | omega) only [bRpE, Nat.reduceAdd, Nat.reduceMul]
  exact ⟨⟨_, rfl, hb.trans ⟨fun B => ⟨hn, hP, hR, hL, hbl, hpo, hro, hon, B⟩, fun M => M.bins⟩⟩, l1.trans l3⟩

end Go.Proofs.YtfflipnhffknnaaGreatDoor
end

section
/- A text of the proofs. -/
set_option linter.unusedVariables false
set_option maxRecDepth 100000
namespace Go.Proofs.YtfflipnhffknnaaGreatDoor
open Go Go.HL
def md25 : Nat → Hint
  | _ => mh false [] [] [] false
def S25_k1 (G : Hp) (K : EK) (r : Rg) (h : Hp) : Prop :=
  K .ret (upd (upd r 14 (r 5)) 4 (r 5)) h
def S25 (G : Hp) (K : EK) (r : Rg) (h : Hp) : Prop :=
  o_ G (binOp .rem 3 (r 0) (r 1)) h fun v0 h0 =>
  o_ G (binOp .lss 3 v0 (.int .i64 0)) h0 fun v1 h1 =>
  cond v1
  (o_ G (binOp .add 3 v0 (r 1)) h1 fun v2 h2 =>
  S25_k1 G K (upd (upd (upd (upd (upd (upd (upd (upd (upd (upd (upd r 4 (.int .i64 0)) 6 (r 0)) 7 (r 1)) 8 v0) 5 v0) 9 v0) 10 v1) 11 v0) 12 (r 1)) 13 v2) 5 v2) h2)
  (S25_k1 G K (upd (upd (upd (upd (upd (upd (upd r 4 (.int .i64 0)) 6 (r 0)) 7 (r 1)) 8 v0) 5 v0) 9 v0) 10 v1) h1)
theorem S25_eq : Weq 15 md25 (Tryz.f25.body.getD .skip) S25 := fun _ _ _ _ => by kernel_rfl
theorem enter25 : Ent 15 25 [.tmp 4] S25 := ent_ S25_eq Tryz.func25 rfl rfl rfl

def md37 : Nat → Hint
  | _ => mh false [] [] [] false
def S37_k1 (G : Hp) (K : EK) (r : Rg) (h : Hp) : Prop :=
  K .ret (upd (upd (upd r 9 (r 4)) 2 (r 4)) 3 (.int .i64 0)) h
def S37 (G : Hp) (K : EK) (r : Rg) (h : Hp) : Prop :=
  o_ G (Instr.box 26 (r 0)) h fun v0 h0 =>
  o_ G (Instr.loadAt 26 v0) h0 fun v1 h1 =>
  opH P_ G (callFunc 80 #[v1]) h1 fun v2 h2 =>
  opH P_ G (xEq .eql 68 (.tmp 0) (.const .nilFunc) v2 (.pointer none)) h2 fun v3 h3 =>
  (fun q => cond v3
  (K .ret (upd (upd q 2 (.pointer none)) 3 (.int .i64 5)) h3)
  (S37_k1 G K q h3))
  (upd (upd (upd (upd (upd (upd (upd (upd r 1 v0) 2 (.pointer none)) 3 (.int .i64 0)) 5 v1) 6 v2) 4 v2) 7 v2) 8 v3)
theorem S37_eq : Weq 10 md37 (Tryz.f37.body.getD .skip) S37 := fun _ _ _ _ => by kernel_rfl
theorem enter37 : Ent 10 37 [.tmp 2, .tmp 3] S37 := ent_ S37_eq Tryz.func37 rfl rfl rfl

def md155 : Nat → Hint
  | 3 => mh false [0,1,3,0,0,16,48,112,248,511,1023,2047,4095] [n_,n_,m_,n_,n_,n_,n_,m_,n_,n_,n_,n_,.store] (fs 13) false
  | 4 => mh false [0,1,3,0,0,16,48,112,248,511,1023,2047,4095] [n_,n_,m_,n_,n_,n_,n_,m_,n_,n_,n_,n_,.store] (fs 13) false
  | _ => mh false [] [] [] false
def S155_k1 (G : Hp) (K : EK) (r : Rg) (h : Hp) : Prop :=
  p_ (Instr.fieldAt 30 (r 5) 0) h fun v8 h8 =>
  p_ (Instr.fieldAt 28 v8 0) h8 fun v9 h9 =>
  pureW P_ G h (sv (Instr.loadAt 3 v9)) h9 fun v10 h10 =>
  p_ (Instr.indexAt 245 (.pointer (some ⟨0, 0, none⟩)) (r 2)) h10 fun v11 h11 =>
  p_ (Instr.fieldAt 28 v11 0) h11 fun v12 h12 =>
  pureW P_ G h (sv (Instr.loadAt 3 v12)) h12 fun v13 h13 =>
  p_ (binOp .mul 3 (r 3) v13) h13 fun v14 h14 =>
  p_ (binOp .add 3 v10 v14) h14 fun v15 h15 =>
  p_ (Instr.fieldAt 30 (r 5) 0) h15 fun v16 h16 =>
  p_ (Instr.fieldAt 28 v16 0) h16 fun v17 h17 =>
  opH P_ G (su (Instr.storeAt 3 v17 v15)) h17 fun v18 h18 =>
  p_ (Instr.fieldAt 30 (r 5) 0) h18 fun v19 h19 =>
  p_ (Instr.fieldAt 28 v19 1) h19 fun v20 h20 =>
  pureW P_ G h18 (sv (Instr.loadAt 3 v20)) h20 fun v21 h21 =>
  p_ (Instr.indexAt 245 (.pointer (some ⟨0, 0, none⟩)) (r 2)) h21 fun v22 h22 =>
  p_ (Instr.fieldAt 28 v22 1) h22 fun v23 h23 =>
  pureW P_ G h18 (sv (Instr.loadAt 3 v23)) h23 fun v24 h24 =>
  p_ (binOp .mul 3 (r 3) v24) h24 fun v25 h25 =>
  p_ (binOp .add 3 v21 v25) h25 fun v26 h26 =>
  p_ (Instr.fieldAt 30 (r 5) 0) h26 fun v27 h27 =>
  p_ (Instr.fieldAt 28 v27 1) h27 fun v28 h28 =>
  opH P_ G (su (Instr.storeAt 3 v28 v26)) h28 fun v29 h29 =>
  o_ G (Instr.loadAt 30 (r 5)) h29 fun v30 h30 =>
  opH P_ G (su (Instr.storeAt 30 (r 8) v30)) h30 fun v31 h31 =>
  K .ret (upd (upd (upd (upd (upd (upd (upd (upd (upd (upd (upd (upd (upd (upd (upd (upd (upd (upd (upd (upd (upd (upd (upd (upd (upd (upd r 19 v8) 20 v9) 21 v10) 22 (r 3)) 23 (r 2)) 24 v11) 25 v12) 26 v13) 27 v14) 28 v15) 29 v16) 30 v17) 31 v19) 32 v20) 33 v21) 34 (r 3)) 35 (r 2)) 36 v22) 37 v23) 38 v24) 39 v25) 40 v26) 41 v27) 42 v28) 43 v30) 9 (.bool true)) h31
def S155 (G : Hp) (K : EK) (r : Rg) (h : Hp) : Prop :=
  o_ G (Instr.box 30 (r 1)) h fun v0 h0 =>
  o_ G (Instr.alloc 30 true (.tuple #[])) h0 fun v1 h1 =>
  opH P_ G (callFunc 129 #[(r 3), (.int .i64 0), (.int .i64 16)]) h1 fun v2 h2 =>
  o_ G (Op.unary .not v2) h2 fun v3 h3 =>
  gd (wantB v3 false) (fun K1 => K1 (r 2) h3) h3 fun v4 h4 =>
  gd (wantB v3 false) (opH P_ G (callFunc 129 #[v4, (.int .i64 0), (.int .i64 3)]) h4) h4 fun v5 h5 =>
  gd (wantB v3 false) (o_ G (Op.unary .not v5) h5) h5 fun v6 h6 =>
  opH P_ G (xPick v3 (.bool true) v6) h6 fun v7 h7 =>
  cond v7
  (o_ G (Instr.build 30 #[]) h7 fun v32 h32 =>
  opH P_ G (su (Instr.storeAt 30 v1 v32)) h32 fun v33 h33 =>
  K .ret (upd (upd (upd (upd (upd (upd (upd (upd (upd (upd (upd (upd (upd r 5 v0) 8 v1) 9 (.bool false)) 10 (r 3)) 11 v2) 12 v3) 13 v3) 14 v4) 15 v5) 16 v6) 17 v7) 18 v32) 9 (.bool false)) h33)
  (S155_k1 G K (upd (upd (upd (upd (upd (upd (upd (upd (upd (upd (upd r 5 v0) 8 v1) 9 (.bool false)) 10 (r 3)) 11 v2) 12 v3) 13 v3) 14 v4) 15 v5) 16 v6) 17 v7) h7)
theorem S155_eq : Weq 44 md155 (Tryz.f155.body.getD .skip) S155 := fun _ _ _ _ => by kernel_rfl
theorem enter155 : Ent 44 155 [.cell 8 30, .tmp 9] S155 := ent_ S155_eq Tryz.func155 rfl rfl rfl

def md89 : Nat → Hint
  | _ => mh false [] [] [] false
def S89_k1 (G : Hp) (K : EK) (r : Rg) (h : Hp) : Prop :=
  o_ G (Instr.fieldAt 30 (r 3) 0) h fun v7 h7 =>
  o_ G (Instr.loadAt 28 v7) h7 fun v8 h8 =>
  o_ G (Instr.fieldAt 30 (r 3) 0) h8 fun v9 h9 =>
  o_ G (Instr.fieldAt 28 v9 0) h9 fun v10 h10 =>
  o_ G (Instr.loadAt 3 v10) h10 fun v11 h11 =>
  o_ G (Instr.fieldAt 28 (r 5) 0) h11 fun v12 h12 =>
  o_ G (Instr.loadAt 3 v12) h12 fun v13 h13 =>
  o_ G (binOp .add 3 v11 v13) h13 fun v14 h14 =>
  o_ G (Instr.fieldAt 30 (r 3) 0) h14 fun v15 h15 =>
  o_ G (Instr.fieldAt 28 v15 1) h15 fun v16 h16 =>
  o_ G (Instr.loadAt 3 v16) h16 fun v17 h17 =>
  o_ G (Instr.fieldAt 28 (r 5) 1) h17 fun v18 h18 =>
  o_ G (Instr.loadAt 3 v18) h18 fun v19 h19 =>
  o_ G (binOp .add 3 v17 v19) h19 fun v20 h20 =>
  o_ G (Instr.build 28 #[(0, v14), (1, v20)]) h20 fun v21 h21 =>
  o_ G (Instr.buildSlice 22 2 #[(0, v8), (1, v21)]) h21 fun v22 h22 =>
  K .ret (upd (upd (upd (upd (upd (upd (upd (upd (upd (upd (upd (upd (upd (upd (upd (upd (upd r 12 v7) 13 v8) 14 v9) 15 v10) 16 v11) 17 v12) 18 v13) 19 v14) 20 v15) 21 v16) 22 v17) 23 v18) 24 v19) 25 v20) 26 v21) 27 v22) 4 v22) h22
def S89 (G : Hp) (K : EK) (r : Rg) (h : Hp) : Prop :=
  o_ G (Instr.box 30 (r 1)) h fun v0 h0 =>
  o_ G (Instr.indexAt 245 (.pointer (some ⟨0, 0, none⟩)) (.int .i64 1)) h0 fun v1 h1 =>
  o_ G (Instr.loadAt 28 v1) h1 fun v2 h2 =>
  o_ G (Instr.alloc 28 true (.tuple #[])) h2 fun v3 h3 =>
  opH P_ G (su (Instr.storeAt 28 v3 v2)) h3 fun v4 h4 =>
  o_ G (Instr.fieldAt 30 v0 1) h4 fun v5 h5 =>
  o_ G (Instr.loadAt 4 v5) h5 fun v6 h6 =>
  cond v6
  (o_ G (Instr.indexAt 245 (.pointer (some ⟨0, 0, none⟩)) (.int .i64 2)) h6 fun v23 h23 =>
  o_ G (Instr.loadAt 28 v23) h23 fun v24 h24 =>
  opH P_ G (su (Instr.storeAt 28 v3 v24)) h24 fun v25 h25 =>
  S89_k1 G K (upd (upd (upd (upd (upd (upd (upd (upd (upd r 3 v0) 4 (.slice none 0 0)) 6 v1) 7 v2) 5 v3) 8 v5) 9 v6) 10 v23) 11 v24) h25)
  (S89_k1 G K (upd (upd (upd (upd (upd (upd (upd r 3 v0) 4 (.slice none 0 0)) 6 v1) 7 v2) 5 v3) 8 v5) 9 v6) h6)
theorem S89_eq : Weq 28 md89 (Tryz.f89.body.getD .skip) S89 := fun _ _ _ _ => by kernel_rfl
theorem enter89 : Ent 28 89 [.tmp 4] S89 := ent_ S89_eq Tryz.func89 rfl rfl rfl

def md61 : Nat → Hint
  | _ => mh false [] [] [] false
def S61 (G : Hp) (K : EK) (r : Rg) (h : Hp) : Prop :=
  o_ G (Instr.box 30 (r 1)) h fun v0 h0 =>
  o_ G (Instr.loadAt 30 v0) h0 fun v1 h1 =>
  opH P_ G (callFunc 89 #[(r 0), v1]) h1 fun v2 h2 =>
  o_ G (Instr.indexAt 22 v2 (.int .i64 0)) h2 fun v3 h3 =>
  o_ G (Instr.loadAt 28 v3) h3 fun v4 h4 =>
  opH P_ G (callFunc 62 #[(r 0), v4]) h4 fun v5 h5 =>
  gd (wantB v5 true) (fun K1 => K1 (r 0) h5) h5 fun v6 h6 =>
  gd (wantB v5 true) (fun K1 => K1 v2 h6) h6 fun v7 h7 =>
  gd (wantB v5 true) (o_ G (Instr.indexAt 22 v7 (.int .i64 1)) h7) h7 fun v8 h8 =>
  gd (wantB v5 true) (o_ G (Instr.loadAt 28 v8) h8) h8 fun v9 h9 =>
  gd (wantB v5 true) (opH P_ G (callFunc 62 #[v6, v9]) h9) h9 fun v10 h10 =>
  opH P_ G (xPick v5 v10 (.bool false)) h10 fun v11 h11 =>
  K .ret (upd (upd (upd (upd (upd (upd (upd (upd (upd (upd (upd (upd (upd (upd (upd (upd (upd (upd (upd r 3 v0) 4 (.bool false)) 6 (r 0)) 7 v1) 8 v2) 5 v2) 9 (r 0)) 10 v2) 11 v3) 12 v4) 13 v5) 14 v5) 15 v6) 16 v7) 17 v8) 18 v9) 19 v10) 20 v11) 4 v11) h11
theorem S61_eq : Weq 21 md61 (Tryz.f61.body.getD .skip) S61 := fun _ _ _ _ => by kernel_rfl
theorem enter61 : Ent 21 61 [.tmp 4] S61 := ent_ S61_eq Tryz.func61 rfl rfl rfl

def md149 : Nat → Hint
  | _ => mh false [] [] [] false
def S149 (G : Hp) (K : EK) (r : Rg) (h : Hp) : Prop :=
  o_ G (Instr.box 68 (r 0)) h fun v0 h0 =>
  o_ G (Instr.box 30 (r 1)) h0 fun v1 h1 =>
  K .ret (upd (upd (upd (upd (upd r 2 v0) 3 v1) 4 .nilFunc) 5 (.func (.func 165) #[] #[v0, v1])) 4 (.func (.func 165) #[] #[v0, v1])) h1
theorem S149_eq : Weq 6 md149 (Tryz.f149.body.getD .skip) S149 := fun _ _ _ _ => by kernel_rfl
theorem enter149 : Ent 6 149 [.tmp 4] S149 := ent_ S149_eq Tryz.func149 rfl rfl rfl

def md78 : Nat → Hint
  | _ => mh false [] [] [] false
def S78 (G : Hp) (K : EK) (r : Rg) (h : Hp) : Prop :=
  o_ G (Instr.box 48 (r 1)) h fun v0 h0 =>
  o_ G (Instr.loadAt 48 v0) h0 fun v1 h1 =>
  opH P_ G (callFunc 127 #[(r 0), v1]) h1 fun v2 h2 =>
  o_ G (Instr.extract v2 0) h2 fun v3 h3 =>
  o_ G (Instr.extract v2 1) h3 fun v4 h4 =>
  K .ret (upd (upd (upd (upd (upd (upd (upd (upd (upd (upd (upd (upd r 3 v0) 4 (.bool false)) 8 (r 0)) 9 v1) 10 v2) 7 v2) 11 v3) 12 v4) 5 v3) 6 v4) 13 v4) 4 v4) h4
theorem S78_eq : Weq 14 md78 (Tryz.f78.body.getD .skip) S78 := fun _ _ _ _ => by kernel_rfl
theorem enter78 : Ent 14 78 [.tmp 4] S78 := ent_ S78_eq Tryz.func78 rfl rfl rfl

def md62 : Nat → Hint
  | _ => mh false [] [] [] false
def S62 (G : Hp) (K : EK) (r : Rg) (h : Hp) : Prop :=
  o_ G (Instr.box 28 (r 1)) h fun v0 h0 =>
  o_ G (Instr.loadAt 28 v0) h0 fun v1 h1 =>
  opH P_ G (callFunc 88 #[(r 0), v1]) h1 fun v2 h2 =>
  o_ G (binOp .geq 3 v2 (.int .i64 0)) h2 fun v3 h3 =>
  gd (wantB v3 true) (fun K1 => K1 (r 0) h3) h3 fun v4 h4 =>
  gd (wantB v3 true) (opH P_ G (xNil v4) h4) h4 fun v5 h5 =>
  gd (wantB v3 true) (o_ G (Instr.fieldAt 215 v5 2) h5) h5 fun v6 h6 =>
  gd (wantB v3 true) (o_ G (Instr.loadAt 168 v6) h6) h6 fun v7 h7 =>
  gd (wantB v3 true) (fun K1 => K1 v2 h7) h7 fun v8 h8 =>
  gd (wantB v3 true) (o_ G (Instr.indexAt 168 v7 v8) h8) h8 fun v9 h9 =>
  gd (wantB v3 true) (o_ G (Instr.loadAt 3 v9) h9) h9 fun v10 h10 =>
  gd (wantB v3 true) (opH P_ G (xEq .neq 3 (.tmp 0) (.const .nilFunc) v10 (.int .i64 (-1))) h10) h10 fun v11 h11 =>
  opH P_ G (xPick v3 v11 (.bool false)) h11 fun v12 h12 =>
  K .ret (upd (upd (upd (upd (upd (upd (upd (upd (upd (upd (upd (upd (upd (upd (upd (upd (upd (upd (upd r 3 v0) 4 (.bool false)) 6 (r 0)) 7 v1) 8 v2) 5 v2) 9 v2) 10 v3) 11 v3) 12 v4) 13 v5) 14 v6) 15 v7) 16 v8) 17 v9) 18 v10) 19 v11) 20 v12) 4 v12) h12
theorem S62_eq : Weq 21 md62 (Tryz.f62.body.getD .skip) S62 := fun _ _ _ _ => by kernel_rfl
theorem enter62 : Ent 21 62 [.tmp 4] S62 := ent_ S62_eq Tryz.func62 rfl rfl rfl

def md158 : Nat → Hint
  | _ => mh false [] [] [] false
def S158 (G : Hp) (K : EK) (r : Rg) (h : Hp) : Prop :=
  o_ G (Instr.box 28 (r 1)) h fun v0 h0 =>
  o_ G (Instr.loadAt 28 v0) h0 fun v1 h1 =>
  opH P_ G (callFunc 88 #[(r 0), v1]) h1 fun v2 h2 =>
  o_ G (binOp .geq 3 v2 (.int .i64 0)) h2 fun v3 h3 =>
  gd (wantB v3 true) (fun K1 => K1 (r 0) h3) h3 fun v4 h4 =>
  gd (wantB v3 true) (opH P_ G (xNil v4) h4) h4 fun v5 h5 =>
  gd (wantB v3 true) (o_ G (Instr.fieldAt 215 v5 2) h5) h5 fun v6 h6 =>
  gd (wantB v3 true) (o_ G (Instr.loadAt 168 v6) h6) h6 fun v7 h7 =>
  gd (wantB v3 true) (fun K1 => K1 v2 h7) h7 fun v8 h8 =>
  gd (wantB v3 true) (o_ G (Instr.indexAt 168 v7 v8) h8) h8 fun v9 h9 =>
  gd (wantB v3 true) (o_ G (Instr.loadAt 3 v9) h9) h9 fun v10 h10 =>
  gd (wantB v3 true) (opH P_ G (xEq .eql 3 (.tmp 0) (.const .nilFunc) v10 (.int .i64 0)) h10) h10 fun v11 h11 =>
  opH P_ G (xPick v3 v11 (.bool false)) h11 fun v12 h12 =>
  K .ret (upd (upd (upd (upd (upd (upd (upd (upd (upd (upd (upd (upd (upd (upd (upd (upd (upd (upd (upd r 3 v0) 4 (.bool false)) 6 (r 0)) 7 v1) 8 v2) 5 v2) 9 v2) 10 v3) 11 v3) 12 v4) 13 v5) 14 v6) 15 v7) 16 v8) 17 v9) 18 v10) 19 v11) 20 v12) 4 v12) h12
theorem S158_eq : Weq 21 md158 (Tryz.f158.body.getD .skip) S158 := fun _ _ _ _ => by kernel_rfl
theorem enter158 : Ent 21 158 [.tmp 4] S158 := ent_ S158_eq Tryz.func158 rfl rfl rfl

def md88 : Nat → Hint
  | 1 => ⟨false, [0, 1, 3, 7, 15, 7, 39, 103, 231, 487, 1023, 2047, 4095, 8191, 16383, 32767, 16383, 81919, 212991, 475135, 999423, 2097151, 4194303, 8388607], [.pureN, .pureM, .pureN, .pureN, .pureM, .pureN, .pureN, .pureN, .pureM, .pureN, .eff, .pureN, .pureN, .pureN, .pureN, .pureM, .pureN, .pureN, .pureN, .pureM, .pureN, .eff, .pureN, .pureN], [.pureN, .pureM, .pureN, .pureN, .pureM, .pureN, .pureN, .pureN, .pureM, .pureN, .eff, .pureN, .pureN, .pureN, .pureN, .late, .pureN, .pureN, .pureN, .late, .pureN, .eff, .pureN, .pureN], [false, false, false, false, false, false, false, false, false, false, false, false, false, false, false, false, false, false, false, false, false, false, false, false], false⟩
  | 3 => mh false [0,1,0,4,12,28,63,0,128,511,1023] [n_,m_,n_,n_,n_,m_,n_,n_,m_,n_,n_] (fs 11) false
  | _ => mh false [] [] [] false
def S88_k1 (G : Hp) (K : EK) (r : Rg) (h : Hp) : Prop :=
  p_ (Instr.fieldAt 28 (r 3) 1) h fun v22 h22 =>
  pureW P_ G h (sv (Instr.loadAt 3 v22)) h22 fun v23 h23 =>
  pureW P_ noHp noHp (xNil (r 0)) h23 fun v24 h24 =>
  p_ (Instr.fieldAt 215 v24 0) h24 fun v25 h25 =>
  pureW P_ G h (sv (Instr.loadAt 3 v25)) h25 fun v26 h26 =>
  p_ (binOp .mul 3 v23 v26) h26 fun v27 h27 =>
  p_ (Instr.fieldAt 28 (r 3) 0) h27 fun v28 h28 =>
  pureW P_ G h (sv (Instr.loadAt 3 v28)) h28 fun v29 h29 =>
  p_ (binOp .add 3 v27 v29) h29 fun v30 h30 =>
  K .ret (upd (upd (upd (upd (upd (upd (upd (upd (upd (upd (upd r 29 v22) 30 v23) 31 (r 0)) 32 v24) 33 v25) 34 v26) 35 v27) 36 v28) 37 v29) 38 v30) 4 v30) h30
def S88 (G : Hp) (K : EK) (r : Rg) (h : Hp) : Prop :=
  o_ G (Instr.box 28 (r 1)) h fun v0 h0 =>
  pureW P_ G h0 (xEq .eql 68 (.tmp 0) (.const .nilFunc) (r 0) (.pointer none)) h0 fun v1 h1 =>
  gd (wantB v1 false) (p_ (Instr.fieldAt 28 v0 0) h1) h1 fun v2 h2 =>
  gd (wantB v1 false) (pureW P_ G h0 (sv (Instr.loadAt 3 v2)) h2) h2 fun v3 h3 =>
  gd (wantB v1 false) (fun K1 => K1 (r 0) h3) h3 fun v4 h4 =>
  gd (wantB v1 false) (pureW P_ noHp noHp (xNil v4) h4) h4 fun v5 h5 =>
  gd (wantB v1 false) (p_ (Instr.fieldAt 215 v5 0) h5) h5 fun v6 h6 =>
  gd (wantB v1 false) (pureW P_ G h0 (sv (Instr.loadAt 3 v6)) h6) h6 fun v7 h7 =>
  gd (wantB v1 false) (p_ (binOp .sub 3 v7 (.int .i64 1)) h7) h7 fun v8 h8 =>
  gd (wantB v1 false) (opH P_ G (callFunc 129 #[v3, (.int .i64 0), v8]) h8) h8 fun v9 h9 =>
  gd (wantB v1 false) (p_ (Op.unary .not v9) h9) h9 fun v10 h10 =>
  pureW P_ noHp noHp (xPick v1 (.bool true) v10) h10 fun v11 h11 =>
  gd (wantB v11 false) (p_ (Instr.fieldAt 28 v0 1) h11) h11 fun v12 h12 =>
  gd (wantB v11 false) (pureW P_ G h12 (sv (Instr.loadAt 3 v12)) h12) h12 fun v13 h13 =>
  gd (wantB v11 false) (fun K1 => K1 (r 0) h13) h13 fun v14 h14 =>
  gd (wantB v11 false) (pureW P_ noHp noHp (xNil v14) h14) h14 fun v15 h15 =>
  gd (wantB v11 false) (p_ (Instr.fieldAt 215 v15 1) h15) h15 fun v16 h16 =>
  gd (wantB v11 false) (pureW P_ G h16 (sv (Instr.loadAt 3 v16)) h16) h16 fun v17 h17 =>
  gd (wantB v11 false) (p_ (binOp .sub 3 v17 (.int .i64 1)) h17) h17 fun v18 h18 =>
  gd (wantB v11 false) (opH P_ G (callFunc 129 #[v13, (.int .i64 0), v18]) h18) h18 fun v19 h19 =>
  gd (wantB v11 false) (p_ (Op.unary .not v19) h19) h19 fun v20 h20 =>
  pureW P_ noHp noHp (xPick v11 (.bool true) v20) h20 fun v21 h21 =>
  (fun q => cond v21
  (K .ret (upd q 4 (.int .i64 (-1))) h21)
  (S88_k1 G K q h21))
  (upd (upd (upd (upd (upd (upd (upd (upd (upd (upd (upd (upd (upd (upd (upd (upd (upd (upd (upd (upd (upd (upd (upd (upd (upd (upd r 3 v0) 4 (.int .i64 0)) 5 (r 0)) 6 v1) 7 v1) 8 v2) 9 v3) 10 v4) 11 v5) 12 v6) 13 v7) 14 v8) 15 v9) 16 v10) 17 v11) 18 v11) 19 v12) 20 v13) 21 v14) 22 v15) 23 v16) 24 v17) 25 v18) 26 v19) 27 v20) 28 v21)
theorem S88_eq : Weq 39 md88 (Tryz.f88.body.getD .skip) S88 := fun _ _ _ _ => by kernel_rfl
theorem enter88 : Ent 39 88 [.tmp 4] S88 := ent_ S88_eq Tryz.func88 rfl rfl rfl

def md80 : Nat → Hint
  | _ => mh false [] [] [] false
def S80_k3 (G : Hp) (K : EK) (r : Rg) (h : Hp) : Prop :=
  K .ret (upd (upd r 68 (r 5)) 2 (r 5)) h
def S80_k2 (G : Hp) (K : EK) (r : Rg) (h : Hp) : Prop :=
  o_ G (Instr.loadAt 26 (r 1)) h fun v29 h29 =>
  opH P_ G (callFunc 130 #[v29]) h29 fun v30 h30 =>
  o_ G (Instr.extract v30 0) h30 fun v31 h31 =>
  o_ G (Instr.extract v30 1) h31 fun v32 h32 =>
  o_ G (Op.unary .not v32) h32 fun v33 h33 =>
  gd (wantB v33 false) (fun K1 => K1 v31 h33) h33 fun v34 h34 =>
  gd (wantB v33 false) (o_ G (Instr.fieldAt 26 (r 1) 5) h34) h34 fun v35 h35 =>
  gd (wantB v33 false) (o_ G (Instr.loadAt 23 v35) h35) h35 fun v36 h36 =>
  gd (wantB v33 false) (opH P_ G (callFunc 131 #[v34, v36]) h36) h36 fun v37 h37 =>
  gd (wantB v33 false) (o_ G (Op.unary .not v37) h37) h37 fun v38 h38 =>
  opH P_ G (xPick v33 (.bool true) v38) h38 fun v39 h39 =>
  gd (wantB v39 false) (fun K1 => K1 v31 h39) h39 fun v40 h40 =>
  gd (wantB v39 false) (o_ G (Instr.fieldAt 26 (r 1) 6) h40) h40 fun v41 h41 =>
  gd (wantB v39 false) (o_ G (Instr.loadAt 24 v41) h41) h41 fun v42 h42 =>
  gd (wantB v39 false) (o_ G (Instr.fieldAt 26 (r 1) 2) h42) h42 fun v43 h43 =>
  gd (wantB v39 false) (o_ G (Instr.loadAt 3 v43) h43) h43 fun v44 h44 =>
  gd (wantB v39 false) (opH P_ G (callFunc 132 #[v40, v42, v44]) h44) h44 fun v45 h45 =>
  gd (wantB v39 false) (o_ G (Op.unary .not v45) h45) h45 fun v46 h46 =>
  opH P_ G (xPick v39 (.bool true) v46) h46 fun v47 h47 =>
  (fun q => cond v47
  (K .ret (upd q 2 (.pointer none)) h47)
  (S80_k3 G K q h47))
  (upd (upd (upd (upd (upd (upd (upd (upd (upd (upd (upd (upd (upd (upd (upd (upd (upd (upd (upd (upd (upd (upd (upd (upd (upd r 46 v29) 47 v30) 45 v30) 48 v31) 49 v32) 5 v31) 6 v32) 50 v32) 51 v33) 52 v33) 53 v34) 54 v35) 55 v36) 56 v37) 57 v38) 58 v39) 59 v39) 60 v40) 61 v41) 62 v42) 63 v43) 64 v44) 65 v45) 66 v46) 67 v47)
def S80_k1 (G : Hp) (K : EK) (r : Rg) (h : Hp) : Prop :=
  o_ G (Instr.fieldAt 26 (r 1) 2) h fun v15 h15 =>
  o_ G (Instr.loadAt 3 v15) h15 fun v16 h16 =>
  opH P_ G (callFunc 129 #[v16, (.int .i64 1), (.int .i64 8)]) h16 fun v17 h17 =>
  o_ G (Op.unary .not v17) h17 fun v18 h18 =>
  gd (wantB v18 false) (o_ G (Instr.fieldAt 26 (r 1) 12) h18) h18 fun v19 h19 =>
  gd (wantB v18 false) (o_ G (Instr.loadAt 3 v19) h19) h19 fun v20 h20 =>
  gd (wantB v18 false) (opH P_ G (callFunc 129 #[v20, (.int .i64 1), (.int .i64 16)]) h20) h20 fun v21 h21 =>
  gd (wantB v18 false) (o_ G (Op.unary .not v21) h21) h21 fun v22 h22 =>
  opH P_ G (xPick v18 (.bool true) v22) h22 fun v23 h23 =>
  gd (wantB v23 false) (o_ G (Instr.fieldAt 26 (r 1) 14) h23) h23 fun v24 h24 =>
  gd (wantB v23 false) (o_ G (Instr.loadAt 3 v24) h24) h24 fun v25 h25 =>
  gd (wantB v23 false) (opH P_ G (callFunc 129 #[v25, (.int .i64 1), (.int .i64 1048576)]) h25) h25 fun v26 h26 =>
  gd (wantB v23 false) (o_ G (Op.unary .not v26) h26) h26 fun v27 h27 =>
  opH P_ G (xPick v23 (.bool true) v27) h27 fun v28 h28 =>
  (fun q => cond v28
  (K .ret (upd q 2 (.pointer none)) h28)
  (S80_k2 G K q h28))
  (upd (upd (upd (upd (upd (upd (upd (upd (upd (upd (upd (upd (upd (upd (upd (upd r 29 v15) 30 v16) 31 v17) 32 v18) 33 v18) 34 v19) 35 v20) 36 v21) 37 v22) 38 v23) 39 v23) 40 v24) 41 v25) 42 v26) 43 v27) 44 v28)
def S80_l4_k6 (G : Hp) (K : EK) (r : Rg) (h : Hp) : Prop :=
  o_ G (binOp .add 3 (r 21) (.int .i64 1)) h fun v49 h49 =>
  K .normal (upd (upd r 28 v49) 21 v49) h49
def S80_l4_k5 (G : Hp) (K : EK) (r : Rg) (h : Hp) : Prop :=
  o_ G (Instr.indexAt 168 (r 19) (r 21)) h fun v50 h50 =>
  o_ G (Instr.loadAt 3 v50) h50 fun v51 h51 =>
  opH P_ G (callFunc 129 #[v51, (.int .i64 1), (.int .i64 1000)]) h51 fun v52 h52 =>
  o_ G (Op.unary .not v52) h52 fun v53 h53 =>
  (fun q => cond v53
  (K .ret (upd q 2 (.pointer none)) h53)
  (S80_l4_k6 G K q h53))
  (upd (upd (upd (upd (upd (upd r 23 v50) 24 v51) 4 v51) 25 v51) 26 v52) 27 v53)
def S80_l4 (G : Hp) (r : Rg) (h : Hp) (K : EK) : Prop :=
  o_ G (binOp .lss 3 (r 21) (r 20)) h fun v48 h48 =>
  cond v48
  (S80_l4_k5 G K (upd r 22 v48) h48)
  (K (.exit 0) (upd r 22 v48) h48)
def S80 (G : Hp) (K : EK) (r : Rg) (h : Hp) : Prop :=
  o_ G (Instr.box 26 (r 0)) h fun v0 h0 =>
  o_ G (Instr.fieldAt 26 v0 7) h0 fun v1 h1 =>
  o_ G (Instr.loadAt 3 v1) h1 fun v2 h2 =>
  o_ G (Instr.fieldAt 26 v0 8) h2 fun v3 h3 =>
  o_ G (Instr.loadAt 3 v3) h3 fun v4 h4 =>
  o_ G (Instr.fieldAt 26 v0 9) h4 fun v5 h5 =>
  o_ G (Instr.loadAt 3 v5) h5 fun v6 h6 =>
  o_ G (Instr.fieldAt 26 v0 10) h6 fun v7 h7 =>
  o_ G (Instr.loadAt 3 v7) h7 fun v8 h8 =>
  o_ G (Instr.fieldAt 26 v0 11) h8 fun v9 h9 =>
  o_ G (Instr.loadAt 3 v9) h9 fun v10 h10 =>
  o_ G (Instr.fieldAt 26 v0 13) h10 fun v11 h11 =>
  o_ G (Instr.loadAt 3 v11) h11 fun v12 h12 =>
  o_ G (Instr.buildSlice 168 6 #[(0, v2), (1, v4), (2, v6), (3, v8), (4, v10), (5, v12)]) h12 fun v13 h13 =>
  o_ G (Builtin.len_ #[168] 3 #[v13]) h13 fun v14 h14 =>
  loopP (S80_l4 G) (upd (upd (upd (upd (upd (upd (upd (upd (upd (upd (upd (upd (upd (upd (upd (upd (upd r 1 v0) 2 (.pointer none)) 7 v1) 8 v2) 9 v3) 10 v4) 11 v5) 12 v6) 13 v7) 14 v8) 15 v9) 16 v10) 17 v11) 18 v12) 19 v13) 20 v14) 21 (.int .i64 0)) h14 (blockK 0 (thenK (S80_k1 G K) K))
theorem S80_eq : Weq 69 md80 (Tryz.f80.body.getD .skip) S80 := fun _ _ _ _ => by kernel_rfl
theorem enter80 : Ent 69 80 [.tmp 2] S80 := ent_ S80_eq Tryz.func80 rfl rfl rfl

def md129 : Nat → Hint
  | _ => mh false [] [] [] false
def S129 (G : Hp) (K : EK) (r : Rg) (h : Hp) : Prop :=
  o_ G (binOp .geq 3 (r 0) (r 1)) h fun v0 h0 =>
  gd (wantB v0 true) (fun K1 => K1 (r 0) h0) h0 fun v1 h1 =>
  gd (wantB v0 true) (fun K1 => K1 (r 2) h1) h1 fun v2 h2 =>
  gd (wantB v0 true) (o_ G (binOp .leq 3 v1 v2) h2) h2 fun v3 h3 =>
  opH P_ G (xPick v0 v3 (.bool false)) h3 fun v4 h4 =>
  K .ret (upd (upd (upd (upd (upd (upd (upd (upd (upd (upd r 6 (.bool false)) 7 (r 0)) 8 (r 1)) 9 v0) 10 v0) 11 v1) 12 v2) 13 v3) 14 v4) 6 v4) h4
theorem S129_eq : Weq 15 md129 (Tryz.f129.body.getD .skip) S129 := fun _ _ _ _ => by kernel_rfl
theorem enter129 : Ent 15 129 [.tmp 6] S129 := ent_ S129_eq Tryz.func129 rfl rfl rfl

def md165 : Nat → Hint
  | _ => mh false [] [] [] false
def S165_k2 (G : Hp) (K : EK) (r : Rg) (h : Hp) : Prop :=
  o_ G (Instr.loadAt 30 (r 2)) h fun v8 h8 =>
  o_ G (Instr.fieldAt 30 (r 2) 0) h8 fun v9 h9 =>
  o_ G (Instr.loadAt 28 v9) h9 fun v10 h10 =>
  o_ G (Instr.fieldAt 30 (r 2) 1) h10 fun v11 h11 =>
  o_ G (Instr.loadAt 4 v11) h11 fun v12 h12 =>
  o_ G (Op.unary .not v12) h12 fun v13 h13 =>
  o_ G (Instr.build 30 #[(0, v10), (1, v13)]) h13 fun v14 h14 =>
  o_ G (Instr.build 48 #[(0, (.int .i64 2)), (3, v8), (4, v14)]) h14 fun v15 h15 =>
  o_ G (Instr.alloc 48 true (.tuple #[])) h15 fun v16 h16 =>
  opH P_ G (su (Instr.storeAt 48 v16 v15)) h16 fun v17 h17 =>
  o_ G (Instr.loadAt 68 (r 1)) h17 fun v18 h18 =>
  o_ G (Instr.loadAt 48 v16) h18 fun v19 h19 =>
  opH P_ G (callFunc 78 #[v18, v19]) h19 fun v20 h20 =>
  cond v20
  (o_ G (Instr.loadAt 178 (r 3)) h20 fun v21 h21 =>
  o_ G (Instr.loadAt 48 v16) h21 fun v22 h22 =>
  opH P_ G (xCallV v21 #[v22]) h22 fun v23 h23 =>
  K .normal (upd (upd (upd (upd (upd (upd (upd (upd (upd (upd (upd (upd (upd (upd (upd r 18 v8) 19 v9) 20 v10) 21 v11) 22 v12) 23 v13) 24 v14) 25 v15) 5 v16) 26 v18) 27 v19) 28 v20) 29 v21) 30 v22) 31 v23) h23)
  (K .normal (upd (upd (upd (upd (upd (upd (upd (upd (upd (upd (upd (upd r 18 v8) 19 v9) 20 v10) 21 v11) 22 v12) 23 v13) 24 v14) 25 v15) 5 v16) 26 v18) 27 v19) 28 v20) h20)
def S165_a3 (G : Hp) (r : Rg) (h : Hp) (K : EK) : Prop :=
  o_ G (Instr.alloc 48 true (.tuple #[])) h fun v24 h24 =>
  opH P_ G (su (Instr.storeAt 48 v24 (r 13))) h24 fun v25 h25 =>
  K .normal (upd r 4 v24) h25
def S165_b3 (G : Hp) (r : Rg) (h : Hp) (K : EK) : Prop :=
  o_ G (Instr.loadAt 178 (r 3)) h fun v26 h26 =>
  o_ G (Instr.loadAt 48 (r 4)) h26 fun v27 h27 =>
  opH P_ G (xCallV v26 #[v27]) h27 fun v28 h28 =>
  o_ G (Op.unary .not v28) h28 fun v29 h29 =>
  cond v29
  (K .ret (upd (upd (upd (upd r 14 v26) 15 v27) 16 v28) 17 v29) h29)
  (K .normal (upd (upd (upd (upd r 14 v26) 15 v27) 16 v28) 17 v29) h29)
def S165_k1 (G : Hp) (K : EK) (r : Rg) (h : Hp) : Prop :=
  o_ G (Instr.loadAt 68 (r 1)) h fun v5 h5 =>
  o_ G (Instr.loadAt 30 (r 2)) h5 fun v6 h6 =>
  opH P_ G (callFunc 166 #[v5, v6]) h6 fun v7 h7 =>
  RangeW P_ G 1 (S165_a3 G) (S165_b3 G) (setR 32 #[13]) v7 (upd (upd (upd r 10 v5) 11 v6) 12 v7) h7 (blockK 0 (thenK (S165_k2 G K) K))
def S165 (G : Hp) (K : EK) (r : Rg) (h : Hp) : Prop :=
  o_ G (Instr.box 178 (r 0)) h fun v0 h0 =>
  o_ G (Instr.loadAt 68 (r 1)) h0 fun v1 h1 =>
  o_ G (Instr.loadAt 30 (r 2)) h1 fun v2 h2 =>
  opH P_ G (callFunc 61 #[v1, v2]) h2 fun v3 h3 =>
  o_ G (Op.unary .not v3) h3 fun v4 h4 =>
  cond v4
  (K .ret (upd (upd (upd (upd (upd r 3 v0) 6 v1) 7 v2) 8 v3) 9 v4) h4)
  (S165_k1 G K (upd (upd (upd (upd (upd r 3 v0) 6 v1) 7 v2) 8 v3) 9 v4) h4)
theorem S165_eq : Weq 32 md165 (Tryz.f165.body.getD .skip) S165 := fun _ _ _ _ => by kernel_rfl
theorem enter165 : Ent 32 165 [] S165 := ent_ S165_eq Tryz.func165 rfl rfl rfl

def md166 : Nat → Hint
  | _ => mh false [] [] [] false
def S166 (G : Hp) (K : EK) (r : Rg) (h : Hp) : Prop :=
  o_ G (Instr.box 68 (r 0)) h fun v0 h0 =>
  o_ G (Instr.box 30 (r 1)) h0 fun v1 h1 =>
  K .ret (upd (upd (upd (upd (upd r 2 v0) 3 v1) 4 .nilFunc) 5 (.func (.func 182) #[] #[v0, v1])) 4 (.func (.func 182) #[] #[v0, v1])) h1
theorem S166_eq : Weq 6 md166 (Tryz.f166.body.getD .skip) S166 := fun _ _ _ _ => by kernel_rfl
theorem enter166 : Ent 6 166 [.tmp 4] S166 := ent_ S166_eq Tryz.func166 rfl rfl rfl

def md127 : Nat → Hint
  | 17 => mh false [0,0,2,6,14,30,62,30,254,510,31,2047] [n_,n_,m_,n_,n_,n_,m_,m_,m_,n_,n_,n_] (fs 12) false
  | 26 => mh false [0,0,2,0,8,24,0,64,192,448,1016,2046,1,8191] [n_,n_,m_,n_,n_,m_,n_,n_,m_,n_,n_,m_,n_,n_] (fs 14) false
  | 29 => mh false [0,0,2,7,0,16,0,64,240,15,1023] [n_,n_,m_,e_,n_,m_,n_,m_,m_,n_,n_] [false, false, false, true, false, false, false, false, false, false, false] true
  | _ => mh false [] [] [] false
def S127_k3 (G : Hp) (K : EK) (r : Rg) (h : Hp) : Prop :=
  K .ret (upd (upd r 4 (.slice none 0 0)) 5 (.bool false)) h
def S127_k4 (G : Hp) (K : EK) (r : Rg) (h : Hp) : Prop :=
  p_ (Instr.fieldAt 48 (r 3) 2) h fun v24 h24 =>
  pureW P_ G h (sv (Instr.loadAt 3 v24)) h24 fun v25 h25 =>
  p_ (binOp .geq 3 v25 (.int .i64 1)) h25 fun v26 h26 =>
  gd (wantB v26 true) (p_ (Instr.fieldAt 48 (r 3) 4) h26) h26 fun v27 h27 =>
  gd (wantB v26 true) (pureW P_ G h (sv (Instr.loadAt 30 v27)) h27) h27 fun v28 h28 =>
  gd (wantB v26 true) (pureW P_ G h (sv (Instr.loadAt 30 (r 7))) h28) h28 fun v29 h29 =>
  gd (wantB v26 true) (pureW P_ G h (xEq .eql 30 (.tmp 0) (.tmp 0) v28 v29) h29) h29 fun v30 h30 =>
  pureW P_ noHp noHp (xPick v26 v30 (.bool false)) h30 fun v31 h31 =>
  K .ret (upd (upd (upd (upd (upd (upd (upd (upd (upd (upd (upd (upd r 68 (r 6)) 69 v24) 70 v25) 71 v26) 72 v26) 73 v27) 74 v28) 75 v29) 76 v30) 77 v31) 4 (r 6)) 5 v31) h31
def S127_l5_k7 (G : Hp) (K : EK) (r : Rg) (h : Hp) : Prop :=
  o_ G (binOp .add 3 (r 8) (.int .i64 1)) h fun v35 h35 =>
  K .normal (upd (upd (upd r 42 (r 8)) 43 v35) 8 v35) h35
def S127_l5_k8 (G : Hp) (K : EK) (r : Rg) (h : Hp) : Prop :=
  o_ G (Instr.loadAt 30 (r 9)) h fun v51 h51 =>
  opH P_ G (callFunc 89 #[(r 0), v51]) h51 fun v52 h52 =>
  o_ G (Builtin.append_ #[22, 22] 22 #[(r 6), v52]) h52 fun v53 h53 =>
  o_ G (Instr.loadAt 30 (r 9)) h53 fun v54 h54 =>
  opH P_ G (su (Instr.storeAt 30 (r 7) v54)) h54 fun v55 h55 =>
  S127_l5_k7 G K (upd (upd (upd (upd (upd (upd (upd r 62 (r 6)) 63 (r 0)) 64 v51) 65 v52) 66 v53) 6 v53) 67 v54) h55
def S127_l5_k6 (G : Hp) (K : EK) (r : Rg) (h : Hp) : Prop :=
  o_ G (Instr.fieldAt 48 (r 3) 3) h fun v36 h36 =>
  o_ G (Instr.loadAt 30 v36) h36 fun v37 h37 =>
  o_ G (Instr.fieldAt 48 (r 3) 1) h37 fun v38 h38 =>
  o_ G (Instr.loadAt 3 v38) h38 fun v39 h39 =>
  opH P_ G (callFunc 155 #[(r 0), v37, v39, (r 8)]) h39 fun v40 h40 =>
  o_ G (Instr.extract v40 0) h40 fun v41 h41 =>
  o_ G (Instr.extract v40 1) h41 fun v42 h42 =>
  o_ G (Instr.alloc 30 true (.tuple #[])) h42 fun v43 h43 =>
  opH P_ G (su (Instr.storeAt 30 v43 v41)) h43 fun v44 h44 =>
  o_ G (Op.unary .not v42) h44 fun v45 h45 =>
  gd (wantB v45 false) (fun K1 => K1 (r 0) h45) h45 fun v46 h46 =>
  gd (wantB v45 false) (o_ G (Instr.loadAt 30 v43) h46) h46 fun v47 h47 =>
  gd (wantB v45 false) (opH P_ G (callFunc 61 #[v46, v47]) h47) h47 fun v48 h48 =>
  gd (wantB v45 false) (o_ G (Op.unary .not v48) h48) h48 fun v49 h49 =>
  opH P_ G (xPick v45 (.bool true) v49) h49 fun v50 h50 =>
  (fun q => cond v50
  (K .ret (upd (upd q 4 (.slice none 0 0)) 5 (.bool false)) h50)
  (S127_l5_k8 G K q h50))
  (upd (upd (upd (upd (upd (upd (upd (upd (upd (upd (upd (upd (upd (upd (upd (upd (upd (upd (upd (upd r 45 (r 0)) 46 v36) 47 v37) 48 v38) 49 v39) 50 (r 8)) 51 v40) 44 v40) 52 v41) 53 v42) 9 v43) 10 v42) 54 v42) 55 v45) 56 v45) 57 v46) 58 v47) 59 v48) 60 v49) 61 v50)
def S127_l5 (G : Hp) (r : Rg) (h : Hp) (K : EK) : Prop :=
  o_ G (Instr.fieldAt 48 (r 3) 2) h fun v32 h32 =>
  o_ G (Instr.loadAt 3 v32) h32 fun v33 h33 =>
  o_ G (binOp .leq 3 (r 8) v33) h33 fun v34 h34 =>
  cond v34
  (S127_l5_k6 G K (upd (upd (upd (upd r 38 (r 8)) 39 v32) 40 v33) 41 v34) h34)
  (K (.exit 1) (upd (upd (upd (upd r 38 (r 8)) 39 v32) 40 v33) 41 v34) h34)
def S127_k9 (G : Hp) (K : EK) (r : Rg) (h : Hp) : Prop :=
  p_ (Instr.fieldAt 48 (r 3) 4) h fun v62 h62 =>
  pureW P_ G h (sv (Instr.loadAt 30 v62)) h62 fun v63 h63 =>
  p_ (Instr.fieldAt 48 (r 3) 3) h63 fun v64 h64 =>
  p_ (Instr.fieldAt 30 v64 0) h64 fun v65 h65 =>
  pureW P_ G h (sv (Instr.loadAt 28 v65)) h65 fun v66 h66 =>
  p_ (Instr.fieldAt 48 (r 3) 3) h66 fun v67 h67 =>
  p_ (Instr.fieldAt 30 v67 1) h67 fun v68 h68 =>
  pureW P_ G h (sv (Instr.loadAt 4 v68)) h68 fun v69 h69 =>
  p_ (Op.unary .not v69) h69 fun v70 h70 =>
  p_ (Instr.build 30 #[(0, v66), (1, v70)]) h70 fun v71 h71 =>
  pureW P_ G h (xEq .eql 30 (.tmp 0) (.tmp 0) v63 v71) h71 fun v72 h72 =>
  K .ret (upd (upd (upd (upd (upd (upd (upd (upd (upd (upd (upd (upd (upd (upd r 95 (r 11)) 96 v62) 97 v63) 98 v64) 99 v65) 100 v66) 101 v67) 102 v68) 103 v69) 104 v70) 105 v71) 106 v72) 4 (r 11)) 5 v72) h72
def S127_l10_k12 (G : Hp) (K : EK) (r : Rg) (h : Hp) : Prop :=
  o_ G (binOp .add 3 (r 86) (.int .i64 1)) h fun v74 h74 =>
  K .normal (upd (upd r 94 v74) 86 v74) h74
def S127_l10_k11 (G : Hp) (K : EK) (r : Rg) (h : Hp) : Prop :=
  o_ G (Instr.indexAt 22 (r 84) (r 86)) h fun v75 h75 =>
  o_ G (Instr.loadAt 28 v75) h75 fun v76 h76 =>
  o_ G (Instr.alloc 28 true (.tuple #[])) h76 fun v77 h77 =>
  opH P_ G (su (Instr.storeAt 28 v77 v76)) h77 fun v78 h78 =>
  o_ G (Instr.loadAt 28 v77) h78 fun v79 h79 =>
  opH P_ G (callFunc 62 #[(r 0), v79]) h79 fun v80 h80 =>
  o_ G (Op.unary .not v80) h80 fun v81 h81 =>
  (fun q => cond v81
  (K .ret (upd (upd q 4 (.slice none 0 0)) 5 (.bool false)) h81)
  (S127_l10_k12 G K q h81))
  (upd (upd (upd (upd (upd (upd (upd r 88 v75) 89 v76) 13 v77) 90 (r 0)) 91 v79) 92 v80) 93 v81)
def S127_l10 (G : Hp) (r : Rg) (h : Hp) (K : EK) : Prop :=
  o_ G (binOp .lss 3 (r 86) (r 85)) h fun v73 h73 =>
  cond v73
  (S127_l10_k11 G K (upd r 87 v73) h73)
  (K (.exit 3) (upd r 87 v73) h73)
def S127_k13 (G : Hp) (K : EK) (r : Rg) (h : Hp) : Prop :=
  cond (r 107)
  (∃ q83 : Hp, q83.le h ∧
  p_ (Instr.fieldAt 48 (r 3) 3) h fun v84 h84 =>
  pureW P_ G q83 (sv (Instr.loadAt 30 v84)) h84 fun v85 h85 =>
  opH P_ G (callFunc 89 #[(r 0), v85]) h85 fun v86 h86 => q83.le h86 ∧
  p_ (Instr.fieldAt 48 (r 3) 4) h86 fun v87 h87 =>
  pureW P_ G q83 (sv (Instr.loadAt 30 v87)) h87 fun v88 h88 =>
  p_ (Instr.fieldAt 48 (r 3) 3) h88 fun v89 h89 =>
  pureW P_ G q83 (sv (Instr.loadAt 30 v89)) h89 fun v90 h90 =>
  pureW P_ G q83 (xEq .eql 30 (.tmp 0) (.tmp 0) v88 v90) h90 fun v91 h91 =>
  K .ret (upd (upd (upd (upd (upd (upd (upd (upd (upd (upd (upd r 110 (r 0)) 111 v84) 112 v85) 113 v86) 114 v87) 115 v88) 116 v89) 117 v90) 118 v91) 4 v86) 5 v91) h91)
  (S127_k3 G K r h)
def S127_k2 (G : Hp) (K : EK) (r : Rg) (h : Hp) : Prop :=
  o_ G (Instr.fieldAt 48 (r 3) 0) h fun v17 h17 =>
  o_ G (Instr.loadAt 3 v17) h17 fun v18 h18 =>
  opH P_ G (xEq .eql 3 (.tmp 0) (.const .nilFunc) v18 (.int .i64 1)) h18 fun v19 h19 =>
  cond v19
  (o_ G (Instr.fieldAt 48 (r 3) 3) h19 fun v20 h20 =>
  o_ G (Instr.loadAt 30 v20) h20 fun v21 h21 =>
  o_ G (Instr.alloc 30 true (.tuple #[])) h21 fun v22 h22 =>
  opH P_ G (su (Instr.storeAt 30 v22 v21)) h22 fun v23 h23 =>
  loopP (S127_l5 G) (upd (upd (upd (upd (upd (upd (upd (upd (upd r 32 v17) 33 v18) 35 v19) 34 v19) 6 (.slice none 0 0)) 36 v20) 37 v21) 7 v22) 8 (.int .i64 0)) h23 (blockK 1 (thenK (S127_k4 G K) (blockK 0 (thenK (S127_k3 G K) K)))))
  (opH P_ G (xEq .eql 3 (.tmp 0) (.const .nilFunc) v18 (.int .i64 2)) h19 fun v56 h56 =>
  cond v56
  (o_ G (Instr.fieldAt 48 (r 3) 3) h56 fun v57 h57 =>
  o_ G (Instr.fieldAt 30 v57 0) h57 fun v58 h58 =>
  o_ G (Instr.loadAt 28 v58) h58 fun v59 h59 =>
  opH P_ G (callFunc 156 #[v59]) h59 fun v60 h60 =>
  o_ G (Builtin.len_ #[22] 3 #[v60]) h60 fun v61 h61 =>
  loopP (S127_l10 G) (upd (upd (upd (upd (upd (upd (upd (upd (upd (upd (upd (upd (upd (upd r 32 v17) 33 v18) 35 v19) 34 v19) 79 v56) 78 v56) 80 v57) 81 v58) 82 v59) 83 v60) 11 v60) 84 v60) 85 v61) 86 (.int .i64 0)) h61 (blockK 3 (thenK (S127_k9 G K) (blockK 0 (thenK (S127_k3 G K) K)))))
  (opH P_ G (xEq .eql 3 (.tmp 0) (.const .nilFunc) v18 (.int .i64 3)) h56 fun v82 h82 =>
  cond v82
  (S127_k13 G K (upd (upd (upd (upd (upd (upd (upd (upd r 32 v17) 33 v18) 35 v19) 34 v19) 79 v56) 78 v56) 108 v82) 107 v82) h82)
  (opH P_ G (xEq .eql 3 (.tmp 0) (.const .nilFunc) v18 (.int .i64 4)) h82 fun v92 h92 =>
  S127_k13 G K (upd (upd (upd (upd (upd (upd (upd (upd (upd (upd r 32 v17) 33 v18) 35 v19) 34 v19) 79 v56) 78 v56) 108 v82) 107 v82) 109 v92) 107 v92) h92)))
def S127_k1 (G : Hp) (K : EK) (r : Rg) (h : Hp) : Prop :=
  o_ G (Instr.fieldAt 48 (r 3) 0) h fun v5 h5 =>
  o_ G (Instr.loadAt 3 v5) h5 fun v6 h6 =>
  opH P_ G (xEq .neq 3 (.tmp 0) (.const .nilFunc) v6 (.int .i64 1)) h6 fun v7 h7 =>
  gd (wantB v7 true) (o_ G (Instr.fieldAt 48 (r 3) 1) h7) h7 fun v8 h8 =>
  gd (wantB v7 true) (o_ G (Instr.loadAt 3 v8) h8) h8 fun v9 h9 =>
  gd (wantB v7 true) (opH P_ G (xEq .neq 3 (.tmp 0) (.const .nilFunc) v9 (.int .i64 0)) h9) h9 fun v10 h10 =>
  gd (wantB v7 true) (fun K1 => K1 v10 h10) h10 fun v11 h11 =>
  gd (wantB v11 false) (o_ G (Instr.fieldAt 48 (r 3) 2) h11) h11 fun v12 h12 =>
  gd (wantB v11 false) (o_ G (Instr.loadAt 3 v12) h12) h12 fun v13 h13 =>
  gd (wantB v11 false) (opH P_ G (xEq .neq 3 (.tmp 0) (.const .nilFunc) v13 (.int .i64 0)) h13) h13 fun v14 h14 =>
  gd (wantB v7 true) (opH P_ G (xPick v11 (.bool true) v14) h14) h14 fun v15 h15 =>
  opH P_ G (xPick v7 v15 (.bool false)) h15 fun v16 h16 =>
  (fun q => cond v16
  (K .ret (upd (upd q 4 (.slice none 0 0)) 5 (.bool false)) h16)
  (S127_k2 G K q h16))
  (upd (upd (upd (upd (upd (upd (upd (upd (upd (upd (upd (upd (upd r 19 v5) 20 v6) 21 v7) 22 v7) 23 v8) 24 v9) 25 v10) 26 v11) 27 v12) 28 v13) 29 v14) 30 v15) 31 v16)
def S127 (G : Hp) (K : EK) (r : Rg) (h : Hp) : Prop :=
  o_ G (Instr.box 48 (r 1)) h fun v0 h0 =>
  o_ G (Instr.fieldAt 48 v0 3) h0 fun v1 h1 =>
  o_ G (Instr.loadAt 30 v1) h1 fun v2 h2 =>
  opH P_ G (callFunc 61 #[(r 0), v2]) h2 fun v3 h3 =>
  o_ G (Op.unary .not v3) h3 fun v4 h4 =>
  (fun q => cond v4
  (K .ret (upd (upd q 4 (.slice none 0 0)) 5 (.bool false)) h4)
  (S127_k1 G K q h4))
  (upd (upd (upd (upd (upd (upd (upd (upd r 3 v0) 4 (.slice none 0 0)) 5 (.bool false)) 14 (r 0)) 15 v1) 16 v2) 17 v3) 18 v4)
theorem S127_eq : Weq 119 md127 (Tryz.f127.body.getD .skip) S127 := fun _ _ _ _ => by kernel_rfl
theorem enter127 : Ent 119 127 [.tmp 4, .tmp 5] S127 := ent_ S127_eq Tryz.func127 rfl rfl rfl

def md130 : Nat → Hint
  | 3 => mh false [0,1,0,4,0,16,0,64,240,496,1023,2047,4095] [n_,m_,n_,m_,n_,m_,n_,m_,n_,e_,n_,.alloc,n_] [false, false, false, false, false, false, false, false, false, true, false, false, false] true
  | 5 => ⟨false, [0, 1, 3, 0, 8, 31, 63, 0], [.pureN, .pureM, .eff, .pureN, .pureM, .eff, .pureM, .pureN], [.pureN, .pureM, .eff, .pureN, .pureM, .eff, .late, .pureN], [false, false, true, false, false, false, false, false], true⟩
  | 14 => mh false [0,1,3,7,0,0,0,64,192,480,992,2047,4095] [n_,n_,n_,m_,n_,n_,n_,m_,m_,n_,n_,n_,.store] (fs 13) false
  | _ => mh false [] [] [] false
def S130_k2 (G : Hp) (K : EK) (r : Rg) (h : Hp) : Prop :=
  K .ret (upd (upd (upd r 104 (r 4)) 2 (r 4)) 3 (.bool true)) h
def S130_l3_k5 (G : Hp) (K : EK) (r : Rg) (h : Hp) : Prop :=
  o_ G (binOp .add 3 (r 61) (.int .i64 1)) h fun v53 h53 =>
  K .normal (upd (upd r 103 v53) 61 v53) h53
def S130_l3_k6 (G : Hp) (K : EK) (r : Rg) (h : Hp) : Prop :=
  o_ G (Instr.indexAt 90 (r 5) (r 8)) h fun v66 h66 =>
  opH P_ G (su (Instr.storeAt 4 v66 (.bool true))) h66 fun v67 h67 =>
  opH P_ G (xNil (r 4)) h67 fun v68 h68 =>
  o_ G (Instr.fieldAt 215 v68 2) h68 fun v69 h69 =>
  o_ G (Instr.loadAt 168 v69) h69 fun v70 h70 =>
  o_ G (Instr.indexAt 168 v70 (r 8)) h70 fun v71 h71 =>
  opH P_ G (su (Instr.storeAt 3 v71 (.int .i64 (-1)))) h71 fun v72 h72 =>
  o_ G (Instr.fieldAt 26 (r 1) 3) h72 fun v73 h73 =>
  o_ G (Instr.loadAt 22 v73) h73 fun v74 h74 =>
  o_ G (Builtin.len_ #[22] 3 #[v74]) h74 fun v75 h75 =>
  o_ G (binOp .geq 3 (r 6) v75) h75 fun v76 h76 =>
  cond v76
  (pureW P_ noHp noHp (xNil (r 4)) h76 fun v77 h77 =>
  p_ (Instr.fieldAt 215 v77 2) h77 fun v78 h78 =>
  pureW P_ G h76 (sv (Instr.loadAt 168 v78)) h78 fun v79 h79 =>
  p_ (Instr.fieldAt 26 (r 1) 3) h79 fun v80 h80 =>
  pureW P_ G h76 (sv (Instr.loadAt 22 v80)) h80 fun v81 h81 =>
  pureW P_ G h76 (sv (Builtin.len_ #[22] 3 #[v81])) h81 fun v82 h82 =>
  p_ (binOp .sub 3 (r 6) v82) h82 fun v83 h83 =>
  p_ (binOp .add 3 v83 (.int .i64 1)) h83 fun v84 h84 =>
  p_ (Instr.indexAt 168 v79 (r 8)) h84 fun v85 h85 =>
  opH P_ G (su (Instr.storeAt 3 v85 v84)) h85 fun v86 h86 =>
  S130_l3_k5 G K (upd (upd (upd (upd (upd (upd (upd (upd (upd (upd (upd (upd (upd (upd (upd (upd (upd (upd (upd (upd (upd (upd (upd (upd (upd (upd r 77 (r 5)) 78 (r 8)) 79 v66) 80 (r 4)) 81 v68) 82 v69) 83 v70) 84 (r 8)) 85 v71) 86 (r 6)) 87 v73) 88 v74) 89 v75) 90 v76) 91 (r 4)) 92 v77) 93 v78) 94 v79) 95 (r 8)) 96 (r 6)) 97 v80) 98 v81) 99 v82) 100 v83) 101 v84) 102 v85) h86)
  (S130_l3_k5 G K (upd (upd (upd (upd (upd (upd (upd (upd (upd (upd (upd (upd (upd (upd r 77 (r 5)) 78 (r 8)) 79 v66) 80 (r 4)) 81 v68) 82 v69) 83 v70) 84 (r 8)) 85 v71) 86 (r 6)) 87 v73) 88 v74) 89 v75) 90 v76) h76)
def S130_l3_k4 (G : Hp) (K : EK) (r : Rg) (h : Hp) : Prop :=
  o_ G (Instr.indexAt 22 (r 59) (r 61)) h fun v54 h54 =>
  o_ G (Instr.loadAt 28 v54) h54 fun v55 h55 =>
  o_ G (Instr.alloc 28 true (.tuple #[])) h55 fun v56 h56 =>
  opH P_ G (su (Instr.storeAt 28 v56 v55)) h56 fun v57 h57 =>
  o_ G (Instr.loadAt 28 v56) h57 fun v58 h58 =>
  opH P_ G (callFunc 88 #[(r 4), v58]) h58 fun v59 h59 =>
  o_ G (binOp .lss 3 v59 (.int .i64 0)) h59 fun v60 h60 =>
  gd (wantB v60 false) (fun K1 => K1 (r 5) h60) h60 fun v61 h61 =>
  gd (wantB v60 false) (fun K1 => K1 v59 h61) h61 fun v62 h62 =>
  gd (wantB v60 false) (o_ G (Instr.indexAt 90 v61 v62) h62) h62 fun v63 h63 =>
  gd (wantB v60 false) (o_ G (Instr.loadAt 4 v63) h63) h63 fun v64 h64 =>
  opH P_ G (xPick v60 (.bool true) v64) h64 fun v65 h65 =>
  (fun q => cond v65
  (K .ret (upd (upd q 2 (.pointer none)) 3 (.bool false)) h65)
  (S130_l3_k6 G K q h65))
  (upd (upd (upd (upd (upd (upd (upd (upd (upd (upd (upd (upd (upd (upd (upd (upd (upd r 63 (r 61)) 64 v54) 65 v55) 7 v56) 6 (r 61)) 66 (r 4)) 67 v58) 68 v59) 8 v59) 69 v59) 70 v60) 71 v60) 72 v61) 73 v62) 74 v63) 75 v64) 76 v65)
def S130_l3 (G : Hp) (r : Rg) (h : Hp) (K : EK) : Prop :=
  o_ G (binOp .lss 3 (r 61) (r 60)) h fun v52 h52 =>
  cond v52
  (S130_l3_k4 G K (upd r 62 v52) h52)
  (K (.exit 0) (upd r 62 v52) h52)
def S130_k1 (G : Hp) (K : EK) (r : Rg) (h : Hp) : Prop :=
  ∃ q25 : Hp, q25.le h ∧
  p_ (Instr.fieldAt 26 (r 1) 0) h fun v26 h26 =>
  pureW P_ G q25 (sv (Instr.loadAt 3 v26)) h26 fun v27 h27 =>
  p_ (Instr.fieldAt 26 (r 1) 1) h27 fun v28 h28 =>
  pureW P_ G q25 (sv (Instr.loadAt 3 v28)) h28 fun v29 h29 =>
  p_ (Instr.fieldAt 26 (r 1) 0) h29 fun v30 h30 =>
  pureW P_ G q25 (sv (Instr.loadAt 3 v30)) h30 fun v31 h31 =>
  p_ (Instr.fieldAt 26 (r 1) 1) h31 fun v32 h32 =>
  pureW P_ G q25 (sv (Instr.loadAt 3 v32)) h32 fun v33 h33 =>
  p_ (binOp .mul 3 v31 v33) h33 fun v34 h34 =>
  o_ G (Instr.makeSlice 168 v34 v34) h34 fun v35 h35 => q25.le h35 ∧
  p_ (Instr.build 215 #[(0, v27), (1, v29), (2, v35)]) h35 fun v36 h36 =>
  o_ G (Instr.box 215 v36) h36 fun v37 h37 =>
  o_ G (Instr.fieldAt 26 (r 1) 0) h37 fun v38 h38 =>
  o_ G (Instr.loadAt 3 v38) h38 fun v39 h39 =>
  o_ G (Instr.fieldAt 26 (r 1) 1) h39 fun v40 h40 =>
  o_ G (Instr.loadAt 3 v40) h40 fun v41 h41 =>
  o_ G (binOp .mul 3 v39 v41) h41 fun v42 h42 =>
  o_ G (Instr.makeSlice 90 v42 v42) h42 fun v43 h43 =>
  ∃ q44 : Hp, q44.le h43 ∧
  p_ (Instr.fieldAt 26 (r 1) 3) h43 fun v45 h45 =>
  pureW P_ G q44 (sv (Instr.loadAt 22 v45)) h45 fun v46 h46 =>
  opH P_ G (callFunc 157 #[v46]) h46 fun v47 h47 => q44.le h47 ∧
  p_ (Instr.fieldAt 26 (r 1) 4) h47 fun v48 h48 =>
  pureW P_ G q44 (sv (Instr.loadAt 22 v48)) h48 fun v49 h49 =>
  o_ G (Builtin.append_ #[22, 22] 22 #[v47, v49]) h49 fun v50 h50 =>
  pureW P_ G h50 (sv (Builtin.len_ #[22] 3 #[v50])) h50 fun v51 h51 =>
  loopP (S130_l3 G) (upd (upd (upd (upd (upd (upd (upd (upd (upd (upd (upd (upd (upd (upd (upd (upd (upd (upd (upd (upd (upd (upd (upd (upd (upd (upd (upd (upd r 36 v26) 37 v27) 38 v28) 39 v29) 40 v30) 41 v31) 42 v32) 43 v33) 44 v34) 45 v35) 46 v36) 47 v37) 4 v37) 48 v38) 49 v39) 50 v40) 51 v41) 52 v42) 53 v43) 5 v43) 54 v45) 55 v46) 56 v47) 57 v48) 58 v49) 59 v50) 60 v51) 61 (.int .i64 0)) h51 (blockK 0 (thenK (S130_k2 G K) K))
def S130 (G : Hp) (K : EK) (r : Rg) (h : Hp) : Prop :=
  o_ G (Instr.box 26 (r 0)) h fun v0 h0 =>
  o_ G (Instr.fieldAt 26 v0 0) h0 fun v1 h1 =>
  o_ G (Instr.loadAt 3 v1) h1 fun v2 h2 =>
  opH P_ G (callFunc 129 #[v2, (.int .i64 1), (.int .i64 16)]) h2 fun v3 h3 =>
  o_ G (Op.unary .not v3) h3 fun v4 h4 =>
  gd (wantB v4 false) (o_ G (Instr.fieldAt 26 v0 1) h4) h4 fun v5 h5 =>
  gd (wantB v4 false) (o_ G (Instr.loadAt 3 v5) h5) h5 fun v6 h6 =>
  gd (wantB v4 false) (opH P_ G (callFunc 129 #[v6, (.int .i64 1), (.int .i64 16)]) h6) h6 fun v7 h7 =>
  gd (wantB v4 false) (o_ G (Op.unary .not v7) h7) h7 fun v8 h8 =>
  opH P_ G (xPick v4 (.bool true) v8) h8 fun v9 h9 =>
  gd (wantB v9 false) (o_ G (Instr.fieldAt 26 v0 4) h9) h9 fun v10 h10 =>
  gd (wantB v9 false) (o_ G (Instr.loadAt 22 v10) h10) h10 fun v11 h11 =>
  gd (wantB v9 false) (o_ G (Builtin.len_ #[22] 3 #[v11]) h11) h11 fun v12 h12 =>
  gd (wantB v9 false) (o_ G (binOp .gtr 3 v12 (.int .i64 8)) h12) h12 fun v13 h13 =>
  opH P_ G (xPick v9 (.bool true) v13) h13 fun v14 h14 =>
  gd (wantB v14 false) (o_ G (Instr.fieldAt 26 v0 3) h14) h14 fun v15 h15 =>
  gd (wantB v14 false) (o_ G (Instr.loadAt 22 v15) h15) h15 fun v16 h16 =>
  gd (wantB v14 false) (o_ G (Builtin.len_ #[22] 3 #[v16]) h16) h16 fun v17 h17 =>
  gd (wantB v14 false) (o_ G (Instr.fieldAt 26 v0 0) h17) h17 fun v18 h18 =>
  gd (wantB v14 false) (o_ G (Instr.loadAt 3 v18) h18) h18 fun v19 h19 =>
  gd (wantB v14 false) (o_ G (Instr.fieldAt 26 v0 1) h19) h19 fun v20 h20 =>
  gd (wantB v14 false) (o_ G (Instr.loadAt 3 v20) h20) h20 fun v21 h21 =>
  gd (wantB v14 false) (o_ G (binOp .mul 3 v19 v21) h21) h21 fun v22 h22 =>
  gd (wantB v14 false) (o_ G (binOp .gtr 3 v17 v22) h22) h22 fun v23 h23 =>
  opH P_ G (xPick v14 (.bool true) v23) h23 fun v24 h24 =>
  (fun q => cond v24
  (K .ret (upd (upd q 2 (.pointer none)) 3 (.bool false)) h24)
  (S130_k1 G K q h24))
  (upd (upd (upd (upd (upd (upd (upd (upd (upd (upd (upd (upd (upd (upd (upd (upd (upd (upd (upd (upd (upd (upd (upd (upd (upd (upd (upd (upd (upd (upd r 1 v0) 2 (.pointer none)) 3 (.bool false)) 9 v1) 10 v2) 11 v3) 12 v4) 13 v4) 14 v5) 15 v6) 16 v7) 17 v8) 18 v9) 19 v9) 20 v10) 21 v11) 22 v12) 23 v13) 24 v14) 25 v14) 26 v15) 27 v16) 28 v17) 29 v18) 30 v19) 31 v20) 32 v21) 33 v22) 34 v23) 35 v24)
theorem S130_eq : Weq 105 md130 (Tryz.f130.body.getD .skip) S130 := fun _ _ _ _ => by kernel_rfl
theorem enter130 : Ent 105 130 [.tmp 2, .tmp 3] S130 := ent_ S130_eq Tryz.func130 rfl rfl rfl

def md131 : Nat → Hint
  | 6 => mh false [0,0,2,6,14,31,0,0,128,384,896,1984,4095,8191,0,32767] [n_,n_,n_,n_,m_,n_,n_,n_,n_,n_,m_,n_,n_,n_,.alloc,.store] (fs 16) false
  | _ => mh false [] [] [] false
def S131_k3 (G : Hp) (K : EK) (r : Rg) (h : Hp) : Prop :=
  K .ret (upd r 4 (.bool true)) h
def S131_l4_k6 (G : Hp) (K : EK) (r : Rg) (h : Hp) : Prop :=
  o_ G (binOp .add 3 (r 81) (.int .i64 1)) h fun v13 h13 =>
  K .normal (upd (upd r 124 v13) 81 v13) h13
def S131_l4_l8_k10 (G : Hp) (K : EK) (r : Rg) (h : Hp) : Prop :=
  o_ G (binOp .add 3 (r 93) (.int .i64 1)) h fun v25 h25 =>
  K .normal (upd (upd r 123 v25) 93 v25) h25
def S131_l4_l8_k11 (G : Hp) (K : EK) (r : Rg) (h : Hp) : Prop :=
  o_ G (Instr.indexAt 90 (r 7) (r 12)) h fun v43 h43 =>
  opH P_ G (su (Instr.storeAt 4 v43 (.bool true))) h43 fun v44 h44 =>
  opH P_ G (xNil (r 0)) h44 fun v45 h45 =>
  o_ G (Instr.fieldAt 215 v45 2) h45 fun v46 h46 =>
  o_ G (Instr.loadAt 168 v46) h46 fun v47 h47 =>
  o_ G (Instr.indexAt 168 v47 (r 12)) h47 fun v48 h48 =>
  opH P_ G (su (Instr.storeAt 3 v48 (.int .i64 (-2)))) h48 fun v49 h49 =>
  S131_l4_l8_k10 G K (upd (upd (upd (upd (upd (upd (upd (upd (upd r 114 (r 7)) 115 (r 12)) 116 v43) 117 (r 0)) 118 v45) 119 v46) 120 v47) 121 (r 12)) 122 v48) h49
def S131_l4_l8_k9 (G : Hp) (K : EK) (r : Rg) (h : Hp) : Prop :=
  o_ G (Instr.indexAt 22 (r 91) (r 93)) h fun v26 h26 =>
  o_ G (Instr.loadAt 28 v26) h26 fun v27 h27 =>
  o_ G (Instr.alloc 28 true (.tuple #[])) h27 fun v28 h28 =>
  opH P_ G (su (Instr.storeAt 28 v28 v27)) h28 fun v29 h29 =>
  o_ G (Instr.loadAt 28 v28) h29 fun v30 h30 =>
  opH P_ G (callFunc 88 #[(r 0), v30]) h30 fun v31 h31 =>
  o_ G (Instr.indexAt 90 (r 7) v31) h31 fun v32 h32 =>
  o_ G (Instr.loadAt 4 v32) h32 fun v33 h33 =>
  gd (wantB v33 false) (fun K1 => K1 (r 0) h33) h33 fun v34 h34 =>
  gd (wantB v33 false) (opH P_ G (xNil v34) h34) h34 fun v35 h35 =>
  gd (wantB v33 false) (o_ G (Instr.fieldAt 215 v35 2) h35) h35 fun v36 h36 =>
  gd (wantB v33 false) (o_ G (Instr.loadAt 168 v36) h36) h36 fun v37 h37 =>
  gd (wantB v33 false) (fun K1 => K1 v31 h37) h37 fun v38 h38 =>
  gd (wantB v33 false) (o_ G (Instr.indexAt 168 v37 v38) h38) h38 fun v39 h39 =>
  gd (wantB v33 false) (o_ G (Instr.loadAt 3 v39) h39) h39 fun v40 h40 =>
  gd (wantB v33 false) (o_ G (binOp .gtr 3 v40 (.int .i64 0)) h40) h40 fun v41 h41 =>
  opH P_ G (xPick v33 (.bool true) v41) h41 fun v42 h42 =>
  (fun q => cond v42
  (K .ret (upd q 4 (.bool false)) h42)
  (S131_l4_l8_k11 G K q h42))
  (upd (upd (upd (upd (upd (upd (upd (upd (upd (upd (upd (upd (upd (upd (upd (upd (upd (upd (upd (upd (upd r 95 v26) 96 v27) 11 v28) 97 (r 0)) 98 v30) 99 v31) 12 v31) 100 (r 7)) 101 v31) 102 v32) 103 v33) 104 v33) 105 v34) 106 v35) 107 v36) 108 v37) 109 v38) 110 v39) 111 v40) 112 v41) 113 v42)
def S131_l4_l8 (G : Hp) (r : Rg) (h : Hp) (K : EK) : Prop :=
  o_ G (binOp .lss 3 (r 93) (r 92)) h fun v24 h24 =>
  cond v24
  (S131_l4_l8_k9 G K (upd r 94 v24) h24)
  (K (.exit 4) (upd r 94 v24) h24)
def S131_l4_k7 (G : Hp) (K : EK) (r : Rg) (h : Hp) : Prop :=
  o_ G (Instr.loadAt 30 (r 9)) h fun v21 h21 =>
  opH P_ G (callFunc 89 #[(r 0), v21]) h21 fun v22 h22 =>
  o_ G (Builtin.len_ #[22] 3 #[v22]) h22 fun v23 h23 =>
  loopP (S131_l4_l8 G) (upd (upd (upd (upd (upd r 89 (r 0)) 90 v21) 91 v22) 92 v23) 93 (.int .i64 0)) h23 (blockK 4 (blockK 3 (thenK (S131_l4_k6 G K) K)))
def S131_l4_k5 (G : Hp) (K : EK) (r : Rg) (h : Hp) : Prop :=
  o_ G (Instr.indexAt 23 (r 79) (r 81)) h fun v14 h14 =>
  o_ G (Instr.loadAt 30 v14) h14 fun v15 h15 =>
  o_ G (Instr.alloc 30 true (.tuple #[])) h15 fun v16 h16 =>
  opH P_ G (su (Instr.storeAt 30 v16 v15)) h16 fun v17 h17 =>
  o_ G (Instr.loadAt 30 v16) h17 fun v18 h18 =>
  opH P_ G (callFunc 61 #[(r 0), v18]) h18 fun v19 h19 =>
  o_ G (Op.unary .not v19) h19 fun v20 h20 =>
  (fun q => cond v20
  (K .ret (upd q 4 (.bool false)) h20)
  (S131_l4_k7 G K q h20))
  (upd (upd (upd (upd (upd (upd (upd r 83 v14) 84 v15) 9 v16) 85 (r 0)) 86 v18) 87 v19) 88 v20)
def S131_l4 (G : Hp) (r : Rg) (h : Hp) (K : EK) : Prop :=
  o_ G (binOp .lss 3 (r 81) (r 80)) h fun v12 h12 =>
  cond v12
  (S131_l4_k5 G K (upd r 82 v12) h12)
  (K (.exit 2) (upd r 82 v12) h12)
def S131_k2 (G : Hp) (K : EK) (r : Rg) (h : Hp) : Prop :=
  opH P_ G (xNil (r 0)) h fun v6 h6 =>
  o_ G (Instr.fieldAt 215 v6 2) h6 fun v7 h7 =>
  o_ G (Instr.loadAt 168 v7) h7 fun v8 h8 =>
  o_ G (Builtin.len_ #[168] 3 #[v8]) h8 fun v9 h9 =>
  o_ G (Instr.makeSlice 90 v9 v9) h9 fun v10 h10 =>
  o_ G (Builtin.len_ #[23] 3 #[(r 1)]) h10 fun v11 h11 =>
  loopP (S131_l4 G) (upd (upd (upd (upd (upd (upd (upd (upd (upd (upd r 73 (r 0)) 74 v6) 75 v7) 76 v8) 77 v9) 78 v10) 7 v10) 79 (r 1)) 80 v11) 81 (.int .i64 0)) h11 (blockK 2 (thenK (S131_k3 G K) K))
def S131_l12_k14 (G : Hp) (K : EK) (r : Rg) (h : Hp) : Prop :=
  o_ G (binOp .add 3 (r 21) (.int .i64 1)) h fun v51 h51 =>
  K .normal (upd (upd r 72 v51) 21 v51) h51
def S131_l12_k16 (G : Hp) (K : EK) (r : Rg) (h : Hp) : Prop :=
  opH P_ G (xNil (r 0)) h fun v86 h86 =>
  o_ G (Instr.fieldAt 215 v86 2) h86 fun v87 h87 =>
  o_ G (Instr.loadAt 168 v87) h87 fun v88 h88 =>
  o_ G (Instr.indexAt 168 v88 (r 5)) h88 fun v89 h89 =>
  opH P_ G (su (Instr.storeAt 3 v89 (.int .i64 (-2)))) h89 fun v90 h90 =>
  S131_l12_k14 G K (upd (upd (upd (upd (upd (upd r 66 (r 0)) 67 v86) 68 v87) 69 v88) 70 (r 5)) 71 v89) h90
def S131_l12_k15 (G : Hp) (K : EK) (r : Rg) (h : Hp) : Prop :=
  opH P_ G (xNil (r 0)) h fun v80 h80 =>
  o_ G (Instr.fieldAt 215 v80 2) h80 fun v81 h81 =>
  o_ G (Instr.loadAt 168 v81) h81 fun v82 h82 =>
  o_ G (Instr.indexAt 168 v82 (r 5)) h82 fun v83 h83 =>
  o_ G (Instr.loadAt 3 v83) h83 fun v84 h84 =>
  o_ G (binOp .gtr 3 v84 (.int .i64 0)) h84 fun v85 h85 =>
  (fun q => cond v85
  (K .ret (upd q 4 (.bool false)) h85)
  (S131_l12_k16 G K q h85))
  (upd (upd (upd (upd (upd (upd (upd (upd r 58 (r 0)) 59 v80) 60 v81) 61 v82) 62 (r 5)) 63 v83) 64 v84) 65 v85)
def S131_l12_k13 (G : Hp) (K : EK) (r : Rg) (h : Hp) : Prop :=
  pureW P_ noHp noHp (xNil (r 0)) h fun v52 h52 =>
  p_ (Instr.fieldAt 215 v52 0) h52 fun v53 h53 =>
  pureW P_ G h (sv (Instr.loadAt 3 v53)) h53 fun v54 h54 =>
  p_ (binOp .rem 3 (r 21) v54) h54 fun v55 h55 =>
  pureW P_ noHp noHp (xNil (r 0)) h55 fun v56 h56 =>
  p_ (Instr.fieldAt 215 v56 0) h56 fun v57 h57 =>
  pureW P_ G h (sv (Instr.loadAt 3 v57)) h57 fun v58 h58 =>
  p_ (binOp .quo 3 (r 21) v58) h58 fun v59 h59 =>
  p_ (Instr.build 28 #[(0, v55), (1, v59)]) h59 fun v60 h60 =>
  p_ (Instr.build 30 #[(0, v60)]) h60 fun v61 h61 =>
  o_ G (Instr.alloc 30 true (.tuple #[])) h61 fun v62 h62 =>
  opH P_ G (su (Instr.storeAt 30 v62 v61)) h62 fun v63 h63 =>
  opH P_ G (xNil (r 0)) h63 fun v64 h64 =>
  o_ G (Instr.fieldAt 215 v64 2) h64 fun v65 h65 =>
  o_ G (Instr.loadAt 168 v65) h65 fun v66 h66 =>
  o_ G (Instr.indexAt 168 v66 (r 21)) h66 fun v67 h67 =>
  o_ G (Instr.loadAt 3 v67) h67 fun v68 h68 =>
  opH P_ G (xEq .eql 3 (.tmp 0) (.const .nilFunc) v68 (.int .i64 (-1))) h68 fun v69 h69 =>
  gd (wantB v69 false) (fun K1 => K1 (r 0) h69) h69 fun v70 h70 =>
  gd (wantB v69 false) (o_ G (Instr.loadAt 30 v62) h70) h70 fun v71 h71 =>
  gd (wantB v69 false) (opH P_ G (callFunc 61 #[v70, v71]) h71) h71 fun v72 h72 =>
  opH P_ G (xPick v69 (.bool true) v72) h72 fun v73 h73 =>
  gd (wantB v73 false) (fun K1 => K1 (r 0) h73) h73 fun v74 h74 =>
  gd (wantB v73 false) (o_ G (Instr.fieldAt 30 v62 0) h74) h74 fun v75 h75 =>
  gd (wantB v73 false) (o_ G (Instr.loadAt 28 v75) h75) h75 fun v76 h76 =>
  gd (wantB v73 false) (o_ G (Instr.build 30 #[(0, v76), (1, (.bool true))]) h76) h76 fun v77 h77 =>
  gd (wantB v73 false) (opH P_ G (callFunc 61 #[v74, v77]) h77) h77 fun v78 h78 =>
  opH P_ G (xPick v73 (.bool true) v78) h78 fun v79 h79 =>
  (fun q => cond v79
  (S131_l12_k14 G K q h79)
  (S131_l12_k15 G K q h79))
  (upd (upd (upd (upd (upd (upd (upd (upd (upd (upd (upd (upd (upd (upd (upd (upd (upd (upd (upd (upd (upd (upd (upd (upd (upd (upd (upd (upd (upd (upd (upd (upd (upd (upd (upd (upd (upd r 23 (r 21)) 5 (r 21)) 24 (r 21)) 25 (r 0)) 26 v52) 27 v53) 28 v54) 29 v55) 30 (r 21)) 31 (r 0)) 32 v56) 33 v57) 34 v58) 35 v59) 36 v60) 37 v61) 6 v62) 38 (r 0)) 39 v64) 40 v65) 41 v66) 42 (r 21)) 43 v67) 44 v68) 45 v69) 46 v69) 47 v70) 48 v71) 49 v72) 50 v73) 51 v73) 52 v74) 53 v75) 54 v76) 55 v77) 56 v78) 57 v79)
def S131_l12 (G : Hp) (r : Rg) (h : Hp) (K : EK) : Prop :=
  o_ G (binOp .lss 3 (r 21) (r 20)) h fun v50 h50 =>
  cond v50
  (S131_l12_k13 G K (upd r 22 v50) h50)
  (K (.exit 0) (upd r 22 v50) h50)
def S131_k1 (G : Hp) (K : EK) (r : Rg) (h : Hp) : Prop :=
  opH P_ G (xNil (r 0)) h fun v2 h2 =>
  o_ G (Instr.fieldAt 215 v2 2) h2 fun v3 h3 =>
  o_ G (Instr.loadAt 168 v3) h3 fun v4 h4 =>
  o_ G (Builtin.len_ #[168] 3 #[v4]) h4 fun v5 h5 =>
  loopP (S131_l12 G) (upd (upd (upd (upd (upd (upd r 16 (r 0)) 17 v2) 18 v3) 19 v4) 20 v5) 21 (.int .i64 0)) h5 (blockK 0 (thenK (S131_k2 G K) K))
def S131 (G : Hp) (K : EK) (r : Rg) (h : Hp) : Prop :=
  o_ G (Builtin.len_ #[23] 3 #[(r 1)]) h fun v0 h0 =>
  o_ G (binOp .gtr 3 v0 (.int .i64 8)) h0 fun v1 h1 =>
  (fun q => cond v1
  (K .ret (upd q 4 (.bool false)) h1)
  (S131_k1 G K q h1))
  (upd (upd (upd (upd r 4 (.bool false)) 13 (r 1)) 14 v0) 15 v1)
theorem S131_eq : Weq 125 md131 (Tryz.f131.body.getD .skip) S131 := fun _ _ _ _ => by kernel_rfl
theorem enter131 : Ent 125 131 [.tmp 4] S131 := ent_ S131_eq Tryz.func131 rfl rfl rfl

def md132 : Nat → Hint
  | _ => mh false [] [] [] false
def S132_k1 (G : Hp) (K : EK) (r : Rg) (h : Hp) : Prop :=
  K .ret (upd r 6 (.bool true)) h
def S132_l2_k4 (G : Hp) (K : EK) (r : Rg) (h : Hp) : Prop :=
  o_ G (binOp .add 3 (r 22) (.int .i64 1)) h fun v8 h8 =>
  K .normal (upd (upd r 77 v8) 22 v8) h8
def S132_l2_l6_k8 (G : Hp) (K : EK) (r : Rg) (h : Hp) : Prop :=
  o_ G (binOp .add 3 (r 56) (.int .i64 1)) h fun v40 h40 =>
  K .normal (upd (upd r 76 v40) 56 v40) h40
def S132_l2_l6_k9 (G : Hp) (K : EK) (r : Rg) (h : Hp) : Prop :=
  opH P_ G (su (Instr.mapUpdate 269 (r 8) (r 12) (.int .i64 1))) h fun v54 h54 =>
  S132_l2_l6_k8 G K (upd (upd r 74 (r 8)) 75 (r 12)) h54
def S132_l2_l6_k7 (G : Hp) (K : EK) (r : Rg) (h : Hp) : Prop :=
  o_ G (Instr.indexAt 168 (r 54) (r 56)) h fun v41 h41 =>
  o_ G (Instr.loadAt 3 v41) h41 fun v42 h42 =>
  opH P_ G (callFunc 129 #[v42, (.int .i64 1), (.int .i64 1000000000)]) h42 fun v43 h43 =>
  o_ G (Op.unary .not v43) h43 fun v44 h44 =>
  gd (wantB v44 false) (fun K1 => K1 (r 8) h44) h44 fun v45 h45 =>
  gd (wantB v44 false) (fun K1 => K1 v42 h45) h45 fun v46 h46 =>
  gd (wantB v44 false) (o_ G (Instr.lookup 269 v45 v46 false) h46) h46 fun v47 h47 =>
  gd (wantB v44 false) (o_ G (binOp .gtr 3 v47 (.int .i64 0)) h47) h47 fun v48 h48 =>
  opH P_ G (xPick v44 (.bool true) v48) h48 fun v49 h49 =>
  gd (wantB v49 false) (fun K1 => K1 (r 8) h49) h49 fun v50 h50 =>
  gd (wantB v49 false) (o_ G (Builtin.len_ #[269] 3 #[v50]) h50) h50 fun v51 h51 =>
  gd (wantB v49 false) (opH P_ G (xEq .eql 3 (.tmp 0) (.const .nilFunc) v51 (.int .i64 512)) h51) h51 fun v52 h52 =>
  opH P_ G (xPick v49 (.bool true) v52) h52 fun v53 h53 =>
  (fun q => cond v53
  (K .ret (upd q 6 (.bool false)) h53)
  (S132_l2_l6_k9 G K q h53))
  (upd (upd (upd (upd (upd (upd (upd (upd (upd (upd (upd (upd (upd (upd (upd (upd (upd r 58 v41) 59 v42) 12 v42) 60 v42) 61 v43) 62 v44) 63 v44) 64 v45) 65 v46) 66 v47) 67 v48) 68 v49) 69 v49) 70 v50) 71 v51) 72 v52) 73 v53)
def S132_l2_l6 (G : Hp) (r : Rg) (h : Hp) (K : EK) : Prop :=
  o_ G (binOp .lss 3 (r 56) (r 55)) h fun v39 h39 =>
  cond v39
  (S132_l2_l6_k7 G K (upd r 57 v39) h39)
  (K (.exit 2) (upd r 57 v39) h39)
def S132_l2_k5 (G : Hp) (K : EK) (r : Rg) (h : Hp) : Prop :=
  o_ G (Instr.fieldAt 234 (r 10) 0) h fun v31 h31 =>
  o_ G (Instr.loadAt 28 v31) h31 fun v32 h32 =>
  opH P_ G (callFunc 88 #[(r 0), v32]) h32 fun v33 h33 =>
  o_ G (Instr.indexAt 90 (r 7) v33) h33 fun v34 h34 =>
  opH P_ G (su (Instr.storeAt 4 v34 (.bool true))) h34 fun v35 h35 =>
  o_ G (Instr.fieldAt 234 (r 10) 1) h35 fun v36 h36 =>
  o_ G (Instr.loadAt 168 v36) h36 fun v37 h37 =>
  o_ G (Builtin.len_ #[168] 3 #[v37]) h37 fun v38 h38 =>
  loopP (S132_l2_l6 G) (upd (upd (upd (upd (upd (upd (upd (upd (upd (upd r 47 (r 7)) 48 (r 0)) 49 v31) 50 v32) 51 v33) 52 v34) 53 v36) 54 v37) 55 v38) 56 (.int .i64 0)) h38 (blockK 2 (blockK 1 (thenK (S132_l2_k4 G K) K)))
def S132_l2_k3 (G : Hp) (K : EK) (r : Rg) (h : Hp) : Prop :=
  o_ G (Instr.indexAt 24 (r 20) (r 22)) h fun v9 h9 =>
  o_ G (Instr.loadAt 234 v9) h9 fun v10 h10 =>
  o_ G (Instr.alloc 234 true (.tuple #[])) h10 fun v11 h11 =>
  opH P_ G (su (Instr.storeAt 234 v11 v10)) h11 fun v12 h12 =>
  o_ G (Instr.fieldAt 234 v11 0) h12 fun v13 h13 =>
  o_ G (Instr.loadAt 28 v13) h13 fun v14 h14 =>
  opH P_ G (callFunc 158 #[(r 0), v14]) h14 fun v15 h15 =>
  o_ G (Op.unary .not v15) h15 fun v16 h16 =>
  gd (wantB v16 false) (fun K1 => K1 (r 7) h16) h16 fun v17 h17 =>
  gd (wantB v16 false) (fun K1 => K1 (r 0) h17) h17 fun v18 h18 =>
  gd (wantB v16 false) (o_ G (Instr.fieldAt 234 v11 0) h18) h18 fun v19 h19 =>
  gd (wantB v16 false) (o_ G (Instr.loadAt 28 v19) h19) h19 fun v20 h20 =>
  gd (wantB v16 false) (opH P_ G (callFunc 88 #[v18, v20]) h20) h20 fun v21 h21 =>
  gd (wantB v16 false) (o_ G (Instr.indexAt 90 v17 v21) h21) h21 fun v22 h22 =>
  gd (wantB v16 false) (o_ G (Instr.loadAt 4 v22) h22) h22 fun v23 h23 =>
  opH P_ G (xPick v16 (.bool true) v23) h23 fun v24 h24 =>
  gd (wantB v24 false) (o_ G (Instr.fieldAt 234 v11 1) h24) h24 fun v25 h25 =>
  gd (wantB v24 false) (o_ G (Instr.loadAt 168 v25) h25) h25 fun v26 h26 =>
  gd (wantB v24 false) (o_ G (Builtin.len_ #[168] 3 #[v26]) h26) h26 fun v27 h27 =>
  gd (wantB v24 false) (fun K1 => K1 (r 2) h27) h27 fun v28 h28 =>
  gd (wantB v24 false) (o_ G (binOp .gtr 3 v27 v28) h28) h28 fun v29 h29 =>
  opH P_ G (xPick v24 (.bool true) v29) h29 fun v30 h30 =>
  (fun q => cond v30
  (K .ret (upd q 6 (.bool false)) h30)
  (S132_l2_k5 G K q h30))
  (upd (upd (upd (upd (upd (upd (upd (upd (upd (upd (upd (upd (upd (upd (upd (upd (upd (upd (upd (upd (upd (upd (upd (upd r 24 v9) 25 v10) 10 v11) 26 (r 0)) 27 v13) 28 v14) 29 v15) 30 v16) 31 v16) 32 v17) 33 v18) 34 v19) 35 v20) 36 v21) 37 v22) 38 v23) 39 v24) 40 v24) 41 v25) 42 v26) 43 v27) 44 v28) 45 v29) 46 v30)
def S132_l2 (G : Hp) (r : Rg) (h : Hp) (K : EK) : Prop :=
  o_ G (binOp .lss 3 (r 22) (r 21)) h fun v7 h7 =>
  cond v7
  (S132_l2_k3 G K (upd r 23 v7) h7)
  (K (.exit 0) (upd r 23 v7) h7)
def S132 (G : Hp) (K : EK) (r : Rg) (h : Hp) : Prop :=
  opH P_ G (xNil (r 0)) h fun v0 h0 =>
  o_ G (Instr.fieldAt 215 v0 2) h0 fun v1 h1 =>
  o_ G (Instr.loadAt 168 v1) h1 fun v2 h2 =>
  o_ G (Builtin.len_ #[168] 3 #[v2]) h2 fun v3 h3 =>
  o_ G (Instr.makeSlice 90 v3 v3) h3 fun v4 h4 =>
  o_ G (Instr.makeMap 269 none) h4 fun v5 h5 =>
  o_ G (Builtin.len_ #[24] 3 #[(r 1)]) h5 fun v6 h6 =>
  loopP (S132_l2 G) (upd (upd (upd (upd (upd (upd (upd (upd (upd (upd (upd (upd (upd r 6 (.bool false)) 13 (r 0)) 14 v0) 15 v1) 16 v2) 17 v3) 18 v4) 7 v4) 19 v5) 8 v5) 20 (r 1)) 21 v6) 22 (.int .i64 0)) h6 (blockK 0 (thenK (S132_k1 G K) K))
theorem S132_eq : Weq 78 md132 (Tryz.f132.body.getD .skip) S132 := fun _ _ _ _ => by kernel_rfl
theorem enter132 : Ent 78 132 [.tmp 6] S132 := ent_ S132_eq Tryz.func132 rfl rfl rfl

def md182 : Nat → Hint
  | _ => mh false [] [] [] false
def S182_l1_k3 (G : Hp) (K : EK) (r : Rg) (h : Hp) : Prop :=
  o_ G (binOp .add 3 (r 8) (.int .i64 1)) h fun v1 h1 =>
  K .normal (upd (upd r 37 v1) 8 v1) h1
def S182_l1_l4_k5 (G : Hp) (K : EK) (r : Rg) (h : Hp) : Prop :=
  o_ G (binOp .add 3 (r 5) (.int .i64 1)) h fun v2 h2 =>
  K .normal (upd (upd (upd r 11 (r 5)) 12 v2) 5 v2) h2
def S182_l1_l4_k6 (G : Hp) (K : EK) (r : Rg) (h : Hp) : Prop :=
  o_ G (Instr.loadAt 30 (r 2)) h fun v16 h16 =>
  o_ G (Instr.loadAt 30 (r 6)) h16 fun v17 h17 =>
  o_ G (Instr.build 48 #[(0, (.int .i64 1)), (1, (r 4)), (2, (r 5)), (3, v16), (4, v17)]) h17 fun v18 h18 =>
  opH P_ G (xCallV (r 0) #[v18]) h18 fun v19 h19 =>
  o_ G (Op.unary .not v19) h19 fun v20 h20 =>
  (fun q => cond v20
  (K .ret q h20)
  (S182_l1_l4_k5 G K q h20))
  (upd (upd (upd (upd (upd (upd (upd (upd r 29 (r 0)) 30 (r 4)) 31 (r 5)) 32 v16) 33 v17) 34 v18) 35 v19) 36 v20)
def S182_l1_l4 (G : Hp) (r : Rg) (h : Hp) (K : EK) : Prop :=
  o_ G (Instr.loadAt 68 (r 1)) h fun v3 h3 =>
  o_ G (Instr.loadAt 30 (r 2)) h3 fun v4 h4 =>
  opH P_ G (callFunc 155 #[v3, v4, (r 4), (r 5)]) h4 fun v5 h5 =>
  o_ G (Instr.extract v5 0) h5 fun v6 h6 =>
  o_ G (Instr.extract v5 1) h6 fun v7 h7 =>
  o_ G (Instr.alloc 30 true (.tuple #[])) h7 fun v8 h8 =>
  opH P_ G (su (Instr.storeAt 30 v8 v6)) h8 fun v9 h9 =>
  o_ G (Op.unary .not v7) h9 fun v10 h10 =>
  gd (wantB v10 false) (o_ G (Instr.loadAt 68 (r 1)) h10) h10 fun v11 h11 =>
  gd (wantB v10 false) (o_ G (Instr.loadAt 30 v8) h11) h11 fun v12 h12 =>
  gd (wantB v10 false) (opH P_ G (callFunc 61 #[v11, v12]) h12) h12 fun v13 h13 =>
  gd (wantB v10 false) (o_ G (Op.unary .not v13) h13) h13 fun v14 h14 =>
  opH P_ G (xPick v10 (.bool true) v14) h14 fun v15 h15 =>
  (fun q => cond v15
  (K (.exit 1) q h15)
  (S182_l1_l4_k6 G K q h15))
  (upd (upd (upd (upd (upd (upd (upd (upd (upd (upd (upd (upd (upd (upd (upd (upd (upd (upd r 14 v3) 15 v4) 16 (r 4)) 17 (r 5)) 18 v5) 13 v5) 19 v6) 20 v7) 6 v8) 7 v7) 21 v7) 22 v10) 23 v10) 24 v11) 25 v12) 26 v13) 27 v14) 28 v15)
def S182_l1_k2 (G : Hp) (K : EK) (r : Rg) (h : Hp) : Prop :=
  loopP (S182_l1_l4 G) (upd (upd (upd r 10 (r 8)) 4 (r 8)) 5 (.int .i64 1)) h (blockK 2 (blockK 1 (thenK (S182_l1_k3 G K) K)))
def S182_l1 (G : Hp) (r : Rg) (h : Hp) (K : EK) : Prop :=
  o_ G (binOp .lss 3 (r 8) (.int .i64 4)) h fun v0 h0 =>
  cond v0
  (S182_l1_k2 G K (upd r 9 v0) h0)
  (K (.exit 0) (upd r 9 v0) h0)
def S182 (G : Hp) (K : EK) (r : Rg) (h : Hp) : Prop :=
  loopP (S182_l1 G) (upd r 8 (.int .i64 0)) h (blockK 0 (scopeK K))
theorem S182_eq : Weq 38 md182 (Tryz.f182.body.getD .skip) S182 := fun _ _ _ _ => by kernel_rfl
theorem enter182 : Ent 38 182 [] S182 := ent_ S182_eq Tryz.func182 rfl rfl rfl

def md156 : Nat → Hint
  | _ => mh false [] [] [] false
def S156 (G : Hp) (K : EK) (r : Rg) (h : Hp) : Prop :=
  o_ G (Instr.box 28 (r 0)) h fun v0 h0 =>
  o_ G (Instr.loadAt 28 v0) h0 fun v1 h1 =>
  o_ G (Instr.fieldAt 28 v0 0) h1 fun v2 h2 =>
  o_ G (Instr.loadAt 3 v2) h2 fun v3 h3 =>
  o_ G (binOp .add 3 v3 (.int .i64 1)) h3 fun v4 h4 =>
  o_ G (Instr.fieldAt 28 v0 1) h4 fun v5 h5 =>
  o_ G (Instr.loadAt 3 v5) h5 fun v6 h6 =>
  o_ G (Instr.build 28 #[(0, v4), (1, v6)]) h6 fun v7 h7 =>
  o_ G (Instr.fieldAt 28 v0 0) h7 fun v8 h8 =>
  o_ G (Instr.loadAt 3 v8) h8 fun v9 h9 =>
  o_ G (Instr.fieldAt 28 v0 1) h9 fun v10 h10 =>
  o_ G (Instr.loadAt 3 v10) h10 fun v11 h11 =>
  o_ G (binOp .add 3 v11 (.int .i64 1)) h11 fun v12 h12 =>
  o_ G (Instr.build 28 #[(0, v9), (1, v12)]) h12 fun v13 h13 =>
  o_ G (Instr.fieldAt 28 v0 0) h13 fun v14 h14 =>
  o_ G (Instr.loadAt 3 v14) h14 fun v15 h15 =>
  o_ G (binOp .add 3 v15 (.int .i64 1)) h15 fun v16 h16 =>
  o_ G (Instr.fieldAt 28 v0 1) h16 fun v17 h17 =>
  o_ G (Instr.loadAt 3 v17) h17 fun v18 h18 =>
  o_ G (binOp .add 3 v18 (.int .i64 1)) h18 fun v19 h19 =>
  o_ G (Instr.build 28 #[(0, v16), (1, v19)]) h19 fun v20 h20 =>
  o_ G (Instr.buildSlice 22 4 #[(0, v1), (1, v7), (2, v13), (3, v20)]) h20 fun v21 h21 =>
  K .ret (upd (upd (upd (upd (upd (upd (upd (upd (upd (upd (upd (upd (upd (upd (upd (upd (upd (upd (upd (upd (upd (upd (upd (upd r 1 v0) 2 (.slice none 0 0)) 3 v1) 4 v2) 5 v3) 6 v4) 7 v5) 8 v6) 9 v7) 10 v8) 11 v9) 12 v10) 13 v11) 14 v12) 15 v13) 16 v14) 17 v15) 18 v16) 19 v17) 20 v18) 21 v19) 22 v20) 23 v21) 2 v21) h21
theorem S156_eq : Weq 24 md156 (Tryz.f156.body.getD .skip) S156 := fun _ _ _ _ => by kernel_rfl
theorem enter156 : Ent 24 156 [.tmp 2] S156 := ent_ S156_eq Tryz.func156 rfl rfl rfl

def md157 : Nat → Hint
  | _ => mh false [] [] [] false
def S157_k1 (G : Hp) (K : EK) (r : Rg) (h : Hp) : Prop :=
  o_ G (Builtin.len_ #[22] 3 #[(r 0)]) h fun v2 h2 =>
  o_ G (Instr.makeSlice 22 v2 v2) h2 fun v3 h3 =>
  o_ G (Builtin.copy_ #[22, 22] 3 #[v3, (r 0)]) h3 fun v4 h4 =>
  K .ret (upd (upd (upd (upd (upd (upd (upd (upd (upd r 7 (r 0)) 8 v2) 9 v3) 3 v3) 10 v3) 11 (r 0)) 12 v4) 13 v3) 2 v3) h4
def S157 (G : Hp) (K : EK) (r : Rg) (h : Hp) : Prop :=
  o_ G (Builtin.len_ #[22] 3 #[(r 0)]) h fun v0 h0 =>
  opH P_ G (xEq .eql 3 (.tmp 0) (.const .nilFunc) v0 (.int .i64 0)) h0 fun v1 h1 =>
  (fun q => cond v1
  (K .ret (upd q 2 (.slice none 0 0)) h1)
  (S157_k1 G K q h1))
  (upd (upd (upd (upd r 2 (.slice none 0 0)) 4 (r 0)) 5 v0) 6 v1)
theorem S157_eq : Weq 14 md157 (Tryz.f157.body.getD .skip) S157 := fun _ _ _ _ => by kernel_rfl
theorem enter157 : Ent 14 157 [.tmp 2] S157 := ent_ S157_eq Tryz.func157 rfl rfl rfl

end Go.Proofs.YtfflipnhffknnaaGreatDoor
end

section
/- The program's grid as it lies, and its answers on cells. -/
set_option linter.unusedSimpArgs false
set_option linter.unusedVariables false
set_option maxRecDepth 100000
namespace Go.Proofs.YtfflipnhffknnaaGreatDoor
open Go Go.HL

def bRpF := jq (jq (jq (jq (jq (jq @Bool.not_false @Bool.not_true) (jq @Bool.true_and @HL.cond_false)) (jq (jq @HL.cond_true @List.getElem?_cons_succ.{0}) (jq @List.getElem?_cons_zero.{0} @Nat.add_zero))) (jq (jq (jq @Nat.zero_add @Option.some.injEq.{0}) (jq @add_mk @al28)) (jq (jq @bd28_0_1 @bin_add) (jq @bin_addp (jq @bin_geq @bin_leq))))) (jq (jq (jq (jq @bin_mulp @bin_subp) (jq @box_new @bs22_2_0_1)) (jq (jq @cell_set_self @cells_agg) (jq @cf129 (jq @cf88 @eq68sp)))) (jq (jq (jq @eq_int @exists_eq_left'.{1}) (jq @fa215_0p @fa215_1p)) (jq (jq @fa215_2 @fa28_0) (jq @fa28_0p (jq @fa28_1 @fa28_1p)))))) (jq (jq (jq (jq (jq @fa30_0 @fa30_1) (jq @gd_ff @gd_ft)) (jq (jq @gd_tf @gd_tt) (jq @if_true.{1} @if_true.{0}))) (jq (jq (jq @ld168 @ld28) (jq @ld3 @ld3p)) (jq (jq @ld4 @ne_int) (jq @opH_nil (jq @opH_su @opH_sv))))) (jq (jq (jq (jq @pick_f @pick_fp) (jq @pick_t @pick_tp)) (jq (jq @pureW_nil @pureW_sv) (jq @regs0 (jq @regs1 @regs2)))) (jq (jq (jq @resL_nil1 @resL_tmp) (jq @retK_ret @st28w)) (jq (jq @true_and @un_notp) (jq @upd_eq (jq @upd_ne @wrap_in))))))
theorem un81 : P_.underlying 245 = some (.array 4 28) := by kernel_rfl
theorem ix81 {G h : Hp} {a : Addr} {k : IntKind} {i : Int} {K : VK} (h1 : 0 ≤ i) (h2 : i < (4 : Nat)) : wpH P_ G (Instr.indexAt 245 (.pointer (some a)) (.int k i)) h K = K (.pointer (some (a.add (i.toNat * 2)))) h := index_arr un81 sz28 h1 h2
theorem ix81p {G h : Hp} {a : Addr} {k : IntKind} {i : Int} {K : Value → Prop} (h1 : 0 ≤ i) (h2 : i < (4 : Nat)) : pw P_ G h (Instr.indexAt 245 (.pointer (some a)) (.int k i)) K = K (.pointer (some (a.add (i.toNat * 2)))) := index_arrp un81 sz28 h1 h2

def stepL : List Value := [.int .i64 0, .int .i64 (-1), .int .i64 1, .int .i64 0, .int .i64 0, .int .i64 1, .int .i64 (-1), .int .i64 0]
def Steps (G : Hp) : Prop := ∃ e f, G 0 = some (.cells stepL.toArray e f)
theorem Steps.cell {G h : Hp} (s : Steps G) (d : Dis G h) (k : Nat) : cellIn G h ⟨0, k, none⟩ = stepL[k]? := by
  obtain ⟨e, f, s⟩ := s
  rw [cell_gnd d s rfl]
  simp [objCell]
theorem Steps.free {G h : Hp} (s : Steps G) (d : Dis G h) : h 0 = none := by
  obtain ⟨e, f, s⟩ := s
  cases q : h 0 with
  | none => rfl
  | some o => rw [d _ _ q] at s; cases s
theorem Steps.under {G h a : Hp} (s : Steps G) (d : Dis G h) (l : a.le h) : Steps (under G h a) := by
  have h0 := s.free d
  obtain ⟨e, f, s⟩ := s
  refine ⟨e, f, ?_⟩
  unfold HL.under HL.look
  rw [l.none h0, h0]
  simpa using s

def gridL {α : Type} (w h : Nat) (f : Nat → Nat → α) : List α := (List.range (w * h)).map fun n => f (n % w) (n / w)
theorem gridL_length {α : Type} {w h : Nat} {f : Nat → Nat → α} : (gridL w h f).length = w * h := by simp [gridL]
theorem gridL_get {α : Type} {w h : Nat} {f : Nat → Nat → α} {x y : Nat} (hx : x < w) (hy : y < h) : (gridL w h f)[y * w + x]? = some (f x y) := by
  have hlt : y * w + x < w * h := by
    have : (y + 1) * w ≤ h * w := Nat.mul_le_mul_right _ hy
    rw [Nat.succ_mul] at this
    rw [Nat.mul_comm w h]; omega
  unfold gridL
  rw [List.getElem?_map, List.getElem?_range hlt, Option.map_some]
  rw [Nat.mul_comm y w, Nat.mul_add_mod, Nat.mod_eq_of_lt hx, Nat.mul_add_div (by omega), Nat.div_eq_of_lt hx, Nat.add_zero]
theorem gridL_at {α : Type} {w h : Nat} {f : Nat → Nat → α} {n : Nat} (hn : n < w * h) : (gridL w h f)[n]? = some (f (n % w) (n / w)) := by
  unfold gridL
  rw [List.getElem?_map, List.getElem?_range hn, Option.map_some]
theorem gridL_set {α : Type} {w h : Nat} {f : Nat → Nat → α} {x y : Nat} {v : α} (hx : x < w) : (gridL w h f).set (y * w + x) v = gridL w h (fun a b => if a = x ∧ b = y then v else f a b) := by
  apply List.ext_getElem?
  intro n
  rw [List.getElem?_set]
  by_cases hn : n < w * h
  · rw [gridL_at hn, gridL_at hn, gridL_length]
    have hw : 0 < w := by omega
    by_cases e : y * w + x = n
    · subst e
      rw [if_pos rfl, if_pos hn, Nat.mul_comm y w, Nat.mul_add_mod, Nat.mod_eq_of_lt hx, Nat.mul_add_div hw, Nat.div_eq_of_lt hx, Nat.add_zero]
      simp
    · rw [if_neg e, if_neg]
      rintro ⟨e1, e2⟩
      apply e
      rw [← e1, ← e2, Nat.mul_comm]
      exact Nat.div_add_mod n w
  · rw [List.getElem?_eq_none (by rw [gridL_length]; omega), List.getElem?_eq_none (by rw [gridL_length]; omega)]
    split
    · rw [if_neg (by rw [gridL_length]; omega)]
    · rfl

structure GS (G h : Hp) (g : Value) (w k : Nat) (f : Nat → Nat → Int) : Prop where
  ex : ∃ gp kb, g = .pointer (some ⟨gp, 0, none⟩) ∧ (∀ j, j < 3 → cellIn G h ⟨gp, j, none⟩ = [Value.int .i64 w, .int .i64 k, .slice (some ⟨kb, 0, none⟩) (w * k) (w * k)][j]?) ∧ (∀ n x, (gridL w k f)[n]? = some x → cellIn G h ⟨kb, n, none⟩ = some (.int .i64 x))
  w1 : 1 ≤ w
  w2 : w ≤ 16
  k1 : 1 ≤ k
  k2 : k ≤ 16

theorem GS.up {G h h' : Hp} {g : Value} {w k : Nat} {f : Nat → Nat → Int} (s : GS G h g w k f) (l : h.le h') (d : Dis G h') : GS G h' g w k f := by
  obtain ⟨⟨gp, kb, e, h1, h2⟩, a, b, c, e2⟩ := s
  refine ⟨⟨gp, kb, e, fun j hj => ?_, fun n x hx => cell_up l d (h2 n x hx)⟩, a, b, c, e2⟩
  have := h1 j hj
  rw [List.getElem?_eq_getElem (by simpa using hj)] at this ⊢
  exact cell_up l d this
theorem GS.under {G h a : Hp} {g : Value} {w k : Nat} {f : Nat → Nat → Int} (s : GS G h g w k f) (l : a.le h) : GS (HL.under G h a) a g w k f := by
  obtain ⟨⟨gp, kb, e, h1, h2⟩, x1, x2, x3, x4⟩ := s
  exact ⟨⟨gp, kb, e, fun j hj => by rw [under_cell l]; exact h1 j hj, fun n x hx => by rw [under_cell l]; exact h2 n x hx⟩, x1, x2, x3, x4⟩

def inW (w k : Nat) (c : Cell) : Bool := withinB c.1 0 (w - 1) && withinB c.2 0 (k - 1)
def numI (w k : Nat) (c : Cell) : Int := if inW w k c = true then c.2 * w + c.1 else -1
def fAt (f : Nat → Nat → Int) (c : Cell) : Int := f c.1.toNat c.2.toNat
def openW (w k : Nat) (f : Nat → Nat → Int) (c : Cell) : Bool := inW w k c && !(fAt f c == -1)

theorem inW_iff {w k : Nat} {c : Cell} : inW w k c = true ↔ 0 ≤ c.1 ∧ c.1 < w ∧ 0 ≤ c.2 ∧ c.2 < k := by
  unfold inW withinB
  simp only [Bool.and_eq_true, decide_eq_true_eq]
  omega

theorem within_spec {G h : Hp} {n a b : Int} : HCalls P_ G 129 #[.int .i64 n, .int .i64 a, .int .i64 b] h (fun u h' => u = .bool (withinB n a b) ∧ h' = h) := by
  refine quietly (enter129 (by simp) ?_)
  unfold S129
  simp only [bRpF]
  unfold withinB
  cases hc : decide (n ≥ a) with
  | false => simp only [bRpF, hc]; exact ⟨rfl, Hp.le.refl h⟩
  | true => simp only [bRpF, hc]; exact Hp.le.refl h

theorem num_spec {G h : Hp} {g : Value} {w k : Nat} {f : Nat → Nat → Int} {c : Cell} (s : GS G h g w k f) : HCalls P_ G 88 #[g, cellV c] h (fun u h' => u = .int .i64 (numI w k c) ∧ h' = h) := by
  have s0 := s
  obtain ⟨⟨gp, kb, rfl, g1, g2⟩, w1, w2, k1, k2⟩ := s
  refine HCalls.assume fun d => quietly (enter88 (by simp) ?_)
  unfold S88
  simp only [bRpF]
  intro x hx gx
  generalize e1 : Hp.set h x _ = h1
  obtain ⟨l1, d1, b1⟩ := boxed e1 hx d gx
  have cx : ∀ j, cellIn G h1 ⟨x, j, none⟩ = _ := fun j => cell_of (look_own b1)
  have y0 : cellIn G h1 ⟨gp, 0, none⟩ = some (.int .i64 w) := cell_up l1 d1 (g1 0 (by decide))
  have y1 : cellIn G h1 ⟨gp, 1, none⟩ = some (.int .i64 k) := cell_up l1 d1 (g1 1 (by decide))
  try simp (disch := first | exact nq rfl | omega) only [bRpF, cx, y0, y1]
  try rw [wrap_in (by omega) (by omega)]
  refine (within_spec (n := c.1) (a := 0) (b := (w : Int) - 1)).mono ?_
  rintro _ _ ⟨rfl, rfl⟩
  unfold numI inW
  cases h1 : withinB c.1 0 ((w : Int) - 1) with
  | false => try simp only [bRpF]; exact ⟨by simp, l1⟩
  | true =>
  try simp (disch := first | exact nq rfl | omega) only [bRpF, cx, y0, y1]
  try rw [wrap_in (by omega) (by omega)]
  refine (within_spec (n := c.2) (a := 0) (b := (k : Int) - 1)).mono ?_
  rintro _ _ ⟨rfl, rfl⟩
  cases h2 : withinB c.2 0 ((k : Int) - 1) with
  | false => try simp only [bRpF]; exact ⟨by simp, l1⟩
  | true =>
  unfold withinB at h1 h2
  simp only [Bool.and_eq_true, decide_eq_true_eq] at h1 h2
  have hm : 0 ≤ c.2 * (w : Int) ∧ c.2 * (w : Int) ≤ 15 * 16 := ⟨Int.mul_nonneg (by omega) (by omega), Int.mul_le_mul (by omega) (by omega) (by omega) (by omega)⟩
  try simp only [bRpF]
  unfold S88_k1
  try simp (disch := first | exact nq rfl | omega) only [bRpF, cx, y0, y1]
  try rw [wrap_in (x := c.2 * (w : Int)) (by omega) (by omega)]
  try rw [wrap_in (by omega) (by omega)]
  first | exact l1 | exact ⟨by simp, l1⟩

theorem GS.kind {G h : Hp} {g : Value} {w k : Nat} {f : Nat → Nat → Int} (s : GS G h g w k f) {c : Cell} (hc : inW w k c = true) :
    ∃ gp kb, g = .pointer (some ⟨gp, 0, none⟩) ∧ cellIn G h ⟨gp, 2, none⟩ = some (.slice (some ⟨kb, 0, none⟩) (w * k) (w * k)) ∧ cellIn G h ⟨kb, (numI w k c).toNat, none⟩ = some (.int .i64 (fAt f c)) ∧ 0 ≤ numI w k c ∧ numI w k c < ((w * k : Nat) : Int) := by
  obtain ⟨⟨gp, kb, rfl, g1, g2⟩, w1, w2, k1, k2⟩ := s
  obtain ⟨a1, a2, a3, a4⟩ := inW_iff.1 hc
  have hn : numI w k c = ((c.2.toNat * w + c.1.toNat : Nat) : Int) := by
    unfold numI
    rw [if_pos hc]
    rw [Int.natCast_add, Int.natCast_mul, Int.toNat_of_nonneg a1, Int.toNat_of_nonneg a3]
  refine ⟨gp, kb, rfl, g1 2 (by decide), ?_, by omega, ?_⟩
  · rw [hn, Int.toNat_natCast]
    exact g2 _ _ (gridL_get (by omega) (by omega))
  · rw [hn]
    have : (c.2.toNat + 1) * w ≤ k * w := Nat.mul_le_mul_right _ (by omega)
    rw [Nat.succ_mul] at this
    rw [Nat.mul_comm w k]
    omega

theorem numI_out {w k : Nat} {c : Cell} (h : inW w k c = false) : numI w k c = -1 := by unfold numI; rw [h]; rfl

theorem ix57k {G h : Hp} {kb n : Nat} {i : Int} {K : VK} (h1 : 0 ≤ i) (h2 : i < (n : Int)) : wpH P_ G (Instr.indexAt 168 (.slice (some ⟨kb, 0, none⟩) n n) (.int .i64 i)) h K = K (.pointer (some ⟨kb, i.toNat, none⟩)) h := by
  rw [ix168 h1 h2]; simp only [add_mk, Nat.zero_add, Nat.mul_one]

theorem open_spec {G h : Hp} {g : Value} {w k : Nat} {f : Nat → Nat → Int} {c : Cell} (s : GS G h g w k f) : HCalls P_ G 62 #[g, cellV c] h (fun u h' => u = .bool (openW w k f c) ∧ h' = h) := by
  refine HCalls.assume fun d => quietly (enter62 (by simp) ?_)
  unfold S62
  simp only [bRpF]
  intro x hx gx
  generalize e1 : Hp.set h x _ = h1
  obtain ⟨l1, d1, b1⟩ := boxed e1 hx d gx
  have cx : ∀ j, cellIn G h1 ⟨x, j, none⟩ = _ := fun j => cell_of (look_own b1)
  try simp (disch := first | exact nq rfl | omega) only [bRpF, Nat.reduceAdd, Nat.reduceMul, cx]
  refine (num_spec (c := c) (s.up l1 d1)).mono ?_
  rintro _ _ ⟨rfl, rfl⟩
  unfold openW
  cases hc : inW w k c with
  | false =>
    try simp only [bRpF, numI_out hc, show decide ((-1 : Int) ≥ 0) = false from rfl]
    first | exact l1 | exact ⟨by simp, l1⟩
  | true =>
    obtain ⟨gp, kb, rfl, z2, zk, n0, n1⟩ := (s.up l1 d1).kind hc
    try simp only [bRpF, show decide (numI w k c ≥ 0) = true from decide_eq_true n0, z2, ix57k n0 n1, zk]
    first | exact l1 | exact ⟨by simp [bne], l1⟩

theorem stacked_spec {G h : Hp} {g : Value} {w k : Nat} {f : Nat → Nat → Int} {c : Cell} (s : GS G h g w k f) : HCalls P_ G 158 #[g, cellV c] h (fun u h' => u = .bool (inW w k c && (fAt f c == 0)) ∧ h' = h) := by
  refine HCalls.assume fun d => quietly (enter158 (by simp) ?_)
  unfold S158
  simp only [bRpF]
  intro x hx gx
  generalize e1 : Hp.set h x _ = h1
  obtain ⟨l1, d1, b1⟩ := boxed e1 hx d gx
  have cx : ∀ j, cellIn G h1 ⟨x, j, none⟩ = _ := fun j => cell_of (look_own b1)
  try simp (disch := first | exact nq rfl | omega) only [bRpF, Nat.reduceAdd, Nat.reduceMul, cx]
  refine (num_spec (c := c) (s.up l1 d1)).mono ?_
  rintro _ _ ⟨rfl, rfl⟩
  cases hc : inW w k c with
  | false =>
    try simp only [bRpF, numI_out hc, show decide ((-1 : Int) ≥ 0) = false from rfl]
    first | exact l1 | exact ⟨by simp, l1⟩
  | true =>
    obtain ⟨gp, kb, rfl, z2, zk, n0, n1⟩ := (s.up l1 d1).kind hc
    try simp only [bRpF, show decide (numI w k c ≥ 0) = true from decide_eq_true n0, z2, ix57k n0 n1, zk]
    first | exact l1 | exact ⟨by simp, l1⟩

def Bd (x : Int) : Prop := -9223372036854775808 ≤ x ∧ x ≤ 9223372036854775807
def PB (p : Pose) : Prop := Bd p.x ∧ Bd p.y

theorem cells_spec {G h : Hp} {g : Value} {p : Pose} (st : Steps G) (hp : PB p) : HCalls P_ G 89 #[g, poseV p] h (fun u h' => ∃ b, u = .slice (some ⟨b, 0, none⟩) 2 2 ∧ h b = none ∧ G b = none ∧ h' = h.set b (.cells #[.int .i64 p.x, .int .i64 p.y, .int .i64 (east p).1, .int .i64 (east p).2] 28 (0, 0))) := by
  obtain ⟨⟨p1, p2⟩, p3, p4⟩ := hp
  refine HCalls.assume fun d => HCalls.less (enter89 (by simp) (R := fun u h' => ∃ b, u = .slice (some ⟨b, 0, none⟩) 2 2 ∧ h b = none ∧ G b = none ∧ (h.set b (.cells #[.int .i64 p.x, .int .i64 p.y, .int .i64 (east p).1, .int .i64 (east p).2] 28 (0, 0))).le h') ?_) ?_
  rotate_left
  · rintro v h' ⟨b, e, h1, h2, h3⟩
    exact ⟨_, h3, b, e, h1, h2, rfl⟩
  unfold S89
  simp only [bRpF]
  intro x hx gx
  generalize e1 : Hp.set h x _ = h1
  obtain ⟨l1, d1, b1⟩ := boxed e1 hx d gx
  have c0 := fun j => st.cell d1 j
  try simp only [bRpF, Nat.reduceAdd, ix81 (by decide : (0 : Int) ≤ 1) (by decide : (1 : Int) < (4 : Nat)), Int.toNat_one, Nat.one_mul, c0, stepL]
  intro y hy gy
  generalize e2 : Hp.set h1 y _ = h2
  obtain ⟨l2, d2, b2⟩ := boxed e2 hy d1 gy
  have cx : ∀ j, cellIn G h2 ⟨x, j, none⟩ = _ := fun j => cell_of (look_own (l2 _ _ b1))
  have cy : ∀ j, cellIn G h2 ⟨y, j, none⟩ = _ := fun j => cell_of (look_own b2)
  have L := l1.trans l2
  try simp only [bRpF, cx]
  unfold east wr
  cases hd : p.d with
  | false =>
    try simp only [bRpF]
    unfold S89_k1
    try simp (disch := first | exact nq rfl | omega) only [bRpF, cx, cy]
    rw [show (p.y + 0 : Int) = p.y by omega]
    intro b hb gb
    exact ⟨b, rfl, L.none hb, gb, L.both⟩
  | true =>
    have c2 := fun j => st.cell d2 j
    try simp only [bRpF, Nat.reduceAdd, Nat.reduceMul, ix81 (by decide : (0 : Int) ≤ 2) (by decide : (2 : Int) < (4 : Nat)), show Int.toNat 2 = 2 from rfl, c2, stepL]
    rw [store_eq sz28 b2 (by simp [cells_agg]) (by simp) (by simp [cells_agg, oneCell])]
    have nxy : x ≠ y := ne_of_new b1 hy
    generalize e3 : Hp.set h2 y _ = h3
    have cx3 : ∀ j, cellIn G h3 ⟨x, j, none⟩ = [Value.int .i64 p.x, .int .i64 p.y, .bool p.d][j]? := fun j => by rw [← e3, cell_set_other nxy]; exact cx j
    have cy3 : ∀ j, cellIn G h3 ⟨y, j, none⟩ = [Value.int .i64 0, .int .i64 1][j]? := fun j => by rw [← e3, cell_of (look_own set_self)]; first | rfl | simp [putL, cells_agg]
    have L3 : h.le h3 := by
      rw [← e3]
      exact L.set (l1.none hy)
    unfold S89_k1
    try simp (disch := first | exact nq rfl | omega) only [bRpF, cx3, cy3]
    rw [show (p.x + 0 : Int) = p.x by omega]
    intro b hb gb
    exact ⟨b, rfl, L3.none hb, gb, L3.both⟩

end Go.Proofs.YtfflipnhffknnaaGreatDoor
end

section
/- The program's grid is laid: blocked cells and ports. -/
set_option linter.unusedSimpArgs false
set_option linter.unusedVariables false
set_option maxRecDepth 100000
namespace Go.Proofs.YtfflipnhffknnaaGreatDoor
open Go Go.HL

def bRpG := jq (jq (jq (jq @Bool.true_and (jq @List.getElem?_cons_succ.{0} @List.getElem?_cons_zero.{0})) (jq @Nat.add_zero (jq @Nat.zero_add @Option.some.injEq.{0}))) (jq (jq @add_mk (jq @box_new @cell_set_self)) (jq (jq @cells_agg @cf62) (jq @cf89 @exists_eq_left'.{1})))) (jq (jq (jq @gd_ft (jq @gd_tt @ld28)) (jq (jq @ld30 @opH_sv) (jq @pick_f @pick_t))) (jq (jq @regs0 (jq @regs1 @resL_nil1)) (jq (jq @resL_tmp @retK_ret) (jq @true_and @upd_eq))))
def fitsW (w k : Nat) (f : Nat → Nat → Int) (p : Pose) : Bool := openW w k f (p.x, p.y) && openW w k f (east p)

theorem fits_spec {G h : Hp} {g : Value} {w k : Nat} {f : Nat → Nat → Int} {p : Pose} (s : GS G h g w k f) (st : Steps G) (hp : PB p) : HCalls P_ G 61 #[g, poseV p] h (fun u h' => u = .bool (fitsW w k f p) ∧ h' = h) := by
  refine HCalls.assume fun d => quietly (enter61 (by simp) ?_)
  unfold S61
  simp only [bRpG]
  intro x hx gx
  generalize e1 : Hp.set h x _ = h1
  obtain ⟨l1, d1, b1⟩ := boxed e1 hx d gx
  have cx : ∀ j, cellIn G h1 ⟨x, j, none⟩ = _ := fun j => cell_of (look_own b1)
  try simp (disch := first | exact nq rfl | omega) only [bRpG, Nat.reduceAdd, Nat.reduceMul, cx]
  refine (cells_spec (g := g) (p := p) st hp).mono ?_
  rintro _ _ ⟨b, rfl, hb, gb, rfl⟩
  generalize e3 : Hp.set h1 b _ = h3
  obtain ⟨l3, d3, b3⟩ := boxed e3 hb d1 gb
  have L := l1.trans l3
  have cb3 : ∀ k, cellIn G h3 ⟨b, k, none⟩ = _ := fun k => cell_of (look_own b3)
  try simp only [bRpG, cb3, ix22 (by decide : (0 : Int) ≤ 0) (by decide : (0 : Int) < (2 : Nat)), Int.toNat_zero, Nat.zero_mul]
  refine (open_spec (c := (p.x, p.y)) (s.up L d3)).mono ?_
  rintro _ _ ⟨rfl, rfl⟩
  unfold fitsW
  cases hc : openW w k f (p.x, p.y) with
  | false => simp only [bRpG, hc]; exact ⟨rfl, L⟩
  | true =>
  try simp only [bRpG, Nat.reduceAdd, cb3, ix22 (by decide : (0 : Int) ≤ 1) (by decide : (1 : Int) < (2 : Nat)), Int.toNat_one, Nat.one_mul]
  refine (open_spec (c := east p) (s.up L d3)).mono ?_
  rintro _ _ ⟨rfl, rfl⟩
  try simp only [bRpG]
  first | exact L | exact ⟨by simp, L⟩

theorem rows_set {α : Type} (c : Cod α) (hn : c.n = 1) {L : List α} {i : Nat} {x : α} {v : Value} (hv : c.enc x = [v]) (hi : i < L.length) : (c.rows L).set i v = c.rows (L.set i x) := by
  have h := c.rows_put (t := []) (x := x) hi
  rw [List.append_nil, List.append_nil, hn, Nat.mul_one, hv] at h
  rw [← h, putL_eq _ _ _ (by rw [c.rows_length, hn]; simp; omega)]
  rw [List.set_eq_take_append_cons_drop, if_pos (by rw [c.rows_length, hn]; omega)]
  simp

theorem rows_one_get {α : Type} (c : Cod α) (hn : c.n = 1) {L : List α} {i : Nat} {x : α} {v : Value} (hv : c.enc x = [v]) (hx : L[i]? = some x) : (c.rows L)[i]? = some v := by
  have h := c.rows_get (t := []) (j := 0) hx (by omega)
  rw [List.append_nil, hn, Nat.mul_one, Nat.add_zero, hv] at h
  exact h

structure GO (a : Hp) (gp kb : Nat) (w k : Nat) (f : Nat → Nat → Int) : Prop where
  hd : a gp = some (.cells #[.int .i64 w, .int .i64 k, .slice (some ⟨kb, 0, none⟩) (w * k) (w * k)] 215 (0, 0))
  row : a kb = some (.cells (icC.rows (gridL w k f)).toArray 3 (0, 0))
  w1 : 1 ≤ w
  w2 : w ≤ 16
  k1 : 1 ≤ k
  k2 : k ≤ 16

theorem GO.ne {a : Hp} {gp kb w k : Nat} {f : Nat → Nat → Int} (g : GO a gp kb w k f) : gp ≠ kb := fun e => by
  have h1 := g.hd
  have h2 := g.row
  rw [e, h2] at h1
  simp at h1
theorem GO.le {a h : Hp} {gp kb w k : Nat} {f : Nat → Nat → Int} (g : GO a gp kb w k f) (l : a.le h) : GO h gp kb w k f := ⟨l _ _ g.hd, l _ _ g.row, g.w1, g.w2, g.k1, g.k2⟩
theorem GO.gs {G a : Hp} {gp kb w k : Nat} {f : Nat → Nat → Int} (g : GO a gp kb w k f) : GS G a (.pointer (some ⟨gp, 0, none⟩)) w k f :=
  ⟨⟨gp, kb, rfl, fun j hj => cell_of (look_own g.hd), fun n x hx => by rw [cell_of (look_own g.row)]; exact rows_one_get icC rfl rfl hx⟩, g.w1, g.w2, g.k1, g.k2⟩
theorem GO.put {a : Hp} {gp kb w k : Nat} {f : Nat → Nat → Int} (g : GO a gp kb w k f) {x y : Nat} {v : Int} (hx : x < w) (hy : y < k) :
    GO (a.set kb (.cells ((icC.rows (gridL w k f)).set (y * w + x) (.int .i64 v)).toArray 3 (0, 0))) gp kb w k (fun p q => if p = x ∧ q = y then v else f p q) := by
  refine ⟨by rw [set_other g.ne]; exact g.hd, ?_, g.w1, g.w2, g.k1, g.k2⟩
  rw [set_self, rows_set icC rfl (x := v) rfl, gridL_set hx]
  rw [gridL_length]
  have : (y + 1) * w ≤ k * w := Nat.mul_le_mul_right _ hy
  rw [Nat.succ_mul] at this
  rw [Nat.mul_comm w k]; omega

def MK (a : Hp) (mb w k : Nat) (f : Nat → Nat → Bool) : Prop := a mb = some (.cells (bcC.rows (gridL w k f)).toArray 4 (0, 0))
theorem MK.put {a : Hp} {mb w k : Nat} {f : Nat → Nat → Bool} (g : MK a mb w k f) {x y : Nat} {v : Bool} (hx : x < w) (hy : y < k) :
    MK (a.set mb (.cells ((bcC.rows (gridL w k f)).set (y * w + x) (.bool v)).toArray 4 (0, 0))) mb w k (fun p q => if p = x ∧ q = y then v else f p q) := by
  unfold MK
  rw [set_self, rows_set bcC rfl (x := v) rfl, gridL_set hx]
  rw [gridL_length]
  have : (y + 1) * w ≤ k * w := Nat.mul_le_mul_right _ hy
  rw [Nat.succ_mul] at this
  rw [Nat.mul_comm w k]; omega

theorem numI_nat {w k : Nat} {c : Cell} (hc : inW w k c = true) : numI w k c = ((c.2.toNat * w + c.1.toNat : Nat) : Int) ∧ c.1.toNat < w ∧ c.2.toNat < k ∧ c.2.toNat * w + c.1.toNat < w * k := by
  obtain ⟨a1, a2, a3, a4⟩ := inW_iff.1 hc
  refine ⟨?_, by omega, by omega, ?_⟩
  · unfold numI
    rw [if_pos hc]
    rw [Int.natCast_add, Int.natCast_mul, Int.toNat_of_nonneg a1, Int.toNat_of_nonneg a3]
  · have : (c.2.toNat + 1) * w ≤ k * w := Nat.mul_le_mul_right _ (by omega)
    rw [Nat.succ_mul] at this
    rw [Nat.mul_comm w k]; omega

def kd (T : List Cell) (nb : Nat) (x y : Nat) : Int := if ((x : Int), (y : Int)) ∈ T then (if T.idxOf ((x : Int), (y : Int)) < nb then -1 else (T.idxOf ((x : Int), (y : Int)) : Int) - nb + 1) else 0
def seenT (T : List Cell) (x y : Nat) : Bool := decide (((x : Int), (y : Int)) ∈ T)

theorem kd_snoc {T : List Cell} {nb : Nat} {c : Cell} (hc : c ∉ T) (h1 : 0 ≤ c.1) (h2 : 0 ≤ c.2) : kd (T ++ [c]) nb = fun p q => if p = c.1.toNat ∧ q = c.2.toNat then (if T.length < nb then -1 else (T.length : Int) - nb + 1) else kd T nb p q := by
  funext p q
  unfold kd
  by_cases hpq : p = c.1.toNat ∧ q = c.2.toNat
  · have e : ((p : Int), (q : Int)) = c := by rw [hpq.1, hpq.2, Int.toNat_of_nonneg h1, Int.toNat_of_nonneg h2]
    rw [if_pos hpq, e, if_pos (by simp), List.idxOf_append, if_neg hc, List.idxOf_cons_self, Nat.zero_add]
  · have e : ((p : Int), (q : Int)) ≠ c := fun e => hpq (by rw [← e]; simp)
    rw [if_neg hpq]
    by_cases hm : ((p : Int), (q : Int)) ∈ T
    · rw [if_pos (by simp [hm]), if_pos hm, List.idxOf_append, if_pos hm]
    · rw [if_neg (by simp [hm, e]), if_neg hm]
theorem seen_snoc {T : List Cell} {c : Cell} (h1 : 0 ≤ c.1) (h2 : 0 ≤ c.2) : seenT (T ++ [c]) = fun p q => if p = c.1.toNat ∧ q = c.2.toNat then true else seenT T p q := by
  funext p q
  unfold seenT
  by_cases hpq : p = c.1.toNat ∧ q = c.2.toNat
  · have e : ((p : Int), (q : Int)) = c := by rw [hpq.1, hpq.2, Int.toNat_of_nonneg h1, Int.toNat_of_nonneg h2]
    rw [if_pos hpq, e]; simp
  · have e : ((p : Int), (q : Int)) ≠ c := fun e => hpq (by rw [← e]; simp)
    rw [if_neg hpq]
    simp [e]

end Go.Proofs.YtfflipnhffknnaaGreatDoor
end
