/- Texts of the proof, one behind the other. -/
import Derived.Test.YtfflipnhffknnaaGreatDoorM5
import Derived.Test.YtfflipnhffknnaaGreatDoorM3
import Derived.Test.YtfflipnhffknnaaGreatDoorM4
import Derived.Test.YtfflipnhffknnaaGreatDoorM1
import Derived.Test.YtfflipnhffknnaaGreatDoorH3
import Derived.Test.YtfflipnhffknnaaGreatDoorM2
import Derived.Test.YtfflipnhffknnaaGreatDoorH2
import Derived.Test.YtfflipnhffknnaaGreatDoorRows
import Derived.Test.YtfflipnhffknnaaGreatDoorTie
import Derived.JoinedOf
import Derived.Handed
import Derived.LaidMore
import Derived.LaidHandle
import Derived.LaidLaws
import Derived.MakeChecks
set_option linter.defProp false
section
/- The search: its rounds. -/
set_option linter.unusedSimpArgs false
set_option linter.unusedVariables false
set_option maxRecDepth 100000
namespace Go.Proofs.YtfflipnhffknnaaGreatDoor
open Go Go.HL Go.Proofs.Resv Go.Proofs.Srch

def bRtS := jq (jq (jq (jq (jq (jq @Bool.and_true @Bool.not_false) (jq @Bool.not_true (jq @HL.cond_false @HL.cond_true))) (jq (jq @Int.toNat_natCast @List.getElem?_cons_succ.{0}) (jq @List.getElem?_cons_zero.{0} (jq @Nat.add_zero @Nat.zero_add)))) (jq (jq (jq @Option.some.injEq.{0} @add_mk) (jq @al139 (jq @al30 @bin_add))) (jq (jq @blockK_ret (jq @bne_self_eq_false.{0} @cell_set_self)) (jq @cf66 (jq @cf68 @cf69))))) (jq (jq (jq (jq @cf70 @eq28) (jq @eq30 (jq @eq_int @eq_intp))) (jq (jq @ex0 (jq @ex1 @exists_eq_left'.{1})) (jq @fa134_7p (jq @fa134_8p @fa134_9)))) (jq (jq (jq @fa137_0p @fa137_1p) (jq @fa139_0 (jq @fa139_0p @fa139_1))) (jq (jq @fa139_1p (jq @fa146_2p @fa146_3)) (jq @fa146_3p (jq @fa151_1p @fa26_14)))))) (jq (jq (jq (jq (jq @fa30_0 @fa45_0) (jq @fa45_1 (jq @gd_ff @gd_ft))) (jq (jq @gd_tf @gd_tt) (jq @ix142p (jq @ld130p @ld131p)))) (jq (jq (jq @ld132 @ld137) (jq @ld137p (jq @ld28 @ld3))) (jq (jq @ld30 (jq @ld30p @ld3p)) (jq @ld4 (jq @ld4p @ne_intp))))) (jq (jq (jq (jq @opH_nil @opH_su) (jq @opH_sv (jq @pick_f @pick_fp))) (jq (jq @pick_t (jq @pick_tp @pureW_nil)) (jq @pureW_sv (jq @resL_nil2 @resL_tmp)))) (jq (jq (jq @retK_ret @scopeK_ret) (jq @st139w (jq @st30w @thenK_exit))) (jq (jq @thenK_normal (jq @thenK_ret @un_not)) (jq @upd_eq (jq @upd_ne @wrap_in))))))
theorem StE.look {w k : Nat} {f : Nat → Nat → Int} {b : Hp} {E : List (Nd × Nat)} {S : SS} (s : StE w k b E S) (hS : ∀ x ∈ S, fitsW w k f x.p = true) {j : Nat} {x : St Pose Move} (hx : S[j]? = some x) (hk : Srch.key S x.p x.i = some j) :
    ∃ e, E[j]? = some e ∧ b e.2 = some (stepO (fromK w k S x.b) x.mv x.a x.dn) ∧ kget (E.map entV) (numP w k x.p, (x.i : Int)) = some (.pointer (some ⟨e.2, 0, none⟩)) := by
  rcases s.get (f := f) hS (hS _ (List.mem_of_getElem? hx)) (i := x.i) with ⟨h0, _⟩ | ⟨j', e, y, h1, h2, h3, h4, h5⟩
  · rw [hk] at h0; cases h0
  · rw [hk] at h1
    cases h1
    rw [hx] at h3
    cases h3
    exact ⟨e, h2, h5, h4⟩

theorem StE.done {w k : Nat} {b : Hp} {E : List (Nd × Nat)} {S : SS} (s : StE w k b E S) {j : Nat} {x : St Pose Move} {e : Nd × Nat} (hx : S[j]? = some x) (he : E[j]? = some e) :
    StE w k (b.set e.2 (stepO (fromK w k S x.b) x.mv x.a true)) E (take S j x) := by
  have hjS : j < S.length := (List.getElem?_eq_some_iff.1 hx).1
  have e3 : ({ x with dn := true } : St Pose Move).p = x.p := rfl
  have e4 : ({ x with dn := true } : St Pose Move).i = x.i := rfl
  refine ⟨by unfold take; rw [List.length_set]; exact s.len, s.nod, fun i e' y he' hy => ?_⟩
  unfold take at hy ⊢
  by_cases hij : j = i
  · subst hij
    rw [List.getElem?_set_self hjS] at hy
    rw [he] at he'
    cases he'
    cases hy
    refine ⟨(s.cel j e x he hx).1, ?_⟩
    rw [set_self, from_set (y := { x with dn := true }) hx e3 e4]
  · rw [List.getElem?_set_ne hij] at hy
    obtain ⟨h1, h2⟩ := s.cel i e' y he' hy
    have hne : e'.2 ≠ e.2 := fun h => by
      have hl1 := (List.getElem?_eq_some_iff.1 he).1
      have hl2 := (List.getElem?_eq_some_iff.1 he').1
      have a1 : (E.map (·.2))[j]? = some e.2 := by rw [List.getElem?_map, he]; rfl
      have a2 : (E.map (·.2))[i]? = some e'.2 := by rw [List.getElem?_map, he']; rfl
      rw [h, ← a1] at a2
      exact hij ((List.getElem?_inj (by simpa using hl1) s.nod).1 a2.symm)
    rw [set_other hne, from_set (y := { x with dn := true }) hx e3 e4]
    exact ⟨h1, h2⟩

def outL : Res Move → List Move
  | .ok l => l
  | .no _ => []
def outE : Res Move → Int
  | .ok _ => 0
  | .no e => e

structure Fz (G B : Hp) (q : Par) (sp kp ms mw mp mt hp xc xg : Nat) (gp : Pose) (any : Bool) : Prop where
  bg : ∀ A h, HL.Sep [A, B] h → Dis G h → Bg (HL.under G h A) q sp kp ms mw mp mt hp
  rd : ∃ g tp, ∀ h, B.le h → Dis G h → BC G h sp g kp tp q.r ms mw mp mt hp
  gt : GoodT q.T
  fw : Few q.T 100
  w2 : q.w ≤ 16
  k2 : q.k ≤ 16
  bud : ∀ h, B.le h → Dis G h → cellIn G h ⟨xc, 14, none⟩ = some (.int .i64 q.C.bu)
  aim : B xg = some (.cells #[.int .i64 gp.x, .int .i64 gp.y, .bool gp.d, .bool any] 45 (0, 0))

def goalB (gp : Pose) (any : Bool) (p : Pose) (s : Sp) : Bool := ((p.x == gp.x && p.y == gp.y && p.d == gp.d) || (any && (p.x == gp.x && p.y == gp.y))) && (s.2 == FV)

theorem run_goal {P M : Type} [DecidableEq P] {E : Env P M} {goal : P → Sp → Bool} {n : Nat} {S : List (St P M)} {k : Nat} {x : St P M} (h : least E S = some (k, x)) (hg : goal x.p x.s = true) : run E goal (n + 1) S = .ok (path (take S k x) S.length k []) := by
  conv => lhs; unfold run
  rw [h]
  simp only [hg, if_true]
theorem run_on {P M : Type} [DecidableEq P] {E : Env P M} {goal : P → Sp → Bool} {n : Nat} {S : List (St P M)} {k : Nat} {x : St P M} (h : least E S = some (k, x)) (hg : goal x.p x.s = false) : run E goal (n + 1) S = run E goal n (goFrom E { x with dn := true } k (take S k x)) := by
  conv => lhs; unfold run
  rw [h]
  simp [hg]

def OutR (G : Hp) (B : Hp) (W : Res Move) (u : Value) (h' : Hp) : Prop := ∃ ip vs, u = .tuple #[vs, .int .i64 (outE W)] ∧ Slc moveC 48 ip vs (outL W) ∧ (outL W).length ≤ 110000 ∧ HL.Sep [ip, B] h' ∧ Dis G h'

set_option maxHeartbeats 8000000 in
theorem rounds_spec {G h A B a ae ah ak : Hp} {q : Par} {sp kp ms mw mp mt hp xc xg : Nat} {gp : Pose} {any : Bool} {c : Cs} {S : SS} {L : List Go.Proofs.Wt.It} {n t0 lo : Int} {p0 : Pose} {z : Move} {N : Nat}
    (fz : Fz G B q sp kp ms mw mp mt hp xc xg gp any) (ok : EnvOk q.E) (ht0 : 0 ≤ t0) (hN : (N : Int) = q.C.bu) (hN1 : 1 ≤ N) (hN2 : N ≤ 4000) (hz : z.k = 0)
    (ss : Srs q a ae ah ms mw mp mt hp c S L n) (kpk : KP ak kp q.C.un q.C.ac q.C.sp) (v : Inv q.E p0 t0 z lo S) (hn : n ≤ 1)
    (sA : HL.Sep [a, ae, ah, ak] A) (s : HL.Sep [A, B] h) (d : Dis G h) (r : Rg) (g19 : r 19 = .pointer (some ⟨sp, 0, none⟩)) (g6 : r 6 = .pointer (some ⟨xc, 0, none⟩)) (g11 : r 11 = .pointer (some ⟨xg, 0, none⟩)) (g20 : r 20 = .int .i64 0) (g15 : r 15 = .int .i64 6) {Q : Value → Hp → Prop} (HQ : ∀ u h', OutR G B (run q.E (goalB gp any) N S) u h' → Q u h') :
    loopP (S27_l6 G) r h (blockK 0 (thenK (S27_k5 G (retK P_ G [.tmp 12, .tmp 13] Q)) (scopeK (retK P_ G [.tmp 12, .tmp 13] Q)))) := by
  obtain ⟨g, tp, hrd⟩ := fz.rd
  generalize hW : run q.E (goalB gp any) N S = W at HQ
  generalize hKR : retK P_ G [.tmp 12, .tmp 13] Q = KR
  generalize hKK : blockK 0 _ = KK
  refine loop_I (fun m r' h' => ∃ (i : Nat) (S' : SS) (A' a' ae' ah' ak' : Hp) (c' : Cs) (L' : List Go.Proofs.Wt.It) (n' lo' : Int), m = (N - i) * 40000000000 + L'.length ∧ i < N ∧ run q.E (goalB gp any) (N - i) S' = W ∧ Srs q a' ae' ah' ms mw mp mt hp c' S' L' n' ∧ KP ak' kp q.C.un q.C.ac q.C.sp ∧ Inv q.E p0 t0 z lo' S' ∧ n' ≤ 1 + i * 2000000 ∧
      HL.Sep [a', ae', ah', ak'] A' ∧ HL.Sep [A', B] h' ∧ Dis G h' ∧ r' 19 = .pointer (some ⟨sp, 0, none⟩) ∧ r' 6 = .pointer (some ⟨xc, 0, none⟩) ∧ r' 11 = .pointer (some ⟨xg, 0, none⟩) ∧ r' 20 = .int .i64 i ∧ r' 15 = .int .i64 6) ?_ (m := N * 40000000000 + L.length)
    ⟨0, S, A, a, ae, ah, ak, c, L, n, lo, by simp, by omega, hW, ss, kpk, v, by omega, sA, s, d, g19, g6, g11, g20, g15⟩
  clear ss kpk v sA s d g19 g6 g11 g20 g15 hW
  rintro m r1 h1 ⟨i, S1, A1, a1, ae1, ah1, ak1, c1, L1, n1, lo1, rfl, hi, hW, ss, kpk, v, hn1, sA, s, d, e19, e6, e11, e20, e15⟩ X hX
  have b1 := hrd h1 (s.in 1 rfl) d
  unfold S27_l6
  simp only [bRtS, e19, b1.hp]
  obtain ⟨N', hN'⟩ : ∃ N', N - i = N' + 1 := ⟨N - i - 1, by omega⟩
  have sAh : HL.Sep [ah1, a1, ae1, ak1] A1 := sA.sel [2, 0, 1, 3] (by decide) rfl
  have hLn := ss.ln
  cases L1 with
  | nil =>
    refine (Hw.hpop_nil ss.hp (HL.Sep.open (R := [B]) s sAh)).mono ?_
    rintro _ h2 ⟨rfl, rfl⟩
    simp only [Hw.pkV]
    try simp only [bRtS]
    intro xw hxw gxw
    have s2 := s.past (o := .cells #[.int .i64 0, .int .i64 0, .int .i64 0] 139 (0, 0)) hxw
    have d2 := d.set (o := .cells #[.int .i64 0, .int .i64 0, .int .i64 0] 139 (0, 0)) gxw
    generalize Hp.set h2 xw _ = h3 at s2 d2 ⊢
    rw [← hKK]
    show S27_k5 G KR _ _
    unfold S27_k5
    have hr : W = .no 6 := by
      rw [← hW, hN']
      unfold run
      rw [pop_nilQ ss.qi]
    rw [← hKR]
    simp (disch := first | exact nq rfl | omega) only [bRtS, e15]
    exact HQ _ _ ⟨noHp, _, by rw [hr]; rfl, by rw [hr]; exact Slc.nil, by rw [hr]; simp [outL], (s2.drop).none, d2⟩
  | cons w L1 =>
    obtain ⟨wk, wm, ws, wn⟩ := w
    obtain ⟨hok', hperm, hmin⟩ := Go.Proofs.Wt.pop_ok ss.ok
    obtain ⟨k, x, hxk, em, es, hstale, hfresh⟩ := popQ ok v ss.qi hmin (L' := Go.Proofs.Wt.popL (⟨wk, wm, ws, wn⟩ :: L1)) (List.Perm.cons_inv hperm).symm
    have em' : wm = numP q.w q.k x.p := em.symm
    have es' : ws = (x.i : Int) := es.symm
    subst em' es'
    have hxm := List.mem_of_getElem? hxk
    have hpl := Go.Proofs.Wt.popL_length (⟨wk, numP q.w q.k x.p, (x.i : Int), wn⟩ :: L1)
    simp only [List.length_cons] at hpl hLn
    refine (Sep.on s (Hw.hpop (G := HL.under G h1 A1) ss.hp sAh (by omega))).mono ?_
    rintro _ h2 ⟨A2, ⟨rfl, ah2, hp2, sA2, dA2⟩, s2, d2⟩
    have sA2 : HL.Sep [ah2, a1, ae1, ak1] A2 := sA2
    simp only [Hw.pkV]
    try simp only [bRtS]
    intro xw hxw gxw
    have s3 := s2.new (o := .cells #[.int .i64 wk, .int .i64 (numP q.w q.k x.p), .int .i64 (x.i : Int)] 139 (0, 0)) hxw
    have d3 := d2.set (o := .cells #[.int .i64 wk, .int .i64 (numP q.w q.k x.p), .int .i64 (x.i : Int)] 139 (0, 0)) gxw
    generalize how : Obj.cells #[.int .i64 wk, .int .i64 (numP q.w q.k x.p), .int .i64 (x.i : Int)] 139 (0, 0) = ow at s3 d3 ⊢
    generalize Hp.set h2 xw _ = h3 at s3 d3 ⊢
    have s3 : HL.Sep [A2, B, noHp.set xw ow] h3 := s3.sel [1, 2, 0] (by decide) rfl
    have cw3 : ∀ k, cellIn G h3 ⟨xw, k, none⟩ = _ := fun k => cell_of (look_own ((s3.at 2 rfl set_self).trans (by rw [how])))
    have b3 := hrd h3 (s3.in 1 rfl) d3
    obtain ⟨o, E, bb, km, sb, se⟩ := id ss.st
    have sAe : HL.Sep [ae1, a1, ah2, ak1] A2 := sA2.sel [2, 1, 0, 3] (by decide) rfl
    have sAo : HL.Sep [noHp.set mt o, bb, a1, ah2, ak1] A2 := HL.Sep.open (L := [noHp.set mt o, bb]) (R := [a1, ah2, ak1]) sAe sb
    have hmt3 : h3 mt = some o := (s3.in 0 rfl) _ _ (sAo.at 0 rfl set_self)
    obtain ⟨e, he, hbe, hkg⟩ := se.look (f := q.f) v.ok hxk (key_at v hxk)
    have hbe3 : h3 e.2 = some (stepO (fromK q.w q.k S1 x.b) x.mv x.a x.dn) := (s3.in 0 rfl) _ _ (sAo.at 1 rfl hbe)
    have ce3 : ∀ k, cellIn G h3 ⟨e.2, k, none⟩ = _ := fun k => cell_of (look_own hbe3)
    simp only [stpL] at ce3
    have lk3 : ∀ K, pw P_ G h3 (Instr.lookup 131 (.map (some mt)) (.agg #[.int .i64 (numP q.w q.k x.p), .int .i64 (x.i : Int)]) false) K = K (.pointer (some ⟨e.2, 0, none⟩)) := by
      intro K
      have := lookup_keyp (G := G) (K := K) nd_key unmt zerot (look_own hmt3) km (k := (numP q.w q.k x.p, (x.i : Int)))
      rw [hkg, Option.getD_some] at this
      exact this
    unfold S27_l6_k7
    try simp (disch := first | exact nq rfl | omega) only [bRtS, Nat.reduceAdd, e19, b3.mt, cw3, lk3, ce3]
    -- it is stale
    have stale : (x.dn = true ∨ x.a ≠ wk) → ∀ r' : Rg, r' 19 = .pointer (some ⟨sp, 0, none⟩) → r' 6 = .pointer (some ⟨xc, 0, none⟩) → r' 11 = .pointer (some ⟨xg, 0, none⟩) → r' 20 = .int .i64 i → r' 15 = .int .i64 6 → X r' h3 := by
      intro hs r' w19 w6 w11 w20 w15
      exact hX ((N - i) * 40000000000 + (Go.Proofs.Wt.popL (⟨wk, numP q.w q.k x.p, (x.i : Int), wn⟩ :: L1)).length) _ _ (by rw [hpl]; simp only [List.length_cons]; omega)
        ⟨i, S1, A2, a1, ae1, ah2, ak1, c1, _, n1, lo1, rfl, hi, hW, ⟨ss.ch, ss.st, hp2, hok', hstale hs, ss.kept, ss.n0, by rw [hpl]; omega⟩, kpk, v, hn1, sA2.sel [1, 2, 0, 3] (by decide) rfl, s3.sel [0, 1] (by decide) rfl, d3, w19, w6, w11, w20, w15⟩
    cases hdn : x.dn with
    | true =>
      try simp only [bRtS, gd_un]
      exact stale (.inl hdn) _ (by simp (disch := omega) only [upd_ne, e19]) (by simp (disch := omega) only [upd_ne, e6]) (by simp (disch := omega) only [upd_ne, e11]) (by simp (disch := omega) only [upd_ne, e20]) (by simp (disch := omega) only [upd_ne, e15])
    | false =>
    try simp only [bRtS, ce3, cw3]
    by_cases hxa : x.a = wk
    rotate_left
    · try simp only [bRtS, show (x.a != wk) = true from by simpa using hxa]
      exact stale (.inr hxa) _ (by simp (disch := omega) only [upd_ne, e19]) (by simp (disch := omega) only [upd_ne, e6]) (by simp (disch := omega) only [upd_ne, e11]) (by simp (disch := omega) only [upd_ne, e20]) (by simp (disch := omega) only [upd_ne, e15])
    subst hxa
    try simp only [bRtS, show (x.a != x.a) = false from by simp]
    obtain ⟨hle, hq2⟩ := hfresh hdn rfl
    obtain ⟨v2, hx2⟩ := take_inv v hle
    suffices k8 : ∀ r' : Rg, r' 19 = .pointer (some ⟨sp, 0, none⟩) → r' 6 = .pointer (some ⟨xc, 0, none⟩) → r' 11 = .pointer (some ⟨xg, 0, none⟩) → r' 20 = .int .i64 i → r' 15 = .int .i64 6 → r' 21 = .pointer (some ⟨xw, 0, none⟩) → r' 23 = .pointer (some ⟨e.2, 0, none⟩) → S27_l6_k8 G (thenK X KK) r' h3 from
      k8 _ (by simp (disch := omega) only [upd_ne, e19]) (by simp (disch := omega) only [upd_ne, e6]) (by simp (disch := omega) only [upd_ne, e11]) (by simp (disch := omega) only [upd_ne, e20]) (by simp (disch := omega) only [upd_ne, e15]) (by simp (disch := first | exact nq rfl | omega) only [bRtS]) (by simp (disch := first | exact nq rfl | omega) only [bRtS])
    clear stale
    intro r2 f19 f6 f11 f20 f15 f21 f23
    unfold S27_l6_k8
    simp only [bRtS, f23]
    rw [store1_eq sz4 rfl hbe3 (by simp [stpL])]
    have hset : (stpL (fromK q.w q.k S1 x.b) x.mv x.a x.dn).set 14 (.bool true) = stpL (fromK q.w q.k S1 x.b) x.mv x.a true := rfl
    rw [hset]
    have s4 := s3.put (o := stepO (fromK q.w q.k S1 x.b) x.mv x.a true) (sAo.at 1 rfl hbe)
    have d4 := d3.set (o := stepO (fromK q.w q.k S1 x.b) x.mv x.a true) (d3 _ _ hbe3)
    have sA4 := (HL.Sep.sel (L' := [bb, noHp.set mt o, a1, ah2, ak1]) sAo [1, 0, 2, 3, 4] (by decide) rfl).put (o := stepO (fromK q.w q.k S1 x.b) x.mv x.a true) hbe
    have se4 := se.done hxk he
    generalize bb.set e.2 _ = bb4 at sA4 se4
    generalize A2.set e.2 _ = A4 at s4 sA4
    generalize Hp.set h3 e.2 _ = h4 at s4 d4 ⊢
    obtain ⟨ae4, sA5, t5⟩ := HL.Sep.pack [noHp.set mt o, bb4] (R := [a1, ah2, ak1]) (sA4.sel [1, 0, 2, 3, 4] (by decide) rfl)
    have sA5 : HL.Sep [a1, ae4, ah2, ak1] A4 := sA5.sel [1, 0, 2, 3] (by decide) rfl
    have ss4 : Srs q a1 ae4 ah2 ms mw mp mt hp c1 (take S1 k x) (Go.Proofs.Wt.popL (⟨x.a, numP q.w q.k x.p, (x.i : Int), wn⟩ :: L1)) n1 := ⟨ss.ch, ⟨o, E, bb4, km, t5, se4⟩, hp2, hok', hq2, fun y hy => by
      obtain ⟨j, hj⟩ := List.getElem?_of_mem hy
      unfold take at hj
      by_cases hkj : k = j
      · subst hkj
        rw [List.getElem?_set_self (List.getElem?_eq_some_iff.1 hxk).1] at hj
        cases hj
        exact ss.kept x hxm
      · rw [List.getElem?_set_ne hkj] at hj
        exact ss.kept y (List.mem_of_getElem? hj), ss.n0, by rw [hpl]; omega⟩
    obtain ⟨o1, o2, o3, m1, m2, m3, sa⟩ := id ss.ch.sep
    have sA6 : HL.Sep [noHp.set ms o1, noHp.set mw o2, noHp.set mp o3, c1.P, ae4, ah2, ak1] A4 := HL.Sep.open (L := [noHp.set ms o1, noHp.set mw o2, noHp.set mp o3, c1.P]) (R := [ae4, ah2, ak1]) sA5 sa
    have hmp : h4 mp = some o3 := (s4.in 0 rfl) _ _ (sA6.at 2 rfl set_self)
    have b4 := hrd h4 (s4.in 1 rfl) d4
    obtain ⟨hk1, hk3⟩ := ss.kept x hxm
    have cw4 : ∀ k, cellIn G h4 ⟨xw, k, none⟩ = _ := fun k => cell_of (look_own ((s4.at 2 rfl set_self).trans (by rw [how])))
    try simp -implicitDefEqProofs (maxSteps := 2000000) (disch := first | with_reducible exact Nat.ne_of_beq_eq_false rfl | exact oneCell_int | exact oneCell_bool | omega | rfl | (simp; done) | fail) only [bRtS, Nat.reduceAdd, f20, f19, b4.mp, f21, cw4]
    rw [lookup_intp unmp un3r zerop (look_own hmp) m3, hk3, Option.getD_some]
    intro xp hxp gxp
    try simp only [bRtS]
    have s5 := s4.new (o := .cells #[.int .i64 x.p.x, .int .i64 x.p.y, .bool x.p.d] 30 (0, 0)) hxp
    have d5 := d4.set (o := .cells #[.int .i64 x.p.x, .int .i64 x.p.y, .bool x.p.d] 30 (0, 0)) gxp
    generalize hop : Obj.cells #[.int .i64 x.p.x, .int .i64 x.p.y, .bool x.p.d] 30 (0, 0) = op at s5 d5 ⊢
    generalize Hp.set h4 xp _ = h5 at s5 d5 ⊢
    have s5 : HL.Sep [A4, B, noHp.set xw ow, noHp.set xp op] h5 := s5.sel [1, 2, 3, 0] (by decide) rfl
    have cp5 : ∀ k, cellIn G h5 ⟨xp, k, none⟩ = _ := fun k => cell_of (look_own ((s5.at 3 rfl set_self).trans (by rw [hop])))
    have cw5 : ∀ k, cellIn G h5 ⟨xw, k, none⟩ = _ := fun k => cell_of (look_own ((s5.at 2 rfl set_self).trans (by rw [how])))
    have cg5 : ∀ k, cellIn G h5 ⟨xg, k, none⟩ = _ := fun k => cell_of (look_own (s5.at 1 rfl fz.aim))
    -- behind the goal's question
    have hA0 : 0 ≤ x.a := by
      obtain ⟨z1, z2, _⟩ := v.at_ x hxm
      have := (ok.pos _ _ (List.mem_of_getElem? z1)).1
      omega
    have k9 : goalB gp any x.p x.s = false → ∀ (r' : Rg) (h' A' a' : Hp) (c' : Cs), Srs q a' ae4 ah2 ms mw mp mt hp c' (take S1 k x) (Go.Proofs.Wt.popL (⟨x.a, numP q.w q.k x.p, (x.i : Int), wn⟩ :: L1)) n1 → HL.Sep [a', ae4, ah2, ak1] A' → HL.Sep [A', B, noHp.set xw ow] h' → Dis G h' → r' 19 = .pointer (some ⟨sp, 0, none⟩) → r' 6 = .pointer (some ⟨xc, 0, none⟩) → r' 11 = .pointer (some ⟨xg, 0, none⟩) → r' 20 = .int .i64 ((i : Int) + 1) → r' 15 = .int .i64 6 → r' 21 = .pointer (some ⟨xw, 0, none⟩) → S27_l6_k9 G (thenK X KK) r' h' := by
      intro hg r' h' A' a' c' ss' sA' s' d' w19 w6 w11 w20 w15 w21
      have hrun : W = run q.E (goalB gp any) N' (goFrom q.E { x with dn := true } k (take S1 k x)) := by
        rw [← hW, hN', run_on hle hg]
      have cb := fz.bud h' (s'.in 1 rfl) d'
      unfold S27_l6_k9
      try simp only [bRtS, w6, w20, cb]
      by_cases hb : (i : Int) + 1 = q.C.bu
      · try simp only [bRtS, show ((i : Int) + 1 == q.C.bu) = true from by simpa using hb]
        rw [← hKK]
        show S27_k5 G KR _ _
        unfold S27_k5
        have hN0 : N' = 0 := by omega
        subst hN0
        rw [← hKR]
        simp (disch := first | exact nq rfl | omega) only [bRtS]
        exact HQ _ _ ⟨noHp, _, by rw [hrun]; rfl, by rw [hrun]; exact Slc.nil, by rw [hrun]; simp [run, outL], (s'.sel [1] (by decide) rfl).none, d'⟩
      · try simp only [bRtS, show ((i : Int) + 1 == q.C.bu) = false from by simpa using hb]
        unfold S27_l6_k10
        have cw' : ∀ k, cellIn G h' ⟨xw, k, none⟩ = _ := fun k => cell_of (look_own ((s'.at 2 rfl set_self).trans (by rw [how])))
        try simp (disch := first | exact nq rfl | omega) only [bRtS, Nat.reduceAdd, w19, w21, cw']
        have bg := fz.bg A' h' (s'.sel [0, 1] (by decide) rfl) d'
        refine (Sep.on s' (from_spec (G := HL.under G h' A') (R := []) (x := { x with dn := true }) ss' kpk bg ok v2 hx2 rfl hA0 (by omega) sA')).mono ?_
        rintro _ h7 ⟨A7, ⟨a7, ae7, ah7, ak7, c7, L7, n7, ss7, kp7, _, m1, m2, sA7, _⟩, s7, d7⟩
        try simp (disch := first | exact nq rfl | omega) only [bRtS, Nat.reduceAdd, Nat.reduceMul]
        have v7 := (ways_inv ok (k := k) (x := { x with dn := true }) rfl hA0 (v.ok x hxm) (q.E.ways x.p) (fun _ h => h) v2 hx2).1
        have ln7 := ss7.ln
        refine hX ((N - (i + 1)) * 40000000000 + L7.length) _ _ (by omega) ⟨i + 1, _, A7, a7, ae7, ah7, ak7, c7, L7, n7, x.a, rfl, by omega, ?_, ss7, kp7, v7, by omega, sA7, s7.sel [0, 1] (by decide) rfl, d7, by simp (disch := omega) only [upd_ne, w19], by simp (disch := omega) only [upd_ne, w6], by simp (disch := omega) only [upd_ne, w11], by simp (disch := omega) only [upd_ne, w20]; rfl, by simp (disch := omega) only [upd_ne, w15]⟩
        rw [show N - (i + 1) = N' by omega]
        exact hrun.symm
    try simp only [bRtS, cp5, f11, cg5]
    have sJ : HL.Sep [noHp.set xp op, noHp.set xw ow, c1.P] h5 := HL.Sep.sel (HL.Sep.open (R := [B, noHp.set xw ow, noHp.set xp op]) s5 sA6) [9, 8, 3] (by decide) rfl
    cases hD : (x.p.x == gp.x && x.p.y == gp.y && x.p.d == gp.d) with
    | true =>
      try simp only [bRtS, Nat.reduceAdd, gd_un]
      obtain ⟨q9, l1, l2, l3, l4⟩ := join3 (R := []) sJ
      have lq2 : q9.le h5 := l4 h5 (s5.in 3 rfl) (s5.in 2 rfl) ((sA6.in 3 rfl).trans (s5.in 0 rfl))
      have cq : ∀ k, cellIn G q9 ⟨xp, k, none⟩ = _ := fun k => cell_of (look_own ((l1 _ _ set_self).trans (by rw [hop])))
      have cqn : ∀ k, cellIn G q9 ⟨xw, k, none⟩ = _ := fun k => cell_of (look_own ((l2 _ _ set_self).trans (by rw [how])))
      refine ⟨q9, lq2, ?_⟩
      try simp only [bRtS, cq, f19, gd_un]
      refine (Sep.on s5 (stretches_spec (G := HL.under G h5 A4) (R := [ae4, ah2, ak1]) ss4.ch (fz.bg A4 h5 (s5.sel [0, 1] (by decide) rfl) d5) sA5 (v.ok x hxm))).mono ?_
      rintro u h6 ⟨A6, ⟨a6, c6, ch6, cl6, e2, hu, hu3, sA7, _⟩, s6, d6⟩
      refine ⟨l4 h6 (s6.in 3 rfl) (s6.in 2 rfl) (cl6.p.trans (ch6.pool.trans ((sA7.in 0 rfl).trans (s6.in 0 rfl)))), ?_⟩
      obtain ⟨u0, hu0⟩ := Option.isSome_iff_exists.1 hk1
      have huu := cl6.l1 _ _ hu0
      rw [hu] at huu
      cases huu
      have slu := ss.ch.look1 (v.ok x hxm) hu0
      obtain ⟨sv, cv, rfl, _⟩ := slu.len (by decide)
      have hsi' : (spansP q.w q.k q.T q.r x.p)[x.i]? = some x.s := (v.at_ x hxm).1
      obtain ⟨b, o, rfl, z1, z2⟩ := Sees.span (slu.see (G := G) (by decide) l3) hsi'
      have hlti : (x.i : Int) < ((spansP q.w q.k q.T q.r x.p).length : Int) := Int.ofNat_lt.2 (List.getElem?_eq_some_iff.1 hsi').1
      try simp (disch := first | exact nq rfl | omega) only [bRtS, cqn, ix142 (Int.natCast_nonneg x.i) hlti, z1, z2, gd_un]
      have ss6 : Srs q a6 ae4 ah2 ms mw mp mt hp c6 (take S1 k x) (Go.Proofs.Wt.popL (⟨x.a, numP q.w q.k x.p, (x.i : Int), wn⟩ :: L1)) n1 := ⟨ch6, ss4.st, ss4.hp, ss4.ok, ss4.qi, ss4.kept.le cl6, ss4.n0, ss4.ln⟩
      by_cases hfv : x.s.2 = 4611686018427387904
      · have hg : goalB gp any x.p x.s = true := by unfold goalB FV; rw [hfv]; rw [hD]; rfl
        try simp only [bRtS, show (x.s.2 == 4611686018427387904) = true from by simpa using hfv]
        have cw6 : ∀ k, cellIn G h6 ⟨xw, k, none⟩ = _ := fun k => cell_of (look_own ((s6.at 2 rfl set_self).trans (by rw [how])))
        try simp only [bRtS, f21, f19, cw6]
        refine (Sep.on s6 (path_spec (G := HL.under G h6 A6) (R := [ak1]) ss6 (fz.bg A6 h6 (s6.sel [0, 1] (by decide) rfl) d6) v2 hz hx2 sA7)).mono ?_
        rintro u h8 ⟨A8, ⟨ip, sl8, hl8, sA8, _⟩, s8, d8⟩
        have hrun : W = .ok (path (take S1 k x) S1.length k []) := by
          rw [← hW, hN', run_goal hle hg]
        have hlen : (take S1 k x).length = S1.length := by unfold take; rw [List.length_set]
        rw [hlen] at sl8 hl8
        rw [← hKK, ← hKR]
        try simp (disch := first | exact nq rfl | omega) only [bRtS]
        exact HQ _ _ ⟨ip, _, by rw [hrun]; rfl, by rw [hrun]; exact sl8, by rw [hrun]; exact hl8, (s8.cut (sA8.in 0 rfl)).sel [0, 1] (by decide) rfl, d8⟩
      · try simp only [bRtS, show (x.s.2 == 4611686018427387904) = false from by simpa using hfv]
        exact k9 (by unfold goalB FV; rw [show (x.s.2 == 4611686018427387904) = false from by simpa using hfv, Bool.and_false]) _ h6 A6 a6 c6 ss6 sA7 (s6.sel [0, 1, 2] (by decide) rfl) d6 (by simp (disch := omega) only [upd_ne, f19]) (by simp (disch := omega) only [upd_ne, f6]) (by simp (disch := omega) only [upd_ne, f11]) (by simp (disch := first | exact nq rfl | omega) only [bRtS]) (by simp (disch := omega) only [upd_ne, f15]) (by simp (disch := omega) only [upd_ne, f21])
    | false =>
      try simp only [bRtS, cg5]
      cases hany : any with
      | false =>
        try simp only [bRtS, gd_un]
        refine ⟨h5, Hp.le.refl _, ?_⟩
        try simp (disch := first | exact nq rfl | omega) only [bRtS, Nat.reduceAdd, Nat.reduceMul, gd_un]
        exact k9 (by unfold goalB; rw [hD, hany]; rfl) _ h5 A4 a1 c1 ss4 sA5 (s5.sel [0, 1, 2] (by decide) rfl) d5 (by simp (disch := omega) only [upd_ne, f19]) (by simp (disch := omega) only [upd_ne, f6]) (by simp (disch := omega) only [upd_ne, f11]) (by simp (disch := first | exact nq rfl | omega) only [bRtS]) (by simp (disch := omega) only [upd_ne, f15]) (by simp (disch := omega) only [upd_ne, f21])
      | true =>
        try simp only [bRtS, cp5, cg5, f11]
        cases hC : (x.p.x == gp.x && x.p.y == gp.y) with
        | true =>
          try simp only [bRtS, Nat.reduceAdd]
          obtain ⟨q9, l1, l2, l3, l4⟩ := join3 (R := []) sJ
          have lq2 : q9.le h5 := l4 h5 (s5.in 3 rfl) (s5.in 2 rfl) ((sA6.in 3 rfl).trans (s5.in 0 rfl))
          have cq : ∀ k, cellIn G q9 ⟨xp, k, none⟩ = _ := fun k => cell_of (look_own ((l1 _ _ set_self).trans (by rw [hop])))
          have cqn : ∀ k, cellIn G q9 ⟨xw, k, none⟩ = _ := fun k => cell_of (look_own ((l2 _ _ set_self).trans (by rw [how])))
          refine ⟨q9, lq2, ?_⟩
          try simp only [bRtS, cq, f19, gd_un]
          refine (Sep.on s5 (stretches_spec (G := HL.under G h5 A4) (R := [ae4, ah2, ak1]) ss4.ch (fz.bg A4 h5 (s5.sel [0, 1] (by decide) rfl) d5) sA5 (v.ok x hxm))).mono ?_
          rintro u h6 ⟨A6, ⟨a6, c6, ch6, cl6, e2, hu, hu3, sA7, _⟩, s6, d6⟩
          refine ⟨l4 h6 (s6.in 3 rfl) (s6.in 2 rfl) (cl6.p.trans (ch6.pool.trans ((sA7.in 0 rfl).trans (s6.in 0 rfl)))), ?_⟩
          obtain ⟨u0, hu0⟩ := Option.isSome_iff_exists.1 hk1
          have huu := cl6.l1 _ _ hu0
          rw [hu] at huu
          cases huu
          have slu := ss.ch.look1 (v.ok x hxm) hu0
          obtain ⟨sv, cv, rfl, _⟩ := slu.len (by decide)
          have hsi' : (spansP q.w q.k q.T q.r x.p)[x.i]? = some x.s := (v.at_ x hxm).1
          obtain ⟨b, o, rfl, z1, z2⟩ := Sees.span (slu.see (G := G) (by decide) l3) hsi'
          have hlti : (x.i : Int) < ((spansP q.w q.k q.T q.r x.p).length : Int) := Int.ofNat_lt.2 (List.getElem?_eq_some_iff.1 hsi').1
          try simp (disch := first | exact nq rfl | omega) only [bRtS, cqn, ix142 (Int.natCast_nonneg x.i) hlti, z1, z2, gd_un]
          have ss6 : Srs q a6 ae4 ah2 ms mw mp mt hp c6 (take S1 k x) (Go.Proofs.Wt.popL (⟨x.a, numP q.w q.k x.p, (x.i : Int), wn⟩ :: L1)) n1 := ⟨ch6, ss4.st, ss4.hp, ss4.ok, ss4.qi, ss4.kept.le cl6, ss4.n0, ss4.ln⟩
          by_cases hfv : x.s.2 = 4611686018427387904
          · have hg : goalB gp any x.p x.s = true := by unfold goalB FV; rw [hfv]; rw [hD, hany, hC]; rfl
            try simp only [bRtS, show (x.s.2 == 4611686018427387904) = true from by simpa using hfv]
            have cw6 : ∀ k, cellIn G h6 ⟨xw, k, none⟩ = _ := fun k => cell_of (look_own ((s6.at 2 rfl set_self).trans (by rw [how])))
            try simp only [bRtS, f21, f19, cw6]
            refine (Sep.on s6 (path_spec (G := HL.under G h6 A6) (R := [ak1]) ss6 (fz.bg A6 h6 (s6.sel [0, 1] (by decide) rfl) d6) v2 hz hx2 sA7)).mono ?_
            rintro u h8 ⟨A8, ⟨ip, sl8, hl8, sA8, _⟩, s8, d8⟩
            have hrun : W = .ok (path (take S1 k x) S1.length k []) := by
              rw [← hW, hN', run_goal hle hg]
            have hlen : (take S1 k x).length = S1.length := by unfold take; rw [List.length_set]
            rw [hlen] at sl8 hl8
            rw [← hKK, ← hKR]
            try simp (disch := first | exact nq rfl | omega) only [bRtS]
            exact HQ _ _ ⟨ip, _, by rw [hrun]; rfl, by rw [hrun]; exact sl8, by rw [hrun]; exact hl8, (s8.cut (sA8.in 0 rfl)).sel [0, 1] (by decide) rfl, d8⟩
          · try simp only [bRtS, show (x.s.2 == 4611686018427387904) = false from by simpa using hfv]
            exact k9 (by unfold goalB FV; rw [show (x.s.2 == 4611686018427387904) = false from by simpa using hfv, Bool.and_false]) _ h6 A6 a6 c6 ss6 sA7 (s6.sel [0, 1, 2] (by decide) rfl) d6 (by simp (disch := omega) only [upd_ne, f19]) (by simp (disch := omega) only [upd_ne, f6]) (by simp (disch := omega) only [upd_ne, f11]) (by simp (disch := first | exact nq rfl | omega) only [bRtS]) (by simp (disch := omega) only [upd_ne, f15]) (by simp (disch := omega) only [upd_ne, f21])
        | false =>
          try simp only [bRtS]
          refine ⟨h5, Hp.le.refl _, ?_⟩
          try simp (disch := first | exact nq rfl | omega) only [bRtS, Nat.reduceAdd, Nat.reduceMul, gd_un]
          exact k9 (by unfold goalB; rw [hD, hany, hC]; rfl) _ h5 A4 a1 c1 ss4 sA5 (s5.sel [0, 1, 2] (by decide) rfl) d5 (by simp (disch := omega) only [upd_ne, f19]) (by simp (disch := omega) only [upd_ne, f6]) (by simp (disch := omega) only [upd_ne, f11]) (by simp (disch := first | exact nq rfl | omega) only [bRtS]) (by simp (disch := omega) only [upd_ne, f15]) (by simp (disch := omega) only [upd_ne, f21])
end Go.Proofs.YtfflipnhffknnaaGreatDoor
end

section
/- The search's world is sound. -/
set_option linter.unusedSimpArgs false
set_option linter.unusedVariables false
set_option maxRecDepth 100000
namespace Go.Proofs.YtfflipnhffknnaaGreatDoor
open Go Go.HL Go.Proofs.Resv Go.Proofs.Srch

theorem six_bd {C : Conf} (mk : MadeOk C) : (1 ≤ C.un ∧ C.un ≤ 1000) ∧ (1 ≤ C.ac ∧ C.ac ≤ 1000) ∧ (1 ≤ C.sp ∧ C.sp ≤ 1000) ∧ (1 ≤ C.tu ∧ C.tu ≤ 1000) ∧ (1 ≤ C.ho ∧ C.ho ≤ 1000) := by
  have h := mk.six
  simp only [List.mem_cons, List.not_mem_nil, or_false, forall_eq_or_imp, forall_eq, withinB, Bool.and_eq_true, decide_eq_true_eq] at h
  omega

theorem lasts_bd {C : Conf} (mk : MadeOk C) {w k : Nat} {f : Nat → Nat → Int} {p : Pose} {m : Move} (h : m ∈ movesW w k f p) : 1 ≤ lastsI C m ∧ lastsI C m ≤ 16000 := by
  obtain ⟨⟨a1, a2⟩, _, _, ⟨b1, b2⟩, _⟩ := six_bd mk
  obtain ⟨_, ⟨d, n, _, n1, n2, _, rfl⟩ | ⟨_, rfl⟩⟩ := moves_mem h
  · obtain ⟨_, t2, t3⟩ := time_bd (A := C.ac) (V := C.sp) (n := (n : Int)) a1 a2
    have e : lastsI C (mkRun p d n) = timeI C.un C.ac C.sp n := by unfold lastsI; exact if_pos rfl
    rw [e]
    exact ⟨t3 (by omega) (by omega), t2⟩
  · have e : lastsI C (turnM p) = C.tu := by
      unfold lastsI
      rw [if_neg (by show ¬ ((2 : Int) = 1); decide)]
      exact if_pos rfl
    rw [e]
    omega

theorem turn_fits {w k : Nat} {f : Nat → Nat → Int} {p : Pose} (h : wayB w k f (turnM p) = true) : fitsW w k f (turnP p) = true := by
  unfold wayB at h
  simp only [Bool.and_eq_true] at h
  obtain ⟨_, h⟩ := h
  rw [if_neg (by show ¬ ((2 : Int) = 1); decide), show (turnM p).k = 2 from rfl, if_pos (rfl : (2 : Int) = 2)] at h
  simp only [Bool.and_eq_true, List.all_eq_true] at h
  obtain ⟨_, h, _⟩ := h
  have h1 : ∀ c ∈ squareL (p.x, p.y), openW w k f c = true := h
  unfold fitsW
  rw [Bool.and_eq_true]
  refine ⟨h1 _ (by simp [squareL, turnP]), h1 _ ?_⟩
  unfold east turnP
  cases p.d <;> simp [squareL]

theorem env_ok {q : Par} (mk : MadeOk q.C) (gt : GoodT q.T) : EnvOk q.E := by
  refine ⟨fun p y hy => ?_, fun p s hs => ?_, fun p hp y hy => ?_, fun p p' hp hp' e => numP_inj (f := q.f) hp hp' e⟩
  · obtain ⟨i, hi⟩ := List.getElem?_of_mem hy
    obtain ⟨m, hm, rfl⟩ := ways_at hi
    have := lasts_bd mk hm
    exact ⟨this.1, Int.le_trans this.2 (by decide)⟩
  · have hr : Ris (q.E.spans p) := ris_free gt q.r _
    exact hr.bd s hs
  · obtain ⟨i, hi⟩ := List.getElem?_of_mem hy
    obtain ⟨m, hm, rfl⟩ := ways_at hi
    show fitsW q.w q.k q.f m.t = true
    obtain ⟨_, ⟨d, n, _, _, _, ho, rfl⟩ | ⟨hb, rfl⟩⟩ := moves_mem hm
    · exact ho
    · exact turn_fits hb
end Go.Proofs.YtfflipnhffknnaaGreatDoor
end

section
/- The document's example is awake. -/
set_option linter.unusedSimpArgs false
set_option linter.unusedVariables false
set_option maxRecDepth 100000
namespace Go.Proofs.YtfflipnhffknnaaGreatDoor
open Go Go.HL

theorem ca_nil {G h : Hp} {C : Conf} (h1 : C.bl = []) (h2 : C.po = []) (h3 : C.ro = []) (h4 : C.st = []) : CA G h C none 0 none 0 none 0 none 0 := by
  obtain ⟨w, hh, ht, bl, po, ro, st, un, ac, sp, tu, ho, qu, re, bu, back⟩ := C
  subst h1 h2 h3 h4
  exact ⟨Slc.nil.sees (e := 28) (a := noHp) (by decide) (fun _ _ e => by cases e), Slc.nil.sees (e := 28) (a := noHp) (by decide) (fun _ _ e => by cases e), Slc.nil.sees (e := 30) (a := noHp) (by decide) (fun _ _ e => by cases e), [], Slc.nil.sees (e := 95) (a := noHp) (by decide) (fun _ _ e => by cases e), by simp⟩

theorem may_nil {C : Conf} (h1 : C.bl = []) (h2 : C.po = []) (h3 : C.ro = []) (h4 : C.st = []) : MayOk C ↔ numbersB C = true := by
  refine ⟨fun m => m.nums, fun n => ⟨n, by simp [h2], by simp [h3], by simp [h1], by simp [h1], by simp [h2], by simp [h3], by simp [h3], ?_⟩⟩
  exact ⟨by simp [h4], by simp [h4], by simp [h4], by simp [h4], by simp [h4], by simp [h4]⟩

theorem Sees.move {G h : Hp} {sa : Option Addr} {cap n : Nat} {L : List Move} (s : Sees moveC G h (.slice sa n cap) L) {i : Nat} {x : Move} (hx : L[i]? = some x) :
    ∃ b o, sa = some ⟨b, o, none⟩ ∧ ∀ j, j < 11 → cellIn G h ⟨b, o + i * 11 + j, none⟩ = (moveC.enc x)[j]? := by
  obtain ⟨b, o, c, e1, e2⟩ := s.get hx
  simp only [Value.slice.injEq] at e1
  exact ⟨b, o, e1.1, e2⟩

end Go.Proofs.YtfflipnhffknnaaGreatDoor
end

section
/- The search. -/
set_option linter.unusedSimpArgs false
set_option linter.unusedVariables false
set_option maxRecDepth 100000
namespace Go.Proofs.YtfflipnhffknnaaGreatDoor
open Go Go.HL Go.Proofs.Resv Go.Proofs.Srch

def bRtT := jq (jq (jq (jq (jq @HL.cond_false @List.getElem?_cons_succ.{0}) (jq @List.getElem?_cons_zero.{0} @Nat.add_zero)) (jq (jq @Nat.zero_add @Option.some.injEq.{0}) (jq @add_mk @bd134_0_1_2_3_4_5_6_7_8_9))) (jq (jq (jq @bd146_ @bin_lss) (jq @box_new @cells_agg)) (jq (jq @cf29 @cf63) (jq @cf65 (jq @cf66 @cf67))))) (jq (jq (jq (jq @ex0 @ex1) (jq @exists_eq_left'.{1} @fa134_9)) (jq (jq @fa26_7 @fa26_8) (jq @fa26_9 (jq @ld26 @ld3)))) (jq (jq (jq @ld30 @opH_nil) (jq @opH_su @opH_sv)) (jq (jq @resL_nil2 @resL_tmp) (jq @retK_ret (jq @upd_eq @upd_ne)))))
def zM : Move := ⟨0, 0, 0, ⟨0, 0, false⟩, ⟨0, 0, false⟩, 0, 0⟩
theorem kb_of {C : Conf} (mk : MadeOk C) : KB C.un C.ac C.sp := by
  obtain ⟨⟨a1, a2⟩, ⟨b1, b2⟩, ⟨c1, c2⟩, _, _⟩ := six_bd mk
  exact ⟨a1, a2, b1, b2, c1, c2⟩

theorem mkmapR {T : TypeId} {G h : Hp} {K : VK} : wpH P_ G (Instr.makeMap T none) h K = ∀ x, h x = none → G x = none → K (.map (some x)) (h.set x (.map #[] 0)) := by
  simp [Instr.makeMap, bind, Sem.bind, pure, wpH, newObj]

set_option maxHeartbeats 8000000 in
theorem find_k3 {G h ga B0 : Hp} {C : Conf} {T : Tb} {ab : Option Addr} {cb : Nat} {ap : Option Addr} {cp : Nat} {ar : Option Addr} {cr : Nat} {az : Option Addr} {cs : Nat} {xc xp xg tp gb kb w k : Nat} {f : Nat → Nat → Int} {p gp : Pose} {rb t : Int} {any : Bool}
    (st : Steps G) (mk : MadeOk C) (hbu : C.bu ≤ 4000) (gt : GoodT T) (fw : Few T 100) (go : GO ga gb kb w k f) (ca : CA G B0 C ab cb ap cp ar cr az cs) (ts : Rv.TSee G B0 tp T) (hpf : fitsW w k f p = true) (ht0 : 0 ≤ t) (ht1 : t < FV)
    (bc : B0 xc = some (.cells #[.int .i64 C.w, .int .i64 C.h, .int .i64 C.ht, .slice ab C.bl.length cb, .slice ap C.po.length cp, .slice ar C.ro.length cr, .slice az C.st.length cs, .int .i64 C.un, .int .i64 C.ac, .int .i64 C.sp, .int .i64 C.tu, .int .i64 C.ho, .int .i64 C.qu, .int .i64 C.re, .int .i64 C.bu, .bool C.back] 26 (0, 0)))
    (bp : B0 xp = some (.cells #[.int .i64 p.x, .int .i64 p.y, .bool p.d] 30 (0, 0))) (bgl : B0 xg = some (.cells #[.int .i64 gp.x, .int .i64 gp.y, .bool gp.d, .bool any] 45 (0, 0)))
    (s : HL.Sep [ga, B0] h) (d : Dis G h) (r : Rg) (g1 : r 1 = .pointer (some ⟨tp, 0, none⟩)) (g2 : r 2 = .int .i64 rb) (g4 : r 4 = .int .i64 t) (g6 : r 6 = .pointer (some ⟨xc, 0, none⟩)) (g9 : r 9 = .pointer (some ⟨xp, 0, none⟩)) (g11 : r 11 = .pointer (some ⟨xg, 0, none⟩)) (g14 : r 14 = .pointer (some ⟨gb, 0, none⟩)) {Q : Value → Hp → Prop} (HQ : ∀ u h', OutR G B0 (find (envE C w k f T rb) (goalB gp any) p t zM C.bu.toNat) u h' → Q u h') :
    S27_k3 G (retK P_ G [.tmp 12, .tmp 13] Q) r h := by
  generalize hq : (⟨C, w, k, f, T, rb⟩ : Par) = q
  have hE : envE C w k f T rb = q.E := by rw [← hq]; rfl
  rw [hE] at HQ
  generalize hW : find q.E (goalB gp any) p t zM C.bu.toNat = W at HQ
  generalize hKR : retK P_ G [.tmp 12, .tmp 13] Q = KR
  unfold S27_k3
  have cc : ∀ k, cellIn G h ⟨xc, k, none⟩ = _ := fun k => cell_of (look_own (s.at 1 rfl bc))
  simp only [bRtT, g6, cc]
  refine (kin_spec (U := C.un) (A := C.ac) (V := C.sp)).mono ?_
  rintro _ h1 (⟨_, ak, kp, rfl, kpk, s1, d1⟩ | ⟨hno, _⟩)
  rotate_left
  · exact absurd (kb_of mk) hno
  have s1 : HL.Sep [ak, ga, B0] h1 := HL.Sep.open (L := [ga, B0]) (R := [ak]) (s1.swap) s |>.sel [2, 0, 1] (by decide) rfl
  have cc1 : ∀ k, cellIn G h1 ⟨xc, k, none⟩ = _ := fun k => cell_of (look_own (s1.at 2 rfl bc))
  try simp only [bRtT, g6, cc1]
  simp only [mkmapR]
  intro ms hms gms mw hmw gmw mp hmp gmp mt hmt gmt
  have s2 := ((((s1.new (o := .map #[] 0) hms).new (o := .map #[] 0) hmw).new (o := .map #[] 0) hmp).new (o := .map #[] 0) hmt)
  have d2 := ((((d1.set (o := .map #[] 0) gms).set (o := .map #[] 0) gmw).set (o := .map #[] 0) gmp).set (o := .map #[] 0) gmt)
  generalize Hp.set (Hp.set (Hp.set (Hp.set h1 ms _) mw _) mp _) mt _ = h2 at s2 d2 ⊢
  -- mt, mp, mw, ms, ak, ga, B0
  try simp only [bRtT, g14, g1, g2]
  intro sp hsp gsp
  have s3 := s2.new (o := .cells ((searchL C (.slice ab C.bl.length cb) (.slice ap C.po.length cp) (.slice ar C.ro.length cr) (.slice az C.st.length cs) (.pointer (some ⟨gb, 0, none⟩)) kp tp rb ms mw mp mt 0).set 24 (.pointer none)).toArray 134 (0, 0)) hsp
  have d3 := d2.set (o := .cells ((searchL C (.slice ab C.bl.length cb) (.slice ap C.po.length cp) (.slice ar C.ro.length cr) (.slice az C.st.length cs) (.pointer (some ⟨gb, 0, none⟩)) kp tp rb ms mw mp mt 0).set 24 (.pointer none)).toArray 134 (0, 0)) gsp
  simp only [searchL, List.set_cons_succ, List.set_cons_zero] at s3 d3
  generalize hos : Obj.cells (List.toArray [.int .i64 C.w, _, _, _, _, _, _, _, _, _, _, _, _, _, _, _, _, _, _, _, _, _, _, _, _]) 134 (0, 0) = os at s3 d3 ⊢
  generalize Hp.set h2 sp _ = h3 at s3 d3 ⊢
  refine (Hw.new_spec (G := G) (h := h3)).mono ?_
  rintro _ _ ⟨hp, rfl, hhp, ghp, rfl⟩
  have s4 := s3.new (o := .cells #[.func (.func 64) #[] #[], .slice none 0 0, .int .i64 0] 218 (0, 0)) hhp
  have d4 := d3.set (o := .cells #[.func (.func 64) #[] #[], .slice none 0 0, .int .i64 0] 218 (0, 0)) ghp
  generalize hoh : Obj.cells #[.func (.func 64) #[] #[], .slice none 0 0, .int .i64 0] 218 (0, 0) = oh at s4 d4 ⊢
  generalize Hp.set h3 hp oh = h4 at s4 d4 ⊢
  -- hp, sp, mt, mp, mw, ms, ak, ga, B0
  try simp (disch := first | exact nq rfl | omega) only [bRtT, Nat.reduceAdd, Nat.reduceMul]
  have hs4 : h4 sp = some os := s4.at 1 rfl set_self
  subst hos
  rw [store1_eq sz132 rfl hs4 (by simp)]
  have s5 := (s4.pick 1 rfl rfl).put (o := .cells (searchL C (.slice ab C.bl.length cb) (.slice ap C.po.length cp) (.slice ar C.ro.length cr) (.slice az C.st.length cs) (.pointer (some ⟨gb, 0, none⟩)) kp tp rb ms mw mp mt hp).toArray 134 (0, 0)) set_self
  rw [set_set] at s5
  have d5 := d4.set (o := .cells (searchL C (.slice ab C.bl.length cb) (.slice ap C.po.length cp) (.slice ar C.ro.length cr) (.slice az C.st.length cs) (.pointer (some ⟨gb, 0, none⟩)) kp tp rb ms mw mp mt hp).toArray 134 (0, 0)) (d4 _ _ hs4)
  simp only [List.set_cons_succ, List.set_cons_zero]
  generalize hos : Obj.cells (searchL C (.slice ab C.bl.length cb) (.slice ap C.po.length cp) (.slice ar C.ro.length cr) (.slice az C.st.length cs) (.pointer (some ⟨gb, 0, none⟩)) kp tp rb ms mw mp mt hp).toArray 134 (0, 0) = os at s5 d5
  have hos' := hos
  simp only [searchL] at hos'
  rw [hos']
  generalize Hp.set h4 sp _ = h5 at s5 d5 ⊢
  have s6 := s5.none.none.sel [7, 6, 5, 0, 4, 1, 3, 8, 2, 9, 10] (by decide) rfl
  clear s1 s2 s3 s4 s5 d1 d2 d3 d4 hs4 cc cc1
  obtain ⟨a, s7, ta⟩ := HL.Sep.pack [noHp.set ms (.map #[] 0), noHp.set mw (.map #[] 0), noHp.set mp (.map #[] 0), noHp] s6
  obtain ⟨ae, s8, tae⟩ := HL.Sep.pack [noHp.set mt (.map #[] 0), noHp] (R := [a, noHp.set hp oh, ak, noHp.set sp os, ga, B0]) (s7.sel [1, 2, 0, 3, 4, 5, 6, 7] (by decide) rfl)
  obtain ⟨A, s9, tA⟩ := HL.Sep.pack [a, ae, noHp.set hp oh, ak] (R := [noHp.set sp os, ga, B0]) (s8.sel [1, 0, 2, 3, 4, 5, 6] (by decide) rfl)
  obtain ⟨B, s10, tB⟩ := HL.Sep.pack [noHp.set sp os, ga, B0] (R := [A]) (s9.sel [1, 2, 3, 0] (by decide) rfl)
  have s11 : HL.Sep [A, B] h5 := s10.swap
  have lB0 : B0.le B := tB.in 2 rfl
  have dB : Dis G B := fun x o hx => d5 x o (s10.in 0 rfl x o hx)
  have hsB : B sp = some os := tB.at 0 rfl set_self
  have bgA : ∀ A' h', HL.Sep [A', B] h' → Dis G h' → Bg (HL.under G h' A') q sp kp ms mw mp mt hp := by
    intro A' h' s' d'
    subst hq
    refine Bg.of (tp := tp) (gp := gb) s' d' (ca.up lB0 dB) (fun j hj => ?_) ((go.le (tB.in 1 rfl)).gs) (ts.up lB0 dB) st gt fw
    rw [cell_of (look_own (hsB.trans (by rw [← hos])))]
  have cB : ∀ h', B.le h' → Dis G h' → BC G h' sp (.pointer (some ⟨gb, 0, none⟩)) kp tp q.r ms mw mp mt hp := by
    intro h' l' d'
    subst hq
    exact bc_of (C := C) (vb := .slice ab C.bl.length cb) (vp := .slice ap C.po.length cp) (vr := .slice ar C.ro.length cr) (vz := .slice az C.st.length cs) fun j hj => by
      rw [cell_of (look_own ((l' _ _ hsB).trans (by rw [← hos])))]
  have hC : q.C = C := by rw [← hq]
  have fz : Fz G B q sp kp ms mw mp mt hp xc xg gp any := ⟨bgA, ⟨_, _, cB⟩, by rw [← hq]; exact gt, by rw [← hq]; exact fw, by rw [← hq]; exact go.w2, by rw [← hq]; exact go.k2, fun h' l' d' => by rw [cell_of (look_own (l' _ _ (lB0 _ _ bc))), hC]; rfl, lB0 _ _ bgl⟩
  have c0 : Ch q a ms mw mp ⟨[], [], [], noHp⟩ := ⟨⟨_, _, _, ⟨#[], 0, rfl, rfl⟩, ⟨#[], 0, rfl, rfl⟩, ⟨#[], 0, rfl, rfl⟩, ta⟩, fun n v h => by simp [mget] at h, fun n v h => by simp [mget] at h, fun n v h => by simp [mget] at h⟩
  have hpq : fitsW q.w q.k q.f p = true := by rw [← hq]; exact hpf
  have cp5 : ∀ k, cellIn G h5 ⟨xp, k, none⟩ = _ := fun k => cell_of (look_own ((s11.in 1 rfl) _ _ (lB0 _ _ bp)))
  try simp only [bRtT, g9, cp5]
  refine (Sep.on s11 (stretches_spec (G := HL.under G h5 A) (R := [ae, noHp.set hp oh, ak]) c0 (bgA A h5 s11 d5) tA hpq)).mono ?_
  rintro u h6 ⟨A6, ⟨a6, c6, ch6, cl6, e2, hu, hu3, sA6, _⟩, s12, d6⟩
  have slu := ch6.look1 hpq hu
  rw [g4]
  refine (inside_spec (t := t) (slu.see (G := G) (by decide) (ch6.pool.trans ((sA6.in 0 rfl).trans (s12.in 0 rfl)))) (by have := spans_len (q := q) fz.gt fz.fw p; omega)).mono ?_
  rintro _ h6 ⟨rfl, rfl⟩
  try simp only [bRtT, g4]
  have hsp : q.E.spans p = spansP q.w q.k q.T q.r p := rfl
  cases hi : inside (spansP q.w q.k q.T q.r p) t with
  | none =>
    have hw : W = .no 18 := by
      rw [← hW]
      unfold find
      rw [hsp, hi]
    rw [show insI (spansP q.w q.k q.T q.r p) t = -1 from by unfold insI; rw [hi]]
    rw [← hKR]
    try simp (disch := first | exact nq rfl | omega) only [bRtT]
    exact HQ _ _ ⟨noHp, _, by rw [hw]; rfl, by rw [hw]; exact Slc.nil, by rw [hw]; simp [outL], ((s12.drop).cut lB0).none, d6⟩
  | some i0 =>
    rw [show insI (spansP q.w q.k q.T q.r p) t = (i0 : Int) from by unfold insI; rw [hi]]
    try simp only [bRtT, show decide ((i0 : Int) < 0) = false from decide_eq_false (by omega)]
    unfold S27_k4
    have cp6 : ∀ k, cellIn G h6 ⟨xp, k, none⟩ = _ := fun k => cell_of (look_own ((s12.in 1 rfl) _ _ (lB0 _ _ bp)))
    try simp (disch := first | exact nq rfl | omega) only [bRtT, g9, cp6, g4]
    have ss0 : Srs q a6 ae (noHp.set hp oh) ms mw mp mt hp c6 [] [] 0 :=
      { ch := ch6, st := ⟨.map #[] 0, [], noHp, KMap.empty, tae, ⟨rfl, List.nodup_nil, fun i e x h => by simp at h⟩⟩, hp := ⟨none, _, set_self.trans (by rw [← hoh]), ⟨rfl, rfl⟩⟩,
        ok := fun j h1 h2 => absurd h2 (by simp), qi := ⟨(fun w hw => nomatch hw), (fun x hx => nomatch hx)⟩, kept := (fun x hx => nomatch hx), n0 := Int.le_refl _, ln := Int.le_refl _ }
    have v0 : Inv q.E p t zM t [] := ⟨List.Pairwise.nil, (fun x hx => nomatch hx), (fun x hx => nomatch hx), (fun x hx => nomatch hx), (fun x hx => nomatch hx), (fun x hx => nomatch hx)⟩
    have ok : EnvOk q.E := env_ok (by rw [hC]; exact mk) fz.gt
    have sA7 : HL.Sep [a6, ae, noHp.set hp oh, ak] A6 := sA6
    have hr := reach_spec (G := HL.under G h6 A6) (R := [ak]) (p := p) (t := t) (m := zM) (b := -1) (lo := t) (t0 := t) (p0 := p) (z := zM) ss0 (bgA A6 h6 s12 d6) v0 (Int.le_refl _) hpq (by omega) (.inl (by decide)) sA7
    have hf : fromK q.w q.k [] (-1) = (0, 0) := by unfold fromK; rw [if_pos (by decide)]
    rw [hf] at hr
    simp only [zM] at hr
    refine (Sep.on s12 hr).mono ?_
    rintro _ h7 ⟨A7, ⟨a7, ae7, ah7, c7, L7, n7, ss7, _, _, m1, m2, sA8, _⟩, s13, d7⟩
    have v7 : Inv q.E p t zM t (note q.E [] p t zM (-1)) := note_inv v0 (Int.le_refl _) hpq (.inl ⟨rfl, rfl, rfl, rfl⟩)
    have hb := mk.bu
    unfold withinB at hb
    simp only [Bool.and_eq_true, decide_eq_true_eq] at hb
    try simp (disch := first | exact nq rfl | omega) only [bRtT, Nat.reduceAdd, Nat.reduceMul]
    subst hKR
    have hkq : KP ak kp q.C.un q.C.ac q.C.sp := by rw [hC]; exact kpk
    have ss7' : Srs q a7 ae7 ah7 ms mw mp mt hp _ (note q.E [] p t zM (-1)) L7 n7 := ss7
    refine rounds_spec (N := C.bu.toNat) (t0 := t) fz ok ht0 (by rw [hC]; omega) (by omega) (by omega) rfl ss7' hkq v7 (by omega) sA8 s13 d7 _ (by simp (disch := first | exact nq rfl | omega) only [bRtT]) (by simp (disch := omega) only [upd_ne, g6]) (by simp (disch := omega) only [upd_ne, g11]) (by simp (disch := first | exact nq rfl | omega) only [bRtT]) (by simp only [bRtT]) ?_
    intro u h' ho
    have hw : W = run q.E (goalB gp any) C.bu.toNat (note q.E [] p t zM (-1)) := by
      rw [← hW]
      unfold find
      rw [hsp, hi]
    have ho' : OutR G B W u h' := by rw [hw]; exact ho
    obtain ⟨ip, vs, e1, e2, e3, e4, e5⟩ := ho'
    exact HQ _ _ ⟨ip, vs, e1, e2, e3, (e4.swap.cut lB0).swap, e5⟩
end Go.Proofs.YtfflipnhffknnaaGreatDoor
end

section
/- Find. -/
set_option linter.unusedSimpArgs false
set_option linter.unusedVariables false
set_option maxRecDepth 100000
namespace Go.Proofs.YtfflipnhffknnaaGreatDoor
open Go Go.HL Go.Proofs.Resv Go.Proofs.Srch

def bRtFi := jq (jq (jq (jq (jq @Bool.not_false (jq @Bool.not_true @HL.cond_false)) (jq (jq @HL.cond_true @List.getElem?_cons_succ.{0}) (jq @List.getElem?_cons_zero.{0} @Nat.add_zero))) (jq (jq @Nat.zero_add (jq @Option.some.injEq.{0} @add_mk)) (jq (jq @bin_geqp @bin_lssp) (jq @bin_mulp @bne_self_eq_false.{0})))) (jq (jq (jq @box_new (jq @cells_agg @cf26)) (jq (jq @cf37 @cf61) (jq @cf62 @eq34np))) (jq (jq @eq34sp (jq @ex0 @ex1)) (jq (jq @exists_eq_left'.{1} @fa26_0p) (jq @fa26_1p @fa30_0))))) (jq (jq (jq (jq @fa45_0 (jq @fa45_1 @gd_ff)) (jq (jq @gd_tf @ld26) (jq @ld28 @ld30))) (jq (jq @ld30p (jq @ld3p @ld4)) (jq (jq @ne_int @ne_intp) (jq @opH_sv @pick_fp)))) (jq (jq (jq @pick_tp (jq @pureW_sv @regs0)) (jq (jq @regs1 @regs2) (jq @regs3 @regs4))) (jq (jq @regs5 (jq @resL_nil2 @resL_tmp)) (jq (jq @retK_ret @un_notp) (jq @upd_eq @upd_ne)))))
def aimB (C : Conf) (gp : Pose) (any : Bool) : Bool := if any = true then openW (wC C) (kC C) (f3C C) (gp.x, gp.y) else fitsW (wC C) (kC C) (f3C C) gp
def findW (C : Conf) (To : Option Tb) (rb : Int) (p : Pose) (t : Int) (gp : Pose) (any : Bool) : Res Move := match To with
  | none => .no 1
  | some T => if (T.length : Int) ≠ C.w * C.h ∨ rb < 0 ∨ t < 0 ∨ t ≥ FV ∨ fitsW (wC C) (kC C) (f3C C) p = false ∨ aimB C gp any = false then .no 1
    else find (envE C (wC C) (kC C) (f3C C) T rb) (goalB gp any) p t zM C.bu.toNat
def FindR (G h : Hp) (C : Conf) (To : Option Tb) (rb : Int) (p : Pose) (t : Int) (gp : Pose) (any : Bool) (u : Value) (h' : Hp) : Prop :=
  ∃ W, OutR G h W u h' ∧ ((¬ MadeOk C ∧ W = .no 5) ∨ (MadeOk C ∧ W = findW C To rb p t gp any))
def TabV (G h : Hp) (vt : Value) : Option Tb → Prop
  | none => vt = .pointer none
  | some T => ∃ tp, vt = .pointer (some ⟨tp, 0, none⟩) ∧ Rv.TSee G h tp T ∧ GoodT T ∧ Few T 100

set_option maxHeartbeats 8000000 in
theorem find_spec {G h : Hp} {C : Conf} {v vt : Value} {To : Option Tb} {p gp : Pose} {rb t : Int} {any : Bool} (hv : CV G h v C) (st : Steps G) (hro : ∀ p ∈ C.ro, PB p) (hsl : C.st.length ≤ 100000000000000) (hbu : MadeOk C → C.bu ≤ 4000)
    (tv : TabV G h vt To) (hp : PB p) (hgp : PB gp) :
    HCalls P_ G 27 #[v, vt, .int .i64 rb, poseV p, .int .i64 t, .agg #[.int .i64 gp.x, .int .i64 gp.y, .bool gp.d, .bool any]] h (FindR G h C To rb p t gp any) := by
  obtain ⟨ab, cb, ap, cp, ar, cr, az, cs, rfl, ca⟩ := hv
  refine HCalls.assume fun d => enter27 (by simp) ?_
  unfold S27
  simp (disch := first | exact nq rfl | omega) only [bRtFi]
  intro xc hxc gxc xp hxp gxp xg hxg gxg
  have s1 := ((HL.Sep.one (h := h)).past (o := .cells #[.int .i64 C.w, .int .i64 C.h, .int .i64 C.ht, .slice ab C.bl.length cb, .slice ap C.po.length cp, .slice ar C.ro.length cr, .slice az C.st.length cs, .int .i64 C.un, .int .i64 C.ac, .int .i64 C.sp, .int .i64 C.tu, .int .i64 C.ho, .int .i64 C.qu, .int .i64 C.re, .int .i64 C.bu, .bool C.back] 26 (0, 0)) hxc)
  generalize e1 : Hp.set h xc _ = h1 at *
  obtain ⟨l1, d1, bc1⟩ := boxed e1 hxc d gxc
  generalize e2 : Hp.set h1 xp _ = h2 at *
  obtain ⟨l2, d2, bp2⟩ := boxed e2 hxp d1 gxp
  generalize e3 : Hp.set h2 xg _ = h3 at *
  obtain ⟨l3, d3, bg3⟩ := boxed e3 hxg d2 gxg
  have bc3 := l3 _ _ (l2 _ _ bc1)
  have bp3 := l3 _ _ bp2
  have L := l1.trans (l2.trans l3)
  have cc : ∀ j, cellIn G h3 ⟨xc, j, none⟩ = _ := fun j => cell_of (look_own bc3)
  have cg : ∀ j, cellIn G h3 ⟨xg, j, none⟩ = _ := fun j => cell_of (look_own bg3)
  clear s1
  try simp only [bRtFi, cc]
  refine (new_spec (ca.up L d3).cv st hro hsl).mono ?_
  rintro _ h4 ⟨l4, d4, ⟨mk, ga, gb, kb, rfl, go, s4⟩ | ⟨hno, rfl⟩⟩
  rotate_left
  · try simp only [bRtFi]
    exact ⟨.no 5, ⟨noHp, _, rfl, Slc.nil, by simp [outL], (HL.Sep.one.none.swap.cut (L.trans l4)).swap, d4⟩, .inl ⟨hno, rfl⟩⟩
  try simp only [bRtFi]
  have gs := go.gs (G := G)
  have gs4 := gs.up (s4.in 0 rfl) d4
  have cg4 : ∀ j, cellIn G h4 ⟨xg, j, none⟩ = _ := fun j => cell_of (look_own (s4.at 1 rfl bg3))
  unfold S27_k1
  try simp (disch := first | exact nq rfl | omega) only [bRtFi, cg4]
  have out1 : findW C To rb p t gp any = .no 1 → FindR G h C To rb p t gp any (.tuple #[.slice none 0 0, .int .i64 1]) h4 := fun e =>
    ⟨.no 1, ⟨noHp, _, rfl, Slc.nil, by simp [outL], (HL.Sep.one.none.swap.cut (L.trans l4)).swap, d4⟩, .inr ⟨mk, e.symm⟩⟩
  have cc4 : ∀ j, cellIn G h4 ⟨xc, j, none⟩ = _ := fun j => cell_of (look_own (s4.at 1 rfl bc3))
  have cp4 : ∀ j, cellIn G h4 ⟨xp, j, none⟩ = _ := fun j => cell_of (look_own (s4.at 1 rfl bp3))
  generalize hKR : retK P_ G [.tmp 12, .tmp 13] (FindR G h C To rb p t gp any) = KR
  suffices k2 : ∀ r' : Rg, r' 1 = vt → r' 2 = .int .i64 rb → r' 4 = .int .i64 t → r' 6 = .pointer (some ⟨xc, 0, none⟩) → r' 9 = .pointer (some ⟨xp, 0, none⟩) → r' 11 = .pointer (some ⟨xg, 0, none⟩) → r' 14 = .pointer (some ⟨gb, 0, none⟩) → r' 16 = .bool (aimB C gp any) → S27_k2 G KR r' h4 by
    refine (fits_spec gs4 st hgp).mono ?_
    rintro _ h5 ⟨rfl, rfl⟩
    try simp only [bRtFi, cg4]
    cases hany : any with
    | true =>
      try simp only [bRtFi, cg4]
      refine (open_spec (c := (gp.x, gp.y)) gs4).mono ?_
      rintro _ h6 ⟨rfl, rfl⟩
      exact k2 _ (by simp (disch := first | exact nq rfl | omega) only [bRtFi]) (by simp (disch := first | exact nq rfl | omega) only [bRtFi]) (by simp (disch := first | exact nq rfl | omega) only [bRtFi]) (by simp (disch := first | exact nq rfl | omega) only [bRtFi]) (by simp (disch := first | exact nq rfl | omega) only [bRtFi]) (by simp (disch := first | exact nq rfl | omega) only [bRtFi]) (by simp (disch := first | exact nq rfl | omega) only [bRtFi]) (by simp only [bRtFi]; simp [aimB, hany])
    | false =>
      try simp only [bRtFi]
      exact k2 _ (by simp (disch := first | exact nq rfl | omega) only [bRtFi]) (by simp (disch := first | exact nq rfl | omega) only [bRtFi]) (by simp (disch := first | exact nq rfl | omega) only [bRtFi]) (by simp (disch := first | exact nq rfl | omega) only [bRtFi]) (by simp (disch := first | exact nq rfl | omega) only [bRtFi]) (by simp (disch := first | exact nq rfl | omega) only [bRtFi]) (by simp (disch := first | exact nq rfl | omega) only [bRtFi]) (by simp (disch := first | exact nq rfl | omega) only [bRtFi]; simp [aimB, hany])
  intro r1 f1 f2 f4 f6 f9 f11 f14 f16
  unfold S27_k2
  refine ⟨h4, Hp.le.refl _, ?_⟩
  try simp only [bRtFi, f1]
  cases To with
  | none =>
    rw [show vt = .pointer none from tv]
    try simp only [bRtFi, gd_un]
    rw [← hKR]
    try simp (disch := first | exact nq rfl | omega) only [bRtFi]
    exact out1 rfl
  | some T =>
    obtain ⟨tp, rfl, ts, gt, fw⟩ := tv
    try simp only [bRtFi]
    refine (Rv.cells_spec (ts.up (L.trans l4) d4)).mono ?_
    rintro _ h5 ⟨rfl, rfl⟩
    refine ⟨Hp.le.refl _, ?_⟩
    try simp only [bRtFi, f6, cc4]
    have hw : IntKind.i64.wrap (C.w * C.h) = C.w * C.h := by
      have a1 := gs.w1
      have a2 := gs.w2
      have a3 := gs.k1
      have a4 := gs.k2
      unfold wC at a1 a2
      unfold kC at a3 a4
      have b1 : 0 ≤ C.w * C.h := Int.mul_nonneg (by omega) (by omega)
      have b2 : C.w * C.h ≤ 16 * 16 := Int.mul_le_mul (by omega) (by omega) (by omega) (by omega)
      exact wrap_in (by omega) (by omega)
    rw [hw]
    by_cases q1 : (T.length : Int) = C.w * C.h
    rotate_left
    · try simp only [bRtFi, show ((T.length : Int) != C.w * C.h) = true from by simpa using q1, gd_un]
      rw [← hKR]
      try simp (disch := first | exact nq rfl | omega) only [bRtFi]
      exact out1 (by unfold findW; exact if_pos (.inl q1))
    try simp only [bRtFi, show ((T.length : Int) != C.w * C.h) = false from by simpa using q1, f2]
    by_cases q2 : rb < 0
    · try simp only [bRtFi, dec_t q2, gd_un]
      rw [← hKR]
      try simp (disch := first | exact nq rfl | omega) only [bRtFi]
      exact out1 (by unfold findW; exact if_pos (.inr (.inl q2)))
    try simp only [bRtFi, dec_f q2, f4]
    by_cases q3 : t < 0
    · try simp only [bRtFi, dec_t q3, gd_un]
      rw [← hKR]
      try simp (disch := first | exact nq rfl | omega) only [bRtFi]
      exact out1 (by unfold findW; exact if_pos (.inr (.inr (.inl q3))))
    try simp only [bRtFi, dec_f q3, f4]
    by_cases q4 : t ≥ 4611686018427387904
    · try simp only [bRtFi, dec_t q4, gd_un]
      rw [← hKR]
      try simp (disch := first | exact nq rfl | omega) only [bRtFi]
      exact out1 (by unfold findW; exact if_pos (.inr (.inr (.inr (.inl q4)))))
    try simp only [bRtFi, dec_f q4, f14, f9, cp4]
    refine (fits_spec gs4 st hp).mono ?_
    rintro _ h6 ⟨rfl, rfl⟩
    cases q5 : fitsW (wC C) (kC C) (f3C C) p with
    | false =>
      try simp only [bRtFi, gd_un]
      rw [← hKR]
      try simp (disch := first | exact nq rfl | omega) only [bRtFi]
      exact out1 (by unfold findW; exact if_pos (.inr (.inr (.inr (.inr (.inl q5))))))
    | true =>
    try simp only [bRtFi, f16]
    cases q6 : aimB C gp any with
    | false =>
      try simp only [bRtFi, q6]
      rw [← hKR]
      try simp (disch := first | exact nq rfl | omega) only [bRtFi]
      exact out1 (by unfold findW; exact if_pos (.inr (.inr (.inr (.inr (.inr q6))))))
    | true =>
    try simp only [bRtFi, q6]
    rw [← hKR]
    have hfw : findW C (some T) rb p t gp any = find (envE C (wC C) (kC C) (f3C C) T rb) (goalB gp any) p t zM C.bu.toNat := by
      unfold findW
      refine if_neg ?_
      rintro (h | h | h | h | h | h)
      · exact h q1
      · exact q2 h
      · exact q3 h
      · exact q4 h
      · rw [q5] at h; cases h
      · rw [q6] at h; cases h
    refine find_k3 (T := T) (rb := rb) (p := p) (gp := gp) (any := any) (t := t) st mk (hbu mk) gt fw go (ca.up L d3) (ts.up L d3) q5 (by omega) (by unfold FV; omega) bc3 bp3 bg3 s4 d4 _ (by simp (disch := omega) only [upd_ne, f1]) (by simp (disch := omega) only [upd_ne, f2]) (by simp (disch := omega) only [upd_ne, f4]) (by simp (disch := omega) only [upd_ne, f6]) (by simp (disch := omega) only [upd_ne, f9]) (by simp (disch := omega) only [upd_ne, f11]) (by simp (disch := omega) only [upd_ne, f14]) ?_
    rintro u h' ⟨ip, vs, e1, e2, e3, e4, e5⟩
    exact ⟨_, ⟨ip, vs, e1, e2, e3, (e4.swap.cut L).swap, e5⟩, .inr ⟨mk, hfw.symm⟩⟩
end Go.Proofs.YtfflipnhffknnaaGreatDoor
end

section
/- A text of the proofs. -/
set_option linter.unusedVariables false
set_option maxRecDepth 100000
namespace Go.Proofs.YtfflipnhffknnaaGreatDoor
open Go Go.HL
def md3 : Nat → Hint
  | 8 => mh false [0,0,0,0,13,31] [m_,m_,.alloc,.alloc,.store,.store] [false, false, false, false, true, false] false
  | 14 => mh false [0,1,0,4,0,16,60,127] [n_,e_,n_,m_,n_,m_,n_,m_] [false, true, false, false, false, false, false, false] false
  | 24 => mh false [0,1,0,0,0,0,0,64,255,511,1023,1023,2047,8191] [m_,e_,n_,n_,m_,n_,m_,n_,e_,n_,n_,n_,n_,n_] [false, true, false, false, false, false, false, false, false, false, false, false, false, false] false
  | _ => mh false [] [] [] false
def S3_k3 (G : Hp) (K : EK) (r : Rg) (h : Hp) : Prop :=
  pureW P_ G h (sv (Instr.loadAt 26 (r 5))) h fun v40 h40 =>
  opH P_ G (callFunc 28 #[v40]) h40 fun v41 h41 => h.le h41 ∧
  pureW P_ G h (sv (Instr.loadAt 30 (r 17))) h41 fun v42 h42 =>
  pureW P_ G h (sv (Instr.loadAt 30 (r 18))) h42 fun v43 h43 =>
  p_ (Instr.build 45 #[(0, v43)]) h43 fun v44 h44 =>
  opH P_ G (callFunc 27 #[v41, (r 11), (r 15), v42, (r 16), v44]) h44 fun v45 h45 =>
  p_ (Instr.extract v45 0) h45 fun v46 h46 =>
  p_ (Instr.extract v45 1) h46 fun v47 h47 =>
  o_ G (Builtin.len_ #[40] 3 #[v46]) h47 fun v48 h48 =>
  opH P_ G (xEq .eql 3 (.tmp 0) (.const .nilFunc) v48 (.int .i64 0)) h48 fun v49 h49 =>
  gd (wantB v49 true) (fun K1 => K1 v47 h49) h49 fun v50 h50 =>
  gd (wantB v49 true) (opH P_ G (xEq .eql 35 (.tmp 0) (.const .nilFunc) v50 (.int .i64 1)) h50) h50 fun v51 h51 =>
  opH P_ G (xPick v49 v51 (.bool false)) h51 fun v52 h52 =>
  gd (wantB v52 true) (opH P_ G (callFunc 23 #[]) h52) h52 fun v53 h53 =>
  opH P_ G (xPick v52 v53 (.bool false)) h53 fun v54 h54 =>
  K .ret (upd (upd (upd (upd (upd (upd (upd (upd (upd (upd (upd (upd (upd (upd (upd (upd (upd (upd (upd (upd (upd (upd (upd (upd (upd r 92 v40) 93 v41) 94 (r 11)) 95 (r 15)) 96 v42) 97 (r 16)) 98 v43) 99 v44) 100 v45) 91 v45) 101 v46) 102 v47) 19 v46) 20 v47) 103 v46) 104 v48) 105 v49) 106 v49) 107 v50) 108 v51) 109 v52) 110 v52) 111 v53) 112 v54) 10 v54) h54
def S3_k2 (G : Hp) (K : EK) (r : Rg) (h : Hp) : Prop :=
  pureW P_ G h (sv (Instr.loadAt 30 (r 7))) h fun v33 h33 =>
  pureW P_ G h (sv (Instr.loadAt 30 (r 8))) h33 fun v34 h34 =>
  o_ G (Instr.alloc 30 true (.tuple #[])) h34 fun v35 h35 =>
  o_ G (Instr.alloc 30 true (.tuple #[])) h35 fun v36 h36 =>
  opH P_ G (su (Instr.storeAt 30 v35 v33)) h36 fun v37 h37 => h.le h37 ∧
  opH P_ G (su (Instr.storeAt 30 v36 v34)) h37 fun v38 h38 =>
  opH P_ G (callFunc 25 #[(r 4), (.int .i64 6)]) h38 fun v39 h39 =>
  opH P_ G (xEq .eql 3 (.tmp 0) (.const .nilFunc) v39 (.int .i64 0)) h39 fun v55 h55 =>
  cond v55
  (S3_k3 G K (upd (upd (upd (upd (upd (upd (upd (upd (upd (upd (upd r 15 (.int .i64 0)) 16 (.int .i64 0)) 59 v33) 60 v34) 17 v35) 18 v36) 61 (r 4)) 62 v39) 64 v55) 63 v55) 11 (.pointer none)) h55)
  (opH P_ G (xEq .eql 3 (.tmp 0) (.const .nilFunc) v39 (.int .i64 1)) h55 fun v56 h56 =>
  cond v56
  (opH P_ G (callFunc 26 #[(r 13)]) h56 fun v57 h57 => h56.le h57 ∧
  p_ (Instr.fieldAt 26 (r 5) 0) h57 fun v58 h58 =>
  pureW P_ G h56 (sv (Instr.loadAt 3 v58)) h58 fun v59 h59 =>
  p_ (Instr.fieldAt 26 (r 5) 1) h59 fun v60 h60 =>
  pureW P_ G h56 (sv (Instr.loadAt 3 v60)) h60 fun v61 h61 =>
  p_ (binOp .mul 3 v59 v61) h61 fun v62 h62 =>
  pureW P_ G h56 (xEq .eql 3 (.tmp 0) (.tmp 0) v57 v62) h62 fun v63 h63 =>
  cond v63
  (opH P_ G (callFunc 23 #[]) h63 fun v64 h64 =>
  K .ret (upd (upd (upd (upd (upd (upd (upd (upd (upd (upd (upd (upd (upd (upd (upd (upd (upd (upd (upd (upd (upd (upd (upd (upd r 15 (.int .i64 0)) 16 (.int .i64 0)) 59 v33) 60 v34) 17 v35) 18 v36) 61 (r 4)) 62 v39) 64 v55) 63 v55) 66 v56) 65 v56) 67 (r 13)) 11 (r 13)) 68 (r 13)) 69 v57) 70 v58) 71 v59) 72 v60) 73 v61) 74 v62) 75 v63) 76 v64) 10 v64) h64)
  (S3_k3 G K (upd (upd (upd (upd (upd (upd (upd (upd (upd (upd (upd (upd (upd (upd (upd (upd (upd (upd (upd (upd (upd (upd r 15 (.int .i64 0)) 16 (.int .i64 0)) 59 v33) 60 v34) 17 v35) 18 v36) 61 (r 4)) 62 v39) 64 v55) 63 v55) 66 v56) 65 v56) 67 (r 13)) 11 (r 13)) 68 (r 13)) 69 v57) 70 v58) 71 v59) 72 v60) 73 v61) 74 v62) 75 v63) h63))
  (opH P_ G (xEq .eql 3 (.tmp 0) (.const .nilFunc) v39 (.int .i64 2)) h56 fun v65 h65 =>
  cond v65
  (S3_k3 G K (upd (upd (upd (upd (upd (upd (upd (upd (upd (upd (upd (upd (upd (upd (upd r 15 (.int .i64 0)) 16 (.int .i64 0)) 59 v33) 60 v34) 17 v35) 18 v36) 61 (r 4)) 62 v39) 64 v55) 63 v55) 66 v56) 65 v56) 78 v65) 77 v65) 15 (.int .i64 (-1))) h65)
  (opH P_ G (xEq .eql 3 (.tmp 0) (.const .nilFunc) v39 (.int .i64 3)) h65 fun v66 h66 =>
  cond v66
  (S3_k3 G K (upd (upd (upd (upd (upd (upd (upd (upd (upd (upd (upd (upd (upd (upd (upd (upd (upd r 15 (.int .i64 0)) 16 (.int .i64 0)) 59 v33) 60 v34) 17 v35) 18 v36) 61 (r 4)) 62 v39) 64 v55) 63 v55) 66 v56) 65 v56) 78 v65) 77 v65) 80 v66) 79 v66) 16 (.int .i64 4611686018427387904)) h66)
  (opH P_ G (xEq .eql 3 (.tmp 0) (.const .nilFunc) v39 (.int .i64 4)) h66 fun v67 h67 =>
  cond v67
  (o_ G (Instr.fieldAt 30 v35 0) h67 fun v68 h68 =>
  o_ G (Instr.fieldAt 28 v68 0) h68 fun v69 h69 =>
  opH P_ G (su (Instr.storeAt 3 v69 (.int .i64 (-1)))) h69 fun v70 h70 =>
  S3_k3 G K (upd (upd (upd (upd (upd (upd (upd (upd (upd (upd (upd (upd (upd (upd (upd (upd (upd (upd (upd (upd r 15 (.int .i64 0)) 16 (.int .i64 0)) 59 v33) 60 v34) 17 v35) 18 v36) 61 (r 4)) 62 v39) 64 v55) 63 v55) 66 v56) 65 v56) 78 v65) 77 v65) 80 v66) 79 v66) 82 v67) 81 v67) 83 v68) 84 v69) h70)
  (opH P_ G (xEq .eql 3 (.tmp 0) (.const .nilFunc) v39 (.int .i64 5)) h67 fun v71 h71 =>
  cond v71
  (o_ G (Instr.fieldAt 26 (r 5) 1) h71 fun v72 h72 =>
  o_ G (Instr.loadAt 3 v72) h72 fun v73 h73 =>
  o_ G (Instr.fieldAt 30 v36 0) h73 fun v74 h74 =>
  o_ G (Instr.fieldAt 28 v74 1) h74 fun v75 h75 =>
  opH P_ G (su (Instr.storeAt 3 v75 v73)) h75 fun v76 h76 =>
  S3_k3 G K (upd (upd (upd (upd (upd (upd (upd (upd (upd (upd (upd (upd (upd (upd (upd (upd (upd (upd (upd (upd (upd (upd (upd (upd r 15 (.int .i64 0)) 16 (.int .i64 0)) 59 v33) 60 v34) 17 v35) 18 v36) 61 (r 4)) 62 v39) 64 v55) 63 v55) 66 v56) 65 v56) 78 v65) 77 v65) 80 v66) 79 v66) 82 v67) 81 v67) 86 v71) 85 v71) 87 v72) 88 v73) 89 v74) 90 v75) h76)
  (S3_k3 G K (upd (upd (upd (upd (upd (upd (upd (upd (upd (upd (upd (upd (upd (upd (upd (upd (upd (upd (upd (upd r 15 (.int .i64 0)) 16 (.int .i64 0)) 59 v33) 60 v34) 17 v35) 18 v36) 61 (r 4)) 62 v39) 64 v55) 63 v55) 66 v56) 65 v56) 78 v65) 77 v65) 80 v66) 79 v66) 82 v67) 81 v67) 86 v71) 85 v71) h71))))))
def S3_k1 (G : Hp) (K : EK) (r : Rg) (h : Hp) : Prop :=
  o_ G (Instr.fieldAt 26 (r 5) 0) h fun v16 h16 =>
  o_ G (Instr.loadAt 3 v16) h16 fun v17 h17 =>
  o_ G (Instr.fieldAt 26 (r 5) 1) h17 fun v18 h18 =>
  o_ G (Instr.loadAt 3 v18) h18 fun v19 h19 =>
  o_ G (binOp .mul 3 v17 v19) h19 fun v20 h20 =>
  opH P_ G (callFunc 24 #[v20]) h20 fun v21 h21 =>
  o_ G (Instr.extract v21 0) h21 fun v22 h22 =>
  o_ G (Instr.extract v21 1) h22 fun v23 h23 =>
  opH P_ G (callFunc 25 #[(r 1), (.int .i64 256)]) h23 fun v24 h24 =>
  o_ G (binOp .add 3 (.int .i64 1) v24) h24 fun v25 h25 =>
  opH P_ G (callFunc 24 #[v25]) h25 fun v26 h26 =>
  o_ G (Instr.extract v26 0) h26 fun v27 h27 =>
  o_ G (Instr.extract v26 1) h27 fun v28 h28 =>
  opH P_ G (xEq .neq 35 (.tmp 0) (.const .nilFunc) v23 (.int .i64 0)) h28 fun v29 h29 =>
  gd (wantB v29 false) (fun K1 => K1 v28 h29) h29 fun v30 h30 =>
  gd (wantB v29 false) (opH P_ G (xEq .neq 35 (.tmp 0) (.const .nilFunc) v30 (.int .i64 0)) h30) h30 fun v31 h31 =>
  opH P_ G (xPick v29 (.bool true) v31) h31 fun v32 h32 =>
  (fun q => cond v32
  (K .ret (upd q 10 (.bool false)) h32)
  (S3_k2 G K q h32))
  (upd (upd (upd (upd (upd (upd (upd (upd (upd (upd (upd (upd (upd (upd (upd (upd (upd (upd (upd (upd (upd (upd (upd (upd (upd (upd r 38 v16) 39 v17) 40 v18) 41 v19) 42 v20) 43 v21) 37 v21) 44 v22) 45 v23) 11 v22) 12 v23) 47 (r 1)) 48 v24) 49 v25) 50 v26) 46 v26) 51 v27) 52 v28) 13 v27) 14 v28) 53 v23) 54 v29) 55 v29) 56 v30) 57 v31) 58 v32)
def S3 (G : Hp) (K : EK) (r : Rg) (h : Hp) : Prop :=
  o_ G (Instr.box 26 (r 0)) h fun v0 h0 =>
  o_ G (Instr.box 30 (r 2)) h0 fun v1 h1 =>
  o_ G (Instr.box 30 (r 3)) h1 fun v2 h2 =>
  o_ G (Instr.loadAt 26 v0) h2 fun v3 h3 =>
  opH P_ G (callFunc 21 #[v3]) h3 fun v4 h4 =>
  o_ G (Op.unary .not v4) h4 fun v5 h5 =>
  gd (wantB v5 false) (o_ G (Instr.loadAt 26 v0) h5) h5 fun v6 h6 =>
  gd (wantB v5 false) (o_ G (Instr.loadAt 30 v1) h6) h6 fun v7 h7 =>
  gd (wantB v5 false) (opH P_ G (callFunc 22 #[v6, v7]) h7) h7 fun v8 h8 =>
  gd (wantB v5 false) (o_ G (Op.unary .not v8) h8) h8 fun v9 h9 =>
  opH P_ G (xPick v5 (.bool true) v9) h9 fun v10 h10 =>
  gd (wantB v10 false) (o_ G (Instr.loadAt 26 v0) h10) h10 fun v11 h11 =>
  gd (wantB v10 false) (o_ G (Instr.loadAt 30 v2) h11) h11 fun v12 h12 =>
  gd (wantB v10 false) (opH P_ G (callFunc 22 #[v11, v12]) h12) h12 fun v13 h13 =>
  gd (wantB v10 false) (o_ G (Op.unary .not v13) h13) h13 fun v14 h14 =>
  opH P_ G (xPick v10 (.bool true) v14) h14 fun v15 h15 =>
  cond v15
  (opH P_ G (callFunc 23 #[]) h15 fun v77 h77 =>
  K .ret (upd (upd (upd (upd (upd (upd (upd (upd (upd (upd (upd (upd (upd (upd (upd (upd (upd (upd (upd (upd (upd r 5 v0) 7 v1) 8 v2) 10 (.bool false)) 21 v3) 22 v4) 23 v5) 24 v5) 25 v6) 26 v7) 27 v8) 28 v9) 29 v10) 30 v10) 31 v11) 32 v12) 33 v13) 34 v14) 35 v15) 36 v77) 10 v77) h77)
  (S3_k1 G K (upd (upd (upd (upd (upd (upd (upd (upd (upd (upd (upd (upd (upd (upd (upd (upd (upd (upd (upd r 5 v0) 7 v1) 8 v2) 10 (.bool false)) 21 v3) 22 v4) 23 v5) 24 v5) 25 v6) 26 v7) 27 v8) 28 v9) 29 v10) 30 v10) 31 v11) 32 v12) 33 v13) 34 v14) 35 v15) h15)
theorem S3_eq : Weq 113 md3 (Tryz.f3.body.getD .skip) S3 := fun _ _ _ _ => by kernel_rfl
theorem enter3 : Ent 113 3 [.tmp 10] S3 := ent_ S3_eq Tryz.func3 rfl rfl rfl

def md23 : Nat → Hint
  | _ => mh false [] [] [] false
def S23_k1 (G : Hp) (K : EK) (r : Rg) (h : Hp) : Prop :=
  o_ G (Instr.loadAt 26 (r 1)) h fun v10 h10 =>
  o_ G (Instr.build 30 #[]) h10 fun v11 h11 =>
  o_ G (Instr.build 28 #[(0, (.int .i64 1))]) h11 fun v12 h12 =>
  o_ G (Instr.build 30 #[(0, v12)]) h12 fun v13 h13 =>
  o_ G (Instr.build 45 #[(0, v13)]) h13 fun v14 h14 =>
  opH P_ G (callFunc 27 #[v10, (r 2), (.int .i64 0), v11, (.int .i64 5), v14]) h14 fun v15 h15 =>
  o_ G (Instr.extract v15 0) h15 fun v16 h16 =>
  o_ G (Instr.extract v15 1) h16 fun v17 h17 =>
  opH P_ G (xEq .eql 35 (.tmp 0) (.const .nilFunc) v17 (.int .i64 0)) h17 fun v18 h18 =>
  gd (wantB v18 true) (fun K1 => K1 v16 h18) h18 fun v19 h19 =>
  gd (wantB v18 true) (o_ G (Builtin.len_ #[40] 3 #[v19]) h19) h19 fun v20 h20 =>
  gd (wantB v18 true) (opH P_ G (xEq .eql 3 (.tmp 0) (.const .nilFunc) v20 (.int .i64 1)) h20) h20 fun v21 h21 =>
  opH P_ G (xPick v18 v21 (.bool false)) h21 fun v22 h22 =>
  gd (wantB v22 true) (fun K1 => K1 v16 h22) h22 fun v23 h23 =>
  gd (wantB v22 true) (o_ G (Instr.indexAt 40 v23 (.int .i64 0)) h23) h23 fun v24 h24 =>
  gd (wantB v22 true) (o_ G (Instr.fieldAt 48 v24 0) h24) h24 fun v25 h25 =>
  gd (wantB v22 true) (o_ G (Instr.loadAt 3 v25) h25) h25 fun v26 h26 =>
  gd (wantB v22 true) (opH P_ G (xEq .eql 3 (.tmp 0) (.const .nilFunc) v26 (.int .i64 1)) h26) h26 fun v27 h27 =>
  opH P_ G (xPick v22 v27 (.bool false)) h27 fun v28 h28 =>
  gd (wantB v28 true) (fun K1 => K1 v16 h28) h28 fun v29 h29 =>
  gd (wantB v28 true) (o_ G (Instr.indexAt 40 v29 (.int .i64 0)) h29) h29 fun v30 h30 =>
  gd (wantB v28 true) (o_ G (Instr.fieldAt 48 v30 1) h30) h30 fun v31 h31 =>
  gd (wantB v28 true) (o_ G (Instr.loadAt 3 v31) h31) h31 fun v32 h32 =>
  gd (wantB v28 true) (opH P_ G (xEq .eql 3 (.tmp 0) (.const .nilFunc) v32 (.int .i64 1)) h32) h32 fun v33 h33 =>
  opH P_ G (xPick v28 v33 (.bool false)) h33 fun v34 h34 =>
  gd (wantB v34 true) (fun K1 => K1 v16 h34) h34 fun v35 h35 =>
  gd (wantB v34 true) (o_ G (Instr.indexAt 40 v35 (.int .i64 0)) h35) h35 fun v36 h36 =>
  gd (wantB v34 true) (o_ G (Instr.fieldAt 48 v36 2) h36) h36 fun v37 h37 =>
  gd (wantB v34 true) (o_ G (Instr.loadAt 3 v37) h37) h37 fun v38 h38 =>
  gd (wantB v34 true) (opH P_ G (xEq .eql 3 (.tmp 0) (.const .nilFunc) v38 (.int .i64 1)) h38) h38 fun v39 h39 =>
  opH P_ G (xPick v34 v39 (.bool false)) h39 fun v40 h40 =>
  gd (wantB v40 true) (fun K1 => K1 v16 h40) h40 fun v41 h41 =>
  gd (wantB v40 true) (o_ G (Instr.indexAt 40 v41 (.int .i64 0)) h41) h41 fun v42 h42 =>
  gd (wantB v40 true) (o_ G (Instr.fieldAt 48 v42 5) h42) h42 fun v43 h43 =>
  gd (wantB v40 true) (o_ G (Instr.loadAt 3 v43) h43) h43 fun v44 h44 =>
  gd (wantB v40 true) (opH P_ G (xEq .eql 3 (.tmp 0) (.const .nilFunc) v44 (.int .i64 5)) h44) h44 fun v45 h45 =>
  opH P_ G (xPick v40 v45 (.bool false)) h45 fun v46 h46 =>
  gd (wantB v46 true) (fun K1 => K1 v16 h46) h46 fun v47 h47 =>
  gd (wantB v46 true) (o_ G (Instr.indexAt 40 v47 (.int .i64 0)) h47) h47 fun v48 h48 =>
  gd (wantB v46 true) (o_ G (Instr.fieldAt 48 v48 6) h48) h48 fun v49 h49 =>
  gd (wantB v46 true) (o_ G (Instr.loadAt 3 v49) h49) h49 fun v50 h50 =>
  gd (wantB v46 true) (opH P_ G (xEq .eql 3 (.tmp 0) (.const .nilFunc) v50 (.int .i64 9)) h50) h50 fun v51 h51 =>
  opH P_ G (xPick v46 v51 (.bool false)) h51 fun v52 h52 =>
  K .ret (upd (upd (upd (upd (upd (upd (upd (upd (upd (upd (upd (upd (upd (upd (upd (upd (upd (upd (upd (upd (upd (upd (upd (upd (upd (upd (upd (upd (upd (upd (upd (upd (upd (upd (upd (upd (upd (upd (upd (upd (upd (upd (upd (upd (upd (upd (upd (upd (upd (upd (upd (upd (upd (upd (upd r 18 v10) 19 (r 2)) 20 v11) 21 v12) 22 v13) 23 v14) 24 v15) 17 v15) 25 v16) 26 v17) 4 v16) 5 v17) 27 v17) 28 v18) 29 v18) 30 v19) 31 v20) 32 v21) 33 v22) 34 v22) 35 v23) 36 v24) 37 v25) 38 v26) 39 v27) 40 v28) 41 v28) 42 v29) 43 v30) 44 v31) 45 v32) 46 v33) 47 v34) 48 v34) 49 v35) 50 v36) 51 v37) 52 v38) 53 v39) 54 v40) 55 v40) 56 v41) 57 v42) 58 v43) 59 v44) 60 v45) 61 v46) 62 v46) 63 v47) 64 v48) 65 v49) 66 v50) 67 v51) 68 v52) 0 v52) h52
def S23 (G : Hp) (K : EK) (r : Rg) (h : Hp) : Prop :=
  o_ G (Instr.build 26 #[(0, (.int .i64 3)), (1, (.int .i64 1)), (2, (.int .i64 1)), (7, (.int .i64 10)), (8, (.int .i64 2)), (9, (.int .i64 4)), (10, (.int .i64 1)), (11, (.int .i64 1)), (12, (.int .i64 1)), (13, (.int .i64 1)), (14, (.int .i64 100))]) h fun v0 h0 =>
  o_ G (Instr.alloc 26 true (.tuple #[])) h0 fun v1 h1 =>
  opH P_ G (su (Instr.storeAt 26 v1 v0)) h1 fun v2 h2 =>
  opH P_ G (callFunc 24 #[(.int .i64 3)]) h2 fun v3 h3 =>
  o_ G (Instr.extract v3 0) h3 fun v4 h4 =>
  o_ G (Instr.extract v3 1) h4 fun v5 h5 =>
  opH P_ G (xEq .neq 35 (.tmp 0) (.const .nilFunc) v5 (.int .i64 0)) h5 fun v6 h6 =>
  gd (wantB v6 false) (fun K1 => K1 v4 h6) h6 fun v7 h7 =>
  gd (wantB v6 false) (opH P_ G (xEq .eql 34 (.tmp 0) (.const .nilFunc) v7 (.pointer none)) h7) h7 fun v8 h8 =>
  opH P_ G (xPick v6 (.bool true) v8) h8 fun v9 h9 =>
  (fun q => cond v9
  (K .ret (upd q 0 (.bool false)) h9)
  (S23_k1 G K q h9))
  (upd (upd (upd (upd (upd (upd (upd (upd (upd (upd (upd (upd (upd (upd (upd r 0 (.bool false)) 6 v0) 1 v1) 8 v3) 7 v3) 9 v4) 10 v5) 2 v4) 3 v5) 11 v5) 12 v6) 13 v6) 14 v7) 15 v8) 16 v9)
theorem S23_eq : Weq 69 md23 (Tryz.f23.body.getD .skip) S23 := fun _ _ _ _ => by kernel_rfl
theorem enter23 : Ent 69 23 [.tmp 0] S23 := ent_ S23_eq Tryz.func23 rfl rfl rfl

end Go.Proofs.YtfflipnhffknnaaGreatDoor
end

section
/- The document's example of a way. -/
set_option linter.unusedSimpArgs false
set_option linter.unusedVariables false
set_option maxRecDepth 100000
namespace Go.Proofs.YtfflipnhffknnaaGreatDoor
open Go Go.HL Go.Proofs.Resv Go.Proofs.Srch

def bRtAw := jq (jq (jq (jq (jq @HL.cond_false @List.getElem?_cons_succ.{0}) (jq @List.getElem?_cons_zero.{0} (jq @List.length_cons.{0} @List.length_nil.{0}))) (jq (jq @Nat.add_zero (jq @Nat.zero_add @Option.some.injEq.{0})) (jq @add_mk (jq @al26 @bd26_0_1_2_7_8_9_10_11_12_13_14)))) (jq (jq (jq @bd28_0 (jq @bd30_ @bd30_0)) (jq @bd45_0 (jq @beq_self_eq_true.{0} @bne_self_eq_false.{0}))) (jq (jq @cf24 (jq @cf27 @eq34s)) (jq @eq_int (jq @ex0 @ex1))))) (jq (jq (jq (jq @exists_eq_left'.{1} @fa48_0) (jq @fa48_1 (jq @fa48_2 @fa48_5))) (jq (jq @fa48_6 (jq @gd_ff @gd_tt)) (jq @ld26 (jq @ld3 @ln40)))) (jq (jq (jq @ne_int (jq @opH_su @opH_sv)) (jq @pick_f (jq @pick_t @resL_nil1))) (jq (jq @resL_tmp (jq @retK_ret @st26w)) (jq @true_and (jq @upd_eq @upd_ne)))))
theorem goodT_rep0 {n : Nat} : GoodT (List.replicate n []) := fun L hL => by rw [(List.mem_replicate.1 hL).2]; exact Resv.Good.nil
theorem few_rep0 {n b : Nat} : Few (List.replicate n []) b := fun L hL => by rw [(List.mem_replicate.1 hL).2]; exact Nat.zero_le _

def C12 : Conf := ⟨3, 1, 1, [], [], [], [], 10, 2, 4, 1, 1, 1, 1, 100, false⟩
def W12 : Res Move := findW C12 (some [[], [], []]) 0 ⟨0, 0, false⟩ 5 ⟨1, 0, false⟩ false

theorem w12 : outE W12 = 0 ∧ outL W12 = [⟨1, 1, 1, ⟨0, 0, false⟩, ⟨1, 0, false⟩, 5, 9⟩] := by decide +kernel

theorem made12 : MadeOk C12 := by
  rw [made_may, may_nil rfl rfl rfl rfl]
  rfl

set_option maxHeartbeats 4000000 in
theorem awake12 {G h : Hp} (st : Steps G) : HCalls P_ G 23 #[] h (fun u h' => u = .bool true ∧ h' = h) := by
  refine HCalls.assume fun d => quietly (enter23 (by simp) ?_)
  unfold S23
  simp only [bRtAw]
  intro xc hxc gxc
  generalize e1 : Hp.set h xc _ = h1 at *
  obtain ⟨l1, d1, bc1⟩ := boxed e1 hxc d gxc
  try simp (disch := first | exact nq rfl | omega) only [bRtAw, Nat.reduceAdd, Nat.reduceMul]
  refine (Rv.new_spec (G := G) (h := h1) (n := 3) (by decide) (by decide)).mono ?_
  rintro _ h2 ⟨ta, tp, rfl, tab, s2, d2⟩
  try simp only [bRtAw]
  unfold S23_k1
  have cc2 : ∀ k, cellIn G h2 ⟨xc, k, none⟩ = _ := fun k => cell_of (look_own (s2.at 1 rfl bc1))
  try simp (disch := first | exact nq rfl | omega) only [bRtAw, cc2]
  have hpb : ∀ x : Int, 0 ≤ x → x ≤ 1 → Bd x := fun x h1 h2 => ⟨by omega, by omega⟩
  have hf := find_spec (G := G) (h := h2) (C := C12) (v := confV C12 none 0 none 0 none 0 none 0) (vt := .pointer (some ⟨tp, 0, none⟩)) (To := some [[], [], []]) (p := ⟨0, 0, false⟩) (gp := ⟨1, 0, false⟩) (rb := 0) (t := 5) (any := false) (ca_nil rfl rfl rfl rfl).cv st (by intro p hp; cases hp) (by decide) (fun _ => by decide)
    ⟨tp, rfl, tab.see (s2.in 0 rfl), goodT_rep0 (n := 3), few_rep0 (n := 3)⟩ ⟨hpb 0 (by decide) (by decide), hpb 0 (by decide) (by decide)⟩ ⟨hpb 1 (by decide) (by decide), hpb 0 (by decide) (by decide)⟩
  simp only [C12, confV, poseV, List.length_nil] at hf
  refine hf.mono ?_
  rintro _ h3 ⟨W, ⟨ip, vs, rfl, sl, _, s3, d3⟩, ⟨hno, _⟩ | ⟨_, rfl⟩⟩
  · exact absurd made12 hno
  have w1 : outE W12 = 0 := w12.1
  have w2 : outL W12 = [⟨1, 1, 1, ⟨0, 0, false⟩, ⟨1, 0, false⟩, 5, 9⟩] := w12.2
  unfold W12 C12 at w1 w2
  rw [w2] at sl
  rw [w1]
  obtain ⟨sa, cap, rfl, _⟩ := sl.len (by decide)
  obtain ⟨b, o, rfl, x0, x1, x2, x3, x4, x5, x6, x7, x8, x9, x10⟩ := Sees.mvx (sl.see (G := G) (by decide) (s3.in 0 rfl)) (i := 0) rfl
  simp only [Nat.zero_mul, Nat.add_zero] at x0 x1 x2 x3 x4 x5 x6 x7 x8 x9 x10
  try simp only [bRtAw, ix40 (by decide : (0 : Int) ≤ 0) (by decide : (0 : Int) < (1 : Nat)), Int.toNat_zero, Nat.zero_mul, List.length_cons, List.length_nil, x0, x1, x2, x3, x4, x5, x6, x7, x8, x9, x10]
  have hone : (((1 : Nat) : Int) == 1) = true := rfl
  try simp only [bRtAw, hone, Nat.zero_add, ix40 (by decide : (0 : Int) ≤ 0) (by decide : (0 : Int) < (1 : Nat)), Int.toNat_zero, Nat.zero_mul, Nat.add_zero, x0, x1, x2, x3, x4, x5, x6, x7, x8, x9, x10]
  exact l1.trans ((s2.in 1 rfl).trans (s3.in 1 rfl))
end Go.Proofs.YtfflipnhffknnaaGreatDoor
end

section
/- A config copied, in new memory. -/
set_option linter.unusedSimpArgs false
set_option linter.unusedVariables false
set_option maxRecDepth 100000
namespace Go.Proofs.YtfflipnhffknnaaGreatDoor
open Go Go.HL

def bRpY := jq (jq (jq (jq (jq @Int.toNat_natCast (jq @List.getElem?_cons_succ.{0} @List.getElem?_cons_zero.{0})) (jq @List.set_cons_succ.{0} (jq @List.set_cons_zero.{0} @Nat.add_zero))) (jq (jq @Nat.zero_add (jq @Option.some.injEq.{0} @add_mk)) (jq @al26 (jq @bd234_0_1p @bin_add)))) (jq (jq (jq @bin_lss (jq @blockK_exit @box_new)) (jq @bs24_1_0 (jq @cell_set_self @cells_agg))) (jq (jq @cf122 (jq @cf71 @exists_eq_left'.{1})) (jq (jq @fa234_0p @fa234_1p) (jq @fa26_3 @fa26_4))))) (jq (jq (jq (jq @fa26_5 (jq @fa26_6 @if_true.{1})) (jq @if_true.{0} (jq @ld168p @ld22))) (jq (jq @ld23 (jq @ld24 @ld26)) (jq @ld28p (jq @ln24 @opH_su)))) (jq (jq (jq @opH_sv (jq @pureW_sv @regs0)) (jq @resC_ptr (jq @resL_cell @resL_nil1))) (jq (jq @resL_tmp (jq @retK_ret @thenK_exit)) (jq (jq @thenK_normal @upd_eq) (jq @upd_ne @wrap_in)))))
theorem eoraw : ElemOk P_ 234 rawC.n 40 := ⟨by kernel_rfl, by kernel_rfl, by kernel_rfl⟩
theorem eopose : ElemOk P_ 30 poseC.n 24 := ⟨by kernel_rfl, by kernel_rfl, by kernel_rfl⟩

def Room (n bytes : Nat) : Prop := (2 * n + 192) * bytes ≤ 281474976710656

theorem copyints_spec {G h : Hp} {v : Value} {L : List Int} (sv : Sees icC G h v L) (hl : Room L.length 8) : HCalls P_ G 122 #[v] h (fun u h' => ∃ ip, Slc icC 3 ip u L ∧ Sep [ip, h] h' ∧ Dis G h') := by
  refine HCalls.assume fun d => enter122 (by simp) ?_
  unfold S122
  simp only [bRpY]
  refine append_big icC (by decide) un168 eoint (by decide) (Sep.one (h := h)).none d Slc.nil sv (by simpa [Room] using hl) fun v' a' h' o' s' d' => ?_
  try simp (disch := first | exact nq rfl | omega) only [bRpY, Nat.reduceAdd, Nat.reduceMul]
  exact ⟨a', o', s', d'⟩

def Rel (pb : Hp) (raws : List Raw) (st : List (Cell × List Int)) : Prop := ∀ (i : Nat) (r : Raw) (s : Cell × List Int), raws[i]? = some r → st[i]? = some s → (r.x, r.y) = s.1 ∧ r.n = s.2.length ∧ Slc icC 3 pb (.slice r.a s.2.length r.c) s.2
def StkO (pz : Hp) (v : Value) (st : List (Cell × List Int)) : Prop := ∃ raws pr pb, Slc rawC 234 pr v raws ∧ Sep [pr, pb] pz ∧ raws.length = st.length ∧ Rel pb raws st

theorem Rel.le {pb pb' : Hp} {raws : List Raw} {st : List (Cell × List Int)} (r : Rel pb raws st) (l : pb.le pb') : Rel pb' raws st := fun i x s h1 h2 => let ⟨a, b, c⟩ := r i x s h1 h2; ⟨a, b, c.le l⟩

set_option maxHeartbeats 2000000 in
theorem copystacks_spec {G h : Hp} {C : Conf} {ab : Option Addr} {cb : Nat} {ap : Option Addr} {cp : Nat} {ar : Option Addr} {cr : Nat} {az : Option Addr} {cs : Nat} (ca : CA G h C ab cb ap cp ar cr az cs)
    (hst : Room C.st.length 40) (hb : ∀ s ∈ C.st, Room s.2.length 8) : HCalls P_ G 71 #[.slice az C.st.length cs] h (fun u h' => ∃ pz, StkO pz u C.st ∧ Sep [pz, h] h' ∧ Dis G h') := by
  refine HCalls.assume fun d => enter71 (by simp) ?_
  unfold S71
  have hlb : C.st.length ≤ 7036874417664 := by unfold Room at hst; omega
  refine loop_I (fun m r h3 => ∃ (i : Nat) (raws : List Raw) (pr pb : Hp) (v : Value), m = C.st.length - i ∧ i ≤ C.st.length ∧ r 0 = .slice az C.st.length cs ∧ r 3 = v ∧ r 4 = .int .i64 i ∧ Slc rawC 234 pr v raws ∧ raws.length = i ∧ Rel pb raws C.st ∧ Sep [pr, pb, h] h3 ∧ Dis G h3) ?_
    (m := C.st.length) ⟨0, [], noHp, noHp, _, rfl, Nat.zero_le _, by simp (disch := first | exact nq rfl | omega) only [bRpY], by simp (disch := first | exact nq rfl | omega) only [bRpY], by simp only [bRpY] <;> rfl, Slc.nil, rfl, fun i r s h1 => by simp at h1, (Sep.one.none).none, d⟩
  rintro m r h3 ⟨i, raws, pr, pb, v, rfl, hi, g0, g3, g4, o, hlen, rel, s3, d3⟩ X HX
  unfold S71_l2
  simp only [bRpY, g0, g4]
  refine cond_dec (fun hlt => ?_) (fun hge => ?_)
  rotate_left
  · obtain rfl : i = C.st.length := by omega
    try simp (disch := first | exact nq rfl | omega) only [bRpY, Nat.reduceAdd, Nat.reduceMul]
    unfold S71_k1
    try simp (disch := first | exact nq rfl | omega) only [bRpY, g3]
    obtain ⟨pz, s4, t4⟩ := s3.pack2
    exact ⟨pz, ⟨raws, pr, pb, o, t4, hlen, rel⟩, s4, d3⟩
  have hlt' : i < C.st.length := by omega
  obtain ⟨s, hs⟩ : ∃ s, C.st[i]? = some s := ⟨_, List.getElem?_eq_getElem hlt'⟩
  have ca3 := ca.up (s3.in 2 rfl) d3
  obtain ⟨b, ofs, a, c, rfl, z0, z1, z2, sv⟩ := ca3.stk hs
  unfold S71_l2_k3
  refine ⟨h3, Hp.le.refl _, ?_⟩
  try simp (disch := first | exact nq rfl | omega) only [bRpY, g0, g4, ix24p (Int.natCast_nonneg i) hlt, z0, z1, z2]
  refine (copyints_spec sv (hb s (List.mem_of_getElem? hs))).mono ?_
  rintro u h4 ⟨ip, o4, s4, d4⟩
  refine ⟨s4.in 1 rfl, ?_⟩
  obtain ⟨sa, cap, rfl, hcap⟩ := o4.len (by decide)
  try simp only [bRpY]
  intro x hx gx
  have s5 : Sep [ip, pr, pb, h] h4 := by
    have := s4.split s3
    simpa using this
  let rw0 : Raw := ⟨s.1.1, s.1.2, sa, s.2.length, cap⟩
  have s6 : Sep [pr, ip, pb, h] (h4.set x (.cells #[.int .i64 s.1.1, .int .i64 s.1.2, .slice sa s.2.length cap] 234 (0, 0))) := (s5.past hx).pick 1 rfl rfl
  have d6 : Dis G (h4.set x (.cells #[.int .i64 s.1.1, .int .i64 s.1.2, .slice sa s.2.length cap] 234 (0, 0))) := d4.set gx
  have b6 : (h4.set x (.cells #[.int .i64 s.1.1, .int .i64 s.1.2, .slice sa s.2.length cap] 234 (0, 0))) x = some (.cells #[.int .i64 s.1.1, .int .i64 s.1.2, .slice sa s.2.length cap] 234 (0, 0)) := set_self
  generalize Hp.set h4 x _ = h6 at s6 d6 b6 ⊢
  rw [g3]
  refine append_big rawC (by decide) un24 eoraw (by decide) (M := [rw0]) s6 d6 o (Sees.row (c := rawC) (L := [rw0]) b6 rfl (Nat.le_refl _)) (by
    unfold Room at hst
    refine Nat.le_trans (Nat.mul_le_mul_right _ ?_) hst
    rw [hlen, List.length_singleton]
    omega) fun v7 pr7 h7 o7 s7 d7 => ?_
  have s7' : Sep [ip, pb, pr7, h] h7 := (s7.pick 2 rfl rfl).pick 2 rfl rfl
  obtain ⟨pb7, s8, t8⟩ := s7'.pack2
  unfold S71_l2_k4
  try simp (disch := first | exact nq rfl | omega) only [bRpY, g4]
  refine HX (C.st.length - (i + 1)) _ _ (by omega) ⟨i + 1, raws ++ [rw0], pr7, pb7, v7, rfl, hlt', by simp (disch := first | exact nq rfl | omega) only [bRpY, g0], by simp (disch := first | exact nq rfl | omega) only [bRpY], by simp only [bRpY] <;> rfl, o7, by simp [hlen], ?_, s8.pick 1 rfl rfl, d7⟩
  intro j r' s' hr' hs'
  by_cases hj : j < i
  · rw [List.getElem?_append_left (by omega)] at hr'
    exact (rel.le (t8.in 1 rfl)) j r' s' hr' hs'
  · have hj2 : j < (raws ++ [rw0]).length := (List.getElem?_eq_some_iff.1 hr').1
    obtain rfl : j = i := by simp at hj2; omega
    rw [List.getElem?_append_right (by omega), hlen, Nat.sub_self] at hr'
    cases hr'
    rw [hs] at hs'
    cases hs'
    exact ⟨rfl, rfl, o4.le (t8.in 0 rfl)⟩

abbrev confO (C : Conf) (vb vp vr vz : Value) : Obj := .cells #[.int .i64 C.w, .int .i64 C.h, .int .i64 C.ht, vb, vp, vr, vz, .int .i64 C.un, .int .i64 C.ac, .int .i64 C.sp, .int .i64 C.tu, .int .i64 C.ho, .int .i64 C.qu, .int .i64 C.re, .int .i64 C.bu, .bool C.back] 26 (0, 0)
abbrev confA (C : Conf) (vb vp vr vz : Value) : Value := .agg #[.int .i64 C.w, .int .i64 C.h, .int .i64 C.ht, vb, vp, vr, vz, .int .i64 C.un, .int .i64 C.ac, .int .i64 C.sp, .int .i64 C.tu, .int .i64 C.ho, .int .i64 C.qu, .int .i64 C.re, .int .i64 C.bu, .bool C.back]

theorem store26 {G h : Hp} {y : Nat} {C : Conf} {D : Conf} {v1 v2 v3 v4 : Value} {a1 a2 a3 a4 : Option Addr} {n1 n2 n3 n4 c1 c2 c3 c4 : Nat} {K : Unit → Hp → Prop} (hb : h y = some (confO D v1 v2 v3 v4)) :
    wpH P_ G (Instr.storeAt 26 (.pointer (some ⟨y, 0, none⟩)) (confA C (.slice a1 n1 c1) (.slice a2 n2 c2) (.slice a3 n3 c3) (.slice a4 n4 c4))) h K = K () (h.set y (confO C (.slice a1 n1 c1) (.slice a2 n2 c2) (.slice a3 n3 c3) (.slice a4 n4 c4))) := by
  conv => lhs; rw [← set_same hb]
  exact st26w

structure Fit0 (C : Conf) : Prop where
  bl : Room C.bl.length 16
  po : Room C.po.length 16
  ro : Room C.ro.length 24
  st : Room C.st.length 40
  bins : ∀ s ∈ C.st, Room s.2.length 8

def Cz : Conf := ⟨0, 0, 0, [], [], [], [], 0, 0, 0, 0, 0, 0, 0, 0, false⟩
abbrev nilV : Value := .slice none 0 0

structure CO (h : Hp) (C : Conf) (u : Value) (h' pb pp pr pz : Hp) (vb vp vr vz : Value) : Prop where
  v : u = confA C vb vp vr vz
  bl : Slc cellC 28 pb vb C.bl
  po : Slc cellC 28 pp vp C.po
  ro : Slc poseC 30 pr vr C.ro
  st : StkO pz vz C.st
  sep : Sep [pb, pp, pr, pz, h] h'

def CopyR (G h : Hp) (C : Conf) (u : Value) (h' : Hp) : Prop := (∃ pb pp pr pz vb vp vr vz, CO h C u h' pb pp pr pz vb vp vr vz) ∧ Dis G h'

set_option maxHeartbeats 2000000 in
theorem copyconf_spec {G h : Hp} {v : Value} {C : Conf} (hv : CV G h v C) (fit : Fit0 C) : HCalls P_ G 28 #[v] h (CopyR G h C) := by
  obtain ⟨ab, cb, ap, cp, ar, cr, az, cs, rfl, ca⟩ := hv
  refine HCalls.assume fun d => enter28 (by simp) ?_
  unfold S28
  simp (disch := first | exact nq rfl | omega) only [bRpY]
  intro x hx gx y hy gy
  have exy := ne_of_set hy
  have s2 : Sep [noHp, noHp.set x (confO C (.slice ab C.bl.length cb) (.slice ap C.po.length cp) (.slice ar C.ro.length cr) (.slice az C.st.length cs)), noHp.set y (confO Cz nilV nilV nilV nilV), h] _ := (((Sep.one (h := h)).new (o := confO C (.slice ab C.bl.length cb) (.slice ap C.po.length cp) (.slice ar C.ro.length cr) (.slice az C.st.length cs)) hx).new (o := confO Cz nilV nilV nilV nilV) hy).swap.none
  have d2 := (d.set (o := confO C (.slice ab C.bl.length cb) (.slice ap C.po.length cp) (.slice ar C.ro.length cr) (.slice az C.st.length cs)) gx).set (o := confO Cz nilV nilV nilV nilV) gy
  unfold Cz at s2 d2
  generalize Hp.set (Hp.set h x _) y _ = h2 at s2 d2 ⊢
  have cx : ∀ j, cellIn G h2 ⟨x, j, none⟩ = _ := fun j => cell_of (look_own (s2.at 1 rfl set_self))
  have ca2 := ca.up (s2.in 3 rfl) d2
  try simp only [bRpY, cx]
  refine append_big cellC (by decide) un22 eocell (by decide) s2 d2 Slc.nil ca2.bl (by simpa [Room] using fit.bl) fun vb pb h3 ob s3 d3 => ?_
  obtain ⟨sb, cpb, rfl, _⟩ := ob.len (by decide)
  rw [List.nil_append] at ob
  have hx3 := s3.at 1 rfl set_self
  try simp (disch := first | exact nq rfl | omega) only [bRpY, Nat.reduceAdd, Nat.reduceMul]
  rw [store1_eq sz22 rfl hx3 (by simp)]
  have s4 : Sep [noHp, noHp.set x (confO C (.slice sb C.bl.length cpb) (.slice ap C.po.length cp) (.slice ar C.ro.length cr) (.slice az C.st.length cs)), pb, noHp.set y (confO ⟨0, 0, 0, [], [], [], [], 0, 0, 0, 0, 0, 0, 0, 0, false⟩ nilV nilV nilV nilV), h] (h3.set x (confO C (.slice sb C.bl.length cpb) (.slice ap C.po.length cp) (.slice ar C.ro.length cr) (.slice az C.st.length cs))) := by
    have := (s3.pick 1 rfl rfl).put (o := confO C (.slice sb C.bl.length cpb) (.slice ap C.po.length cp) (.slice ar C.ro.length cr) (.slice az C.st.length cs)) set_self
    rw [set_set] at this
    exact this.none
  have d4 : Dis G (h3.set x (confO C (.slice sb C.bl.length cpb) (.slice ap C.po.length cp) (.slice ar C.ro.length cr) (.slice az C.st.length cs))) := d3.set gx
  try simp only [bRpY, List.nil_append]
  generalize Hp.set h3 x _ = h4 at s4 d4 ⊢
  refine append_big cellC (by decide) un22 eocell (by decide) s4 d4 Slc.nil (ca.up (s4.in 4 rfl) d4).po (by simpa [Room] using fit.po) fun vp pp h5 op s5 d5 => ?_
  obtain ⟨sp, cpp, rfl, _⟩ := op.len (by decide)
  rw [List.nil_append] at op
  have hx5 := s5.at 1 rfl set_self
  try simp (disch := first | exact nq rfl | omega) only [bRpY, Nat.reduceAdd, Nat.reduceMul]
  rw [store1_eq sz22 rfl hx5 (by simp)]
  have s6 : Sep [noHp, noHp.set x (confO C (.slice sb C.bl.length cpb) (.slice sp C.po.length cpp) (.slice ar C.ro.length cr) (.slice az C.st.length cs)), pp, pb, noHp.set y (confO ⟨0, 0, 0, [], [], [], [], 0, 0, 0, 0, 0, 0, 0, 0, false⟩ nilV nilV nilV nilV), h] (h5.set x (confO C (.slice sb C.bl.length cpb) (.slice sp C.po.length cpp) (.slice ar C.ro.length cr) (.slice az C.st.length cs))) := by
    have := (s5.pick 1 rfl rfl).put (o := confO C (.slice sb C.bl.length cpb) (.slice sp C.po.length cpp) (.slice ar C.ro.length cr) (.slice az C.st.length cs)) set_self
    rw [set_set] at this
    exact this.none
  have d6 : Dis G (h5.set x (confO C (.slice sb C.bl.length cpb) (.slice sp C.po.length cpp) (.slice ar C.ro.length cr) (.slice az C.st.length cs))) := d5.set gx
  try simp only [bRpY, List.nil_append]
  generalize Hp.set h5 x _ = h6 at s6 d6 ⊢
  refine append_big poseC (by decide) un23 eopose (by decide) s6 d6 Slc.nil (ca.up (s6.in 5 rfl) d6).ro (by simpa [Room] using fit.ro) fun vr pr h7 or s7 d7 => ?_
  obtain ⟨sr, cpr, rfl, _⟩ := or.len (by decide)
  rw [List.nil_append] at or
  have hx7 := s7.at 1 rfl set_self
  try simp (disch := first | exact nq rfl | omega) only [bRpY, Nat.reduceAdd, Nat.reduceMul]
  rw [store1_eq sz23 rfl hx7 (by simp)]
  have s8 : Sep [noHp.set x (confO C (.slice sb C.bl.length cpb) (.slice sp C.po.length cpp) (.slice sr C.ro.length cpr) (.slice az C.st.length cs)), pr, pp, pb, noHp.set y (confO ⟨0, 0, 0, [], [], [], [], 0, 0, 0, 0, 0, 0, 0, 0, false⟩ nilV nilV nilV nilV), h] (h7.set x (confO C (.slice sb C.bl.length cpb) (.slice sp C.po.length cpp) (.slice sr C.ro.length cpr) (.slice az C.st.length cs))) := by
    have := (s7.pick 1 rfl rfl).put (o := confO C (.slice sb C.bl.length cpb) (.slice sp C.po.length cpp) (.slice sr C.ro.length cpr) (.slice az C.st.length cs)) set_self
    rw [set_set] at this
    exact this
  have d8 : Dis G (h7.set x (confO C (.slice sb C.bl.length cpb) (.slice sp C.po.length cpp) (.slice sr C.ro.length cpr) (.slice az C.st.length cs))) := d7.set gx
  try simp only [bRpY, List.nil_append]
  generalize Hp.set h7 x _ = h8 at s8 d8 ⊢
  refine (copystacks_spec (ca.up (s8.in 5 rfl) d8) fit.st fit.bins).mono ?_
  rintro vz h9 ⟨pz, oz, s9, d9⟩
  have s9' : Sep [pz, noHp.set x (confO C (.slice sb C.bl.length cpb) (.slice sp C.po.length cpp) (.slice sr C.ro.length cpr) (.slice az C.st.length cs)), pr, pp, pb, noHp.set y (confO ⟨0, 0, 0, [], [], [], [], 0, 0, 0, 0, 0, 0, 0, 0, false⟩ nilV nilV nilV nilV), h] h9 := by
    have := s9.split s8
    simpa using this
  obtain ⟨sz, cpz, rfl⟩ : ∃ sz cpz, vz = .slice sz C.st.length cpz := by
    obtain ⟨raws, _, _, o, _, e, _⟩ := oz
    obtain ⟨a, b, e2, _⟩ := o.len (by decide)
    exact ⟨a, b, by rw [e2, e]⟩
  have hx9 := s9'.at 1 rfl set_self
  try simp (disch := first | exact nq rfl | omega) only [bRpY, Nat.reduceAdd, Nat.reduceMul]
  rw [store1_eq sz24 rfl hx9 (by simp)]
  have s10 : Sep [noHp.set x (confO C (.slice sb C.bl.length cpb) (.slice sp C.po.length cpp) (.slice sr C.ro.length cpr) (.slice sz C.st.length cpz)), pz, pr, pp, pb, noHp.set y (confO ⟨0, 0, 0, [], [], [], [], 0, 0, 0, 0, 0, 0, 0, 0, false⟩ nilV nilV nilV nilV), h] (h9.set x (confO C (.slice sb C.bl.length cpb) (.slice sp C.po.length cpp) (.slice sr C.ro.length cpr) (.slice sz C.st.length cpz))) := by
    have := (s9'.pick 1 rfl rfl).put (o := confO C (.slice sb C.bl.length cpb) (.slice sp C.po.length cpp) (.slice sr C.ro.length cpr) (.slice sz C.st.length cpz)) set_self
    rw [set_set] at this
    exact this
  have d10 : Dis G (h9.set x (confO C (.slice sb C.bl.length cpb) (.slice sp C.po.length cpp) (.slice sr C.ro.length cpr) (.slice sz C.st.length cpz))) := d9.set gx
  try simp only [bRpY]
  generalize Hp.set h9 x _ = h10 at s10 d10 ⊢
  have hy10 := s10.at 5 rfl set_self
  rw [store26 hy10]
  try simp only [bRpY]
  refine ⟨⟨pb, pp, pr, pz, _, _, _, _, rfl, ob, op, or, oz, ?_⟩, d10.set gy⟩
  have s11 := ((s10.pick 5 rfl rfl).put (o := confO C (.slice sb C.bl.length cpb) (.slice sp C.po.length cpp) (.slice sr C.ro.length cpr) (.slice sz C.st.length cpz)) set_self).drop.drop
  have s12 : Sep [pz, pr, pp, pb, h] _ := s11
  exact ((s12.pick 1 rfl rfl).pick 2 rfl rfl).pick 3 rfl rfl

theorem StkO.len {pz : Hp} {v : Value} {st : List (Cell × List Int)} (o : StkO pz v st) : ∃ sz cpz, v = .slice sz st.length cpz := by
  obtain ⟨raws, _, _, o, _, e, _⟩ := o
  obtain ⟨a, b, e2, _⟩ := o.len (by decide)
  exact ⟨a, b, by rw [e2, e]⟩

theorem CO.cv {G h h' h2 pb pp pr pz : Hp} {C : Conf} {u vb vp vr vz : Value} (c : CO h C u h' pb pp pr pz vb vp vr vz) (l : h'.le h2) : CV G h2 u C := by
  obtain ⟨rfl, ob, op, or, oz, s⟩ := c
  obtain ⟨sb, cb, rfl, _⟩ := ob.len (by decide)
  obtain ⟨sp, cp, rfl, _⟩ := op.len (by decide)
  obtain ⟨sr, cr, rfl, _⟩ := or.len (by decide)
  obtain ⟨sz, cz, rfl⟩ := oz.len
  refine ⟨sb, cb, sp, cp, sr, cr, sz, cz, rfl, ob.sees (by decide) ((s.in 0 rfl).trans l), op.sees (by decide) ((s.in 1 rfl).trans l), or.sees (by decide) ((s.in 2 rfl).trans l), ?_⟩
  obtain ⟨raws, pr', pb', o, t, e, rel⟩ := oz
  refine ⟨raws, o.sees (by decide) (((t.in 0 rfl).trans (s.in 3 rfl)).trans l), fun i r x h1 h2 => ?_⟩
  obtain ⟨a, b, c⟩ := rel i r x h1 h2
  exact ⟨a, b, c.sees (by decide) (((t.in 1 rfl).trans (s.in 3 rfl)).trans l)⟩

end Go.Proofs.YtfflipnhffknnaaGreatDoor
end

section
/- A small config; the arguments' law, its heart. -/
set_option linter.unusedSimpArgs false
set_option linter.unusedVariables false
set_option maxRecDepth 100000
namespace Go.Proofs.YtfflipnhffknnaaGreatDoor
open Go Go.HL Go.Proofs.Resv Go.Proofs.Srch

def bRtSm := jq (jq (jq (jq (jq @List.getElem?_cons_succ.{0} @List.getElem?_cons_zero.{0}) (jq @Nat.add_zero @Nat.zero_add)) (jq (jq @Option.some.injEq.{0} @add_mk) (jq @bin_leq @box_new))) (jq (jq (jq @cell_set_self @cells_agg) (jq @cf38 @exists_eq_left'.{1})) (jq (jq @fa26_0 @fa26_1) (jq @fa26_10 @fa26_11)))) (jq (jq (jq (jq @fa26_14 @fa26_5) (jq @fa26_7 @gd_ft)) (jq (jq @gd_tt @ld23) (jq @ld26 @ld3))) (jq (jq (jq @ln23 @opH_sv) (jq @pick_f @pick_t)) (jq (jq @regs0 @resL_nil1) (jq @resL_tmp (jq @retK_ret @upd_eq)))))
structure SmO (C : Conf) : Prop where
  w : C.w ≤ 6
  h : C.h ≤ 6
  bu : C.bu ≤ 4000
  un : C.un ≤ 100
  tu : C.tu ≤ 200
  ho : C.ho ≤ 200
  ro : C.ro.length ≤ 4
  may : MayOk C

set_option maxHeartbeats 4000000 in
theorem small12 {G h : Hp} {v : Value} {C : Conf} (hv : CV G h v C) : HCalls P_ G 21 #[v] h (fun u h' => (∃ b, u = .bool b ∧ (b = true → SmO C)) ∧ h' = h) := by
  have hv0 := hv
  obtain ⟨ab, cb, ap, cp, ar, cr, az, cs, rfl, ca⟩ := hv
  refine HCalls.assume fun d => quietly (enter21 (by simp) ?_)
  unfold S21
  simp only [bRtSm]
  intro x hx gx
  generalize e1 : Hp.set h x _ = h1
  obtain ⟨l1, d1, b1⟩ := boxed e1 hx d gx
  have cx : ∀ j, cellIn G h1 ⟨x, j, none⟩ = _ := fun j => cell_of (look_own b1)
  by_cases g1 : C.w ≤ 6
  rotate_left
  · try simp only [bRtSm, cx, decide_eq_false g1, gd_un]
    exact ⟨⟨false, rfl, by simp⟩, l1⟩
  by_cases g2 : C.h ≤ 6
  rotate_left
  · try simp only [bRtSm, cx, decide_eq_true g1, decide_eq_false g2, gd_un]
    exact ⟨⟨false, rfl, by simp⟩, l1⟩
  by_cases g3 : C.bu ≤ 4000
  rotate_left
  · try simp only [bRtSm, cx, decide_eq_true g1, decide_eq_true g2, decide_eq_false g3, gd_un]
    exact ⟨⟨false, rfl, by simp⟩, l1⟩
  by_cases g4 : C.un ≤ 100
  rotate_left
  · try simp only [bRtSm, cx, decide_eq_true g1, decide_eq_true g2, decide_eq_true g3, decide_eq_false g4, gd_un]
    exact ⟨⟨false, rfl, by simp⟩, l1⟩
  by_cases g5 : C.tu ≤ 200
  rotate_left
  · try simp only [bRtSm, cx, decide_eq_true g1, decide_eq_true g2, decide_eq_true g3, decide_eq_true g4, decide_eq_false g5, gd_un]
    exact ⟨⟨false, rfl, by simp⟩, l1⟩
  by_cases g6 : C.ho ≤ 200
  rotate_left
  · try simp only [bRtSm, cx, decide_eq_true g1, decide_eq_true g2, decide_eq_true g3, decide_eq_true g4, decide_eq_true g5, decide_eq_false g6, gd_un]
    exact ⟨⟨false, rfl, by simp⟩, l1⟩
  by_cases g7 : ((C.ro.length : Nat) : Int) ≤ 4
  rotate_left
  · try simp only [bRtSm, cx, decide_eq_true g1, decide_eq_true g2, decide_eq_true g3, decide_eq_true g4, decide_eq_true g5, decide_eq_true g6, decide_eq_false g7, gd_un]
    exact ⟨⟨false, rfl, by simp⟩, l1⟩
  try simp only [bRtSm, cx, decide_eq_true g1, decide_eq_true g2, decide_eq_true g3, decide_eq_true g4, decide_eq_true g5, decide_eq_true g6, decide_eq_true g7]
  refine (rmay_spec (hv0.up l1 d1)).mono ?_
  rintro _ h1 ⟨⟨b, rfl, hb⟩, rfl⟩
  try simp (disch := first | exact nq rfl | omega) only [bRtSm, Nat.reduceAdd, Nat.reduceMul]
  exact ⟨⟨b, rfl, fun e => ⟨g1, g2, g3, g4, g5, g6, by omega, hb.1 e⟩⟩, l1⟩
end Go.Proofs.YtfflipnhffknnaaGreatDoor
end

section
/- The arguments' law: the walk. -/
set_option linter.unusedSimpArgs false
set_option linter.unusedVariables false
set_option maxRecDepth 100000
namespace Go.Proofs.YtfflipnhffknnaaGreatDoor
open Go Go.HL Go.Proofs.Resv Go.Proofs.Srch

def bRtAr := jq (jq (jq (jq (jq @HL.cond_false @HL.cond_true) (jq @List.getElem?_cons_succ.{0} (jq @List.getElem?_cons_zero.{0} @Nat.add_zero))) (jq (jq @Nat.zero_add @Option.some.injEq.{0}) (jq @add_mk (jq @al30 @bd45_0p)))) (jq (jq (jq @beq_self_eq_true.{0} @bin_mulp) (jq @cf23 (jq @cf25 @cf26))) (jq (jq @cf27 @cf28) (jq @eq_int (jq @eq_intp @ex0p))))) (jq (jq (jq (jq @ex1p @exists_eq_left'.{1}) (jq @fa26_0p (jq @fa26_1 @fa26_1p))) (jq (jq @fa28_0 @fa28_1) (jq @fa30_0 (jq @if_true.{1} @if_true.{0})))) (jq (jq (jq @ld26p @ld3) (jq @ld30p (jq @ld3p @ln40))) (jq (jq @opH_su @opH_sv) (jq @pureW_sv (jq @upd_eq @upd_ne)))))
abbrev confB1 (C : Conf) (ab : Option Addr) (cb : Nat) (ap : Option Addr) (cp : Nat) (ar : Option Addr) (cr : Nat) (az : Option Addr) (cs : Nat) : Obj := .cells #[.int .i64 C.w, .int .i64 C.h, .int .i64 C.ht, .slice ab C.bl.length cb, .slice ap C.po.length cp, .slice ar C.ro.length cr, .slice az C.st.length cs, .int .i64 C.un, .int .i64 C.ac, .int .i64 C.sp, .int .i64 C.tu, .int .i64 C.ho, .int .i64 C.qu, .int .i64 C.re, .int .i64 C.bu, .bool C.back] 26 (0, 0)
abbrev poseB1 (p : Pose) : Obj := .cells #[.int .i64 p.x, .int .i64 p.y, .bool p.d] 30 (0, 0)

theorem TabV.up {G h h' : Hp} {vt : Value} {To : Option Tb} (t : TabV G h vt To) (l : h.le h') (d : Dis G h') : TabV G h' vt To := by
  cases To with
  | none => exact t
  | some T => obtain ⟨tp, e, ts, x⟩ := t; exact ⟨tp, e, ts.up l d, x⟩

set_option maxHeartbeats 4000000 in
theorem args_k3 {G h : Hp} {C : Conf} {ab : Option Addr} {cb : Nat} {ap : Option Addr} {cp : Nat} {ar : Option Addr} {cr : Nat} {az : Option Addr} {cs : Nat} {xc xp xq : Nat} {x y : Pose} {vt : Value} {To : Option Tb} {rb t : Int}
    (st : Steps G) (ca : CA G h C ab cb ap cp ar cr az cs) (fit : Fit0 C) (hro : ∀ p ∈ C.ro, PB p) (sm : SmO C) (tv : TabV G h vt To) (px : PB x) (py : PB y) (hW : findW C To rb x t y false = .no 1)
    (bc : h xc = some (confB1 C ab cb ap cp ar cr az cs)) (bp : h xp = some (poseB1 x)) (bq : h xq = some (poseB1 y)) (d : Dis G h) (r : Rg) (g5 : r 5 = .pointer (some ⟨xc, 0, none⟩)) (g11 : r 11 = vt) (g15 : r 15 = .int .i64 rb) (g16 : r 16 = .int .i64 t) (g17 : r 17 = .pointer (some ⟨xp, 0, none⟩)) (g18 : r 18 = .pointer (some ⟨xq, 0, none⟩)) {K : Exit → Rg → Hp → Prop}
    (H : ∀ r' h', r' 10 = .bool true → K .ret r' h') : S3_k3 G K r h := by
  have mk : MadeOk C := made_may.2 sm.may
  have cc : ∀ k, cellIn G h ⟨xc, k, none⟩ = _ := fun k => cell_of (look_own bc)
  have cx : ∀ k, cellIn G h ⟨xp, k, none⟩ = _ := fun k => cell_of (look_own bp)
  have cy : ∀ k, cellIn G h ⟨xq, k, none⟩ = _ := fun k => cell_of (look_own bq)
  unfold S3_k3
  simp only [bRtAr, g5, cc]
  refine (copyconf_spec ca.cv fit).mono ?_
  rintro u1 h1 ⟨⟨qb, qp, qr, qz, vb, vp, vr, vz, co⟩, d1⟩
  have l1 : h.le h1 := co.sep.in 4 rfl
  refine ⟨l1, ?_⟩
  try simp only [bRtAr, g17, g18, g11, g15, g16, cx, cy]
  refine (find_spec (C := C) (To := To) (p := x) (gp := y) (rb := rb) (t := t) (any := false) (co.cv (Hp.le.refl _)) st hro (by have := fit.st; unfold Room at this; omega) (fun _ => sm.bu) (tv.up l1 d1) px py).mono ?_
  rintro _ h2 ⟨W, ⟨ip, vs, rfl, sl, _, s2, d2⟩, ⟨hno, _⟩ | ⟨_, rfl⟩⟩
  · exact absurd mk hno
  rw [hW] at sl ⊢
  obtain ⟨sa, cap, rfl, _⟩ := sl.len (by decide)
  simp only [outE, outL, List.length_nil]
  try simp only [bRtAr]
  refine (awake12 st).mono ?_
  rintro _ h3 ⟨rfl, rfl⟩
  try simp only [bRtAr]
  exact H _ _ (by simp only [bRtAr])

theorem st_pose {G h : Hp} {b : Nat} {q p : Pose} {K : Unit → Hp → Prop} (hb : h b = some (poseB1 q)) : wpH Tryz.prog G (Instr.storeAt 30 (.pointer (some ⟨b, 0, none⟩)) (poseV p)) h K = K () (h.set b (poseB1 p)) := by
  rw [store_eq (n := 3) sz30 hb rfl (by simp) (by intro v hv; simp [Value.cells] at hv; rcases hv with rfl | rfl | rfl <;> rfl)]
  rfl

set_option maxHeartbeats 4000000 in
theorem args_k2 {G h : Hp} {C : Conf} {ab : Option Addr} {cb : Nat} {ap : Option Addr} {cp : Nat} {ar : Option Addr} {cr : Nat} {az : Option Addr} {cs : Nat} {xc x1 x2 t1 t2 n2 : Nat} {p g : Pose} {which : Int}
    (st : Steps G) (ca : CA G h C ab cb ap cp ar cr az cs) (fit : Fit0 C) (hro : ∀ p ∈ C.ro, PB p) (sm : SmO C) (pp : PB p) (pg : PB g) (bw : Bd which)
    (ts1 : Rv.TSee G h t1 (List.replicate (C.w * C.h).toNat [])) (ts2 : Rv.TSee G h t2 (List.replicate n2 []))
    (bc : h xc = some (confB1 C ab cb ap cp ar cr az cs)) (b1 : h x1 = some (poseB1 p)) (b2 : h x2 = some (poseB1 g)) (d : Dis G h) (r : Rg) (g4 : r 4 = .int .i64 which) (g5 : r 5 = .pointer (some ⟨xc, 0, none⟩)) (g7 : r 7 = .pointer (some ⟨x1, 0, none⟩)) (g8 : r 8 = .pointer (some ⟨x2, 0, none⟩)) (g11 : r 11 = .pointer (some ⟨t1, 0, none⟩)) (g13 : r 13 = .pointer (some ⟨t2, 0, none⟩)) {K : Exit → Rg → Hp → Prop}
    (H : ∀ r' h', r' 10 = .bool true → K .ret r' h') : S3_k2 G K r h := by
  have cc : ∀ k, cellIn G h ⟨xc, k, none⟩ = _ := fun k => cell_of (look_own bc)
  have c1 : ∀ k, cellIn G h ⟨x1, k, none⟩ = _ := fun k => cell_of (look_own b1)
  have c2 : ∀ k, cellIn G h ⟨x2, k, none⟩ = _ := fun k => cell_of (look_own b2)
  unfold S3_k2
  simp only [bRtAr, g7, g8, c1, c2]
  intro xp hxp gxp xq hxq gxq
  have hne : xp ≠ xq := fun e => by subst e; rw [set_self] at hxq; cases hxq
  rw [st_pose (q := ⟨0, 0, false⟩) (by rw [set_other hne, set_self])]
  have hxq' : h xq = none := by rw [set_other (Ne.symm hne)] at hxq; exact hxq
  have np : ∀ {y : Nat} {o : Obj}, h y = some o → y ≠ xp ∧ y ≠ xq := fun e => ⟨(fun e' => by subst e'; rw [hxp] at e; cases e), (fun e' => by subst e'; rw [hxq'] at e; cases e)⟩
  refine ⟨fun y o e => by rw [set_other (np e).1, set_other (np e).2, set_other (np e).1]; exact e, ?_⟩
  rw [st_pose (q := ⟨0, 0, false⟩) (by rw [set_other (Ne.symm hne), set_self])]
  generalize hh : (((h.set xp _).set xq _).set xp (poseB1 p)).set xq (poseB1 g) = h1
  have l1 : h.le h1 := fun y o e => by rw [← hh, set_other (np e).2, set_other (np e).1, set_other (np e).2, set_other (np e).1]; exact e
  have e1 : h1 xp = some (poseB1 p) := by rw [← hh, set_other hne, set_self]
  have e2 : h1 xq = some (poseB1 g) := by rw [← hh, set_self]
  have d1 : Dis G h1 := fun y o e => by
    by_cases y1 : y = xp
    · subst y1; exact gxp
    · by_cases y2 : y = xq
      · subst y2; exact gxq
      · rw [← hh, set_other y2, set_other y1, set_other y2, set_other y1] at e
        exact d y o e
  clear hh
  try simp only [bRtAr, g4]
  refine (place_spec (a := which) (n := 6) bw (by decide) (by decide)).mono ?_
  rintro _ h2 ⟨rfl, rfl⟩
  have hm0 := Int.emod_nonneg which (by decide : (6 : Int) ≠ 0)
  have hm1 := Int.emod_lt_of_pos which (by decide : (0 : Int) < 6)
  generalize which % 6 = m at hm0 hm1 ⊢
  have mk : MadeOk C := made_may.2 sm.may
  have ca2 := ca.up l1 d1
  have hnb : 1 ≤ C.w ∧ 1 ≤ C.h := by
    have hb := sm.may.nums
    unfold numbersB withinB at hb
    simp only [Bool.and_eq_true, decide_eq_true_eq] at hb
    omega
  obtain ⟨hw1, hh1⟩ := hnb
  have bc2 := l1 _ _ bc
  have len1 : (((List.replicate (C.w * C.h).toNat ([] : List Slot)).length : Nat) : Int) = C.w * C.h := by
    rw [List.length_replicate]
    have b1 : 0 ≤ C.w * C.h := Int.mul_nonneg (by omega) (by omega)
    omega
  have cc2 : ∀ k, cellIn G h2 ⟨xc, k, none⟩ = _ := fun k => cell_of (look_own bc2)
  have hw : IntKind.i64.wrap (C.w * C.h) = C.w * C.h := by
    have b1 : 0 ≤ C.w * C.h := Int.mul_nonneg (by omega) (by omega)
    have b2 : C.w * C.h ≤ 6 * 6 := Int.mul_le_mul sm.w sm.h (by omega) (by omega)
    exact wrap_in (by omega) (by omega)
  have tab1 : TabV G h2 (.pointer (some ⟨t1, 0, none⟩)) (some (List.replicate (C.w * C.h).toNat [])) := ⟨t1, rfl, ts1.up l1 d1, goodT_rep0, few_rep0⟩
  obtain rfl | rfl | rfl | rfl | rfl | rfl : m = 0 ∨ m = 1 ∨ m = 2 ∨ m = 3 ∨ m = 4 ∨ m = 5 := by omega
  · try simp only [bRtAr]
    exact args_k3 (To := none) (rb := 0) (t := 0) st ca2 fit hro sm rfl pp pg rfl bc2 e1 e2 d1 _ (by simp (disch := omega) only [upd_ne, g5]) (by simp only [bRtAr, g11, g13]) (by simp (disch := first | exact nq rfl | omega) only [bRtAr]) (by simp (disch := first | exact nq rfl | omega) only [bRtAr]) (by simp (disch := first | exact nq rfl | omega) only [bRtAr]) (by simp (disch := first | exact nq rfl | omega) only [bRtAr]) H
  · try simp only [bRtAr, show ((1 : Int) == 0) = false from rfl, show ((1 : Int) == 1) = true from rfl, g13, g5]
    refine (Rv.cells_spec (ts2.up l1 d1)).mono ?_
    rintro _ h3 ⟨rfl, rfl⟩
    refine ⟨Hp.le.refl _, ?_⟩
    try simp only [bRtAr, cc2]
    rw [hw]
    by_cases hq : (((List.replicate n2 ([] : List Slot)).length : Nat) : Int) = C.w * C.h
    · try simp only [bRtAr, show ((((List.replicate n2 ([] : List Slot)).length : Nat) : Int) == C.w * C.h) = true from by simpa using hq]
      refine (awake12 st).mono ?_
      rintro _ h4 ⟨rfl, rfl⟩
      try simp (disch := first | exact nq rfl | omega) only [bRtAr, Nat.reduceAdd, Nat.reduceMul]
      exact H _ _ (by simp only [bRtAr])
    · try simp only [bRtAr, show ((((List.replicate n2 ([] : List Slot)).length : Nat) : Int) == C.w * C.h) = false from by simpa using hq]
      refine args_k3 (rb := 0) (t := 0) (To := some (List.replicate n2 [])) st ca2 fit hro sm ⟨t2, rfl, ts2.up l1 d1, goodT_rep0, few_rep0⟩ pp pg ?_ bc2 e1 e2 d1 _ (by simp (disch := omega) only [upd_ne, g5]) (by simp (disch := first | exact nq rfl | omega) only [bRtAr, g11, g13]) (by simp (disch := first | exact nq rfl | omega) only [bRtAr]) (by simp (disch := first | exact nq rfl | omega) only [bRtAr]) (by simp (disch := first | exact nq rfl | omega) only [bRtAr]) (by simp (disch := first | exact nq rfl | omega) only [bRtAr]) H
      unfold findW; exact if_pos (.inl hq)
  · try simp only [bRtAr]
    refine args_k3 (rb := -1) (t := 0) (To := some (List.replicate (C.w * C.h).toNat [])) st ca2 fit hro sm tab1 pp pg ?_ bc2 e1 e2 d1 _ (by simp (disch := omega) only [upd_ne, g5]) (by simp (disch := first | exact nq rfl | omega) only [bRtAr, g11, g13]) (by simp only [bRtAr]) (by simp (disch := first | exact nq rfl | omega) only [bRtAr]) (by simp (disch := first | exact nq rfl | omega) only [bRtAr]) (by simp (disch := first | exact nq rfl | omega) only [bRtAr]) H
    unfold findW; exact if_pos (.inr (.inl (by decide)))
  · try simp only [bRtAr]
    refine args_k3 (rb := 0) (t := 4611686018427387904) (To := some (List.replicate (C.w * C.h).toNat [])) st ca2 fit hro sm tab1 pp pg ?_ bc2 e1 e2 d1 _ (by simp (disch := omega) only [upd_ne, g5]) (by simp (disch := first | exact nq rfl | omega) only [bRtAr, g11, g13]) (by simp (disch := first | exact nq rfl | omega) only [bRtAr]) (by simp only [bRtAr]) (by simp (disch := first | exact nq rfl | omega) only [bRtAr]) (by simp (disch := first | exact nq rfl | omega) only [bRtAr]) H
    unfold findW; exact if_pos (.inr (.inr (.inr (.inl (by decide)))))
  · try simp only [bRtAr, show ((4 : Int) == 0) = false from rfl, show ((4 : Int) == 1) = false from rfl, show ((4 : Int) == 2) = false from rfl, show ((4 : Int) == 3) = false from rfl, show ((4 : Int) == 4) = true from rfl]
    rw [store1_eq sz3 rfl e1 (by simp)]
    have e1' : (h2.set xp (poseB1 { p with x := -1 })) xp = some (poseB1 { p with x := -1 }) := set_self
    have l2 : h.le (h2.set xp (poseB1 { p with x := -1 })) := fun y o e => by rw [set_other (np e).1]; exact l1 _ _ e
    have d2 : Dis G (h2.set xp (poseB1 { p with x := -1 })) := d1.set gxp
    have e2' : (h2.set xp (poseB1 { p with x := -1 })) xq = some (poseB1 g) := by rw [set_other (Ne.symm hne)]; exact e2
    refine args_k3 (x := { p with x := -1 }) (y := g) (rb := 0) (t := 0) (To := some (List.replicate (C.w * C.h).toNat [])) st (ca.up l2 d2) fit hro sm ⟨t1, rfl, ts1.up l2 d2, goodT_rep0, few_rep0⟩ ⟨⟨by show -9223372036854775808 ≤ (-1 : Int); decide, by show (-1 : Int) ≤ 9223372036854775807; decide⟩, pp.2⟩ pg ?_ (l2 _ _ bc) e1' e2' d2 _ (by simp (disch := omega) only [upd_ne, g5]) (by simp (disch := first | exact nq rfl | omega) only [bRtAr, g11, g13]) (by simp (disch := first | exact nq rfl | omega) only [bRtAr]) (by simp (disch := first | exact nq rfl | omega) only [bRtAr]) (by simp (disch := first | exact nq rfl | omega) only [bRtAr]) (by simp (disch := first | exact nq rfl | omega) only [bRtAr]) H
    have hf : fitsW (wC C) (kC C) (f3C C) { p with x := -1 } = false := by
      refine Bool.eq_false_iff.2 fun hf => ?_
      have := (inW_iff.1 (fits_in hf)).1
      have h9 : (0 : Int) ≤ -1 := this
      omega
    unfold findW; exact if_pos (.inr (.inr (.inr (.inr (.inl hf)))))
  · try simp only [bRtAr, show ((5 : Int) == 0) = false from rfl, show ((5 : Int) == 1) = false from rfl, show ((5 : Int) == 2) = false from rfl, show ((5 : Int) == 3) = false from rfl, show ((5 : Int) == 4) = false from rfl, show ((5 : Int) == 5) = true from rfl, g5]
    try simp only [bRtAr, cc2]
    rw [store1_eq sz3 rfl e2 (by simp)]
    have e2' : (h2.set xq (poseB1 { g with y := C.h })) xq = some (poseB1 { g with y := C.h }) := set_self
    have l2 : h.le (h2.set xq (poseB1 { g with y := C.h })) := fun y o e => by rw [set_other (np e).2]; exact l1 _ _ e
    have d2 : Dis G (h2.set xq (poseB1 { g with y := C.h })) := d1.set (d1 _ _ e2)
    have e1' : (h2.set xq (poseB1 { g with y := C.h })) xp = some (poseB1 p) := by rw [set_other hne]; exact e1
    refine args_k3 (x := p) (y := { g with y := C.h }) (rb := 0) (t := 0) (To := some (List.replicate (C.w * C.h).toNat [])) st (ca.up l2 d2) fit hro sm ⟨t1, rfl, ts1.up l2 d2, goodT_rep0, few_rep0⟩ pp ⟨pg.1, ⟨by show -9223372036854775808 ≤ C.h; omega, by have := sm.h; show C.h ≤ 9223372036854775807; omega⟩⟩ ?_ (l2 _ _ bc) e1' e2' d2 _ (by simp (disch := omega) only [upd_ne, g5]) (by simp (disch := first | exact nq rfl | omega) only [bRtAr, g11, g13]) (by simp (disch := first | exact nq rfl | omega) only [bRtAr]) (by simp (disch := first | exact nq rfl | omega) only [bRtAr]) (by simp (disch := first | exact nq rfl | omega) only [bRtAr]) (by simp (disch := first | exact nq rfl | omega) only [bRtAr]) H
    have hf : aimB C { g with y := C.h } false = false := by
      unfold aimB
      rw [if_neg (by decide)]
      refine Bool.eq_false_iff.2 fun hf => ?_
      have := inW_iff.1 (fits_in hf)
      unfold kC at this
      simp only at this
      omega
    unfold findW; exact if_pos (.inr (.inr (.inr (.inr (.inr hf)))))
end Go.Proofs.YtfflipnhffknnaaGreatDoor
end

section
/- The arguments' law: the walk. -/
set_option linter.unusedSimpArgs false
set_option linter.unusedVariables false
set_option maxRecDepth 100000
namespace Go.Proofs.YtfflipnhffknnaaGreatDoor
open Go Go.HL Go.Proofs.Resv Go.Proofs.Srch

def bRtArw := jq (jq (jq (jq (jq @Bool.not_false @Bool.not_true) (jq @HL.cond_false (jq @HL.cond_true @List.getElem?_cons_succ.{0}))) (jq (jq @List.getElem?_cons_zero.{0} (jq @Nat.add_zero @Nat.zero_add)) (jq @Option.some.injEq.{0} (jq @add_mk @bin_add)))) (jq (jq (jq @bin_mul (jq @bne_self_eq_false.{0} @box_new)) (jq @cells_agg (jq @cf21 @cf22))) (jq (jq @cf23 (jq @cf24 @cf25)) (jq @ex0 (jq @ex1 @exists_eq_left'.{1}))))) (jq (jq (jq (jq @fa26_0 @fa26_1) (jq @gd_ff (jq @gd_tf @ld26))) (jq (jq @ld3 (jq @ld30 @ne_int)) (jq @opH_sv (jq @pick_f @pick_t)))) (jq (jq (jq @regs0 (jq @regs1 @regs2)) (jq @regs3 (jq @regs4 @resL_nil1))) (jq (jq @resL_tmp (jq @retK_ret @un_not)) (jq @upd_eq (jq @upd_ne @wrap_in)))))
set_option maxHeartbeats 4000000 in
theorem args_walk {G : Hp} {v : Value} {C : Conf} {p g : Pose} {cells which : Int} (st : Steps G) (hv : CV G noHp v C) (fit : Fit0 C) (hro : ∀ p ∈ C.ro, PB p) (pp : PB p) (pg : PB g) (bc : Bd cells) (bw : Bd which) :
    HCalls P_ G 3 #[v, .int .i64 cells, poseV p, poseV g, .int .i64 which] noHp (fun u _ => u = .bool true) := by
  have hv0 := hv
  obtain ⟨ab, cb, ap, cp, ar, cr, az, cs, rfl, ca⟩ := hv
  refine HCalls.assume fun d => enter3 (by simp) ?_
  unfold S3
  simp only [bRtArw]
  intro xc hxc gxc x1 hx1 gx1 x2 hx2 gx2
  generalize e1 : Hp.set noHp xc _ = h1 at *
  obtain ⟨l1, d1, bc1⟩ := boxed e1 hxc d gxc
  generalize e2 : Hp.set h1 x1 _ = h2 at *
  obtain ⟨l2, d2, b12⟩ := boxed e2 hx1 d1 gx1
  generalize e3 : Hp.set h2 x2 _ = h3 at *
  obtain ⟨l3, d3, b23⟩ := boxed e3 hx2 d2 gx2
  have L := l1.trans (l2.trans l3)
  have bc3 := l3 _ _ (l2 _ _ bc1)
  have b13 := l3 _ _ b12
  have cc : ∀ k, cellIn G h3 ⟨xc, k, none⟩ = _ := fun k => cell_of (look_own bc3)
  have c1 : ∀ k, cellIn G h3 ⟨x1, k, none⟩ = _ := fun k => cell_of (look_own b13)
  have c2 : ∀ k, cellIn G h3 ⟨x2, k, none⟩ = _ := fun k => cell_of (look_own b23)
  have ca3 := ca.up L d3
  have hbl : C.bl.length ≤ 100000000000000 := by have := fit.bl; unfold Room at this; omega
  try simp only [bRtArw, cc]
  refine (small12 ca3.cv).mono ?_
  rintro _ h4 ⟨⟨b, rfl, hb⟩, rfl⟩
  have aw : ∀ {K : VK}, (∀ h', K (.bool true) h') → HCalls P_ G 23 #[] h4 K := fun hK => (awake12 st).mono fun u h' e => by rw [e.1]; exact hK h'
  cases b with
  | false =>
    try simp only [bRtArw, gd_un]
    exact aw fun h' => by simp only [bRtArw]
  | true =>
  have sm := hb rfl
  try simp only [bRtArw, cc, c1]
  refine (rfits_spec ca3.cv hbl).mono ?_
  rintro _ h5 ⟨rfl, rfl⟩
  cases fitsB C p with
  | false =>
    try simp only [bRtArw, gd_un]
    exact aw fun h' => by simp only [bRtArw]
  | true =>
  try simp only [bRtArw, cc, c2]
  refine (rfits_spec ca3.cv hbl).mono ?_
  rintro _ h6 ⟨rfl, rfl⟩
  cases fitsB C g with
  | false =>
    try simp only [bRtArw]
    exact aw fun h' => by simp only [bRtArw]
  | true =>
  try simp only [bRtArw]
  unfold S3_k1
  try simp (disch := first | exact nq rfl | omega) only [bRtArw, cc]
  have hnb : 1 ≤ C.w ∧ 1 ≤ C.h := by
    have hb := sm.may.nums
    unfold numbersB withinB at hb
    simp only [Bool.and_eq_true, decide_eq_true_eq] at hb
    omega
  obtain ⟨hw1, hh1⟩ := hnb
  have b2 : C.w * C.h ≤ 6 * 6 := Int.mul_le_mul sm.w sm.h (by omega) (by omega)
  have b1 : 1 * 1 ≤ C.w * C.h := Int.mul_le_mul hw1 hh1 (by omega) (by omega)
  have hwr : IntKind.i64.wrap (C.w * C.h) = (((C.w * C.h).toNat : Nat) : Int) := by rw [wrap_in (by omega) (by omega)]; omega
  rw [hwr]
  refine (Rv.new_spec (n := (C.w * C.h).toNat) (by omega) (by omega)).mono ?_
  rintro _ h7 ⟨ta, t1, rfl, tab1, s7, d7⟩
  try simp only [bRtArw]
  refine (place_spec (a := cells) (n := 256) bc (by decide) (by decide)).mono ?_
  rintro _ h8 ⟨rfl, rfl⟩
  have hm0 := Int.emod_nonneg cells (by decide : (256 : Int) ≠ 0)
  have hm1 := Int.emod_lt_of_pos cells (by decide : (0 : Int) < 256)
  generalize cells % 256 = m at hm0 hm1 ⊢
  try simp (disch := first | exact nq rfl | omega) only [bRtArw]
  have hwr2 : IntKind.i64.wrap (1 + m) = (((1 + m).toNat : Nat) : Int) := by rw [wrap_in (by omega) (by omega)]; omega
  have hm2 : (1 + m : Int) = (((1 + m).toNat : Nat) : Int) := by omega
  try rw [hwr2]
  try rw [hm2]
  refine (Rv.new_spec (n := (1 + m).toNat) (by omega) (by omega)).mono ?_
  rintro _ h9 ⟨tb, t2, rfl, tab2, s9, d9⟩
  try simp only [bRtArw]
  have l9 := (s7.in 1 rfl).trans (s9.in 1 rfl)
  refine args_k2 (n2 := (1 + m).toNat) (p := p) (g := g) (which := which) st (ca3.up l9 d9) fit hro sm pp pg bw (tab1.see ((s7.in 0 rfl).trans (s9.in 1 rfl))) (tab2.see (s9.in 0 rfl)) (l9 _ _ bc3) (l9 _ _ b13) (l9 _ _ b23) d9 _ (by simp (disch := first | exact nq rfl | omega) only [bRtArw]) (by simp (disch := first | exact nq rfl | omega) only [bRtArw]) (by simp (disch := first | exact nq rfl | omega) only [bRtArw]) (by simp (disch := first | exact nq rfl | omega) only [bRtArw]) (by simp (disch := first | exact nq rfl | omega) only [bRtArw]) (by simp (disch := first | exact nq rfl | omega) only [bRtArw]) ?_
  intro r' h' e
  try simp only [bRtArw, e]
end Go.Proofs.YtfflipnhffknnaaGreatDoor
end

section
/- What the row's premise gives: the package's steps as they lie. -/
set_option linter.unusedSimpArgs false
set_option linter.unusedVariables false
set_option maxRecDepth 100000
namespace Go.Proofs.YtfflipnhffknnaaGreatDoor
open Go Go.HL Go.ChangeShapes Go.WideShapes Go.RowKit

theorem own_knob : ownKnob P_.godebug = none := by kernel_rfl
theorem laid_out : laidOutB P_ = true := by kernel_rfl
theorem gSteps : P_.globalNamed "skep/grid.steps" = some 0 := by kernel_rfl
theorem tSteps : (P_.globals[0]?).map (·.type) = some 245 := by kernel_rfl

abbrev laidL : List (String × DataW Unit) := [("skep/grid.steps", Rows.laid_skep_grid_steps)]

theorem door_met (os : Os) (args : Array Value) : laidMetH P_ laidL ((World.doorLaid P_ 400 os).forCall (fun _ _ => 0) ⟨#[], args, []⟩).memory :=
  laidMetH_of_parts3 (fuel := 8) (laidMet_of_run' 8 (by kernel_rfl) (by kernel_rfl)) (by kernel_rfl) (by kernel_rfl)

theorem dec_fieldsD {H : Type} {enc : TypeId × Value → H} {P : Program} {w : World} {base : Nat} {spare : Nat → Bool} {held : Bool} {e : TypeId} {fuel : Nat} {cs : List Value} {y : DataW H × List MemPlace} {tos : List (TypeId × Nat)} (ht : structFields P e = some tos)
    (h : DataW.trod enc P w base spare held fuel e cs = some y) : cs.length = P.cellsOf e ∧ ∃ (xs : List (DataW H × List MemPlace)) (m : Nat), y = (.agg (xs.map (·.1)), xs.flatMap (·.2)) ∧ xs.length = tos.length ∧ ∀ (i : Nat) (t o : Nat), tos[i]? = some (t, o) → DataW.trod enc P w base spare held m t ((cs.drop o).take (P.cellsOf t)) = xs[i]? := by
  unfold structFields at ht
  split at ht
  · rename_i fs hfs
    obtain ⟨xs, n, _, h0, h1, h2, h3⟩ := DataW.trod_struct hfs h
    simp only [Option.some.injEq] at ht
    subst ht
    refine ⟨h1, xs, n, h0, by simp [h2], fun i t o hi => ?_⟩
    rw [List.getElem?_map, Array.getElem?_toList] at hi
    cases q : fs[i]? with
    | none => rw [q] at hi; cases hi
    | some f =>
      rw [q] at hi
      simp only [Option.map_some, Option.some.injEq, Prod.mk.injEq] at hi
      obtain ⟨rfl, rfl⟩ := hi
      exact h3 i f q
  · cases ht

theorem un3i : P_.underlying 3 = some (.int .i64) := by kernel_rfl
theorem c3 : P_.cellsOf 3 = 1 := by kernel_rfl
theorem c28 : P_.cellsOf 28 = 2 := by kernel_rfl
theorem c81 : P_.cellsOf 245 = 8 := by kernel_rfl
theorem sf28 : structFields P_ 28 = some [(3, 0), (3, 1)] := by kernel_rfl

theorem step_dec {H : Type} {enc : TypeId × Value → H} {w : World} {base : Nat} {spare : Nat → Bool} {held : Bool} {m : Nat} {cs : List Value} {x : DataW H × List MemPlace} {a b : Int}
    (h : DataW.trod enc P_ w base spare held m 28 cs = some x) (e : x.1 = .agg [.lit (.int .i64 a), .lit (.int .i64 b)]) : cs = [.int .i64 a, .int .i64 b] := by
  obtain ⟨hl, xs, n, rfl, hxl, d⟩ := dec_fieldsD sf28 h
  rw [c28] at hl
  match cs, hl, xs, hxl with
  | [v0, v1], _, [x0, x1], _ =>
  have h0 := d 0 3 0 rfl
  have h1 := d 1 3 1 rfl
  rw [c3] at h0 h1
  obtain ⟨k0, e0, f0, _⟩ := DataW.trod_int un3i (show DataW.trod _ _ _ _ _ _ n 3 _ = some x0 from h0)
  obtain ⟨k1, e1, f1, _⟩ := DataW.trod_int un3i (show DataW.trod _ _ _ _ _ _ n 3 _ = some x1 from h1)
  simp at e0 e1
  subst e0 e1 f0 f1
  simp at e
  obtain ⟨rfl, rfl⟩ := e
  rfl

theorem len8 {α : Type} {L : List α} (h : L.length = 8) : ∃ a b c d e f g i, L = [a, b, c, d, e, f, g, i] := by
  match L, h with
  | [a, b, c, d, e, f, g, i], _ => exact ⟨a, b, c, d, e, f, g, i, rfl⟩

theorem of_laid {W : World} (h : laidMetH P_ laidL W) : Steps (ground W) := by
  rw [MakeChecks.laidMetH_plain _ _ _ (by kernel_rfl)] at h
  obtain ⟨ps, ⟨g0, t0, cs0, f0, p0, q0, hg0, ht0, hv0, hd0, _, _⟩, _, _⟩ := h
  obtain rfl := Option.some.inj (gSteps.symm.trans hg0)
  obtain rfl := Option.some.inj (tSteps.symm.trans ht0)
  obtain ⟨xs, m, rfl, hx, hl, hxl, hel⟩ := DataW.trod_array un81 hd0
  rw [c81] at hl
  rw [c28] at hel
  simp only [Prod.mk.injEq] at hx
  obtain ⟨hx, _⟩ := hx
  have hobj : ∃ e f, W.heap[0]? = some (.cells cs0 e f) := by
    unfold World.var? at hv0
    rw [gSteps] at hv0
    simp only [Option.bind_some] at hv0
    split at hv0
    · rename_i c e f hc
      cases hv0
      exact ⟨e, f, hc⟩
    · cases hv0
  obtain ⟨e, f, hobj⟩ := hobj
  refine ⟨e, f, ?_⟩
  show W.heap[0]? = _
  rw [hobj]
  match xs, hxl with
  | [x0, x1, x2, x3], _ =>
  have h0 := hel 0 (by decide)
  have h1 := hel 1 (by decide)
  have h2 := hel 2 (by decide)
  have h3 := hel 3 (by decide)
  unfold Rows.laid_skep_grid_steps at hx
  simp only [List.map_cons, List.map_nil, DataW.agg.injEq, List.cons.injEq] at hx
  have k0 := step_dec (show DataW.trod _ _ _ _ _ _ m 28 _ = some x0 from h0) hx.1.symm
  have k1 := step_dec (show DataW.trod _ _ _ _ _ _ m 28 _ = some x1 from h1) hx.2.1.symm
  have k2 := step_dec (show DataW.trod _ _ _ _ _ _ m 28 _ = some x2 from h2) hx.2.2.1.symm
  have k3 := step_dec (show DataW.trod _ _ _ _ _ _ m 28 _ = some x3 from h3) hx.2.2.2.1.symm
  obtain ⟨cs⟩ := cs0
  obtain ⟨a0, a1, a2, a3, a4, a5, a6, a7, rfl⟩ := len8 hl
  simp at k0 k1 k2 k3
  obtain ⟨rfl, rfl⟩ := k0
  obtain ⟨rfl, rfl⟩ := k1
  obtain ⟨rfl, rfl⟩ := k2
  obtain ⟨rfl, rfl⟩ := k3
  rfl

end Go.Proofs.YtfflipnhffknnaaGreatDoor
end

section
/- A config that comes in as an argument. -/
set_option linter.unusedSimpArgs false
set_option linter.unusedVariables false
set_option maxRecDepth 100000
namespace Go.Proofs.YtfflipnhffknnaaGreatDoor
open Go Go.HL Go.ChangeShapes Go.WideShapes Go.RowKit

theorem light_of {H : Type} {P : Program} {ts : List TypeId} {ds : List (DataW H)} (h : (DataW.weightsEach P ts ds).all (· ≤ reachBytes) = true) {j : Nat} {t : TypeId} {d : DataW H} (ht : ts[j]? = some t) (hd : ds[j]? = some d) : Light P t d := fun n hn => by
  simpa using List.all_eq_true.1 h n (DataW.weights_mem_each ht hd n hn)

theorem okWide_structF {P : Program} {w : World} {r : Reach} {base : Nat} {t : TypeId} {v : Value} {tos : List (TypeId × Nat)} (ht : structFields P t = some tos) (hv : Value.okWide P w r base t v) : ∃ cs : Array Value, v = .agg cs := by
  unfold structFields at ht
  split at ht
  · rename_i fs hfs
    obtain ⟨cs, rfl, _⟩ := okWide_struct hfs hv
    exact ⟨cs, rfl⟩
  · cases ht

theorem sf30 : structFields P_ 30 = some [(28, 0), (4, 2)] := by kernel_rfl
theorem sf95 : structFields P_ 234 = some [(28, 0), (168, 2)] := by kernel_rfl
theorem sf26 : structFields P_ 26 = some [(3, 0), (3, 1), (3, 2), (22, 3), (22, 4), (23, 5), (24, 6), (3, 7), (3, 8), (3, 9), (3, 10), (3, 11), (3, 12), (3, 13), (3, 14), (4, 15)] := by kernel_rfl
theorem un4b : P_.underlying 4 = some .bool := by kernel_rfl
theorem c4 : P_.cellsOf 4 = 1 := by kernel_rfl
theorem c22 : P_.cellsOf 22 = 1 := by kernel_rfl
theorem c23 : P_.cellsOf 23 = 1 := by kernel_rfl
theorem c24 : P_.cellsOf 24 = 1 := by kernel_rfl
theorem c26 : P_.cellsOf 26 = 16 := by kernel_rfl
theorem c30 : P_.cellsOf 30 = 3 := by kernel_rfl
theorem c57 : P_.cellsOf 168 = 1 := by kernel_rfl
theorem c95 : P_.cellsOf 234 = 3 := by kernel_rfl

section
variable {H : Type} {enc : TypeId × Value → H} {w : World} {base : Nat} {spare : Nat → Bool} {held : Bool}

theorem len2 {α : Type} {L : List α} (h : L.length = 2) : ∃ a b, L = [a, b] := by
  match L, h with
  | [a, b], _ => exact ⟨a, b, rfl⟩
theorem len3 {α : Type} {L : List α} (h : L.length = 3) : ∃ a b c, L = [a, b, c] := by
  match L, h with
  | [a, b, c], _ => exact ⟨a, b, c, rfl⟩

theorem cell_dec {m : Nat} {cs : List Value} {y : DataW H × List MemPlace} (h : DataW.trod enc P_ w base spare held m 28 cs = some y) : ∃ c : Cell, cs = cellC.enc c ∧ Bd c.1 ∧ Bd c.2 := by
  obtain ⟨hl, d⟩ := dec_fields sf28 h
  rw [c28] at hl
  obtain ⟨v0, v1, rfl⟩ := len2 hl
  obtain ⟨m0, z0, e0⟩ := d 0 _ _ rfl
  obtain ⟨m1, z1, e1⟩ := d 1 _ _ rfl
  rw [c3] at e0 e1
  obtain ⟨x0, f0, b0⟩ := dec_int un3i e0
  obtain ⟨x1, f1, b1⟩ := dec_int un3i e1
  simp at f0 f1
  subst f0 f1
  exact ⟨(x0, x1), rfl, b0, b1⟩
theorem pose_dec {m : Nat} {cs : List Value} {y : DataW H × List MemPlace} (h : DataW.trod enc P_ w base spare held m 30 cs = some y) : ∃ p : Pose, cs = poseC.enc p ∧ PB p := by
  obtain ⟨hl, d⟩ := dec_fields sf30 h
  rw [c30] at hl
  obtain ⟨v0, v1, v2, rfl⟩ := len3 hl
  obtain ⟨m0, z0, e0⟩ := d 0 _ _ rfl
  obtain ⟨m1, z1, e1⟩ := d 1 _ _ rfl
  rw [c28] at e0
  rw [c4] at e1
  obtain ⟨c, f0, b0⟩ := cell_dec e0
  obtain ⟨b, f1⟩ := dec_bool un4b e1
  simp [cellC] at f0 f1
  obtain ⟨rfl, rfl⟩ := f0
  subst f1
  exact ⟨⟨c.1, c.2, b⟩, rfl, b0⟩

def RawOk (G : Hp) (r : Raw) : Prop := ∃ L : List Int, r.n = L.length ∧ Room L.length 8 ∧ ∀ h, Dis G h → Sees icC G h (.slice r.a r.n r.c) L

theorem room_of {n bytes : Nat} (h : n * bytes ≤ reachBytes) (hb : bytes ≤ 40) : Room n bytes := by
  unfold Room
  rw [show reachBytes = 140737488351232 from rfl] at h
  rw [Nat.add_mul, Nat.mul_assoc]
  have : 192 * bytes ≤ 7680 := by omega
  omega

theorem raw_dec {m : Nat} {cs : List Value} {y : DataW H × List MemPlace} (h : DataW.trod enc P_ w base spare held m 234 cs = some y) (hw : Light P_ 234 y.1) : ∃ r : Raw, cs = rawC.enc r ∧ RawOk (ground w) r := by
  obtain ⟨hl, d⟩ := dec_fieldsW sf95 h hw
  rw [c95] at hl
  obtain ⟨v0, v1, v2, rfl⟩ := len3 hl
  obtain ⟨m0, z0, e0, _⟩ := d 0 _ _ rfl
  obtain ⟨m1, z1, e1, w1⟩ := d 1 _ _ rfl
  rw [c28] at e0
  rw [c57] at e1
  obtain ⟨c, f0, b0⟩ := cell_dec e0
  obtain ⟨a, n, cap, L, f1, hL, hs, hg, _⟩ := dec_sliceW icC (fun _ => True) un168 c3 (by decide) (fun _ _ _ h _ => let ⟨x, e, _⟩ := dec_int un3i h; ⟨x, e, trivial⟩) e1 w1
  simp [cellC] at f0 f1
  obtain ⟨rfl, rfl⟩ := f0
  subst f1
  rw [show P_.bytesOf 3 = 8 by kernel_rfl] at hs
  subst hL
  exact ⟨⟨c.1, c.2, a, L.length, cap⟩, rfl, L, rfl, room_of hs (by decide), hg⟩

theorem len16 {α : Type} {L : List α} (h : L.length = 16) : ∃ a b c d e f g i j k l m n o p q, L = [a, b, c, d, e, f, g, i, j, k, l, m, n, o, p, q] := by
  match L, h with
  | [a, b, c, d, e, f, g, i, j, k, l, m, n, o, p, q], _ => exact ⟨a, b, c, d, e, f, g, i, j, k, l, m, n, o, p, q, rfl⟩

theorem conf_dec {m : Nat} {cs : List Value} {y : DataW H × List MemPlace} (h : DataW.trod enc P_ w base spare held m 26 cs = some y) (hw : Light P_ 26 y.1) :
    ∃ C : Conf, (∀ h, Dis (ground w) h → CV (ground w) h (.agg cs.toArray) C) ∧ Fit0 C ∧ ∀ p ∈ C.ro, PB p := by
  obtain ⟨hl, d⟩ := dec_fieldsW sf26 h hw
  rw [c26] at hl
  obtain ⟨v0, v1, v2, v3, v4, v5, v6, v7, v8, v9, v10, v11, v12, v13, v14, v15, rfl⟩ := len16 hl
  obtain ⟨_, _, e0, _⟩ := d 0 _ _ rfl
  obtain ⟨_, _, e1, _⟩ := d 1 _ _ rfl
  obtain ⟨_, _, e2, _⟩ := d 2 _ _ rfl
  obtain ⟨_, _, e3, w3⟩ := d 3 _ _ rfl
  obtain ⟨_, _, e4, w4⟩ := d 4 _ _ rfl
  obtain ⟨_, _, e5, w5⟩ := d 5 _ _ rfl
  obtain ⟨_, _, e6, w6⟩ := d 6 _ _ rfl
  obtain ⟨_, _, e7, _⟩ := d 7 _ _ rfl
  obtain ⟨_, _, e8, _⟩ := d 8 _ _ rfl
  obtain ⟨_, _, e9, _⟩ := d 9 _ _ rfl
  obtain ⟨_, _, e10, _⟩ := d 10 _ _ rfl
  obtain ⟨_, _, e11, _⟩ := d 11 _ _ rfl
  obtain ⟨_, _, e12, _⟩ := d 12 _ _ rfl
  obtain ⟨_, _, e13, _⟩ := d 13 _ _ rfl
  obtain ⟨_, _, e14, _⟩ := d 14 _ _ rfl
  obtain ⟨_, _, e15, _⟩ := d 15 _ _ rfl
  simp only [c3, c4, c22, c23, c24] at e0 e1 e2 e3 e4 e5 e6 e7 e8 e9 e10 e11 e12 e13 e14 e15
  obtain ⟨x0, f0, _⟩ := dec_int un3i e0
  obtain ⟨x1, f1, _⟩ := dec_int un3i e1
  obtain ⟨x2, f2, _⟩ := dec_int un3i e2
  obtain ⟨ab, nb, cb, B, f3, hB, sB, gB, _⟩ := dec_sliceW cellC (fun _ => True) un22 c28 (by decide) (fun _ _ _ h _ => let ⟨x, e, _⟩ := cell_dec h; ⟨x, e, trivial⟩) e3 w3
  obtain ⟨ap, np, cp, PO, f4, hP, sP, gP, _⟩ := dec_sliceW cellC (fun _ => True) un22 c28 (by decide) (fun _ _ _ h _ => let ⟨x, e, _⟩ := cell_dec h; ⟨x, e, trivial⟩) e4 w4
  obtain ⟨ar, nr, cr, R, f5, hR, sR, gR, qR⟩ := dec_sliceW poseC PB un23 c30 (by decide) (fun _ _ _ h _ => pose_dec h) e5 w5
  obtain ⟨az, nz, cz, Z, f6, hZ, sZ, gZ, qZ⟩ := dec_sliceW rawC (RawOk (ground w)) un24 c95 (by decide) (fun _ _ _ h hw => raw_dec h hw) e6 w6
  obtain ⟨x7, f7, _⟩ := dec_int un3i e7
  obtain ⟨x8, f8, _⟩ := dec_int un3i e8
  obtain ⟨x9, f9, _⟩ := dec_int un3i e9
  obtain ⟨x10, f10, _⟩ := dec_int un3i e10
  obtain ⟨x11, f11, _⟩ := dec_int un3i e11
  obtain ⟨x12, f12, _⟩ := dec_int un3i e12
  obtain ⟨x13, f13, _⟩ := dec_int un3i e13
  obtain ⟨x14, f14, _⟩ := dec_int un3i e14
  obtain ⟨x15, f15⟩ := dec_bool un4b e15
  simp at f0 f1 f2 f3 f4 f5 f6 f7 f8 f9 f10 f11 f12 f13 f14 f15
  subst f0 f1 f2 f3 f4 f5 f6 f7 f8 f9 f10 f11 f12 f13 f14 f15
  subst hB hP hR hZ
  rw [show P_.bytesOf 28 = 16 by kernel_rfl] at sB sP
  rw [show P_.bytesOf 30 = 24 by kernel_rfl] at sR
  rw [show P_.bytesOf 234 = 40 by kernel_rfl] at sZ
  obtain ⟨S, hS, qS⟩ := list_of (Q := fun i (s : Cell × List Int) => ∀ r, Z[i]? = some r → (r.x, r.y) = s.1 ∧ r.n = s.2.length ∧ Room s.2.length 8 ∧ ∀ h, Dis (ground w) h → Sees icC (ground w) h (.slice r.a s.2.length r.c) s.2) Z.length (fun i hi => by
    obtain ⟨L, e, rm, se⟩ := qZ _ (List.getElem_mem hi)
    refine ⟨((Z[i].x, Z[i].y), L), fun r hr => ?_⟩
    rw [List.getElem?_eq_getElem hi] at hr
    cases hr
    exact ⟨rfl, e, rm, fun h d => by rw [← e]; exact se h d⟩)
  refine ⟨⟨x0, x1, x2, B, PO, R, S, x7, x8, x9, x10, x11, x12, x13, x14, x15⟩, fun h d => ⟨ab, cb, ap, cp, ar, cr, az, cz, by simp only [confV, hS], gB h d, gP h d, gR h d, Z, by show Sees rawC _ h (.slice az S.length cz) Z; rw [hS]; exact gZ h d, fun i r s hr hs => ?_⟩, ⟨room_of sB (by decide), room_of sP (by decide), room_of sR (by decide), by show Room S.length 40; rw [hS]; exact room_of sZ (by decide), fun s hs => ?_⟩, qR⟩
  · obtain ⟨a, b, c, e⟩ := qS i s hs r hr
    exact ⟨a, b, e h d⟩
  · obtain ⟨i, hi⟩ := List.getElem?_of_mem hs
    have hi2 : i < Z.length := by rw [← hS]; exact (List.getElem?_eq_some_iff.1 hi).1
    exact (qS i s hi _ (List.getElem?_eq_getElem hi2)).2.2.1

theorem pose_arg {r : Reach} {b0 : Nat} {v : Value} {d : DataW H} {ps : List MemPlace} (k : Value.okWide P_ w r b0 30 v) (h : DataW.Trod enc P_ w base spare held 30 v d ps) : ∃ p : Pose, v = poseV p ∧ PB p := by
  obtain ⟨cs, rfl⟩ := okWide_structF sf30 k
  obtain ⟨m, h⟩ := h
  obtain ⟨c, e, b⟩ := pose_dec (cs := cs.toList) h
  exact ⟨c, by rw [← Array.toArray_toList (xs := cs), e]; rfl, b⟩
theorem int_arg {r : Reach} {b0 : Nat} {v : Value} {d : DataW H} {ps : List MemPlace} (k : Value.okWide P_ w r b0 3 v) (h : DataW.Trod enc P_ w base spare held 3 v d ps) : ∃ n : Int, v = .int .i64 n ∧ Bd n := by
  obtain ⟨n, rfl, rfl, rfl, wf⟩ := open_int un3i k h
  exact ⟨n, rfl, by simpa [Lit.wf, IntKind.min, IntKind.max, IntKind.signed, IntKind.bits, Bd] using wf⟩
theorem conf_arg {r : Reach} {b0 : Nat} {v : Value} {d : DataW H} {ps : List MemPlace} (k : Value.okWide P_ w r b0 26 v) (h : DataW.Trod enc P_ w base spare held 26 v d ps) (hl : Light P_ 26 d) :
    ∃ C : Conf, (∀ h, Dis (ground w) h → CV (ground w) h v C) ∧ Fit0 C ∧ ∀ p ∈ C.ro, PB p := by
  obtain ⟨cs, rfl⟩ := okWide_structF sf26 k
  obtain ⟨m, h⟩ := h
  obtain ⟨C, hC, f, hp⟩ := conf_dec (cs := cs.toList) h hl
  exact ⟨C, fun h d => by simpa using hC h d, f, hp⟩
end
end Go.Proofs.YtfflipnhffknnaaGreatDoor
end
