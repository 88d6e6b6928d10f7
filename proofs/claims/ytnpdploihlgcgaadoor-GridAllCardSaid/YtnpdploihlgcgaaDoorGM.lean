/- The stacks of a grid. -/
import Derived.Test.YtnpdploihlgcgaaDoorGL
set_option linter.unusedSimpArgs false
set_option linter.unusedVariables false
set_option maxRecDepth 100000
namespace Go.Proofs.YtnpdploihlgcgaaDoor
open Go Go.HL

theorem un102 : Tryd.prog.underlying 102 = some (.map 3 3) := by kernel_rfl
theorem un3 : Tryd.prog.underlying 3 = some (.int .i64) := by kernel_rfl
theorem zero3 : zeroOf Tryd.prog 3 = some (.int .i64 0) := by kernel_rfl
theorem mm102 {G h : Hp} {K : Value → Hp → Prop} : wpH Tryd.prog G (Instr.makeMap 102 none) h K = ∀ r, h r = none → G r = none → K (.map (some r)) (h.set r (.map #[] 0)) := by kernel_rfl

/-- The stacks, seen whatever is owned beside them. -/
def GStk (G : Hp) (v : Value) (st : List (Cell × List Int)) : Prop := ∃ raw : List Raw, GSees rawC G v raw ∧ raw.length = st.length ∧
  ∀ (i : Nat) (r : Raw) (s : Cell × List Int), raw[i]? = some r → st[i]? = some s → (r.x, r.y) = s.1 ∧ r.n = s.2.length ∧ GSees icC G (.slice r.a s.2.length r.c) s.2

theorem GStk.len {G : Hp} {v : Value} {st : List (Cell × List Int)} (g : GStk G v st) {h : Hp} (d : Dis G h) : ∃ sa cap, v = .slice sa st.length cap := by
  obtain ⟨raw, h1, h2, _⟩ := g
  obtain ⟨sa, cap, e⟩ := (h1 h d).len
  exact ⟨sa, cap, by rw [e, h2]⟩
theorem GStk.get {G : Hp} {sa : Option Addr} {n cap : Nat} {st : List (Cell × List Int)} (g : GStk G (.slice sa n cap) st) {h : Hp} (d : Dis G h) {i : Nat} {s : Cell × List Int} (hs : st[i]? = some s) :
    ∃ b o a c, sa = some ⟨b, o, none⟩ ∧ cellIn G h ⟨b, o + i * 3, none⟩ = some (.int .i64 s.1.1) ∧ cellIn G h ⟨b, o + i * 3 + 1, none⟩ = some (.int .i64 s.1.2) ∧ cellIn G h ⟨b, o + i * 3 + 2, none⟩ = some (.slice a s.2.length c) ∧ GSees icC G (.slice a s.2.length c) s.2 := by
  obtain ⟨raw, h1, hl, h2⟩ := g
  have hi : i < raw.length := by rw [hl]; exact (List.getElem?_eq_some_iff.1 hs).1
  have hr : raw[i]? = some raw[i] := List.getElem?_eq_getElem hi
  obtain ⟨k1, k2, k3⟩ := h2 i _ s hr hs
  obtain ⟨b, o, c, e1, e2⟩ := (h1 h d).get hr
  simp only [Value.slice.injEq] at e1
  have z0 := e2 0 (by decide)
  have z1 := e2 1 (by decide)
  have z2 := e2 2 (by decide)
  simp only [rawC, Nat.add_zero, List.getElem?_cons_zero, List.getElem?_cons_succ] at z0 z1 z2
  refine ⟨b, o, _, _, e1.1, ?_, ?_, ?_, k3⟩
  · rw [z0, ← k1]
  · rw [z1, ← k1]
  · rw [z2, k2]

theorem GO.past {h : Hp} {gp kb w k : Nat} {f : Nat → Nat → Int} (g : GO h gp kb w k f) {b : Nat} {p o : Obj} (hb : h b = some p) (hp : isCells p = false) : GO (h.set b o) gp kb w k f := by
  have n1 : gp ≠ b := fun q => by have := g.hd; rw [q, hb] at this; cases this; cases hp
  have n2 : kb ≠ b := fun q => by have := g.row; rw [q, hb] at this; cases this; cases hp
  exact ⟨by rw [set_other n1]; exact g.hd, by rw [set_other n2]; exact g.row, g.w1, g.w2, g.k1, g.k2⟩
theorem MK.past {h : Hp} {mb w k : Nat} {f : Nat → Nat → Bool} (g : MK h mb w k f) {b : Nat} {p o : Obj} (hb : h b = some p) (hp : isCells p = false) : MK (h.set b o) mb w k f := by
  unfold MK at *
  have n1 : mb ≠ b := fun q => by rw [q, hb] at g; cases g; cases hp
  rw [set_other n1]; exact g

/-- Some of the numbers, each told once, by a map. -/
structure NM (h : Hp) (mp : Nat) (B : List Int) : Prop where
  ex : ∃ o L, h mp = some o ∧ MapO o L ∧ L.map (·.1) = B ∧ ∀ p ∈ L, p.2 = .int .i64 1

theorem mget_in {L : List (Int × Value)} (h : ∀ p ∈ L, p.2 = .int .i64 1) {b : Int} : (mget L b).getD (.int .i64 0) = .int .i64 (if b ∈ L.map (·.1) then 1 else 0) := by
  induction L with
  | nil => rfl
  | cons p L ih =>
    rw [mget_cons]
    by_cases e : p.1 = b
    · rw [if_pos e, if_pos (by rw [List.map_cons, e]; exact .head _)]
      exact h p (.head _)
    · rw [if_neg e, ih fun q hq => h q (.tail _ hq)]
      congr 1
      simp only [List.map_cons, List.mem_cons]
      by_cases hm : b ∈ L.map (·.1)
      · simp [hm]
      · have e2 : ¬ b = p.1 := fun q => e q.symm
        simp [hm, e2]

theorem NM.put {G h : Hp} {mp : Nat} {B : List Int} (n : NM h mp B) {b : Int} (hb : b ∉ B) {K : Unit → Hp → Prop} (H : ∀ o', NM (h.set mp o') mp (B ++ [b]) → K () (h.set mp o')) :
    wpH Tryd.prog G (Instr.mapUpdate 102 (.map (some mp)) (.int .i64 b) (.int .i64 1)) h K := by
  obtain ⟨o, L, h1, h2, h3, h4⟩ := n
  refine mapput_int un102 un3 h1 h2 fun o' m' => H o' ⟨o', _, set_self, m', ?_, ?_⟩
  · rw [mput_keys, h3, if_neg hb]
  · have : midx L b = none := by
      unfold midx
      rw [List.findIdx?_eq_none_iff]
      intro p hp
      have : p.1 ≠ b := fun e => hb (by rw [← h3, ← e]; exact List.mem_map_of_mem (f := (·.1)) hp)
      simpa using this
    unfold mput
    rw [this]
    intro p hp
    rcases List.mem_append.1 hp with q | q
    · exact h4 p q
    · simp at q; rw [q]

set_option maxHeartbeats 2000000 in
theorem stacks_in {G : Hp} {gp kb mb mp w k : Nat} {f : Nat → Nat → Int} {mf : Nat → Nat → Bool} {KK : Exit → Rg → Hp → Prop} {L B0 : List Int} {v : Value} (r : Rg) (h : Hp) (sv : GSees icC G v L) (hL : L.length ≤ 100000) (hB0 : B0.length ≤ 512)
    (g8 : r 8 = .map (some mp)) (g54 : r 54 = v) (g55 : r 55 = .int .i64 L.length) (g56 : r 56 = .int .i64 0)
    (go : GO h gp kb w k f) (mk : MK h mb w k mf) (nm : NM h mp B0) (d : Dis G h) (hnd0 : B0.Nodup)
    (H1 : (∀ b ∈ L, withinB b 1 1000000000 = true) → (B0 ++ L).Nodup → (B0 ++ L).length ≤ 512 → ∀ (r' : Rg) h', r' 0 = r 0 → r' 2 = r 2 → r' 7 = r 7 → r' 8 = r 8 → r' 20 = r 20 → r' 21 = r 21 → r' 22 = r 22 → GO h' gp kb w k f → MK h' mb w k mf → NM h' mp (B0 ++ L) → Dis G h' → KK (.exit 2) r' h')
    (H2 : ¬ ((∀ b ∈ L, withinB b 1 1000000000 = true) ∧ (B0 ++ L).Nodup ∧ (B0 ++ L).length ≤ 512) → ∀ (r' : Rg) h', r' 6 = .bool false → Dis G h' → KK .ret r' h') : loopP (S74_l2_l6 G) r h KK := by
  obtain ⟨sa, cap, hve⟩ := (sv h d).len
  refine loop_I (fun m r2 h3 => ∃ j : Nat, m = L.length - j ∧ j ≤ L.length ∧ r2 0 = r 0 ∧ r2 2 = r 2 ∧ r2 7 = r 7 ∧ r2 8 = r 8 ∧ r2 20 = r 20 ∧ r2 21 = r 21 ∧ r2 22 = r 22 ∧ r2 54 = r 54 ∧ r2 55 = r 55 ∧ r2 56 = .int .i64 j ∧ (∀ b ∈ L.take j, withinB b 1 1000000000 = true) ∧ (B0 ++ L.take j).Nodup ∧ (B0 ++ L.take j).length ≤ 512 ∧
     GO h3 gp kb w k f ∧ MK h3 mb w k mf ∧ NM h3 mp (B0 ++ L.take j) ∧ Dis G h3) ?_
    (m := L.length) ⟨0, rfl, Nat.zero_le _, rfl, rfl, rfl, rfl, rfl, rfl, rfl, rfl, rfl, by rw [g56]; rfl, by simp, by simpa using hnd0, by simpa using hB0, go, mk, by simpa using nm, d⟩
  rintro m r2 h3 ⟨j, rfl, hj, q0, q2, q7, q8, q20, q21, q22, q54, q55, q56, hok, hnd, hle, go, mk, nm, d3⟩ X HX
  rw [g8] at q8
  rw [g54, hve] at q54
  rw [g55] at q55
  unfold S74_l2_l6
  simp -implicitDefEqProofs (maxSteps := 2000000) (disch := first | with_reducible exact Nat.ne_of_beq_eq_false rfl | exact oneCell_int | exact oneCell_bool | omega | rfl | (simp; done) | fail) only [q56, q55, thenK_exit, opH_sv, bin_lss]
  refine cond_dec (fun hlt => ?_) (fun hge => ?_)
  rotate_left
  · obtain rfl : j = L.length := by omega
    rw [List.take_of_length_le (Nat.le_refl _)] at hok hnd hle nm
    exact H1 hok hnd hle _ _ (by simp -implicitDefEqProofs (maxSteps := 2000000) (disch := first | with_reducible exact Nat.ne_of_beq_eq_false rfl | exact oneCell_int | exact oneCell_bool | omega | rfl | (simp; done) | fail) only [upd_ne, q0]) (by simp -implicitDefEqProofs (maxSteps := 2000000) (disch := first | with_reducible exact Nat.ne_of_beq_eq_false rfl | exact oneCell_int | exact oneCell_bool | omega | rfl | (simp; done) | fail) only [upd_ne, q2]) (by simp -implicitDefEqProofs (maxSteps := 2000000) (disch := first | with_reducible exact Nat.ne_of_beq_eq_false rfl | exact oneCell_int | exact oneCell_bool | omega | rfl | (simp; done) | fail) only [upd_ne, q7]) (by simp -implicitDefEqProofs (maxSteps := 2000000) (disch := first | with_reducible exact Nat.ne_of_beq_eq_false rfl | exact oneCell_int | exact oneCell_bool | omega | rfl | (simp; done) | fail) only [upd_ne, q8, g8]) (by simp -implicitDefEqProofs (maxSteps := 2000000) (disch := first | with_reducible exact Nat.ne_of_beq_eq_false rfl | exact oneCell_int | exact oneCell_bool | omega | rfl | (simp; done) | fail) only [upd_ne, q20]) (by simp -implicitDefEqProofs (maxSteps := 2000000) (disch := first | with_reducible exact Nat.ne_of_beq_eq_false rfl | exact oneCell_int | exact oneCell_bool | omega | rfl | (simp; done) | fail) only [upd_ne, q21]) (by simp -implicitDefEqProofs (maxSteps := 2000000) (disch := first | with_reducible exact Nat.ne_of_beq_eq_false rfl | exact oneCell_int | exact oneCell_bool | omega | rfl | (simp; done) | fail) only [upd_ne, q22]) go mk nm d3
  have hlt' : j < L.length := by omega
  obtain ⟨y, hy⟩ : ∃ x, L[j]? = some x := ⟨_, List.getElem?_eq_getElem hlt'⟩
  have hym : y ∈ L := List.mem_of_getElem? hy
  have sv3 := sv h3 d3
  rw [hve] at sv3
  obtain ⟨b, ofs, eb, z0⟩ := Sees.int sv3 hy
  subst eb
  have htk : B0 ++ L.take (j + 1) = (B0 ++ L.take j) ++ [y] := by rw [take_get hy, List.append_assoc]
  have hpre : ∀ {P : Prop}, (((B0 ++ L.take (j + 1)).Nodup ∧ (B0 ++ L.take (j + 1)).length ≤ 512 → P) → ((B0 ++ L).Nodup ∧ (B0 ++ L).length ≤ 512 → P)) := by
    intro P h q
    have e : B0 ++ L = (B0 ++ L.take (j + 1)) ++ L.drop (j + 1) := by rw [List.append_assoc, List.take_append_drop]
    rw [e] at q
    refine h ⟨(List.nodup_append.1 q.1).1, ?_⟩
    have := q.2
    rw [List.length_append] at this; omega
  obtain ⟨o, ML, n1, n2, n3, n4⟩ := id nm.ex
  have nlk : HL.look G h3 mp = some o := look_own n1
  unfold S74_l2_l6_k7
  simp -implicitDefEqProofs (maxSteps := 2000000) (disch := first | with_reducible exact Nat.ne_of_beq_eq_false rfl | exact oneCell_int | exact oneCell_bool | omega | rfl | (simp; done) | fail) only [upd_ne, q54, q56, thenK_ret, opH_sv, cf57, ix57 (Int.natCast_nonneg j) hlt, Int.toNat_natCast, Nat.mul_one, add_mk, ld3, z0, Option.some.injEq, exists_eq_left']
  refine (within_spec (n := y) (a := 1) (b := 1000000000)).mono ?_
  rintro _ h3 ⟨rfl, rfl⟩
  cases hw : withinB y 1 1000000000 with
  | false =>
    try simp -implicitDefEqProofs (maxSteps := 2000000) (disch := first | with_reducible exact Nat.ne_of_beq_eq_false rfl | exact oneCell_int | exact oneCell_bool | omega | rfl | (simp; done) | fail) only [un_not, Bool.not_false, pick_t, HL.cond_true, gd_tf]
    exact H2 (fun q => by have := q.1 y hym; rw [hw] at this; cases this) _ _ (by simp -implicitDefEqProofs (maxSteps := 2000000) (disch := first | with_reducible exact Nat.ne_of_beq_eq_false rfl | exact oneCell_int | exact oneCell_bool | omega | rfl | (simp; done) | fail) only [upd_eq]) d3
  | true =>
  try simp -implicitDefEqProofs (maxSteps := 2000000) (disch := first | with_reducible exact Nat.ne_of_beq_eq_false rfl | exact oneCell_int | exact oneCell_bool | omega | rfl | (simp; done) | fail) only [q8, un_not, Bool.not_true, pick_f, gd_ff, opH_sv, lookup_int un102 un3 zero3 nlk n2, mget_in n4, n3, bin_gtr]
  by_cases hm : y ∈ B0 ++ L.take j
  · try simp -implicitDefEqProofs (maxSteps := 2000000) (disch := first | with_reducible exact Nat.ne_of_beq_eq_false rfl | exact oneCell_int | exact oneCell_bool | omega | rfl | (simp; done) | fail) only [if_pos hm, show decide ((1 : Int) > 0) = true from rfl, pick_t, HL.cond_true, gd_tf]
    refine H2 (fun q => hpre (P := False) (fun ⟨q1, _⟩ => ?_) q.2) _ _ (by simp -implicitDefEqProofs (maxSteps := 2000000) (disch := first | with_reducible exact Nat.ne_of_beq_eq_false rfl | exact oneCell_int | exact oneCell_bool | omega | rfl | (simp; done) | fail) only [upd_eq]) d3
    rw [htk] at q1
    exact (List.nodup_append.1 q1).2.2 y hm y (by simp) rfl
  try simp -implicitDefEqProofs (maxSteps := 2000000) (disch := first | with_reducible exact Nat.ne_of_beq_eq_false rfl | exact oneCell_int | exact oneCell_bool | omega | rfl | (simp; done) | fail) only [if_neg hm, show decide ((0 : Int) > 0) = false from rfl, pick_f, gd_ff, opH_sv, maplen_eq un102 nlk n2, eq_int]
  have hll : ML.length = (B0 ++ L.take j).length := by rw [← n3, List.length_map]
  by_cases h512 : (B0 ++ L.take j).length = 512
  · try simp -implicitDefEqProofs (maxSteps := 2000000) (disch := first | with_reducible exact Nat.ne_of_beq_eq_false rfl | exact oneCell_int | exact oneCell_bool | omega | rfl | (simp; done) | fail) only [hll, h512, show (((512 : Nat) : Int) == 512) = true from rfl, HL.cond_true]
    refine H2 (fun q => hpre (P := False) (fun ⟨_, q1⟩ => ?_) q.2) _ _ (by simp -implicitDefEqProofs (maxSteps := 2000000) (disch := first | with_reducible exact Nat.ne_of_beq_eq_false rfl | exact oneCell_int | exact oneCell_bool | omega | rfl | (simp; done) | fail) only [upd_eq]) d3
    rw [htk, List.length_append, h512] at q1
    simp at q1
  have e512 : (((B0 ++ L.take j).length : Int) == 512) = false := by
    have : ((B0 ++ L.take j).length : Int) ≠ 512 := by omega
    simpa using this
  try simp -implicitDefEqProofs (maxSteps := 2000000) (disch := first | with_reducible exact Nat.ne_of_beq_eq_false rfl | exact oneCell_int | exact oneCell_bool | omega | rfl | (simp; done) | fail) only [hll, e512, HL.cond_false]
  unfold S74_l2_l6_k9
  try simp -implicitDefEqProofs (maxSteps := 2000000) (disch := first | with_reducible exact Nat.ne_of_beq_eq_false rfl | exact oneCell_int | exact oneCell_bool | omega | rfl | (simp; done) | fail) only [upd_ne, q8, upd_eq, opH_su]
  refine NM.put nm hm fun o' nm' => ?_
  unfold S74_l2_l6_k8
  try simp -implicitDefEqProofs (maxSteps := 2000000) (disch := first | with_reducible exact Nat.ne_of_beq_eq_false rfl | exact oneCell_int | exact oneCell_bool | omega | rfl | (simp; done) | fail) only [upd_ne, q56, thenK_normal, opH_sv, bin_add, wrap_in]
  refine HX (L.length - (j + 1)) _ _ (by omega) ⟨j + 1, rfl, hlt', by simp -implicitDefEqProofs (maxSteps := 2000000) (disch := first | with_reducible exact Nat.ne_of_beq_eq_false rfl | exact oneCell_int | exact oneCell_bool | omega | rfl | (simp; done) | fail) only [upd_ne, q0], by simp -implicitDefEqProofs (maxSteps := 2000000) (disch := first | with_reducible exact Nat.ne_of_beq_eq_false rfl | exact oneCell_int | exact oneCell_bool | omega | rfl | (simp; done) | fail) only [upd_ne, q2], by simp -implicitDefEqProofs (maxSteps := 2000000) (disch := first | with_reducible exact Nat.ne_of_beq_eq_false rfl | exact oneCell_int | exact oneCell_bool | omega | rfl | (simp; done) | fail) only [upd_ne, q7], by simp -implicitDefEqProofs (maxSteps := 2000000) (disch := first | with_reducible exact Nat.ne_of_beq_eq_false rfl | exact oneCell_int | exact oneCell_bool | omega | rfl | (simp; done) | fail) only [upd_ne, q8, g8], by simp -implicitDefEqProofs (maxSteps := 2000000) (disch := first | with_reducible exact Nat.ne_of_beq_eq_false rfl | exact oneCell_int | exact oneCell_bool | omega | rfl | (simp; done) | fail) only [upd_ne, q20], by simp -implicitDefEqProofs (maxSteps := 2000000) (disch := first | with_reducible exact Nat.ne_of_beq_eq_false rfl | exact oneCell_int | exact oneCell_bool | omega | rfl | (simp; done) | fail) only [upd_ne, q21], by simp -implicitDefEqProofs (maxSteps := 2000000) (disch := first | with_reducible exact Nat.ne_of_beq_eq_false rfl | exact oneCell_int | exact oneCell_bool | omega | rfl | (simp; done) | fail) only [upd_ne, q22], by simp -implicitDefEqProofs (maxSteps := 2000000) (disch := first | with_reducible exact Nat.ne_of_beq_eq_false rfl | exact oneCell_int | exact oneCell_bool | omega | rfl | (simp; done) | fail) only [upd_ne, q54, g54, hve], by simp -implicitDefEqProofs (maxSteps := 2000000) (disch := first | with_reducible exact Nat.ne_of_beq_eq_false rfl | exact oneCell_int | exact oneCell_bool | omega | rfl | (simp; done) | fail) only [upd_ne, q55, g55], by simp -implicitDefEqProofs (maxSteps := 2000000) (disch := first | with_reducible exact Nat.ne_of_beq_eq_false rfl | exact oneCell_int | exact oneCell_bool | omega | rfl | (simp; done) | fail) only [upd_eq] <;> rfl, ?_, ?_, ?_, go.past n1 n2.cells, mk.past n1 n2.cells, by rw [htk]; exact nm', d3.set (d3 _ _ n1)⟩
  · rw [take_get hy]
    intro c hc
    rcases List.mem_append.1 hc with q | q
    · exact hok c q
    · simp at q; rw [q]; exact hw
  · rw [htk]
    exact List.nodup_append.2 ⟨hnd, by simp, fun a ha b hb => by simp at hb; subst hb; exact fun e => hm (e ▸ ha)⟩
  · rw [htk, List.length_append]
    simp only [List.length_cons, List.length_nil]
    omega

structure StacksOk (w k : Nat) (f : Nat → Nat → Int) (ht : Int) (st : List (Cell × List Int)) : Prop where
  each : ∀ s ∈ st, inW w k s.1 = true ∧ fAt f s.1 = 0 ∧ (s.2.length : Int) ≤ ht
  apart : (st.map Prod.fst).Nodup
  nums : ∀ b ∈ st.flatMap Prod.snd, withinB b 1 1000000000 = true
  once : (st.flatMap Prod.snd).Nodup
  most : (st.flatMap Prod.snd).length ≤ 512

def StR (w k gp kb : Nat) (f : Nat → Nat → Int) (ht : Int) (st : List (Cell × List Int)) (u : Value) (h' : Hp) : Prop :=
  (StacksOk w k f ht st ∧ u = .bool true ∧ GO h' gp kb w k f) ∨ (¬ StacksOk w k f ht st ∧ u = .bool false)

set_option maxHeartbeats 2000000 in
theorem stacks_spec {G h : Hp} {gp kb w k : Nat} {f : Nat → Nat → Int} {ht : Int} {st : List (Cell × List Int)} {sv : Value} (go : GO h gp kb w k f) (gs : GStk G sv st) (hht : ht ≤ 8) (hsl : st.length ≤ 100000000000000) :
    HCalls Tryd.prog G 74 #[.pointer (some ⟨gp, 0, none⟩), sv, .int .i64 ht] h (StR w k gp kb f ht st) := by
  refine HCalls.assume fun d => enter74 (by simp) ?_
  obtain ⟨sa, cap, hsv⟩ := gs.len d
  have hm2 : w * k ≤ 16 * 16 := Nat.mul_le_mul go.w2 go.k2
  have cg : ∀ j, cellIn G h ⟨gp, j, none⟩ = _ := fun j => cell_of (look_own go.hd)
  unfold S74
  simp -implicitDefEqProofs (maxSteps := 2000000) (disch := first | with_reducible exact Nat.ne_of_beq_eq_false rfl | exact oneCell_int | exact oneCell_bool | omega | rfl | (simp; done) | fail) only [hsv, regs0, regs1, opH_sv, ln24, opH_nil, fa86_2, add_mk, Nat.zero_add, ld57, cg, List.getElem?_cons_succ, List.getElem?_cons_zero, Option.some.injEq, exists_eq_left', ln57]
  rw [make_eq bcC false (by decide) un101 eobool (by kernel_rfl) (by omega) (by omega)]
  intro mb hmb gmb
  have go1 : GO (h.set mb (.cells (bcC.rows (List.replicate (w * k) false)).toArray 4 (0, 0))) gp kb w k f := go.le (le_set hmb)
  have mk1 : MK (h.set mb (.cells (bcC.rows (List.replicate (w * k) false)).toArray 4 (0, 0))) mb w k (seenT []) := by unfold MK; rw [set_self, seen_nil, gridL_const]
  have d1 := d.set (o := .cells (bcC.rows (List.replicate (w * k) false)).toArray 4 (0, 0)) gmb
  generalize h.set mb (.cells (bcC.rows (List.replicate (w * k) false)).toArray 4 (0, 0)) = h1 at *
  try simp -implicitDefEqProofs (maxSteps := 2000000) (disch := first | with_reducible exact Nat.ne_of_beq_eq_false rfl | exact oneCell_int | exact oneCell_bool | omega | rfl | (simp; done) | fail) only [mm102]
  intro mp hmp gmp
  have go2 : GO (h1.set mp (.map #[] 0)) gp kb w k f := go1.le (le_set hmp)
  have mk2 : MK (h1.set mp (.map #[] 0)) mb w k (seenT []) := mk1.le (le_set hmp)
  have nm2 : NM (h1.set mp (.map #[] 0)) mp [] := ⟨_, [], set_self, ⟨#[], 0, rfl, rfl⟩, rfl, fun p hp => by cases hp⟩
  have d2 := d1.set (o := .map #[] 0) gmp
  generalize h1.set mp (.map #[] 0) = h2 at *
  try simp -implicitDefEqProofs (maxSteps := 2000000) (disch := first | with_reducible exact Nat.ne_of_beq_eq_false rfl | exact oneCell_int | exact oneCell_bool | omega | rfl | (simp; done) | fail) only [opH_sv, opH_su, pureW_sv, opH_nil, pureW_nil, pick_t, pick_f, pick_tp, pick_fp, gd_tt, gd_ft, gd_tf, gd_ff, box_new, regs0, regs1, regs2, regs3, regs4, regs5, regs6, cells_agg, cells_int, cells_bool, cells_ptr, cells_slice, cells_string, cells_func, cells_nilFunc, cells_map, retK_ret, retK_normal, resL_tmp, resL_cell, resL_nil0, resL_nil1, resL_nil2, resL_nil3, resC_ptr, ex0, ex1, ex2, ex0p, ex1p, ex2p, HL.cond_true, HL.cond_false, thenK_normal, thenK_ret, thenK_exit, blockK_normal, blockK_ret, blockK_exit, scopeK_normal, scopeK_ret, scopeK_exit, wpH_pure, bin_add, bin_sub, bin_mul, bin_lss, bin_leq, bin_gtr, bin_geq, bin_quo, bin_rem, bin_quop, bin_remp, wrap_in, bin_addp, bin_subp, bin_mulp, bin_lssp, bin_leqp, bin_gtrp, bin_geqp, un_not, un_notp, un_neg, eq_int, ne_int, eq_intp, ne_intp, callV_fn, add_mk, upd_eq, upd_ne, cell_set_self, Nat.zero_add, Nat.add_zero, Option.some.injEq, exists_eq_left', List.getElem?_cons_succ, List.getElem?_cons_zero, true_and, and_true, bne_self_eq_false, beq_self_eq_true, Bool.not_true, Bool.not_false, Bool.and_true, Bool.and_self, Bool.and_false, Bool.true_and, List.length_cons, List.length_nil, ne_eq, not_false_eq_true, Nat.reduceAdd, Nat.reduceMul, if_true, if_false, oneCell_int, oneCell_bool, oneCell_ptr, oneCell_slice, oneCell_string, oneCell_func, oneCell_map, Int.toNat_natCast, List.set_cons_zero, List.set_cons_succ, Nat.lt_irrefl, Nat.zero_lt_succ, Nat.succ_lt_succ_iff, fa26_0, fa26_0p, fa26_1, fa26_1p, fa26_10, fa26_10p, fa26_11, fa26_11p, fa26_12, fa26_12p, fa26_13, fa26_13p, fa26_14, fa26_14p, fa26_2, fa26_2p, fa26_3, fa26_3p, fa26_4, fa26_4p, fa26_5, fa26_5p, fa26_6, fa26_6p, fa26_7, fa26_7p, fa26_8, fa26_8p, fa26_9, fa26_9p, fa28_0, fa28_0p, fa28_1, fa28_1p, fa30_0, fa30_0p, fa30_1, fa30_1p, fa46_0, fa46_0p, fa46_1, fa46_1p, fa46_2, fa46_2p, fa46_3, fa46_3p, fa46_4, fa46_4p, fa46_5, fa46_5p, fa46_6, fa46_6p, fa86_0, fa86_0p, fa86_1, fa86_1p, fa86_2, fa86_2p, fa95_0, fa95_0p, fa95_1, fa95_1p, ld3, ld3p, ld4, ld4p, ld22, ld22p, ld23, ld23p, ld24, ld24p, ld26, ld26p, ld28, ld28p, ld30, ld30p, ld31, ld31p, ld46, ld46p, ld47, ld47p, ld52, ld52p, ld55, ld55p, ld57, ld57p, ld95, ld95p, st3s, st4s, st22s, st23s, st24s, st26w, st28w, st30w, st46w, st47s, st55s, st95w, ix22, ix22p, ix23, ix23p, ix24, ix24p, ix47, ix47p, ix56, ix56p, ix57, ix57p, ix101, ix101p, ln22, ln22p, ln23, ln23p, ln24, ln24p, ln47, ln47p, ln56, ln56p, ln57, ln57p, al22, al26, al28, al30, al46, al47, al95, cf14, cf15, cf16, cf17, cf18, cf19, cf20, cf21, cf22, cf23, cf24, cf25, cf26, cf27, cf28, cf29, cf30, cf31, cf32, cf33, cf34, cf35, cf36, cf37, cf38, cf39, cf40, cf41, cf42, cf43, cf44, cf45, cf46, cf47, cf48, cf49, cf50, cf51, cf52, cf53, cf54, cf55, cf56, cf57, cf58, cf59, cf60, cf61, cf62, cf63, cf64, cf65, cf66, cf67, cf68, cf69, cf70, cf71, cf72, cf73, cf74, cf75, cf76, cf77, cf78, cf79, cf80, bd26_0_1_2_7_8_9_10_11_12_13_14, bd26_0_1_2_7_8_9_10_11_12_13_14p, bd28_0, bd28_0p, bd28_0_1, bd28_0_1p, bd30_, bd30_p, bd30_0_1, bd30_0_1p, bd30_0, bd30_0p, bd46_0_1_2_3_4, bd46_0_1_2_3_4p, bd46_0_3_4, bd46_0_3_4p, bd86_0_1_2, bd86_0_1_2p, bd87_0_1_2_3, bd87_0_1_2_3p, bd95_0_1, bd95_0_1p, bs22_2_0_1, bs47_1_0, bs22_1_0, bs57_6_0_1_2_3_4_5, bs24_1_0, bs22_4_0_1_2_3, bs56_11_0_1_2_3_4_5_6_7_8_9_10, bs57_11_0_1_2_3_4_5_6_7_8_9_10, eq4, eq4p, eq28, eq28p, eq30, eq30p, eq31n, eq31np, eq31s, eq31sp, eq46, eq46p, eq50n, eq50np, eq50s, eq50sp, eq67n, eq67np, eq67s, eq67sp, ne4, ne4p, ne28, ne28p, ne30, ne30p, ne31n, ne31np, ne31s, ne31sp, ne46, ne46p]
  have no : ¬ StacksOk w k f ht st → ∀ hh, StR w k gp kb f ht st (.bool false) hh := fun q hh => .inr ⟨q, rfl⟩
  refine loop_I (fun m r4 h4 => ∃ i : Nat, m = st.length - i ∧ i ≤ st.length ∧ r4 0 = .pointer (some ⟨gp, 0, none⟩) ∧ r4 2 = .int .i64 ht ∧ r4 7 = .slice (some ⟨mb, 0, none⟩) (w * k) (w * k) ∧ r4 8 = .map (some mp) ∧ r4 20 = sv ∧ r4 21 = .int .i64 st.length ∧ r4 22 = .int .i64 i ∧
     (∀ s ∈ st.take i, inW w k s.1 = true ∧ fAt f s.1 = 0 ∧ (s.2.length : Int) ≤ ht) ∧ ((st.take i).map Prod.fst).Nodup ∧ (∀ b ∈ (st.take i).flatMap Prod.snd, withinB b 1 1000000000 = true) ∧ ((st.take i).flatMap Prod.snd).Nodup ∧ ((st.take i).flatMap Prod.snd).length ≤ 512 ∧
     GO h4 gp kb w k f ∧ MK h4 mb w k (seenT ((st.take i).map Prod.fst)) ∧ NM h4 mp ((st.take i).flatMap Prod.snd) ∧ Dis G h4) ?_
    (m := st.length) ⟨0, rfl, Nat.zero_le _, by simp -implicitDefEqProofs (maxSteps := 2000000) (disch := first | with_reducible exact Nat.ne_of_beq_eq_false rfl | exact oneCell_int | exact oneCell_bool | omega | rfl | (simp; done) | fail) only [upd_ne, regs0], by simp -implicitDefEqProofs (maxSteps := 2000000) (disch := first | with_reducible exact Nat.ne_of_beq_eq_false rfl | exact oneCell_int | exact oneCell_bool | omega | rfl | (simp; done) | fail) only [upd_ne, regs2], by simp -implicitDefEqProofs (maxSteps := 2000000) (disch := first | with_reducible exact Nat.ne_of_beq_eq_false rfl | exact oneCell_int | exact oneCell_bool | omega | rfl | (simp; done) | fail) only [upd_ne, upd_eq], by simp -implicitDefEqProofs (maxSteps := 2000000) (disch := first | with_reducible exact Nat.ne_of_beq_eq_false rfl | exact oneCell_int | exact oneCell_bool | omega | rfl | (simp; done) | fail) only [upd_ne, upd_eq], by simp -implicitDefEqProofs (maxSteps := 2000000) (disch := first | with_reducible exact Nat.ne_of_beq_eq_false rfl | exact oneCell_int | exact oneCell_bool | omega | rfl | (simp; done) | fail) only [upd_ne, upd_eq, hsv], by simp -implicitDefEqProofs (maxSteps := 2000000) (disch := first | with_reducible exact Nat.ne_of_beq_eq_false rfl | exact oneCell_int | exact oneCell_bool | omega | rfl | (simp; done) | fail) only [upd_ne, upd_eq], by simp -implicitDefEqProofs (maxSteps := 2000000) (disch := first | with_reducible exact Nat.ne_of_beq_eq_false rfl | exact oneCell_int | exact oneCell_bool | omega | rfl | (simp; done) | fail) only [upd_eq] <;> rfl, by simp, by simp, by simp, by simp, by simp, go2, by simpa using mk2, by simpa using nm2, d2⟩
  rintro m r4 h4 ⟨i, rfl, hi, k0, k2, k7, k8, k20, k21, k22, hea, hap, hnu, hon, hmo, go4, mk4, nm4, d4⟩ X HX
  unfold S74_l2
  simp -implicitDefEqProofs (maxSteps := 2000000) (disch := first | with_reducible exact Nat.ne_of_beq_eq_false rfl | exact oneCell_int | exact oneCell_bool | omega | rfl | (simp; done) | fail) only [k22, k21, thenK_exit, blockK_exit, thenK_normal, if_true, opH_sv, bin_lss]
  refine cond_dec (fun hlt => ?_) (fun hge => ?_)
  rotate_left
  · obtain rfl : i = st.length := by omega
    rw [List.take_of_length_le (Nat.le_refl _)] at hea hap hnu hon hmo
    try simp -implicitDefEqProofs (maxSteps := 2000000) (disch := first | with_reducible exact Nat.ne_of_beq_eq_false rfl | exact oneCell_int | exact oneCell_bool | omega | rfl | (simp; done) | fail) only [opH_sv, opH_su, pureW_sv, opH_nil, pureW_nil, pick_t, pick_f, pick_tp, pick_fp, gd_tt, gd_ft, gd_tf, gd_ff, box_new, regs0, regs1, regs2, regs3, regs4, regs5, regs6, cells_agg, cells_int, cells_bool, cells_ptr, cells_slice, cells_string, cells_func, cells_nilFunc, cells_map, retK_ret, retK_normal, resL_tmp, resL_cell, resL_nil0, resL_nil1, resL_nil2, resL_nil3, resC_ptr, ex0, ex1, ex2, ex0p, ex1p, ex2p, HL.cond_true, HL.cond_false, thenK_normal, thenK_ret, thenK_exit, blockK_normal, blockK_ret, blockK_exit, scopeK_normal, scopeK_ret, scopeK_exit, wpH_pure, bin_add, bin_sub, bin_mul, bin_lss, bin_leq, bin_gtr, bin_geq, bin_quo, bin_rem, bin_quop, bin_remp, wrap_in, bin_addp, bin_subp, bin_mulp, bin_lssp, bin_leqp, bin_gtrp, bin_geqp, un_not, un_notp, un_neg, eq_int, ne_int, eq_intp, ne_intp, callV_fn, add_mk, upd_eq, upd_ne, cell_set_self, Nat.zero_add, Nat.add_zero, Option.some.injEq, exists_eq_left', List.getElem?_cons_succ, List.getElem?_cons_zero, true_and, and_true, bne_self_eq_false, beq_self_eq_true, Bool.not_true, Bool.not_false, Bool.and_true, Bool.and_self, Bool.and_false, Bool.true_and, List.length_cons, List.length_nil, ne_eq, not_false_eq_true, Nat.reduceAdd, Nat.reduceMul, if_true, if_false, oneCell_int, oneCell_bool, oneCell_ptr, oneCell_slice, oneCell_string, oneCell_func, oneCell_map, Int.toNat_natCast, List.set_cons_zero, List.set_cons_succ, Nat.lt_irrefl, Nat.zero_lt_succ, Nat.succ_lt_succ_iff, fa26_0, fa26_0p, fa26_1, fa26_1p, fa26_10, fa26_10p, fa26_11, fa26_11p, fa26_12, fa26_12p, fa26_13, fa26_13p, fa26_14, fa26_14p, fa26_2, fa26_2p, fa26_3, fa26_3p, fa26_4, fa26_4p, fa26_5, fa26_5p, fa26_6, fa26_6p, fa26_7, fa26_7p, fa26_8, fa26_8p, fa26_9, fa26_9p, fa28_0, fa28_0p, fa28_1, fa28_1p, fa30_0, fa30_0p, fa30_1, fa30_1p, fa46_0, fa46_0p, fa46_1, fa46_1p, fa46_2, fa46_2p, fa46_3, fa46_3p, fa46_4, fa46_4p, fa46_5, fa46_5p, fa46_6, fa46_6p, fa86_0, fa86_0p, fa86_1, fa86_1p, fa86_2, fa86_2p, fa95_0, fa95_0p, fa95_1, fa95_1p, ld3, ld3p, ld4, ld4p, ld22, ld22p, ld23, ld23p, ld24, ld24p, ld26, ld26p, ld28, ld28p, ld30, ld30p, ld31, ld31p, ld46, ld46p, ld47, ld47p, ld52, ld52p, ld55, ld55p, ld57, ld57p, ld95, ld95p, st3s, st4s, st22s, st23s, st24s, st26w, st28w, st30w, st46w, st47s, st55s, st95w, ix22, ix22p, ix23, ix23p, ix24, ix24p, ix47, ix47p, ix56, ix56p, ix57, ix57p, ix101, ix101p, ln22, ln22p, ln23, ln23p, ln24, ln24p, ln47, ln47p, ln56, ln56p, ln57, ln57p, al22, al26, al28, al30, al46, al47, al95, cf14, cf15, cf16, cf17, cf18, cf19, cf20, cf21, cf22, cf23, cf24, cf25, cf26, cf27, cf28, cf29, cf30, cf31, cf32, cf33, cf34, cf35, cf36, cf37, cf38, cf39, cf40, cf41, cf42, cf43, cf44, cf45, cf46, cf47, cf48, cf49, cf50, cf51, cf52, cf53, cf54, cf55, cf56, cf57, cf58, cf59, cf60, cf61, cf62, cf63, cf64, cf65, cf66, cf67, cf68, cf69, cf70, cf71, cf72, cf73, cf74, cf75, cf76, cf77, cf78, cf79, cf80, bd26_0_1_2_7_8_9_10_11_12_13_14, bd26_0_1_2_7_8_9_10_11_12_13_14p, bd28_0, bd28_0p, bd28_0_1, bd28_0_1p, bd30_, bd30_p, bd30_0_1, bd30_0_1p, bd30_0, bd30_0p, bd46_0_1_2_3_4, bd46_0_1_2_3_4p, bd46_0_3_4, bd46_0_3_4p, bd86_0_1_2, bd86_0_1_2p, bd87_0_1_2_3, bd87_0_1_2_3p, bd95_0_1, bd95_0_1p, bs22_2_0_1, bs47_1_0, bs22_1_0, bs57_6_0_1_2_3_4_5, bs24_1_0, bs22_4_0_1_2_3, bs56_11_0_1_2_3_4_5_6_7_8_9_10, bs57_11_0_1_2_3_4_5_6_7_8_9_10, eq4, eq4p, eq28, eq28p, eq30, eq30p, eq31n, eq31np, eq31s, eq31sp, eq46, eq46p, eq50n, eq50np, eq50s, eq50sp, eq67n, eq67np, eq67s, eq67sp, ne4, ne4p, ne28, ne28p, ne30, ne30p, ne31n, ne31np, ne31s, ne31sp, ne46, ne46p]
    unfold S74_k1
    simp -implicitDefEqProofs (maxSteps := 2000000) (disch := first | with_reducible exact Nat.ne_of_beq_eq_false rfl | exact oneCell_int | exact oneCell_bool | omega | rfl | (simp; done) | fail) only [retK_ret, resL_tmp, upd_eq, resL_nil1]
    exact .inl ⟨⟨hea, hap, hnu, hon, hmo⟩, rfl, go4⟩
  have hlt' : i < st.length := by omega
  obtain ⟨y, hy⟩ : ∃ x, st[i]? = some x := ⟨_, List.getElem?_eq_getElem hlt'⟩
  have hym : y ∈ st := List.mem_of_getElem? hy
  have gs4 := gs
  rw [hsv] at gs4
  obtain ⟨b, ofs, a, c, eb, z0, z1, z2, z3⟩ := gs4.get d4 hy
  subst eb
  unfold S74_l2_k3
  simp -implicitDefEqProofs (maxSteps := 2000000) (disch := first | with_reducible exact Nat.ne_of_beq_eq_false rfl | exact oneCell_int | exact oneCell_bool | omega | rfl | (simp; done) | fail) only [upd_ne, k20, hsv, k22, thenK_ret, blockK_ret, retK_ret, resL_tmp, upd_eq, resL_nil1, opH_sv, cf35, opH_su, al95, fa95_0, add_mk, Nat.add_zero, ld28, Nat.zero_add, ix24 (Int.natCast_nonneg i) hlt, Int.toNat_natCast, ld95, z0, Option.some.injEq, z1, z2, exists_eq_left', st95w, cell_set_self, List.getElem?_cons_zero, List.getElem?_cons_succ]
  intro t ht' gt
  try rw [st95w]
  have go5 : GO (h4.set t (.cells #[.int .i64 y.1.1, .int .i64 y.1.2, .slice a y.2.length c] 95 (0, 0))) gp kb w k f := go4.le (le_set ht')
  have mk5 : MK (h4.set t (.cells #[.int .i64 y.1.1, .int .i64 y.1.2, .slice a y.2.length c] 95 (0, 0))) mb w k (seenT ((st.take i).map Prod.fst)) := mk4.le (le_set ht')
  have nm5 : NM (h4.set t (.cells #[.int .i64 y.1.1, .int .i64 y.1.2, .slice a y.2.length c] 95 (0, 0))) mp ((st.take i).flatMap Prod.snd) := by
    obtain ⟨o, L, n1, n2⟩ := nm4
    exact ⟨o, L, le_set ht' _ _ n1, n2⟩
  have bt : (h4.set t (.cells #[.int .i64 y.1.1, .int .i64 y.1.2, .slice a y.2.length c] 95 (0, 0))) t = some (.cells #[.int .i64 y.1.1, .int .i64 y.1.2, .slice a y.2.length c] 95 (0, 0)) := set_self
  have d5 := d4.set (o := .cells #[.int .i64 y.1.1, .int .i64 y.1.2, .slice a y.2.length c] 95 (0, 0)) gt
  generalize h4.set t (.cells #[.int .i64 y.1.1, .int .i64 y.1.2, .slice a y.2.length c] 95 (0, 0)) = h5 at *
  have ct : ∀ j, cellIn G h5 ⟨t, j, none⟩ = _ := fun j => cell_of (look_own bt)
  try simp -implicitDefEqProofs (maxSteps := 2000000) (disch := first | with_reducible exact Nat.ne_of_beq_eq_false rfl | exact oneCell_int | exact oneCell_bool | omega | rfl | (simp; done) | fail) only [k0]
  refine (stacked_spec (c := y.1) (go5.gs (G := G))).mono ?_
  rintro _ h5 ⟨rfl, rfl⟩
  cases hst : (inW w k y.1 && (fAt f y.1 == 0)) with
  | false =>
    try simp -implicitDefEqProofs (maxSteps := 2000000) (disch := first | with_reducible exact Nat.ne_of_beq_eq_false rfl | exact oneCell_int | exact oneCell_bool | omega | rfl | (simp; done) | fail) only [un_not, Bool.not_false, pick_t, HL.cond_true, gd_tf]
    refine no (fun q => ?_) _
    obtain ⟨q1, q2, _⟩ := q.each y hym
    rw [q1, q2] at hst
    cases hst
  | true =>
  have hst' := hst
  simp only [Bool.and_eq_true, beq_iff_eq] at hst'
  obtain ⟨hc', hf0⟩ := hst'
  try simp -implicitDefEqProofs (maxSteps := 2000000) (disch := first | with_reducible exact Nat.ne_of_beq_eq_false rfl | exact oneCell_int | exact oneCell_bool | omega | rfl | (simp; done) | fail) only [k7, un_not, Bool.not_true, pick_f, gd_ff, opH_sv, cf37, fa95_0, add_mk, Nat.add_zero, ld28, Nat.zero_add, ct, List.getElem?_cons_zero, Option.some.injEq, List.getElem?_cons_succ, exists_eq_left']
  refine (num_spec (c := y.1) (go5.gs (G := G))).mono ?_
  rintro _ h5 ⟨rfl, rfl⟩
  obtain ⟨hn, hx, hyk, hlt2⟩ := numI_nat hc'
  obtain ⟨a1, a2, a3, a4⟩ := inW_iff.1 hc'
  have hxy : ((y.1.1.toNat : Int), (y.1.2.toNat : Int)) = y.1 := by rw [Int.toNat_of_nonneg a1, Int.toNat_of_nonneg a3]
  have mg := mk_get (G := G) mk5 (Hp.le.refl _) hx hyk
  rw [show seenT ((st.take i).map Prod.fst) y.1.1.toNat y.1.2.toNat = decide (y.1 ∈ (st.take i).map Prod.fst) by unfold seenT; rw [hxy]] at mg
  have m6 := mk5.put (v := true) hx hyk
  have hn0 := hn
  rw [hn]
  generalize hnn : y.1.2.toNat * w + y.1.1.toNat = n at hn hlt2 mg m6
  try simp -implicitDefEqProofs (maxSteps := 2000000) (disch := first | with_reducible exact Nat.ne_of_beq_eq_false rfl | exact oneCell_int | exact oneCell_bool | omega | rfl | (simp; done) | fail) only [ix101n hlt2, ld4, mg, Option.some.injEq, exists_eq_left']
  by_cases hmem : y.1 ∈ (st.take i).map Prod.fst
  · try simp -implicitDefEqProofs (maxSteps := 2000000) (disch := first | with_reducible exact Nat.ne_of_beq_eq_false rfl | exact oneCell_int | exact oneCell_bool | omega | rfl | (simp; done) | fail) only [decide_eq_true hmem, pick_t, HL.cond_true, gd_tf]
    refine no (fun q => not_nodup (L := st.map Prod.fst) (i := i) (x := y.1) (by rw [List.getElem?_map, hy]; rfl) ?_ q.apart) _
    rw [← List.map_take]; exact hmem
  try simp -implicitDefEqProofs (maxSteps := 2000000) (disch := first | with_reducible exact Nat.ne_of_beq_eq_false rfl | exact oneCell_int | exact oneCell_bool | omega | rfl | (simp; done) | fail) only [decide_eq_false hmem, k2, pick_f, gd_ff, opH_sv, fa95_1, add_mk, Nat.zero_add, ld57, ct, List.getElem?_cons_succ, List.getElem?_cons_zero, Option.some.injEq, exists_eq_left', ln57, bin_gtr]
  by_cases hlen : (y.2.length : Int) ≤ ht
  rotate_left
  · try simp -implicitDefEqProofs (maxSteps := 2000000) (disch := first | with_reducible exact Nat.ne_of_beq_eq_false rfl | exact oneCell_int | exact oneCell_bool | omega | rfl | (simp; done) | fail) only [show decide ((y.2.length : Int) > ht) = true from decide_eq_true (by omega), HL.cond_true]
    exact no (fun q => hlen (q.each y hym).2.2) _
  try simp -implicitDefEqProofs (maxSteps := 2000000) (disch := first | with_reducible exact Nat.ne_of_beq_eq_false rfl | exact oneCell_int | exact oneCell_bool | omega | rfl | (simp; done) | fail) only [show decide ((y.2.length : Int) > ht) = false from decide_eq_false (by omega), HL.cond_false]
  unfold S74_l2_k5
  try simp -implicitDefEqProofs (maxSteps := 2000000) (disch := first | with_reducible exact Nat.ne_of_beq_eq_false rfl | exact oneCell_int | exact oneCell_bool | omega | rfl | (simp; done) | fail) only [upd_ne, upd_eq, k0, opH_sv, fa95_1, add_mk, Nat.zero_add, ld57, opH_su, cf37, fa95_0, Nat.add_zero, ld28, ct, List.getElem?_cons_zero, Option.some.injEq, List.getElem?_cons_succ, exists_eq_left']
  refine (num_spec (c := y.1) (go5.gs (G := G))).mono ?_
  rintro _ h5 ⟨rfl, rfl⟩
  rw [hn]
  try simp -implicitDefEqProofs (maxSteps := 2000000) (disch := first | with_reducible exact Nat.ne_of_beq_eq_false rfl | exact oneCell_int | exact oneCell_bool | omega | rfl | (simp; done) | fail) only [k7, ix101n hlt2]
  rw [store1_eq sz4 rfl mk5 (by rw [bcC.rows_length, gridL_length]; simp [bcC]; exact hlt2)]
  have go6 := go5.other (o := .cells ((bcC.rows (gridL w k (seenT ((st.take i).map Prod.fst)))).set n (.bool true)).toArray 4 (0, 0)) mk5 (by decide) (by decide)
  have nm6 : NM (h5.set mb (.cells ((bcC.rows (gridL w k (seenT ((st.take i).map Prod.fst)))).set n (.bool true)).toArray 4 (0, 0))) mp ((st.take i).flatMap Prod.snd) := by
    obtain ⟨o, L, n1, n2, n3⟩ := nm5
    exact ⟨o, L, by rw [set_other (fun q => by unfold MK at mk5; rw [← q, n1] at mk5; cases mk5; exact absurd n2.cells (by simp [isCells]))]; exact n1, n2, n3⟩
  have bt6 : (h5.set mb (.cells ((bcC.rows (gridL w k (seenT ((st.take i).map Prod.fst)))).set n (.bool true)).toArray 4 (0, 0))) t = _ := (set_other (fun q => by unfold MK at mk5; rw [← q, bt] at mk5; simp at mk5)).trans bt
  have d6 : Dis G (h5.set mb (.cells ((bcC.rows (gridL w k (seenT ((st.take i).map Prod.fst)))).set n (.bool true)).toArray 4 (0, 0))) := d5.set (d5 _ _ mk5)
  generalize h5.set mb (.cells ((bcC.rows (gridL w k (seenT ((st.take i).map Prod.fst)))).set n (.bool true)).toArray 4 (0, 0)) = h6 at *
  have ct6 : ∀ j, cellIn G h6 ⟨t, j, none⟩ = _ := fun j => cell_of (look_own bt6)
  try simp -implicitDefEqProofs (maxSteps := 2000000) (disch := first | with_reducible exact Nat.ne_of_beq_eq_false rfl | exact oneCell_int | exact oneCell_bool | omega | rfl | (simp; done) | fail) only [ct6, List.getElem?_cons_succ, List.getElem?_cons_zero, Option.some.injEq, exists_eq_left', ln57]
  have mk7 : MK h6 mb w k (seenT ((st.take (i + 1)).map Prod.fst)) := by
    rw [take_get hy, List.map_append, List.map_singleton, seen_snoc a1 a3]
    exact m6
  have hft : (st.take (i + 1)).flatMap Prod.snd = (st.take i).flatMap Prod.snd ++ y.2 := by rw [take_get hy, List.flatMap_append]; simp
  refine stacks_in (L := y.2) (B0 := (st.take i).flatMap Prod.snd) _ h6 z3 (by omega) hmo (by simp -implicitDefEqProofs (maxSteps := 2000000) (disch := first | with_reducible exact Nat.ne_of_beq_eq_false rfl | exact oneCell_int | exact oneCell_bool | omega | rfl | (simp; done) | fail) only [upd_ne, k8]) (by simp -implicitDefEqProofs (maxSteps := 2000000) (disch := first | with_reducible exact Nat.ne_of_beq_eq_false rfl | exact oneCell_int | exact oneCell_bool | omega | rfl | (simp; done) | fail) only [upd_ne, upd_eq]) (by simp -implicitDefEqProofs (maxSteps := 2000000) (disch := first | with_reducible exact Nat.ne_of_beq_eq_false rfl | exact oneCell_int | exact oneCell_bool | omega | rfl | (simp; done) | fail) only [upd_ne, upd_eq]) (by simp -implicitDefEqProofs (maxSteps := 2000000) (disch := first | with_reducible exact Nat.ne_of_beq_eq_false rfl | exact oneCell_int | exact oneCell_bool | omega | rfl | (simp; done) | fail) only [upd_eq]) go6 mk7 nm6 d6 hon (fun hw2 hnd2 hl2 r7 h7 j0 j2 j7 j8 j20 j21 j22 go7 mk8 nm8 d7 => ?_) (fun hbad r7 h7 j6 d7 => ?_)
  · simp only [blockK_exit, if_true, blockK_normal, thenK_normal]
    unfold S74_l2_k4
    have j22' : r7 22 = .int .i64 i := j22.trans (by simp -implicitDefEqProofs (maxSteps := 2000000) (disch := first | with_reducible exact Nat.ne_of_beq_eq_false rfl | exact oneCell_int | exact oneCell_bool | omega | rfl | (simp; done) | fail) only [upd_ne, k22])
    simp -implicitDefEqProofs (maxSteps := 2000000) (disch := first | with_reducible exact Nat.ne_of_beq_eq_false rfl | exact oneCell_int | exact oneCell_bool | omega | rfl | (simp; done) | fail) only [j22', thenK_normal, opH_sv, bin_add, wrap_in]
    refine HX (st.length - (i + 1)) _ _ (by omega) ⟨i + 1, rfl, hlt', by simp -implicitDefEqProofs (maxSteps := 2000000) (disch := first | with_reducible exact Nat.ne_of_beq_eq_false rfl | exact oneCell_int | exact oneCell_bool | omega | rfl | (simp; done) | fail) only [upd_ne, j0, k0], by simp -implicitDefEqProofs (maxSteps := 2000000) (disch := first | with_reducible exact Nat.ne_of_beq_eq_false rfl | exact oneCell_int | exact oneCell_bool | omega | rfl | (simp; done) | fail) only [upd_ne, j2, k2], by simp -implicitDefEqProofs (maxSteps := 2000000) (disch := first | with_reducible exact Nat.ne_of_beq_eq_false rfl | exact oneCell_int | exact oneCell_bool | omega | rfl | (simp; done) | fail) only [upd_ne, j7, k7], by simp -implicitDefEqProofs (maxSteps := 2000000) (disch := first | with_reducible exact Nat.ne_of_beq_eq_false rfl | exact oneCell_int | exact oneCell_bool | omega | rfl | (simp; done) | fail) only [upd_ne, j8, k8], by simp -implicitDefEqProofs (maxSteps := 2000000) (disch := first | with_reducible exact Nat.ne_of_beq_eq_false rfl | exact oneCell_int | exact oneCell_bool | omega | rfl | (simp; done) | fail) only [upd_ne, j20, k20], by simp -implicitDefEqProofs (maxSteps := 2000000) (disch := first | with_reducible exact Nat.ne_of_beq_eq_false rfl | exact oneCell_int | exact oneCell_bool | omega | rfl | (simp; done) | fail) only [upd_ne, j21, k21], by simp -implicitDefEqProofs (maxSteps := 2000000) (disch := first | with_reducible exact Nat.ne_of_beq_eq_false rfl | exact oneCell_int | exact oneCell_bool | omega | rfl | (simp; done) | fail) only [upd_eq] <;> rfl, ?_, ?_, ?_, ?_, ?_, go7, mk8, by rw [hft]; exact nm8, d7⟩
    · rw [take_get hy]
      intro s hs
      rcases List.mem_append.1 hs with q | q
      · exact hea s q
      · simp at q; rw [q]; exact ⟨hc', hf0, hlen⟩
    · rw [take_get hy, List.map_append]
      exact List.nodup_append.2 ⟨hap, by simp, fun p hp q hq => by simp at hq; subst hq; exact fun e => hmem (e ▸ hp)⟩
    · rw [hft]
      intro c hc
      rcases List.mem_append.1 hc with q | q
      · exact hnu c q
      · exact hw2 c q
    · rw [hft]; exact hnd2
    · rw [hft]; exact hl2
  · simp -implicitDefEqProofs (maxSteps := 2000000) (disch := first | with_reducible exact Nat.ne_of_beq_eq_false rfl | exact oneCell_int | exact oneCell_bool | omega | rfl | (simp; done) | fail) only [blockK_ret, thenK_ret, retK_ret, resL_tmp, j6, resL_nil1]
    have e : st.flatMap Prod.snd = ((st.take i).flatMap Prod.snd ++ y.2) ++ (st.drop (i + 1)).flatMap Prod.snd := by rw [← hft, ← List.flatMap_append, List.take_append_drop]
    refine no (fun q => hbad ⟨fun c hc => q.nums c (List.mem_flatMap.2 ⟨y, hym, hc⟩), ?_, ?_⟩) _
    · have := q.once
      rw [e] at this
      exact (List.nodup_append.1 this).1
    · have := q.most
      rw [e, List.length_append] at this
      omega

end Go.Proofs.YtnpdploihlgcgaaDoor
