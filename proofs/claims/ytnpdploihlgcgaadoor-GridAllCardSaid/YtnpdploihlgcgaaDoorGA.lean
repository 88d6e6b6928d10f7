/- The hive's config as it lies in memory; the reference's answers on cells. -/
import Derived.Test.YtnpdploihlgcgaaDoorGRS
import Derived.Test.YtnpdploihlgcgaaDoorH3
set_option linter.unusedSimpArgs false
set_option linter.unusedVariables false
namespace Go.Proofs.YtnpdploihlgcgaaDoor
open Go Go.HL

abbrev Cell := Int × Int
structure Pose where
  x : Int
  y : Int
  d : Bool
  deriving DecidableEq
/-- A stack as it lies: its cell, its row of bins. -/
structure Raw where
  x : Int
  y : Int
  a : Option Addr
  n : Nat
  c : Nat
structure Conf where
  w : Int
  h : Int
  ht : Int
  bl : List Cell
  po : List Cell
  ro : List Pose
  st : List (Cell × List Int)
  un : Int
  ac : Int
  sp : Int
  tu : Int
  ho : Int
  qu : Int
  re : Int
  bu : Int
  back : Bool

def cellC : Cod Cell := ⟨2, fun x => [.int .i64 x.1, .int .i64 x.2], fun _ => rfl, fun _ v hv => by simp at hv; rcases hv with rfl | rfl <;> rfl⟩
def poseC : Cod Pose := ⟨3, fun p => [.int .i64 p.x, .int .i64 p.y, .bool p.d], fun _ => rfl, fun _ v hv => by simp at hv; rcases hv with rfl | rfl | rfl <;> rfl⟩
def icC : Cod Int := ⟨1, fun x => [.int .i64 x], fun _ => rfl, fun _ v hv => by simp at hv; rcases hv with rfl; rfl⟩
def bcC : Cod Bool := ⟨1, fun x => [.bool x], fun _ => rfl, fun _ v hv => by simp at hv; rcases hv with rfl; rfl⟩
def rawC : Cod Raw := ⟨3, fun s => [.int .i64 s.x, .int .i64 s.y, .slice s.a s.n s.c], fun _ => rfl, fun _ v hv => by simp at hv; rcases hv with rfl | rfl | rfl <;> rfl⟩

abbrev cellV (c : Cell) : Value := .agg #[.int .i64 c.1, .int .i64 c.2]
abbrev poseV (p : Pose) : Value := .agg #[.int .i64 p.x, .int .i64 p.y, .bool p.d]

/-- The config's lists, seen. -/
structure CA (G h : Hp) (C : Conf) (ab : Option Addr) (cb : Nat) (ap : Option Addr) (cp : Nat) (ar : Option Addr) (cr : Nat) (az : Option Addr) (cs : Nat) : Prop where
  bl : Sees cellC G h (.slice ab C.bl.length cb) C.bl
  po : Sees cellC G h (.slice ap C.po.length cp) C.po
  ro : Sees poseC G h (.slice ar C.ro.length cr) C.ro
  st : ∃ raw : List Raw, Sees rawC G h (.slice az C.st.length cs) raw ∧ ∀ (i : Nat) (r : Raw) (s : Cell × List Int), raw[i]? = some r → C.st[i]? = some s → (r.x, r.y) = s.1 ∧ r.n = s.2.length ∧ Sees icC G h (.slice r.a s.2.length r.c) s.2

abbrev confV (C : Conf) (ab : Option Addr) (cb : Nat) (ap : Option Addr) (cp : Nat) (ar : Option Addr) (cr : Nat) (az : Option Addr) (cs : Nat) : Value :=
  .agg #[.int .i64 C.w, .int .i64 C.h, .int .i64 C.ht, .slice ab C.bl.length cb, .slice ap C.po.length cp, .slice ar C.ro.length cr, .slice az C.st.length cs, .int .i64 C.un, .int .i64 C.ac, .int .i64 C.sp, .int .i64 C.tu, .int .i64 C.ho, .int .i64 C.qu, .int .i64 C.re, .int .i64 C.bu, .bool C.back]

def CV (G h : Hp) (v : Value) (C : Conf) : Prop := ∃ ab cb ap cp ar cr az cs, v = confV C ab cb ap cp ar cr az cs ∧ CA G h C ab cb ap cp ar cr az cs

theorem CA.up {G h h' : Hp} {C : Conf} {ab : Option Addr} {cb : Nat} {ap : Option Addr} {cp : Nat} {ar : Option Addr} {cr : Nat} {az : Option Addr} {cs : Nat} (c : CA G h C ab cb ap cp ar cr az cs) (l : h.le h') (d : Dis G h') : CA G h' C ab cb ap cp ar cr az cs := by
  obtain ⟨c1, c2, c3, raw, c4, c5⟩ := c
  exact ⟨c1.up l d, c2.up l d, c3.up l d, raw, c4.up l d, fun i r s h1 h2 => let ⟨a, b, c⟩ := c5 i r s h1 h2; ⟨a, b, c.up l d⟩⟩
theorem CV.up {G h h' : Hp} {v : Value} {C : Conf} (c : CV G h v C) (l : h.le h') (d : Dis G h') : CV G h' v C := by
  obtain ⟨ab, cb, ap, cp, ar, cr, az, cs, e, c⟩ := c
  exact ⟨ab, cb, ap, cp, ar, cr, az, cs, e, c.up l d⟩
theorem CA.cv {G h : Hp} {C : Conf} {ab : Option Addr} {cb : Nat} {ap : Option Addr} {cp : Nat} {ar : Option Addr} {cr : Nat} {az : Option Addr} {cs : Nat} (c : CA G h C ab cb ap cp ar cr az cs) : CV G h (confV C ab cb ap cp ar cr az cs) C := ⟨ab, cb, ap, cp, ar, cr, az, cs, rfl, c⟩

def withinB (n a b : Int) : Bool := decide (n ≥ a) && decide (n ≤ b)
def inB (C : Conf) (c : Cell) : Bool := decide (c.1 ≥ 0) && (decide (c.2 ≥ 0) && (decide (c.1 < C.w) && decide (c.2 < C.h)))
def openB (C : Conf) (c : Cell) : Bool := inB C c && (C.bl.count c == 0)
def wr (x : Int) : Int := IntKind.i64.wrap x
def east (p : Pose) : Cell := if p.d then (p.x, wr (p.y + 1)) else (wr (p.x + 1), p.y)
def cellsP (p : Pose) : List Cell := [(p.x, p.y), east p]
def fitsB (C : Conf) (p : Pose) : Bool := openB C (p.x, p.y) && openB C (east p)
def besideB (C : Conf) (c : Cell) : Bool := openB C (wr (c.1 + 1), c.2) || openB C (c.1, wr (c.2 + 1))
def homeB (C : Conf) (c : Cell) : Bool := C.ro.any fun p => decide (((cellsP p).count c : Int) > 0)
def portI (C : Conf) (c : Cell) : Int := if c ∈ C.po then (C.po.idxOf c : Int) else -1
def stackedB (C : Conf) (c : Cell) : Bool := openB C c && (decide (portI C c < 0) && (!homeB C c && besideB C c))

theorem rwithin_spec {G h : Hp} {n a b : Int} : HCalls Tryd.prog G 58 #[.int .i64 n, .int .i64 a, .int .i64 b] h (fun u h' => u = .bool (withinB n a b) ∧ h' = h) := by
  refine quietly (enter58 (by simp) ?_)
  unfold S58
  simp -implicitDefEqProofs (maxSteps := 2000000) (disch := first | with_reducible exact Nat.ne_of_beq_eq_false rfl | exact oneCell_int | exact oneCell_bool | omega | rfl | (simp; done) | fail) only [regs0, regs1, regs2, retK_ret, resL_tmp, upd_eq, resL_nil1, opH_sv, bin_geq]
  unfold withinB
  cases hc : decide (n ≥ a) with
  | false => simp -implicitDefEqProofs (maxSteps := 2000000) (disch := first | with_reducible exact Nat.ne_of_beq_eq_false rfl | exact oneCell_int | exact oneCell_bool | omega | rfl | (simp; done) | fail) only [pick_f, gd_ft]; exact ⟨rfl, Hp.le.refl h⟩
  | true => simp -implicitDefEqProofs (maxSteps := 2000000) (disch := first | with_reducible exact Nat.ne_of_beq_eq_false rfl | exact oneCell_int | exact oneCell_bool | omega | rfl | (simp; done) | fail) only [Bool.true_and, pick_t, gd_tt, opH_sv, bin_leq, true_and]; exact Hp.le.refl h

theorem in_spec {G h : Hp} {v : Value} {C : Conf} {c : Cell} (hv : CV G h v C) : HCalls Tryd.prog G 52 #[v, cellV c] h (fun u h' => u = .bool (inB C c) ∧ h' = h) := by
  obtain ⟨ab, cb, ap, cp, ar, cr, az, cs, rfl, ca⟩ := hv
  refine quietly (enter52 (by simp) ?_)
  unfold S52
  simp -implicitDefEqProofs (maxSteps := 2000000) (disch := first | with_reducible exact Nat.ne_of_beq_eq_false rfl | exact oneCell_int | exact oneCell_bool | omega | rfl | (simp; done) | fail) only [regs0, regs1, retK_ret, resL_tmp, upd_eq, resL_nil1, opH_sv, box_new, cells_agg, fa28_0, add_mk, Nat.add_zero, ld3, cell_set_self, List.getElem?_cons_zero, Option.some.injEq, exists_eq_left', bin_geq]
  intro x hx gx y hy gy
  have l := (le_set (o := .cells #[.int .i64 C.w, .int .i64 C.h, .int .i64 C.ht, .slice ab C.bl.length cb, .slice ap C.po.length cp, .slice ar C.ro.length cr, .slice az C.st.length cs, .int .i64 C.un, .int .i64 C.ac, .int .i64 C.sp, .int .i64 C.tu, .int .i64 C.ho, .int .i64 C.qu, .int .i64 C.re, .int .i64 C.bu, .bool C.back] 26 (0, 0)) hx).trans (le_set (o := .cells #[.int .i64 c.1, .int .i64 c.2] 28 (0, 0)) hy)
  have exy := ne_of_set hy
  unfold inB
  cases hc : decide (c.1 ≥ 0) with
  | false => simp -implicitDefEqProofs (maxSteps := 2000000) (disch := first | with_reducible exact Nat.ne_of_beq_eq_false rfl | exact oneCell_int | exact oneCell_bool | omega | rfl | (simp; done) | fail) only [pick_f, gd_ft]; exact ⟨rfl, l⟩
  | true =>
  simp -implicitDefEqProofs (maxSteps := 2000000) (disch := first | with_reducible exact Nat.ne_of_beq_eq_false rfl | exact oneCell_int | exact oneCell_bool | omega | rfl | (simp; done) | fail) only [Bool.true_and, pick_t, gd_tt, opH_sv, fa28_1, add_mk, Nat.zero_add, ld3, cell_set_self, List.getElem?_cons_succ, List.getElem?_cons_zero, Option.some.injEq, exists_eq_left', bin_geq]
  cases hc2 : decide (c.2 ≥ 0) with
  | false => simp -implicitDefEqProofs (maxSteps := 2000000) (disch := first | with_reducible exact Nat.ne_of_beq_eq_false rfl | exact oneCell_int | exact oneCell_bool | omega | rfl | (simp; done) | fail) only [pick_f, gd_ft]; exact ⟨rfl, l⟩
  | true =>
  simp -implicitDefEqProofs (maxSteps := 2000000) (disch := first | with_reducible exact Nat.ne_of_beq_eq_false rfl | exact oneCell_int | exact oneCell_bool | omega | rfl | (simp; done) | fail) only [Bool.true_and, pick_t, gd_tt, opH_sv, fa26_0, add_mk, Nat.add_zero, ld3, fa28_0, cell_set_self, List.getElem?_cons_zero, Option.some.injEq, cell_set_other exy, exists_eq_left', bin_lss]
  cases hc3 : decide (c.1 < C.w) with
  | false => simp -implicitDefEqProofs (maxSteps := 2000000) (disch := first | with_reducible exact Nat.ne_of_beq_eq_false rfl | exact oneCell_int | exact oneCell_bool | omega | rfl | (simp; done) | fail) only [pick_f, gd_ft]; exact ⟨rfl, l⟩
  | true =>
  simp -implicitDefEqProofs (maxSteps := 2000000) (disch := first | with_reducible exact Nat.ne_of_beq_eq_false rfl | exact oneCell_int | exact oneCell_bool | omega | rfl | (simp; done) | fail) only [Bool.true_and, pick_t, gd_tt, opH_sv, fa26_1, add_mk, Nat.zero_add, ld3, fa28_1, cell_set_self, List.getElem?_cons_succ, List.getElem?_cons_zero, Option.some.injEq, cell_set_other exy, exists_eq_left', bin_lss, true_and]
  exact l

theorem cget {G h : Hp} {b o i : Nat} {x : Cell} (e : ∀ j, j < cellC.n → cellIn G h ⟨b, o + i * cellC.n + j, none⟩ = (cellC.enc x)[j]?) :
    cellIn G h ⟨b, o + i * 2, none⟩ = some (.int .i64 x.1) ∧ cellIn G h ⟨b, o + i * 2 + 1, none⟩ = some (.int .i64 x.2) := ⟨e 0 (by decide), e 1 (by decide)⟩
theorem pget {G h : Hp} {b o i : Nat} {x : Pose} (e : ∀ j, j < poseC.n → cellIn G h ⟨b, o + i * poseC.n + j, none⟩ = (poseC.enc x)[j]?) :
    cellIn G h ⟨b, o + i * 3, none⟩ = some (.int .i64 x.x) ∧ cellIn G h ⟨b, o + i * 3 + 1, none⟩ = some (.int .i64 x.y) ∧ cellIn G h ⟨b, o + i * 3 + 2, none⟩ = some (.bool x.d) := ⟨e 0 (by decide), e 1 (by decide), e 2 (by decide)⟩

theorem cell_beq (x y : Cell) : (x.1 == y.1 && x.2 == y.2) = (x == y) := rfl

/-- At an element of a row of cells. -/
theorem Sees.cell {G h : Hp} {sa : Option Addr} {cap : Nat} {L : List Cell} (s : Sees cellC G h (.slice sa L.length cap) L) {i : Nat} {x : Cell} (hx : L[i]? = some x) :
    ∃ b o, sa = some ⟨b, o, none⟩ ∧ cellIn G h ⟨b, o + i * 2, none⟩ = some (.int .i64 x.1) ∧ cellIn G h ⟨b, o + i * 2 + 1, none⟩ = some (.int .i64 x.2) := by
  obtain ⟨b, o, c, e1, e2⟩ := s.get hx
  simp only [Value.slice.injEq] at e1
  exact ⟨b, o, e1.1, cget e2⟩
theorem Sees.pose {G h : Hp} {sa : Option Addr} {cap : Nat} {L : List Pose} (s : Sees poseC G h (.slice sa L.length cap) L) {i : Nat} {x : Pose} (hx : L[i]? = some x) :
    ∃ b o, sa = some ⟨b, o, none⟩ ∧ cellIn G h ⟨b, o + i * 3, none⟩ = some (.int .i64 x.x) ∧ cellIn G h ⟨b, o + i * 3 + 1, none⟩ = some (.int .i64 x.y) ∧ cellIn G h ⟨b, o + i * 3 + 2, none⟩ = some (.bool x.d) := by
  obtain ⟨b, o, c, e1, e2⟩ := s.get hx
  simp only [Value.slice.injEq] at e1
  exact ⟨b, o, e1.1, pget e2⟩

theorem among_spec {G h : Hp} {v : Value} {L : List Cell} {c : Cell} (hv : Sees cellC G h v L) (hL : L.length ≤ 100000000000000) : HCalls Tryd.prog G 53 #[v, cellV c] h (fun u h' => u = .int .i64 (L.count c) ∧ h' = h) := by
  obtain ⟨sa, cap, rfl⟩ := hv.len
  refine HCalls.assume fun d => quietly (enter53 (by simp) ?_)
  unfold S53
  simp -implicitDefEqProofs (maxSteps := 2000000) (disch := first | with_reducible exact Nat.ne_of_beq_eq_false rfl | exact oneCell_int | exact oneCell_bool | omega | rfl | (simp; done) | fail) only [regs1, opH_sv, box_new, cells_agg]
  intro x hx gx
  have l := le_set (o := .cells #[.int .i64 c.1, .int .i64 c.2] 28 (0, 0)) hx
  have hs := hv.up l (d.set gx)
  have hxx : (h.set x (.cells #[.int .i64 c.1, .int .i64 c.2] 28 (0, 0))) x = some (.cells #[.int .i64 c.1, .int .i64 c.2] 28 (0, 0)) := set_self
  generalize h.set x (.cells #[.int .i64 c.1, .int .i64 c.2] 28 (0, 0)) = h2 at *
  have cx : ∀ k, cellIn G h2 ⟨x, k, none⟩ = _ := fun k => cell_of (look_own hxx)
  refine loop_I (fun m r h3 => ∃ i : Nat, m = L.length - i ∧ i ≤ L.length ∧ r 0 = .slice sa L.length cap ∧ r 3 = .pointer (some ⟨x, 0, none⟩) ∧ r 5 = .int .i64 ((L.take i).count c) ∧ r 6 = .int .i64 i ∧ h3 = h2) ?_
    (m := L.length) ⟨0, rfl, Nat.zero_le _, by simp -implicitDefEqProofs (maxSteps := 2000000) (disch := first | with_reducible exact Nat.ne_of_beq_eq_false rfl | exact oneCell_int | exact oneCell_bool | omega | rfl | (simp; done) | fail) only [upd_ne, regs0], by simp -implicitDefEqProofs (maxSteps := 2000000) (disch := first | with_reducible exact Nat.ne_of_beq_eq_false rfl | exact oneCell_int | exact oneCell_bool | omega | rfl | (simp; done) | fail) only [upd_ne, upd_eq], by simp -implicitDefEqProofs (maxSteps := 2000000) (disch := first | with_reducible exact Nat.ne_of_beq_eq_false rfl | exact oneCell_int | exact oneCell_bool | omega | rfl | (simp; done) | fail) only [upd_ne, upd_eq] <;> rfl, by simp -implicitDefEqProofs (maxSteps := 2000000) (disch := first | with_reducible exact Nat.ne_of_beq_eq_false rfl | exact oneCell_int | exact oneCell_bool | omega | rfl | (simp; done) | fail) only [upd_eq] <;> rfl, rfl⟩
  rintro m r h3 ⟨i, rfl, hi, g0, g3, g5, g6, rfl⟩ X HX
  unfold S53_l2
  simp -implicitDefEqProofs (maxSteps := 2000000) (disch := first | with_reducible exact Nat.ne_of_beq_eq_false rfl | exact oneCell_int | exact oneCell_bool | omega | rfl | (simp; done) | fail) only [g0, g6, thenK_exit, blockK_exit, thenK_normal, if_true, opH_sv, ln22, bin_lss]
  refine cond_dec (fun hlt => ?_) (fun hge => ?_)
  · have hlt' : i < L.length := by omega
    obtain ⟨y, hy⟩ : ∃ x, L[i]? = some x := ⟨_, List.getElem?_eq_getElem hlt'⟩
    obtain ⟨b, o, rfl, y0, y1⟩ := Sees.cell hs hy
    have htk : L.take (i + 1) = L.take i ++ [y] := by rw [List.take_add_one, hy]; rfl
    have hcnt : ((L.take i).count c : Int) ≤ i := by have := List.count_le_length (a := c) (l := L.take i); rw [List.length_take] at this; omega
    unfold S53_l2_k3
    simp -implicitDefEqProofs (maxSteps := 2000000) (disch := first | with_reducible exact Nat.ne_of_beq_eq_false rfl | exact oneCell_int | exact oneCell_bool | omega | rfl | (simp; done) | fail) only [upd_ne, g0, g6, g3, opH_sv, pureW_sv, ld28p, add_mk, Nat.add_zero, cx, List.getElem?_cons_zero, Option.some.injEq, Nat.zero_add, List.getElem?_cons_succ, exists_eq_left', ix22p (Int.natCast_nonneg i) hlt, Int.toNat_natCast, y0, y1, eq28p, Bool.and_true, cell_beq]
    cases hb : (y == c) with
    | true =>
      simp -implicitDefEqProofs (maxSteps := 2000000) (disch := first | with_reducible exact Nat.ne_of_beq_eq_false rfl | exact oneCell_int | exact oneCell_bool | omega | rfl | (simp; done) | fail) only [g5, bin_add, wrap_in, HL.cond_true]
      unfold S53_l2_k4
      simp -implicitDefEqProofs (maxSteps := 2000000) (disch := first | with_reducible exact Nat.ne_of_beq_eq_false rfl | exact oneCell_int | exact oneCell_bool | omega | rfl | (simp; done) | fail) only [upd_ne, g6, thenK_normal, opH_sv, bin_add, wrap_in]
      refine HX (L.length - (i + 1)) _ _ (by omega) ⟨i + 1, rfl, hlt', by simp -implicitDefEqProofs (maxSteps := 2000000) (disch := first | with_reducible exact Nat.ne_of_beq_eq_false rfl | exact oneCell_int | exact oneCell_bool | omega | rfl | (simp; done) | fail) only [upd_ne, g0], by simp -implicitDefEqProofs (maxSteps := 2000000) (disch := first | with_reducible exact Nat.ne_of_beq_eq_false rfl | exact oneCell_int | exact oneCell_bool | omega | rfl | (simp; done) | fail) only [upd_ne, g3], ?_, by simp -implicitDefEqProofs (maxSteps := 2000000) (disch := first | with_reducible exact Nat.ne_of_beq_eq_false rfl | exact oneCell_int | exact oneCell_bool | omega | rfl | (simp; done) | fail) only [upd_eq] <;> rfl, rfl⟩
      simp -implicitDefEqProofs (maxSteps := 2000000) (disch := first | with_reducible exact Nat.ne_of_beq_eq_false rfl | exact oneCell_int | exact oneCell_bool | omega | rfl | (simp; done) | fail) only [upd_ne, upd_eq]
      rw [htk, List.count_append, List.count_singleton, hb]
      rfl
    | false =>
      simp -implicitDefEqProofs (maxSteps := 2000000) (disch := first | with_reducible exact Nat.ne_of_beq_eq_false rfl | exact oneCell_int | exact oneCell_bool | omega | rfl | (simp; done) | fail) only [HL.cond_false]
      unfold S53_l2_k4
      simp -implicitDefEqProofs (maxSteps := 2000000) (disch := first | with_reducible exact Nat.ne_of_beq_eq_false rfl | exact oneCell_int | exact oneCell_bool | omega | rfl | (simp; done) | fail) only [upd_ne, g6, thenK_normal, opH_sv, bin_add, wrap_in]
      refine HX (L.length - (i + 1)) _ _ (by omega) ⟨i + 1, rfl, hlt', by simp -implicitDefEqProofs (maxSteps := 2000000) (disch := first | with_reducible exact Nat.ne_of_beq_eq_false rfl | exact oneCell_int | exact oneCell_bool | omega | rfl | (simp; done) | fail) only [upd_ne, g0], by simp -implicitDefEqProofs (maxSteps := 2000000) (disch := first | with_reducible exact Nat.ne_of_beq_eq_false rfl | exact oneCell_int | exact oneCell_bool | omega | rfl | (simp; done) | fail) only [upd_ne, g3], ?_, by simp -implicitDefEqProofs (maxSteps := 2000000) (disch := first | with_reducible exact Nat.ne_of_beq_eq_false rfl | exact oneCell_int | exact oneCell_bool | omega | rfl | (simp; done) | fail) only [upd_eq] <;> rfl, rfl⟩
      simp -implicitDefEqProofs (maxSteps := 2000000) (disch := first | with_reducible exact Nat.ne_of_beq_eq_false rfl | exact oneCell_int | exact oneCell_bool | omega | rfl | (simp; done) | fail) only [upd_ne, g5]
      rw [htk, List.count_append, List.count_singleton, hb]
      rfl
  · obtain rfl : i = L.length := by omega
    rw [List.take_of_length_le (Nat.le_refl _)] at g5
    show S53_k1 _ _ _ _
    unfold S53_k1
    simp -implicitDefEqProofs (maxSteps := 2000000) (disch := first | with_reducible exact Nat.ne_of_beq_eq_false rfl | exact oneCell_int | exact oneCell_bool | omega | rfl | (simp; done) | fail) only [upd_ne, g5, retK_ret, resL_tmp, upd_eq, resL_nil1, true_and]
    exact l

end Go.Proofs.YtnpdploihlgcgaaDoor
