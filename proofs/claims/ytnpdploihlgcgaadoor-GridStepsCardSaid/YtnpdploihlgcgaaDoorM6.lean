/- Texts of the proof, one behind the other. -/
import Derived.Test.YtnpdploihlgcgaaDoorM5
import Derived.Test.YtnpdploihlgcgaaDoorH2
import Derived.Test.YtnpdploihlgcgaaDoorH3
import Derived.Test.YtnpdploihlgcgaaDoorRows
import Derived.Test.YtnpdploihlgcgaaDoorTie
import Derived.JoinedOf
import Derived.Handed
import Derived.LaidMore
import Derived.LaidHandle
import Derived.LaidLaws
import Derived.MakeChecks
section
/- What the row's premise gives: the package's steps as they lie. -/
set_option linter.unusedSimpArgs false
set_option linter.unusedVariables false
set_option maxRecDepth 100000
namespace Go.Proofs.YtnpdploihlgcgaaDoor
open Go Go.HL Go.ChangeShapes Go.WideShapes Go.RowKit

theorem own_knob : ownKnob Tryd.prog.godebug = none := by kernel_rfl
theorem laid_out : laidOutB Tryd.prog = true := by kernel_rfl
theorem gSteps : Tryd.prog.globalNamed "skep/grid.steps" = some 0 := by kernel_rfl
theorem tSteps : (Tryd.prog.globals[0]?).map (·.type) = some 81 := by kernel_rfl

abbrev laidL : List (String × DataW Unit) := [("skep/grid.steps", Rows.laid_skep_grid_steps)]

theorem door_met (os : Os) (args : Array Value) : laidMetH Tryd.prog laidL ((World.doorLaid Tryd.prog 400 os).forCall (fun _ _ => 0) ⟨#[], args, []⟩).memory :=
  laidMetH_of_parts3 (fuel := 8) (laidMet_of_run' 8 (by kernel_rfl) (by kernel_rfl)) (by kernel_rfl) (by kernel_rfl)

theorem dec_fieldsD {H : Type} {enc : TypeId × Value → H} {P : Program} {w : World} {base : Nat} {spare : Nat → Bool} {held : Bool} {e : TypeId} {fuel : Nat} {cs : List Value} {y : DataW H × List MemPlace} {tos : List (TypeId × Nat)} (ht : structFields P e = some tos)
    (h : DataW.trod enc P w base spare held fuel e cs = some y) : cs.length = P.cellsOf e ∧ ∃ (xs : List (DataW H × List MemPlace)) (m : Nat), y = (.agg (xs.map (·.1)), xs.flatMap (·.2)) ∧ xs.length = tos.length ∧ ∀ (i : Nat) (t o : Nat), tos[i]? = some (t, o) → DataW.trod enc P w base spare held m t ((cs.drop o).take (P.cellsOf t)) = xs[i]? := by
  unfold structFields at ht
  split at ht
  · rename_i fs hfs
    obtain ⟨xs, n, _, h0, h1, h2, h3⟩ := DataW.trod_struct hfs h
    simp only [Option.some.injEq] at ht
    subst ht
    refine ⟨h1, xs, n, h0, by simp [h2], fun i t o hi => ?_⟩
    rw [List.getElem?_map, Array.getElem?_toList] at hi
    cases q : fs[i]? with
    | none => rw [q] at hi; cases hi
    | some f =>
      rw [q] at hi
      simp only [Option.map_some, Option.some.injEq, Prod.mk.injEq] at hi
      obtain ⟨rfl, rfl⟩ := hi
      exact h3 i f q
  · cases ht

theorem un3i : Tryd.prog.underlying 3 = some (.int .i64) := by kernel_rfl
theorem c3 : Tryd.prog.cellsOf 3 = 1 := by kernel_rfl
theorem c28 : Tryd.prog.cellsOf 28 = 2 := by kernel_rfl
theorem c81 : Tryd.prog.cellsOf 81 = 8 := by kernel_rfl
theorem sf28 : structFields Tryd.prog 28 = some [(3, 0), (3, 1)] := by kernel_rfl

theorem step_dec {H : Type} {enc : TypeId × Value → H} {w : World} {base : Nat} {spare : Nat → Bool} {held : Bool} {m : Nat} {cs : List Value} {x : DataW H × List MemPlace} {a b : Int}
    (h : DataW.trod enc Tryd.prog w base spare held m 28 cs = some x) (e : x.1 = .agg [.lit (.int .i64 a), .lit (.int .i64 b)]) : cs = [.int .i64 a, .int .i64 b] := by
  obtain ⟨hl, xs, n, rfl, hxl, d⟩ := dec_fieldsD sf28 h
  rw [c28] at hl
  match cs, hl, xs, hxl with
  | [v0, v1], _, [x0, x1], _ =>
  have h0 := d 0 3 0 rfl
  have h1 := d 1 3 1 rfl
  rw [c3] at h0 h1
  obtain ⟨k0, e0, f0, _⟩ := DataW.trod_int un3i (show DataW.trod _ _ _ _ _ _ n 3 _ = some x0 from h0)
  obtain ⟨k1, e1, f1, _⟩ := DataW.trod_int un3i (show DataW.trod _ _ _ _ _ _ n 3 _ = some x1 from h1)
  simp at e0 e1
  subst e0 e1 f0 f1
  simp at e
  obtain ⟨rfl, rfl⟩ := e
  rfl

theorem len8 {α : Type} {L : List α} (h : L.length = 8) : ∃ a b c d e f g i, L = [a, b, c, d, e, f, g, i] := by
  match L, h with
  | [a, b, c, d, e, f, g, i], _ => exact ⟨a, b, c, d, e, f, g, i, rfl⟩

theorem of_laid {W : World} (h : laidMetH Tryd.prog laidL W) : Steps (ground W) := by
  rw [MakeChecks.laidMetH_plain _ _ _ (by kernel_rfl)] at h
  obtain ⟨ps, ⟨g0, t0, cs0, f0, p0, q0, hg0, ht0, hv0, hd0, _, _⟩, _, _⟩ := h
  obtain rfl := Option.some.inj (gSteps.symm.trans hg0)
  obtain rfl := Option.some.inj (tSteps.symm.trans ht0)
  obtain ⟨xs, m, rfl, hx, hl, hxl, hel⟩ := DataW.trod_array un81 hd0
  rw [c81] at hl
  rw [c28] at hel
  simp only [Prod.mk.injEq] at hx
  obtain ⟨hx, _⟩ := hx
  have hobj : ∃ e f, W.heap[0]? = some (.cells cs0 e f) := by
    unfold World.var? at hv0
    rw [gSteps] at hv0
    simp only [Option.bind_some] at hv0
    split at hv0
    · rename_i c e f hc
      cases hv0
      exact ⟨e, f, hc⟩
    · cases hv0
  obtain ⟨e, f, hobj⟩ := hobj
  refine ⟨e, f, ?_⟩
  show W.heap[0]? = _
  rw [hobj]
  match xs, hxl with
  | [x0, x1, x2, x3], _ =>
  have h0 := hel 0 (by decide)
  have h1 := hel 1 (by decide)
  have h2 := hel 2 (by decide)
  have h3 := hel 3 (by decide)
  unfold Rows.laid_skep_grid_steps at hx
  simp only [List.map_cons, List.map_nil, DataW.agg.injEq, List.cons.injEq] at hx
  have k0 := step_dec (show DataW.trod _ _ _ _ _ _ m 28 _ = some x0 from h0) hx.1.symm
  have k1 := step_dec (show DataW.trod _ _ _ _ _ _ m 28 _ = some x1 from h1) hx.2.1.symm
  have k2 := step_dec (show DataW.trod _ _ _ _ _ _ m 28 _ = some x2 from h2) hx.2.2.1.symm
  have k3 := step_dec (show DataW.trod _ _ _ _ _ _ m 28 _ = some x3 from h3) hx.2.2.2.1.symm
  obtain ⟨cs⟩ := cs0
  obtain ⟨a0, a1, a2, a3, a4, a5, a6, a7, rfl⟩ := len8 hl
  simp at k0 k1 k2 k3
  obtain ⟨rfl, rfl⟩ := k0
  obtain ⟨rfl, rfl⟩ := k1
  obtain ⟨rfl, rfl⟩ := k2
  obtain ⟨rfl, rfl⟩ := k3
  rfl

end Go.Proofs.YtnpdploihlgcgaaDoor
end

section
/- GridMay: the walk. -/
set_option linter.unusedSimpArgs false
set_option linter.unusedVariables false
set_option maxRecDepth 100000
namespace Go.Proofs.YtnpdploihlgcgaaDoor
open Go Go.HL

theorem Fit0.lens {C : Conf} (f : Fit0 C) : C.bl.length ≤ 100000000000000 ∧ C.po.length ≤ 100000000000000 ∧ C.ro.length ≤ 100000000000000 ∧ C.st.length ≤ 100000000000000 := by
  obtain ⟨a, b, c, d, _⟩ := f
  unfold Room at a b c d
  omega

theorem CV.box {G h : Hp} {v : Value} {C : Conf} (hv : CV G h v C) : ∃ a1 n1 a2 n2 a3 n3 a4 n4, v = confV C a1 n1 a2 n2 a3 n3 a4 n4 := by
  obtain ⟨ab, cb, ap, cp, ar, cr, az, cs, rfl, ca⟩ := hv
  exact ⟨_, _, _, _, _, _, _, _, rfl⟩

end Go.Proofs.YtnpdploihlgcgaaDoor
end

section
/- GridLegal: the walk. -/
set_option linter.unusedSimpArgs false
set_option linter.unusedVariables false
set_option maxRecDepth 100000
namespace Go.Proofs.YtnpdploihlgcgaaDoor
open Go Go.HL

theorem swept_le {C : Conf} {m : Move} (w16 : wC C ≤ 16) (k16 : kC C ≤ 16) : (rsweptM C m).length ≤ 256 := by
  unfold rsweptM
  split
  · exact swept_len w16 k16
  · simp

end Go.Proofs.YtnpdploihlgcgaaDoor
end

section
/- Each legal run and turn is among the moves of its pose, just once. -/
set_option linter.unusedSimpArgs false
set_option linter.unusedVariables false
namespace Go.Proofs.YtnpdploihlgcgaaDoor
open Go Go.HL

variable {C : Conf}

end Go.Proofs.YtnpdploihlgcgaaDoor
end

section
/- GridBack: the plain law. -/
set_option linter.unusedSimpArgs false
set_option linter.unusedVariables false
set_option maxRecDepth 100000
namespace Go.Proofs.YtnpdploihlgcgaaDoor
open Go Go.HL
variable {C : Conf}

end Go.Proofs.YtnpdploihlgcgaaDoor
end

section
/- GridSteps: the plain law. -/
set_option linter.unusedSimpArgs false
set_option linter.unusedVariables false
set_option maxRecDepth 100000
namespace Go.Proofs.YtnpdploihlgcgaaDoor
open Go Go.HL
variable {C : Conf}

def runM (p : Pose) (d n : Int) : Move := ⟨1, d, n, p, shiftR p d n, 0, 0⟩
def stepQ (p : Pose) (d : Int) (i : Nat) : Pose := shiftR p d (i : Int)

theorem wr_add {x n : Int} : wr (wr (x + n) + 1) = wr (x + (n + 1)) := by
  unfold wr IntKind.wrap
  simp [IntKind.signed, IntKind.bits]
  omega
theorem wr_sub {x n : Int} : wr (wr (x - n) - 1) = wr (x - (n + 1)) := by
  unfold wr IntKind.wrap
  simp [IntKind.signed, IntKind.bits]
  omega
theorem step_zero {p : Pose} {d : Int} (hp : PB p) : stepQ p d 0 = p := by
  obtain ⟨h1, h2⟩ := hp
  unfold stepQ shiftR
  simp [wr_in h1, wr_in h2]
theorem step_succ {p : Pose} {d : Int} {i : Nat} : shiftR (stepQ p d i) d 1 = stepQ p d (i + 1) := by
  unfold stepQ shiftR
  simp only [Int.natCast_add, Int.cast_ofNat_Int]
  by_cases h1 : d = 1
  · simp [h1, wr_add]
  by_cases h3 : d = 3
  · simp [h3, wr_sub]
  by_cases h0 : d = 0
  · simp [h0, wr_sub]
  by_cases h2 : d = 2
  · simp [h2, wr_add]
  simp [h0, h1, h2, h3]
theorem step_pb {p : Pose} {d : Int} {i : Nat} (hp : PB p) : PB (stepQ p d i) := by
  obtain ⟨h1, h2⟩ := hp
  unfold stepQ shiftR
  refine ⟨?_, ?_⟩ <;> simp only <;> split <;> first | exact wr_bd _ | (split <;> first | exact wr_bd _ | assumption)

theorem run_legal {p : Pose} {d n : Int} (hn : 1 ≤ n ∧ n ≤ 16) (hd : 0 ≤ d ∧ d ≤ 3) (hp : PB p) : legalR C (runM p d n) = true ↔ ∀ i : Nat, i ≤ n.toNat → fitsB C (stepQ p d i) = true := by
  unfold legalR
  rw [if_pos (show (runM p d n).k = 1 from rfl)]
  simp only [Bool.and_eq_true, decide_eq_true_eq, List.all_eq_true, List.mem_range]
  constructor
  · rintro ⟨h0, _, _, _, h⟩ i hi
    cases i with
    | zero => rw [step_zero hp]; exact h0
    | succ i => exact h i (show i < n.toNat by omega)
  · intro h
    refine ⟨?_, withinB_iff.2 hn, withinB_iff.2 hd, rfl, fun i hi => ?_⟩
    · have := h 0 (Nat.zero_le _)
      rw [step_zero hp] at this
      exact this
    · exact h (i + 1) (show i + 1 ≤ n.toNat from hi)
theorem one_legal {p : Pose} {d : Int} {i : Nat} (hd : 0 ≤ d ∧ d ≤ 3) (hp : PB p) : legalR C (runM (stepQ p d i) d 1) = (fitsB C (stepQ p d i) && fitsB C (stepQ p d (i + 1))) := by
  rw [Bool.eq_iff_iff, run_legal ⟨by decide, by decide⟩ hd (step_pb hp), Bool.and_eq_true]
  have e0 : stepQ (stepQ p d i) d 0 = stepQ p d i := step_zero (step_pb hp)
  have e1 : stepQ (stepQ p d i) d 1 = stepQ p d (i + 1) := step_succ
  constructor
  · intro h
    have h0 := h 0 (by decide)
    have h1 := h 1 (by decide)
    rw [e0] at h0
    rw [e1] at h1
    exact ⟨h0, h1⟩
  · rintro ⟨h0, h1⟩ j hj
    have : j = 0 ∨ j = 1 := by have : j ≤ (1 : Int).toNat := hj; have e : (1 : Int).toNat = 1 := rfl; omega
    rcases this with rfl | rfl
    · rw [e0]; exact h0
    · rw [e1]; exact h1

/-- The swept cells of a run. -/
theorem run_mem {p : Pose} {d n : Int} (hn : 1 ≤ n ∧ n ≤ 16) (hl : legalR C (runM p d n) = true) {x : Cell} :
    x ∈ rsweptM C (runM p d n) ↔ (0 ≤ x.1 ∧ x.1 < wC C ∧ 0 ≤ x.2 ∧ x.2 < kC C) ∧ ∃ i : Nat, i ≤ n.toNat ∧ x ∈ cellsP (stepQ p d i) := by
  unfold rsweptM
  rw [if_pos hl, swept_mem]
  unfold rwayL
  rw [if_pos (show (runM p d n).k = 1 from rfl), List.mem_flatMap]
  refine and_congr Iff.rfl ⟨?_, ?_⟩
  · rintro ⟨i, hi, hx⟩
    have : i < n.toNat + 1 := List.mem_range.1 hi
    exact ⟨i, by omega, hx⟩
  · rintro ⟨i, hi, hx⟩
    exact ⟨i, List.mem_range.2 (show i < n.toNat + 1 by omega), hx⟩

/-- The cells that the first i steps sweep, one after the other. -/
def stepsL (C : Conf) (p : Pose) (d : Int) (i : Nat) : List Cell := (List.range i).flatMap fun j => rsweptM C (runM (stepQ p d j) d 1)
theorem stepsL_succ {p : Pose} {d : Int} {i : Nat} : stepsL C p d (i + 1) = stepsL C p d i ++ rsweptM C (runM (stepQ p d i) d 1) := by
  unfold stepsL
  rw [List.range_succ, List.flatMap_append]
  simp
theorem steps_mem {p : Pose} {d n : Int} (hn : 1 ≤ n ∧ n ≤ 16) (hd : 0 ≤ d ∧ d ≤ 3) (hp : PB p) (hl : legalR C (runM p d n) = true) {x : Cell} :
    x ∈ stepsL C p d n.toNat ↔ x ∈ rsweptM C (runM p d n) := by
  have hf := (run_legal hn hd hp).1 hl
  have h1 : ∀ j, j < n.toNat → legalR C (runM (stepQ p d j) d 1) = true := fun j hj => by
    rw [one_legal hd hp, hf j (by omega), hf (j + 1) hj]; rfl
  rw [run_mem hn hl]
  unfold stepsL
  rw [List.mem_flatMap]
  constructor
  · rintro ⟨j, hj, hx⟩
    have hj := List.mem_range.1 hj
    obtain ⟨hin, i, hi, hx⟩ := (run_mem ⟨by decide, by decide⟩ (h1 j hj)).1 hx
    have : i = 0 ∨ i = 1 := by have : i ≤ (1 : Int).toNat := hi; have e : (1 : Int).toNat = 1 := rfl; omega
    rcases this with rfl | rfl
    · rw [step_zero (step_pb hp)] at hx
      exact ⟨hin, j, by omega, hx⟩
    · rw [show stepQ (stepQ p d j) d 1 = stepQ p d (j + 1) from step_succ] at hx
      exact ⟨hin, j + 1, by omega, hx⟩
  · rintro ⟨hin, i, hi, hx⟩
    by_cases h : i < n.toNat
    · exact ⟨i, List.mem_range.2 h, (run_mem ⟨by decide, by decide⟩ (h1 i h)).2 ⟨hin, 0, by decide, by rw [step_zero (step_pb hp)]; exact hx⟩⟩
    · obtain ⟨j, rfl⟩ : ∃ j, i = j + 1 := ⟨i - 1, by omega⟩
      exact ⟨j, List.mem_range.2 (by omega), (run_mem ⟨by decide, by decide⟩ (h1 j (by omega))).2 ⟨hin, 1, by decide, by rw [show stepQ (stepQ p d j) d 1 = stepQ p d (j + 1) from step_succ]; exact hx⟩⟩

/-- The marks: which cells' numbers lie in a list. -/
def markB (w : Nat) (D : List Cell) (j : Nat) : Bool := decide ((j : Int) ∈ D.map (numW w))
def marksL (w : Nat) (D : List Cell) : List Value := (List.range 256).map fun j => .bool (markB w D j)
theorem marks_len {w : Nat} {D : List Cell} : (marksL w D).length = 256 := by unfold marksL; simp
theorem marks_get {w : Nat} {D : List Cell} {j : Nat} (h : j < 256) : (marksL w D)[j]? = some (.bool (markB w D j)) := by
  unfold marksL
  rw [List.getElem?_map, List.getElem?_range h]
  rfl
theorem marks_nil {w : Nat} : marksL w [] = List.replicate 256 (.bool false) := by
  refine List.ext_getElem? fun j => ?_
  by_cases h : j < 256
  · rw [marks_get h, List.getElem?_replicate, if_pos h]
    simp [markB]
  · rw [List.getElem?_eq_none (by rw [marks_len]; omega), List.getElem?_eq_none (by simp; omega)]
theorem marks_set {w : Nat} {D : List Cell} {c : Cell} {n : Nat} (hn : (n : Int) = numW w c) : (marksL w D).set n (.bool true) = marksL w (D ++ [c]) := by
  refine List.ext_getElem? fun j => ?_
  rw [List.getElem?_set]
  by_cases h : j < 256
  · rw [marks_get (D := D ++ [c]) h]
    split
    · rename_i e
      subst e
      have : markB w (D ++ [c]) n = true := by
        unfold markB
        rw [decide_eq_true_eq, List.map_append, List.mem_append]
        exact .inr (by rw [hn]; exact .head _)
      rw [if_pos (by rw [marks_len]; exact h), this]
    · rename_i e
      rw [marks_get h]
      unfold markB
      congr 2
      rw [decide_eq_decide, List.map_append, List.mem_append, show List.map (numW w) [c] = [numW w c] from rfl, List.mem_singleton]
      constructor
      · exact .inl
      · rintro (h | h)
        · exact h
        · exfalso; omega
  · split
    · rename_i e; subst e; rw [if_neg (by rw [marks_len]; omega), List.getElem?_eq_none (by rw [marks_len]; omega)]
    · rw [List.getElem?_eq_none (by rw [marks_len]; omega), List.getElem?_eq_none (by rw [marks_len]; omega)]
theorem marks_congr {w : Nat} {D E : List Cell} (h : ∀ x, x ∈ D ↔ x ∈ E) : marksL w D = marksL w E := by
  unfold marksL markB
  refine List.map_congr_left fun j _ => ?_
  congr 1
  simp only [decide_eq_decide, List.mem_map, h]

/-- How many numbers lie below i. -/
theorem count_step {n : Cell → Int} {i : Int} : ∀ {L : List Cell}, L.Pairwise (fun a b => n a < n b) → (L.countP fun x => decide (n x < i + 1)) = (L.countP fun x => decide (n x < i)) + (if i ∈ L.map n then 1 else 0)
  | [], _ => by simp
  | a :: L, h => by
    have h' := List.pairwise_cons.1 h
    rw [List.countP_cons, List.countP_cons, count_step h'.2]
    by_cases e : n a = i
    · have hni : i ∉ L.map n := fun hm => by
        obtain ⟨b, hb, hb2⟩ := List.mem_map.1 hm
        have := h'.1 b hb
        omega
      have a1 : decide (n a < i + 1) = true := by rw [decide_eq_true_eq]; omega
      have a2 : decide (n a < i) = false := by rw [decide_eq_false_iff_not]; omega
      have a3 : i ∈ (a :: L).map n := by rw [List.map_cons, e]; exact .head _
      simp only [a1, a2, if_pos a3, if_neg hni, if_true, Bool.false_eq_true, if_false]
    · have hiff : (i ∈ (a :: L).map n) ↔ i ∈ L.map n := by
        rw [List.map_cons, List.mem_cons]
        constructor
        · rintro (h | h)
          · exact absurd h.symm e
          · exact h
        · exact .inr
      have a1 : decide (n a < i + 1) = decide (n a < i) := by rw [decide_eq_decide]; omega
      simp only [hiff, a1]
      omega

end Go.Proofs.YtnpdploihlgcgaaDoor
end

section
/- How far two cells are apart; GridAway: the walk. -/
set_option linter.unusedSimpArgs false
set_option linter.unusedVariables false
set_option maxRecDepth 100000
namespace Go.Proofs.YtnpdploihlgcgaaDoor
open Go Go.HL

def mx (a b : Int) : Int := if b > a then b else a
theorem max_two {P : Program} {G h : Hp} {a b : Int} {K : Value → Hp → Prop} : wpH P G (Builtin.max_ #[3, 3] 3 #[.int .i64 a, .int .i64 b]) h K = K (.int .i64 (mx a b)) h := rfl
def gapI (a b : Int) : Int := if a > b then a - b else b - a
def farB (n : Int) : Bool := withinB n (-1099511627776) 1099511627776
theorem far_iff {n : Int} : farB n = true ↔ -1099511627776 ≤ n ∧ n ≤ 1099511627776 := withinB_iff

theorem apart_spec {G h : Hp} {a b : Int} (ha : farB a = true) (hb : farB b = true) : HCalls Tryd.prog G 64 #[.int .i64 a, .int .i64 b] h (fun u h' => u = .int .i64 (gapI a b) ∧ h' = h) := by
  obtain ⟨a1, a2⟩ := far_iff.1 ha
  obtain ⟨b1, b2⟩ := far_iff.1 hb
  refine quietly (enter64 (by simp) ?_)
  unfold S64
  simp -implicitDefEqProofs (maxSteps := 2000000) (disch := first | with_reducible exact Nat.ne_of_beq_eq_false rfl | exact oneCell_int | exact oneCell_bool | omega | rfl | (simp; done) | fail) only [regs0, regs1, retK_ret, resL_tmp, upd_eq, resL_nil1, opH_sv, bin_sub, wrap_in, max_two]
  refine ⟨?_, Hp.le.refl h⟩
  unfold gapI mx
  congr 1
  split <;> split <;> omega
end Go.Proofs.YtnpdploihlgcgaaDoor
end

section
/- GridMoves: the walk. -/
set_option linter.unusedSimpArgs false
set_option linter.unusedVariables false
set_option maxRecDepth 100000
namespace Go.Proofs.YtnpdploihlgcgaaDoor
open Go Go.HL

end Go.Proofs.YtnpdploihlgcgaaDoor
end

section
/- GridSteps: the walk. -/
set_option linter.unusedSimpArgs false
set_option linter.unusedVariables false
set_option maxRecDepth 100000
namespace Go.Proofs.YtnpdploihlgcgaaDoor
open Go Go.HL

theorem un76 : Tryd.prog.underlying 76 = some (.array 256 4) := by kernel_rfl
theorem ia76 {G h : Hp} {a : Addr} {k : IntKind} {i : Int} {K : Value → Hp → Prop} (h1 : 0 ≤ i) (h2 : i < (256 : Nat)) : wpH Tryd.prog G (Instr.indexAt 76 (.pointer (some a)) (.int k i)) h K = K (.pointer (some (a.add (i.toNat * 1)))) h := index_arr un76 sz4 h1 h2
theorem ia76p {G h : Hp} {a : Addr} {k : IntKind} {i : Int} {K : Value → Prop} (h1 : 0 ≤ i) (h2 : i < (256 : Nat)) : pw Tryd.prog G h (Instr.indexAt 76 (.pointer (some a)) (.int k i)) K = K (.pointer (some (a.add (i.toNat * 1)))) := index_arrp un76 sz4 h1 h2

def arrO (w : Nat) (D : List Cell) : Obj := .cells (marksL w D).toArray 76 (0, 0)
def poseO (p : Pose) : Obj := .cells #[.int .i64 p.x, .int .i64 p.y, .bool p.d] 30 (0, 0)
theorem arr_cell {G h : Hp} {a w j : Nat} {D : List Cell} (ha : h a = some (arrO w D)) (hj : j < 256) : cellIn G h ⟨a, j, none⟩ = some (.bool (markB w D j)) := by
  have e : cellIn G h ⟨a, j, none⟩ = (marksL w D)[j]? := cell_of (look_own ha)
  rw [e]
  exact marks_get hj
theorem num_in {w k : Nat} {x : Cell} (hx : 0 ≤ x.1 ∧ x.1 < w ∧ 0 ≤ x.2 ∧ x.2 < k) : numI w k x = numW w x := by
  unfold numI numW
  rw [if_pos (inW_iff.2 hx)]
theorem num_256 {w k : Nat} {x : Cell} (hx : 0 ≤ x.1 ∧ x.1 < w ∧ 0 ≤ x.2 ∧ x.2 < k) (hw : w ≤ 16) (hk : k ≤ 16) : 0 ≤ numW w x ∧ numW w x < 256 := by
  unfold numW
  have h1 : x.2 * w ≤ 15 * w := Int.mul_le_mul_of_nonneg_right (by omega) (by omega)
  have h2 : 0 ≤ x.2 * w := Int.mul_nonneg hx.2.2.1 (by omega)
  omega
theorem rswept_in {C : Conf} {m : Move} {x : Cell} (h : x ∈ rsweptM C m) : 0 ≤ x.1 ∧ x.1 < wC C ∧ 0 ≤ x.2 ∧ x.2 < kC C := by
  unfold rsweptM at h
  split at h
  · exact (swept_mem.1 h).1
  · cases h
theorem runM_mb {p : Pose} {d n : Int} (hn : 1 ≤ n ∧ n ≤ 16) (hp : PB p) : MB (runM p d n) := ⟨by show Bd n; unfold Bd; omega, hp⟩

theorem store_pose {G h : Hp} {b : Nat} {p : Pose} {x y : Int} {e : Bool} {K : Unit → Hp → Prop} (hb : h b = some (poseO p)) :
    wpH Tryd.prog G (Instr.storeAt 30 (.pointer (some ⟨b, 0, none⟩)) (.agg #[.int .i64 x, .int .i64 y, .bool e])) h K = K () (h.set b (poseO ⟨x, y, e⟩)) := by
  rw [store_eq sz30 (l := [.int .i64 p.x, .int .i64 p.y, .bool p.d]) hb rfl (by simp) (by simp [cells_agg, oneCell])]
  rfl
theorem store_mark {G h : Hp} {b n w : Nat} {D : List Cell} {c : Cell} {K : Unit → Hp → Prop} (hb : h b = some (arrO w D)) (hn : (n : Int) = numW w c) (hlt : n < 256) :
    wpH Tryd.prog G (Instr.storeAt 4 (.pointer (some ⟨b, n, none⟩)) (.bool true)) h K = K () (h.set b (arrO w (D ++ [c]))) := by
  rw [store1_eq sz4 rfl (l := marksL w D) hb (by rw [marks_len]; exact hlt), marks_set hn]
  rfl

theorem take_cat {α : Type} {L : List α} {k : Nat} {c : α} (h : L[k]? = some c) : L.take (k + 1) = L.take k ++ [c] := by
  rw [List.take_add_one, h]; rfl

set_option maxHeartbeats 8000000 in
theorem steps_walk {G : Hp} {v : Value} {C : Conf} {p : Pose} {dir n : Int} (st : Steps G) (hv : CV G noHp v C) (fit : Fit0 C) (hp : ∀ p ∈ C.ro, PB p) (pb : PB p) (bd : Bd dir) (bn : Bd n) : HCalls Tryd.prog G 13 #[v, poseV p, .int .i64 dir, .int .i64 n] noHp (fun u _ => u = .bool true) := by
  obtain ⟨lb, lp, lr, ls⟩ := fit.lens
  have hv0 := hv
  obtain ⟨ab, cb, ap, cp, ar, cr, az, cs, rfl, ca⟩ := hv
  refine HCalls.assume fun d => enter13 (by simp) ?_
  unfold S13
  simp -implicitDefEqProofs (maxSteps := 2000000) (disch := first | with_reducible exact Nat.ne_of_beq_eq_false rfl | exact oneCell_int | exact oneCell_bool | omega | rfl | (simp; done) | fail) only [regs0, regs1, retK_ret, resL_tmp, upd_eq, resL_nil1, opH_sv, cf16, cf14, cf15, box_new, cells_agg, ld26, add_mk, Nat.add_zero, Nat.zero_add]
  intro x hx gx
  generalize e1 : Hp.set noHp x _ = h1
  obtain ⟨l1, d1, b1⟩ := boxed e1 hx d gx
  intro y hy gy
  generalize e2 : Hp.set h1 y _ = h2
  obtain ⟨l2, d2, b2⟩ := boxed e2 hy d1 gy
  have cx : ∀ j, cellIn G h2 ⟨x, j, none⟩ = _ := fun j => cell_of (look_own (l2 _ _ b1))
  try simp -implicitDefEqProofs (maxSteps := 2000000) (disch := first | with_reducible exact Nat.ne_of_beq_eq_false rfl | exact oneCell_int | exact oneCell_bool | omega | rfl | (simp; done) | fail) only [cx, List.getElem?_cons_zero, Option.some.injEq, List.getElem?_cons_succ, exists_eq_left']
  refine (copyconf_spec (hv0.up (l1.trans l2) d2) fit).mono ?_
  rintro u3 h3 ⟨⟨qb, qp, qr, qz, vb, vp, vr, vz, co⟩, d3⟩
  have l3 := co.sep.in 4 rfl
  refine (new_spec (co.cv (Hp.le.refl _)) st hp ls).mono ?_
  rintro _ h4 ⟨l4, d4, ⟨hm, ga, gp, kb, rfl, go, s4⟩ | ⟨hm, rfl⟩⟩
  rotate_left
  · have L4 := l3.trans l4
    have cx4 : ∀ j, cellIn G h4 ⟨x, j, none⟩ = _ := fun j => cell_of (look_own (L4 _ _ (l2 _ _ b1)))
    have hv4 := hv0.up ((l1.trans l2).trans L4) d4
    try simp -implicitDefEqProofs (maxSteps := 2000000) (disch := first | with_reducible exact Nat.ne_of_beq_eq_false rfl | exact oneCell_int | exact oneCell_bool | omega | rfl | (simp; done) | fail) only [ex1, ne_int, show ((5 : Int) != 0) = true from rfl, pick_t, HL.cond_true, gd_tf, ex0, cx4, List.getElem?_cons_zero, Option.some.injEq, List.getElem?_cons_succ, exists_eq_left']
    refine (rmay_spec hv4).mono ?_
    rintro _ _ ⟨⟨b, rfl, hb⟩, rfl⟩
    obtain rfl : b = false := by cases b with | false => rfl | true => exact absurd (made_may.2 (hb.1 rfl)) hm
    try simp -implicitDefEqProofs (maxSteps := 2000000) (disch := first | with_reducible exact Nat.ne_of_beq_eq_false rfl | exact oneCell_int | exact oneCell_bool | omega | rfl | (simp; done) | fail) only [un_not, Bool.not_false, pick_t, gd_tt, cf17]
    refine (awake_spec st).mono ?_
    rintro _ _ ⟨rfl, rfl⟩
    try simp -implicitDefEqProofs (maxSteps := 2000000) (disch := first | with_reducible exact Nat.ne_of_beq_eq_false rfl | exact oneCell_int | exact oneCell_bool | omega | rfl | (simp; done) | fail) only []
  have L4 := l3.trans l4
  have by4 := L4 _ _ b2
  have cy4 : ∀ j, cellIn G h4 ⟨y, j, none⟩ = _ := fun j => cell_of (look_own by4)
  have gs4 := (go.gs (G := G)).up (s4.in 0 rfl) d4
  obtain ⟨ew, ek, w1, w16, k1, k16⟩ := within_wk hm.laid.w hm.laid.h
  try simp -implicitDefEqProofs (maxSteps := 2000000) (disch := first | with_reducible exact Nat.ne_of_beq_eq_false rfl | exact oneCell_int | exact oneCell_bool | omega | rfl | (simp; done) | fail) only [ex1, ne_int, bne_self_eq_false, pick_f, gd_ff, ex0, eq31s, HL.cond_false]
  unfold S13_k1
  try simp -implicitDefEqProofs (maxSteps := 2000000) (disch := first | with_reducible exact Nat.ne_of_beq_eq_false rfl | exact oneCell_int | exact oneCell_bool | omega | rfl | (simp; done) | fail) only [upd_ne, regs3, regs2, upd_eq, retK_ret, resL_tmp, resL_nil1, opH_sv, opH_su, al30, cf18, ld30, add_mk, Nat.add_zero, Nat.zero_add, cf30]
  refine (place_spec (a := n) (n := 16) bn (by decide) (by decide)).mono ?_
  rintro _ h4 ⟨rfl, rfl⟩
  have hn0 := Int.emod_nonneg n (show (16 : Int) ≠ 0 by decide)
  have hn1 := Int.emod_lt_of_pos n (show (0 : Int) < 16 by decide)
  generalize n % 16 = n' at hn0 hn1 ⊢
  try simp -implicitDefEqProofs (maxSteps := 2000000) (disch := first | with_reducible exact Nat.ne_of_beq_eq_false rfl | exact oneCell_int | exact oneCell_bool | omega | rfl | (simp; done) | fail) only [bin_add, wrap_in]
  refine (place_spec (a := dir) (n := 4) bd (by decide) (by decide)).mono ?_
  rintro _ h4 ⟨rfl, rfl⟩
  have hd0 := Int.emod_nonneg dir (show (4 : Int) ≠ 0 by decide)
  have hd1 := Int.emod_lt_of_pos dir (show (0 : Int) < 4 by decide)
  generalize dir % 4 = dd at hd0 hd1 ⊢
  have hdd : 0 ≤ dd ∧ dd ≤ 3 := by omega
  obtain ⟨nn, hnn⟩ : ∃ nn : Int, 1 + n' = nn := ⟨_, rfl⟩
  have hnn16 : 1 ≤ nn ∧ nn ≤ 16 := by omega
  try simp -implicitDefEqProofs (maxSteps := 2000000) (disch := first | with_reducible exact Nat.ne_of_beq_eq_false rfl | exact oneCell_int | exact oneCell_bool | omega | rfl | (simp; done) | fail) only [cy4, List.getElem?_cons_zero, Option.some.injEq, List.getElem?_cons_succ, hnn, exists_eq_left']
  refine (shift_spec (g := .pointer (some ⟨gp, 0, none⟩)) (p := p) (dir := dd) (n := nn) st).mono ?_
  rintro _ h4 ⟨rfl, rfl⟩
  have ok1 : okS dd nn = true := by unfold okS; rw [withinB_iff.2 (show 0 ≤ nn ∧ nn ≤ 16 by omega), withinB_iff.2 hdd]; rfl
  rw [shiftA_eq pb, ok1]
  unfold shiftRA
  rw [if_pos ok1]
  try simp -implicitDefEqProofs (maxSteps := 2000000) (disch := first | with_reducible exact Nat.ne_of_beq_eq_false rfl | exact oneCell_int | exact oneCell_bool | omega | rfl | (simp; done) | fail) only [ex1, un_not, Bool.not_true, HL.cond_false, ex0, st30w]
  intro z hz gz
  have ez : ∀ (H : Hp) (b : Nat) (q : Pose), Hp.set H b (.cells #[.int .i64 q.x, .int .i64 q.y, .bool q.d] 30 (0, 0)) = Hp.set H b (poseO q) := fun _ _ _ => rfl
  try simp -implicitDefEqProofs (maxSteps := 2000000) (disch := first | with_reducible exact Nat.ne_of_beq_eq_false rfl | exact oneCell_int | exact oneCell_bool | omega | rfl | (simp; done) | fail) only [ez]
  unfold S13_k2
  generalize e5 : Hp.set h4 z _ = h5
  obtain ⟨l5, d5, b5⟩ := boxed e5 hz d4 gz
  have cz5 : ∀ j, cellIn G h5 ⟨z, j, none⟩ = _ := fun j => cell_of (look_own b5)
  have cy5 : ∀ j, cellIn G h5 ⟨y, j, none⟩ = _ := fun j => cell_of (look_own (l5 _ _ by4))
  try simp -implicitDefEqProofs (maxSteps := 2000000) (disch := first | with_reducible exact Nat.ne_of_beq_eq_false rfl | exact oneCell_int | exact oneCell_bool | omega | rfl | (simp; done) | fail) only [upd_ne, upd_eq, opH_su, opH_sv, al30, ld30, add_mk, Nat.add_zero, Nat.zero_add, al76, al46, cy5, List.getElem?_cons_zero, Option.some.injEq, List.getElem?_cons_succ, cz5, bd46_0_1_2_3_4, exists_eq_left', st46w]
  intro w hw gw
  have ew1 : ∀ (H : Hp) (b : Nat) (q : Pose) (m : Int), Hp.set H b (.cells #[.int .i64 1, .int .i64 dd, .int .i64 m, .int .i64 q.x, .int .i64 q.y, .bool q.d, .int .i64 (shiftR q dd m).x, .int .i64 (shiftR q dd m).y, .bool (shiftR q dd m).d, .int .i64 0, .int .i64 0] 46 (0, 0)) = Hp.set H b (moveO (runM q dd m)) := fun _ _ _ _ => rfl
  rw [ew1]
  generalize e6 : Hp.set h5 w _ = h6
  obtain ⟨l6, d6, b6⟩ := boxed e6 hw d5 gw
  intro a ha gaa
  have ea : Hp.set h6 a (.cells (List.replicate 256 (Value.bool false)).toArray 76 (0, 0)) = Hp.set h6 a (arrO (wC C) (stepsL C p dd 0)) := by unfold arrO; rw [show stepsL C p dd 0 = [] from rfl, marks_nil]
  rw [ea]
  have s7 := Sep.one (h := h6).new (o := arrO (wC C) (stepsL C p dd 0)) ha
  have d7 := d6.set (o := arrO (wC C) (stepsL C p dd 0)) gaa
  generalize Hp.set h6 a _ = h7 at s7 d7 ⊢
  have l47 : h4.le h7 := (l5.trans l6).trans (s7.in 1 rfl)
  have cy7 : ∀ j, cellIn G h7 ⟨y, j, none⟩ = _ := fun j => cell_of (look_own (l47 _ _ by4))
  try simp -implicitDefEqProofs (maxSteps := 2000000) (disch := first | with_reducible exact Nat.ne_of_beq_eq_false rfl | exact oneCell_int | exact oneCell_bool | omega | rfl | (simp; done) | fail) only [cy7, List.getElem?_cons_zero, Option.some.injEq, List.getElem?_cons_succ, exists_eq_left', st30w]
  intro q hq gq
  try simp -implicitDefEqProofs (maxSteps := 2000000) (disch := first | with_reducible exact Nat.ne_of_beq_eq_false rfl | exact oneCell_int | exact oneCell_bool | omega | rfl | (simp; done) | fail) only [ez]
  have s8 := s7.new (o := poseO p) hq
  have d8 := d7.set (o := poseO p) gq
  generalize Hp.set h7 q _ = h8 at s8 d8 ⊢
  have e0 : poseO p = poseO (stepQ p dd 0) := by rw [step_zero pb]
  rw [e0] at s8
  have l46 : h4.le h6 := l5.trans l6
  have b56 : h6 z = some (poseO (shiftR p dd nn)) := l6 _ _ b5
  have k3 : ∀ (lg : Bool) (i : Nat) (r : Rg) (h : Hp), r 2 = .int .i64 dd → r 3 = .int .i64 nn → r 9 = .pointer (some ⟨gp, 0, none⟩) → r 11 = .pointer (some ⟨z, 0, none⟩) → r 13 = .pointer (some ⟨w, 0, none⟩) → r 14 = .bool lg → r 15 = .pointer (some ⟨a, 0, none⟩) → r 16 = .pointer (some ⟨q, 0, none⟩) →
      HL.Sep [noHp.set q (poseO (stepQ p dd i)), noHp.set a (arrO (wC C) (stepsL C p dd i)), h6] h → Dis G h → legalR C (runM p dd nn) = lg → (lg = true → i = nn.toNat) →
      S13_k3 G (retK Tryd.prog G [ResultVar.tmp 8] fun u x => u = Value.bool true) r h := by
    intro lg i r h q2 q3 q9 q11 q13 q14 q15 q16 sh dh hw1 hi
    have cw : ∀ j, cellIn G h ⟨w, j, none⟩ = _ := fun j => cell_of (look_own (sh.at 2 rfl b6))
    have gsh := gs4.up (l46.trans (sh.in 2 rfl)) dh
    have mbw := runM_mb (n := nn) (d := dd) (p := p) hnn16 pb
    unfold S13_k3
    try simp -implicitDefEqProofs (maxSteps := 2000000) (disch := first | with_reducible exact Nat.ne_of_beq_eq_false rfl | exact oneCell_int | exact oneCell_bool | omega | rfl | (simp; done) | fail) only [q13, q9, retK_ret, resL_tmp, upd_eq, resL_nil1, cf27, opH_sv, ld46, add_mk, Nat.add_zero, cw, List.getElem?_cons_zero, Option.some.injEq, Nat.zero_add, List.getElem?_cons_succ, exists_eq_left']
    refine (legal_spec (m := runM p dd nn) gsh st mbw).mono ?_
    rintro _ h ⟨rfl, rfl⟩
    rw [legal_eq hm mbw.2, hw1]
    try simp -implicitDefEqProofs (maxSteps := 2000000) (disch := first | with_reducible exact Nat.ne_of_beq_eq_false rfl | exact oneCell_int | exact oneCell_bool | omega | rfl | (simp; done) | fail) only [q14, ne4, beq_self_eq_true, Bool.not_true, HL.cond_false]
    unfold S13_k4
    try simp -implicitDefEqProofs (maxSteps := 2000000) (disch := first | with_reducible exact Nat.ne_of_beq_eq_false rfl | exact oneCell_int | exact oneCell_bool | omega | rfl | (simp; done) | fail) only [upd_ne, q14, retK_ret, resL_tmp, upd_eq, resL_nil1, opH_sv, cf47, un_not]
    cases lg with
    | false =>
      try simp -implicitDefEqProofs (maxSteps := 2000000) (disch := first | with_reducible exact Nat.ne_of_beq_eq_false rfl | exact oneCell_int | exact oneCell_bool | omega | rfl | (simp; done) | fail) only [Bool.not_false, q13, q9, ld46, add_mk, Nat.add_zero, cw, List.getElem?_cons_zero, Option.some.injEq, Nat.zero_add, List.getElem?_cons_succ, exists_eq_left', HL.cond_true]
      refine (swept_spec (m := runM p dd nn) gsh st mbw).mono ?_
      rintro u5 h5 ⟨i5, o5, s5, d5⟩
      rw [swept_eq hm mbw.2] at o5
      unfold rsweptM at o5
      rw [if_neg (by rw [hw1]; decide)] at o5
      obtain ⟨sa, cap, rfl, _⟩ := o5.len (by decide)
      try simp -implicitDefEqProofs (maxSteps := 2000000) (disch := first | with_reducible exact Nat.ne_of_beq_eq_false rfl | exact oneCell_int | exact oneCell_bool | omega | rfl | (simp; done) | fail) only [List.length_nil, ln22, eq_int, show (((0 : Nat) : Int) == 0) = true from rfl, pick_t, gd_tt, cf17]
      refine (awake_spec st).mono ?_
      rintro _ _ ⟨rfl, rfl⟩
      try simp -implicitDefEqProofs (maxSteps := 2000000) (disch := first | with_reducible exact Nat.ne_of_beq_eq_false rfl | exact oneCell_int | exact oneCell_bool | omega | rfl | (simp; done) | fail) only []
    | true =>
    obtain rfl := hi rfl
    have estep : stepQ p dd nn.toNat = shiftR p dd nn := by unfold stepQ; rw [Int.toNat_of_nonneg (by omega)]
    try simp -implicitDefEqProofs (maxSteps := 2000000) (disch := first | with_reducible exact Nat.ne_of_beq_eq_false rfl | exact oneCell_int | exact oneCell_bool | omega | rfl | (simp; done) | fail) only [Bool.not_true, HL.cond_false]
    unfold S13_k5
    try simp -implicitDefEqProofs (maxSteps := 2000000) (disch := first | with_reducible exact Nat.ne_of_beq_eq_false rfl | exact oneCell_int | exact oneCell_bool | omega | rfl | (simp; done) | fail) only [upd_ne, q13, q9, cf47, opH_sv, ld46, add_mk, Nat.add_zero, cw, List.getElem?_cons_zero, Option.some.injEq, Nat.zero_add, List.getElem?_cons_succ, exists_eq_left']
    refine (swept_spec (m := runM p dd nn) gsh st mbw).mono ?_
    rintro u5 h5 ⟨i5, o5, s5, d5⟩
    rw [swept_eq hm mbw.2] at o5
    have hmem : ∀ x, x ∈ stepsL C p dd nn.toNat ↔ x ∈ rsweptM C (runM p dd nn) := fun x => steps_mem hnn16 hdd pb hw1
    have earr : arrO (wC C) (stepsL C p dd nn.toNat) = arrO (wC C) (rsweptM C (runM p dd nn)) := by unfold arrO; rw [marks_congr hmem]
    rw [earr] at sh
    obtain ⟨sa, cap, rfl, _⟩ := o5.len (by decide)
    have hL256 : (rsweptM C (runM p dd nn)).length ≤ 256 := swept_le w16 k16
    have hin : ∀ c ∈ rsweptM C (runM p dd nn), 0 ≤ c.1 ∧ c.1 < wC C ∧ 0 ≤ c.2 ∧ c.2 < kC C := fun c hc => rswept_in hc
    have hrise : (rsweptM C (runM p dd nn)).Pairwise fun a b => numW (wC C) a < numW (wC C) b := by unfold rsweptM; rw [if_pos hw1]; exact swept_rising
    generalize rsweptM C (runM p dd nn) = L at o5 hL256 hin hrise sh ⊢
    have se := o5.sees (G := G) (by decide) (s5.in 0 rfl)
    have lh5 : h.le h5 := s5.in 1 rfl
    have ba5 := lh5 _ _ (sh.at 1 rfl set_self)
    have bq5 := lh5 _ _ (sh.at 0 rfl set_self)
    have bz5 := lh5 _ _ (sh.at 2 rfl b56)
    have gs5 := gsh.up lh5 d5
    have cq5 : ∀ j, cellIn G h5 ⟨q, j, none⟩ = _ := fun j => cell_of (look_own bq5)
    have cz5 : ∀ j, cellIn G h5 ⟨z, j, none⟩ = _ := fun j => cell_of (look_own bz5)
    clear sh s5 o5
    try simp -implicitDefEqProofs (maxSteps := 2000000) (disch := first | with_reducible exact Nat.ne_of_beq_eq_false rfl | exact oneCell_int | exact oneCell_bool | omega | rfl | (simp; done) | fail) only [opH_sv, opH_su, pureW_sv, opH_nil, pureW_nil, pick_t, pick_f, pick_tp, pick_fp, gd_tt, gd_ft, gd_tf, gd_ff, box_new, regs0, regs1, regs2, regs3, regs4, regs5, regs6, cells_agg, cells_int, cells_bool, cells_ptr, cells_slice, cells_string, cells_func, cells_nilFunc, cells_map, retK_ret, retK_normal, resL_tmp, resL_cell, resL_nil0, resL_nil1, resL_nil2, resL_nil3, resC_ptr, ex0, ex1, ex2, ex0p, ex1p, ex2p, HL.cond_true, HL.cond_false, thenK_normal, thenK_ret, thenK_exit, blockK_normal, blockK_ret, blockK_exit, scopeK_normal, scopeK_ret, scopeK_exit, wpH_pure, bin_add, bin_sub, bin_mul, bin_lss, bin_leq, bin_gtr, bin_geq, bin_quo, bin_rem, bin_quop, bin_remp, wrap_in, bin_addp, bin_subp, bin_mulp, bin_lssp, bin_leqp, bin_gtrp, bin_geqp, un_not, un_notp, un_neg, eq_int, ne_int, eq_intp, ne_intp, callV_fn, add_mk, upd_eq, upd_ne, cell_set_self, Nat.zero_add, Nat.add_zero, Option.some.injEq, exists_eq_left', List.getElem?_cons_succ, List.getElem?_cons_zero, true_and, and_true, bne_self_eq_false, beq_self_eq_true, Bool.not_true, Bool.not_false, Bool.and_true, Bool.and_self, Bool.and_false, Bool.true_and, List.length_cons, List.length_nil, ne_eq, not_false_eq_true, Nat.reduceAdd, Nat.reduceMul, if_true, if_false, oneCell_int, oneCell_bool, oneCell_ptr, oneCell_slice, oneCell_string, oneCell_func, oneCell_map, Int.toNat_natCast, List.set_cons_zero, List.set_cons_succ, Nat.lt_irrefl, Nat.zero_lt_succ, Nat.succ_lt_succ_iff, fa26_0, fa26_0p, fa26_1, fa26_1p, fa26_10, fa26_10p, fa26_11, fa26_11p, fa26_12, fa26_12p, fa26_13, fa26_13p, fa26_14, fa26_14p, fa26_2, fa26_2p, fa26_3, fa26_3p, fa26_4, fa26_4p, fa26_5, fa26_5p, fa26_6, fa26_6p, fa26_7, fa26_7p, fa26_8, fa26_8p, fa26_9, fa26_9p, fa28_0, fa28_0p, fa28_1, fa28_1p, fa30_0, fa30_0p, fa30_1, fa30_1p, fa46_0, fa46_0p, fa46_1, fa46_1p, fa46_2, fa46_2p, fa46_3, fa46_3p, fa46_4, fa46_4p, fa46_5, fa46_5p, fa46_6, fa46_6p, fa86_0, fa86_0p, fa86_1, fa86_1p, fa86_2, fa86_2p, fa95_0, fa95_0p, fa95_1, fa95_1p, ld3, ld3p, ld4, ld4p, ld22, ld22p, ld23, ld23p, ld24, ld24p, ld26, ld26p, ld28, ld28p, ld30, ld30p, ld31, ld31p, ld46, ld46p, ld47, ld47p, ld52, ld52p, ld55, ld55p, ld57, ld57p, ld95, ld95p, st3s, st4s, st22s, st23s, st24s, st26w, st28w, st30w, st46w, st47s, st55s, st95w, ix22, ix22p, ix23, ix23p, ix24, ix24p, ix47, ix47p, ix56, ix56p, ix57, ix57p, ix101, ix101p, ln22, ln22p, ln23, ln23p, ln24, ln24p, ln47, ln47p, ln56, ln56p, ln57, ln57p, al22, al26, al28, al30, al46, al47, al95, cf14, cf15, cf16, cf17, cf18, cf19, cf20, cf21, cf22, cf23, cf24, cf25, cf26, cf27, cf28, cf29, cf30, cf31, cf32, cf33, cf34, cf35, cf36, cf37, cf38, cf39, cf40, cf41, cf42, cf43, cf44, cf45, cf46, cf47, cf48, cf49, cf50, cf51, cf52, cf53, cf54, cf55, cf56, cf57, cf58, cf59, cf60, cf61, cf62, cf63, cf64, cf65, cf66, cf67, cf68, cf69, cf70, cf71, cf72, cf73, cf74, cf75, cf76, cf77, cf78, cf79, cf80, bd26_0_1_2_7_8_9_10_11_12_13_14, bd26_0_1_2_7_8_9_10_11_12_13_14p, bd28_0, bd28_0p, bd28_0_1, bd28_0_1p, bd30_, bd30_p, bd30_0_1, bd30_0_1p, bd30_0, bd30_0p, bd46_0_1_2_3_4, bd46_0_1_2_3_4p, bd46_0_3_4, bd46_0_3_4p, bd86_0_1_2, bd86_0_1_2p, bd87_0_1_2_3, bd87_0_1_2_3p, bd95_0_1, bd95_0_1p, bs22_2_0_1, bs47_1_0, bs22_1_0, bs57_6_0_1_2_3_4_5, bs24_1_0, bs22_4_0_1_2_3, bs56_11_0_1_2_3_4_5_6_7_8_9_10, bs57_11_0_1_2_3_4_5_6_7_8_9_10, eq4, eq4p, eq28, eq28p, eq30, eq30p, eq31n, eq31np, eq31s, eq31sp, eq46, eq46p, eq50n, eq50np, eq50s, eq50sp, eq67n, eq67np, eq67s, eq67sp, ne4, ne4p, ne28, ne28p, ne30, ne30p, ne31n, ne31np, ne31s, ne31sp, ne46, ne46p, al76]
    refine loop_I (fun mm r h => ∃ i : Nat, mm = 256 - i ∧ i ≤ 256 ∧ r 9 = .pointer (some ⟨gp, 0, none⟩) ∧ r 11 = .pointer (some ⟨z, 0, none⟩) ∧ r 15 = .pointer (some ⟨a, 0, none⟩) ∧ r 16 = .pointer (some ⟨q, 0, none⟩) ∧ r 23 = .slice sa L.length cap ∧ r 24 = .int .i64 (L.countP fun x => decide (numW (wC C) x < (i : Int))) ∧ r 25 = .int .i64 i ∧ h = h5) ?_
      (m := 256) ⟨0, rfl, Nat.zero_le _, by simp -implicitDefEqProofs (maxSteps := 2000000) (disch := first | with_reducible exact Nat.ne_of_beq_eq_false rfl | exact oneCell_int | exact oneCell_bool | omega | rfl | (simp; done) | fail) only [upd_ne, q9], by simp -implicitDefEqProofs (maxSteps := 2000000) (disch := first | with_reducible exact Nat.ne_of_beq_eq_false rfl | exact oneCell_int | exact oneCell_bool | omega | rfl | (simp; done) | fail) only [upd_ne, q11], by simp -implicitDefEqProofs (maxSteps := 2000000) (disch := first | with_reducible exact Nat.ne_of_beq_eq_false rfl | exact oneCell_int | exact oneCell_bool | omega | rfl | (simp; done) | fail) only [upd_ne, q15], by simp -implicitDefEqProofs (maxSteps := 2000000) (disch := first | with_reducible exact Nat.ne_of_beq_eq_false rfl | exact oneCell_int | exact oneCell_bool | omega | rfl | (simp; done) | fail) only [upd_ne, q16], by simp -implicitDefEqProofs (maxSteps := 2000000) (disch := first | with_reducible exact Nat.ne_of_beq_eq_false rfl | exact oneCell_int | exact oneCell_bool | omega | rfl | (simp; done) | fail) only [upd_ne, upd_eq], ?_, by simp -implicitDefEqProofs (maxSteps := 2000000) (disch := first | with_reducible exact Nat.ne_of_beq_eq_false rfl | exact oneCell_int | exact oneCell_bool | omega | rfl | (simp; done) | fail) only [upd_eq] <;> rfl, rfl⟩
    rotate_left
    · simp -implicitDefEqProofs (maxSteps := 2000000) (disch := first | with_reducible exact Nat.ne_of_beq_eq_false rfl | exact oneCell_int | exact oneCell_bool | omega | rfl | (simp; done) | fail) only [upd_ne, upd_eq]
      rw [List.countP_eq_zero.2 (fun x hx => by have := (num_256 (hin x hx) w16 k16).1; simp; omega)]
      rfl
    clear q2 q3 q9 q11 q13 q14 q15 q16
    rintro mm r hh ⟨i, rfl, hi2, q9, q11, q15, q16, q23, q24, q25, ehh⟩ X HX
    subst hh
    have hcl : (L.countP fun x => decide (numW (wC C) x < (i : Int))) ≤ 256 := Nat.le_trans List.countP_le_length hL256
    unfold S13_l11
    simp -implicitDefEqProofs (maxSteps := 2000000) (disch := first | with_reducible exact Nat.ne_of_beq_eq_false rfl | exact oneCell_int | exact oneCell_bool | omega | rfl | (simp; done) | fail) only [q25, thenK_exit, blockK_exit, thenK_normal, if_true, opH_sv, bin_lss]
    refine cond_dec (fun hlt => ?_) (fun hge => ?_)
    · have hi' : i < 256 := by omega
      unfold S13_l11_k12
      try simp -implicitDefEqProofs (maxSteps := 2000000) (disch := first | with_reducible exact Nat.ne_of_beq_eq_false rfl | exact oneCell_int | exact oneCell_bool | omega | rfl | (simp; done) | fail) only [upd_ne, q15, q25, opH_sv, ia76 (Int.natCast_nonneg i) (by omega : (i : Int) < (256 : Nat)), Int.toNat_natCast, Nat.mul_one, add_mk, Nat.zero_add, ld4, arr_cell ba5 hi', Option.some.injEq, exists_eq_left']
      have hst := count_step (i := (i : Int)) hrise
      refine cond_bool (fun e => ?_) (fun e => ?_)
      · have e' : (i : Int) ∈ L.map (numW (wC C)) := by unfold markB at e; exact of_decide_eq_true e
        rw [if_pos e'] at hst
        simp -implicitDefEqProofs (maxSteps := 2000000) (disch := first | with_reducible exact Nat.ne_of_beq_eq_false rfl | exact oneCell_int | exact oneCell_bool | omega | rfl | (simp; done) | fail) only [q24, bin_add, wrap_in]
        unfold S13_l11_k13
        try simp -implicitDefEqProofs (maxSteps := 2000000) (disch := first | with_reducible exact Nat.ne_of_beq_eq_false rfl | exact oneCell_int | exact oneCell_bool | omega | rfl | (simp; done) | fail) only [upd_ne, q25, thenK_normal, opH_sv, bin_add, wrap_in]
        refine HX (256 - (i + 1)) _ _ (by omega) ⟨i + 1, rfl, hi', by simp -implicitDefEqProofs (maxSteps := 2000000) (disch := first | with_reducible exact Nat.ne_of_beq_eq_false rfl | exact oneCell_int | exact oneCell_bool | omega | rfl | (simp; done) | fail) only [upd_ne, q9], by simp -implicitDefEqProofs (maxSteps := 2000000) (disch := first | with_reducible exact Nat.ne_of_beq_eq_false rfl | exact oneCell_int | exact oneCell_bool | omega | rfl | (simp; done) | fail) only [upd_ne, q11], by simp -implicitDefEqProofs (maxSteps := 2000000) (disch := first | with_reducible exact Nat.ne_of_beq_eq_false rfl | exact oneCell_int | exact oneCell_bool | omega | rfl | (simp; done) | fail) only [upd_ne, q15], by simp -implicitDefEqProofs (maxSteps := 2000000) (disch := first | with_reducible exact Nat.ne_of_beq_eq_false rfl | exact oneCell_int | exact oneCell_bool | omega | rfl | (simp; done) | fail) only [upd_ne, q16], by simp -implicitDefEqProofs (maxSteps := 2000000) (disch := first | with_reducible exact Nat.ne_of_beq_eq_false rfl | exact oneCell_int | exact oneCell_bool | omega | rfl | (simp; done) | fail) only [upd_ne, q23], ?_, by simp -implicitDefEqProofs (maxSteps := 2000000) (disch := first | with_reducible exact Nat.ne_of_beq_eq_false rfl | exact oneCell_int | exact oneCell_bool | omega | rfl | (simp; done) | fail) only [upd_eq] <;> rfl, rfl⟩
        simp -implicitDefEqProofs (maxSteps := 2000000) (disch := first | with_reducible exact Nat.ne_of_beq_eq_false rfl | exact oneCell_int | exact oneCell_bool | omega | rfl | (simp; done) | fail) only [upd_ne, upd_eq]
        rw [Int.natCast_add, show ((1 : Nat) : Int) = 1 from rfl, hst]
        rfl
      · have e' : ¬ (i : Int) ∈ L.map (numW (wC C)) := by unfold markB at e; exact of_decide_eq_false e
        rw [if_neg e'] at hst
        unfold S13_l11_k13
        try simp -implicitDefEqProofs (maxSteps := 2000000) (disch := first | with_reducible exact Nat.ne_of_beq_eq_false rfl | exact oneCell_int | exact oneCell_bool | omega | rfl | (simp; done) | fail) only [upd_ne, q25, thenK_normal, opH_sv, bin_add, wrap_in]
        refine HX (256 - (i + 1)) _ _ (by omega) ⟨i + 1, rfl, hi', by simp -implicitDefEqProofs (maxSteps := 2000000) (disch := first | with_reducible exact Nat.ne_of_beq_eq_false rfl | exact oneCell_int | exact oneCell_bool | omega | rfl | (simp; done) | fail) only [upd_ne, q9], by simp -implicitDefEqProofs (maxSteps := 2000000) (disch := first | with_reducible exact Nat.ne_of_beq_eq_false rfl | exact oneCell_int | exact oneCell_bool | omega | rfl | (simp; done) | fail) only [upd_ne, q11], by simp -implicitDefEqProofs (maxSteps := 2000000) (disch := first | with_reducible exact Nat.ne_of_beq_eq_false rfl | exact oneCell_int | exact oneCell_bool | omega | rfl | (simp; done) | fail) only [upd_ne, q15], by simp -implicitDefEqProofs (maxSteps := 2000000) (disch := first | with_reducible exact Nat.ne_of_beq_eq_false rfl | exact oneCell_int | exact oneCell_bool | omega | rfl | (simp; done) | fail) only [upd_ne, q16], by simp -implicitDefEqProofs (maxSteps := 2000000) (disch := first | with_reducible exact Nat.ne_of_beq_eq_false rfl | exact oneCell_int | exact oneCell_bool | omega | rfl | (simp; done) | fail) only [upd_ne, q23], ?_, by simp -implicitDefEqProofs (maxSteps := 2000000) (disch := first | with_reducible exact Nat.ne_of_beq_eq_false rfl | exact oneCell_int | exact oneCell_bool | omega | rfl | (simp; done) | fail) only [upd_eq] <;> rfl, rfl⟩
        simp -implicitDefEqProofs (maxSteps := 2000000) (disch := first | with_reducible exact Nat.ne_of_beq_eq_false rfl | exact oneCell_int | exact oneCell_bool | omega | rfl | (simp; done) | fail) only [upd_ne, q24]
        rw [Int.natCast_add, show ((1 : Nat) : Int) = 1 from rfl, hst]
        rfl
    obtain rfl : i = 256 := by omega
    have eall : (L.countP fun x => decide (numW (wC C) x < ((256 : Nat) : Int))) = L.length := List.countP_eq_length.2 fun x hx => by
      have := (num_256 (hin x hx) w16 k16).2
      simp; omega
    rw [eall] at q24
    clear HX
    try simp -implicitDefEqProofs (maxSteps := 2000000) (disch := first | with_reducible exact Nat.ne_of_beq_eq_false rfl | exact oneCell_int | exact oneCell_bool | omega | rfl | (simp; done) | fail) only [opH_sv, opH_su, pureW_sv, opH_nil, pureW_nil, pick_t, pick_f, pick_tp, pick_fp, gd_tt, gd_ft, gd_tf, gd_ff, box_new, regs0, regs1, regs2, regs3, regs4, regs5, regs6, cells_agg, cells_int, cells_bool, cells_ptr, cells_slice, cells_string, cells_func, cells_nilFunc, cells_map, retK_ret, retK_normal, resL_tmp, resL_cell, resL_nil0, resL_nil1, resL_nil2, resL_nil3, resC_ptr, ex0, ex1, ex2, ex0p, ex1p, ex2p, HL.cond_true, HL.cond_false, thenK_normal, thenK_ret, thenK_exit, blockK_normal, blockK_ret, blockK_exit, scopeK_normal, scopeK_ret, scopeK_exit, wpH_pure, bin_add, bin_sub, bin_mul, bin_lss, bin_leq, bin_gtr, bin_geq, bin_quo, bin_rem, bin_quop, bin_remp, wrap_in, bin_addp, bin_subp, bin_mulp, bin_lssp, bin_leqp, bin_gtrp, bin_geqp, un_not, un_notp, un_neg, eq_int, ne_int, eq_intp, ne_intp, callV_fn, add_mk, upd_eq, upd_ne, cell_set_self, Nat.zero_add, Nat.add_zero, Option.some.injEq, exists_eq_left', List.getElem?_cons_succ, List.getElem?_cons_zero, true_and, and_true, bne_self_eq_false, beq_self_eq_true, Bool.not_true, Bool.not_false, Bool.and_true, Bool.and_self, Bool.and_false, Bool.true_and, List.length_cons, List.length_nil, ne_eq, not_false_eq_true, Nat.reduceAdd, Nat.reduceMul, if_true, if_false, oneCell_int, oneCell_bool, oneCell_ptr, oneCell_slice, oneCell_string, oneCell_func, oneCell_map, Int.toNat_natCast, List.set_cons_zero, List.set_cons_succ, Nat.lt_irrefl, Nat.zero_lt_succ, Nat.succ_lt_succ_iff, fa26_0, fa26_0p, fa26_1, fa26_1p, fa26_10, fa26_10p, fa26_11, fa26_11p, fa26_12, fa26_12p, fa26_13, fa26_13p, fa26_14, fa26_14p, fa26_2, fa26_2p, fa26_3, fa26_3p, fa26_4, fa26_4p, fa26_5, fa26_5p, fa26_6, fa26_6p, fa26_7, fa26_7p, fa26_8, fa26_8p, fa26_9, fa26_9p, fa28_0, fa28_0p, fa28_1, fa28_1p, fa30_0, fa30_0p, fa30_1, fa30_1p, fa46_0, fa46_0p, fa46_1, fa46_1p, fa46_2, fa46_2p, fa46_3, fa46_3p, fa46_4, fa46_4p, fa46_5, fa46_5p, fa46_6, fa46_6p, fa86_0, fa86_0p, fa86_1, fa86_1p, fa86_2, fa86_2p, fa95_0, fa95_0p, fa95_1, fa95_1p, ld3, ld3p, ld4, ld4p, ld22, ld22p, ld23, ld23p, ld24, ld24p, ld26, ld26p, ld28, ld28p, ld30, ld30p, ld31, ld31p, ld46, ld46p, ld47, ld47p, ld52, ld52p, ld55, ld55p, ld57, ld57p, ld95, ld95p, st3s, st4s, st22s, st23s, st24s, st26w, st28w, st30w, st46w, st47s, st55s, st95w, ix22, ix22p, ix23, ix23p, ix24, ix24p, ix47, ix47p, ix56, ix56p, ix57, ix57p, ix101, ix101p, ln22, ln22p, ln23, ln23p, ln24, ln24p, ln47, ln47p, ln56, ln56p, ln57, ln57p, al22, al26, al28, al30, al46, al47, al95, cf14, cf15, cf16, cf17, cf18, cf19, cf20, cf21, cf22, cf23, cf24, cf25, cf26, cf27, cf28, cf29, cf30, cf31, cf32, cf33, cf34, cf35, cf36, cf37, cf38, cf39, cf40, cf41, cf42, cf43, cf44, cf45, cf46, cf47, cf48, cf49, cf50, cf51, cf52, cf53, cf54, cf55, cf56, cf57, cf58, cf59, cf60, cf61, cf62, cf63, cf64, cf65, cf66, cf67, cf68, cf69, cf70, cf71, cf72, cf73, cf74, cf75, cf76, cf77, cf78, cf79, cf80, bd26_0_1_2_7_8_9_10_11_12_13_14, bd26_0_1_2_7_8_9_10_11_12_13_14p, bd28_0, bd28_0p, bd28_0_1, bd28_0_1p, bd30_, bd30_p, bd30_0_1, bd30_0_1p, bd30_0, bd30_0p, bd46_0_1_2_3_4, bd46_0_1_2_3_4p, bd46_0_3_4, bd46_0_3_4p, bd86_0_1_2, bd86_0_1_2p, bd87_0_1_2_3, bd87_0_1_2_3p, bd95_0_1, bd95_0_1p, bs22_2_0_1, bs47_1_0, bs22_1_0, bs57_6_0_1_2_3_4_5, bs24_1_0, bs22_4_0_1_2_3, bs56_11_0_1_2_3_4_5_6_7_8_9_10, bs57_11_0_1_2_3_4_5_6_7_8_9_10, eq4, eq4p, eq28, eq28p, eq30, eq30p, eq31n, eq31np, eq31s, eq31sp, eq46, eq46p, eq50n, eq50np, eq50s, eq50sp, eq67n, eq67np, eq67s, eq67sp, ne4, ne4p, ne28, ne28p, ne30, ne30p, ne31n, ne31np, ne31s, ne31sp, ne46, ne46p, al76]
    unfold S13_k6
    refine loop_I (fun mm r h => ∃ k : Nat, mm = L.length - k ∧ k ≤ L.length ∧ r 9 = .pointer (some ⟨gp, 0, none⟩) ∧ r 11 = .pointer (some ⟨z, 0, none⟩) ∧ r 15 = .pointer (some ⟨a, 0, none⟩) ∧ r 16 = .pointer (some ⟨q, 0, none⟩) ∧ r 23 = .slice sa L.length cap ∧ r 24 = .int .i64 L.length ∧ r 26 = .int .i64 k ∧ h = h5) ?_
      (m := L.length) ⟨0, rfl, Nat.zero_le _, by simp -implicitDefEqProofs (maxSteps := 2000000) (disch := first | with_reducible exact Nat.ne_of_beq_eq_false rfl | exact oneCell_int | exact oneCell_bool | omega | rfl | (simp; done) | fail) only [upd_ne, q9], by simp -implicitDefEqProofs (maxSteps := 2000000) (disch := first | with_reducible exact Nat.ne_of_beq_eq_false rfl | exact oneCell_int | exact oneCell_bool | omega | rfl | (simp; done) | fail) only [upd_ne, q11], by simp -implicitDefEqProofs (maxSteps := 2000000) (disch := first | with_reducible exact Nat.ne_of_beq_eq_false rfl | exact oneCell_int | exact oneCell_bool | omega | rfl | (simp; done) | fail) only [upd_ne, q15], by simp -implicitDefEqProofs (maxSteps := 2000000) (disch := first | with_reducible exact Nat.ne_of_beq_eq_false rfl | exact oneCell_int | exact oneCell_bool | omega | rfl | (simp; done) | fail) only [upd_ne, q16], by simp -implicitDefEqProofs (maxSteps := 2000000) (disch := first | with_reducible exact Nat.ne_of_beq_eq_false rfl | exact oneCell_int | exact oneCell_bool | omega | rfl | (simp; done) | fail) only [upd_ne, q23], by simp -implicitDefEqProofs (maxSteps := 2000000) (disch := first | with_reducible exact Nat.ne_of_beq_eq_false rfl | exact oneCell_int | exact oneCell_bool | omega | rfl | (simp; done) | fail) only [upd_ne, q24], by simp -implicitDefEqProofs (maxSteps := 2000000) (disch := first | with_reducible exact Nat.ne_of_beq_eq_false rfl | exact oneCell_int | exact oneCell_bool | omega | rfl | (simp; done) | fail) only [upd_eq] <;> rfl, rfl⟩
    clear q9 q11 q15 q16 q23 q24 q25
    rintro mm r hh ⟨k, rfl, hk, q9, q11, q15, q16, q23, q24, q26, ehh⟩ X HX
    subst hh
    unfold S13_l8
    simp -implicitDefEqProofs (maxSteps := 2000000) (disch := first | with_reducible exact Nat.ne_of_beq_eq_false rfl | exact oneCell_int | exact oneCell_bool | omega | rfl | (simp; done) | fail) only [q23, q26, thenK_exit, blockK_exit, thenK_normal, if_true, opH_sv, ln22, bin_lss]
    refine cond_dec (fun hlt => ?_) (fun hge => ?_)
    rotate_left
    · try simp -implicitDefEqProofs (maxSteps := 2000000) (disch := first | with_reducible exact Nat.ne_of_beq_eq_false rfl | exact oneCell_int | exact oneCell_bool | omega | rfl | (simp; done) | fail) only [opH_sv, opH_su, pureW_sv, opH_nil, pureW_nil, pick_t, pick_f, pick_tp, pick_fp, gd_tt, gd_ft, gd_tf, gd_ff, box_new, regs0, regs1, regs2, regs3, regs4, regs5, regs6, cells_agg, cells_int, cells_bool, cells_ptr, cells_slice, cells_string, cells_func, cells_nilFunc, cells_map, retK_ret, retK_normal, resL_tmp, resL_cell, resL_nil0, resL_nil1, resL_nil2, resL_nil3, resC_ptr, ex0, ex1, ex2, ex0p, ex1p, ex2p, HL.cond_true, HL.cond_false, thenK_normal, thenK_ret, thenK_exit, blockK_normal, blockK_ret, blockK_exit, scopeK_normal, scopeK_ret, scopeK_exit, wpH_pure, bin_add, bin_sub, bin_mul, bin_lss, bin_leq, bin_gtr, bin_geq, bin_quo, bin_rem, bin_quop, bin_remp, wrap_in, bin_addp, bin_subp, bin_mulp, bin_lssp, bin_leqp, bin_gtrp, bin_geqp, un_not, un_notp, un_neg, eq_int, ne_int, eq_intp, ne_intp, callV_fn, add_mk, upd_eq, upd_ne, cell_set_self, Nat.zero_add, Nat.add_zero, Option.some.injEq, exists_eq_left', List.getElem?_cons_succ, List.getElem?_cons_zero, true_and, and_true, bne_self_eq_false, beq_self_eq_true, Bool.not_true, Bool.not_false, Bool.and_true, Bool.and_self, Bool.and_false, Bool.true_and, List.length_cons, List.length_nil, ne_eq, not_false_eq_true, Nat.reduceAdd, Nat.reduceMul, if_true, if_false, oneCell_int, oneCell_bool, oneCell_ptr, oneCell_slice, oneCell_string, oneCell_func, oneCell_map, Int.toNat_natCast, List.set_cons_zero, List.set_cons_succ, Nat.lt_irrefl, Nat.zero_lt_succ, Nat.succ_lt_succ_iff, fa26_0, fa26_0p, fa26_1, fa26_1p, fa26_10, fa26_10p, fa26_11, fa26_11p, fa26_12, fa26_12p, fa26_13, fa26_13p, fa26_14, fa26_14p, fa26_2, fa26_2p, fa26_3, fa26_3p, fa26_4, fa26_4p, fa26_5, fa26_5p, fa26_6, fa26_6p, fa26_7, fa26_7p, fa26_8, fa26_8p, fa26_9, fa26_9p, fa28_0, fa28_0p, fa28_1, fa28_1p, fa30_0, fa30_0p, fa30_1, fa30_1p, fa46_0, fa46_0p, fa46_1, fa46_1p, fa46_2, fa46_2p, fa46_3, fa46_3p, fa46_4, fa46_4p, fa46_5, fa46_5p, fa46_6, fa46_6p, fa86_0, fa86_0p, fa86_1, fa86_1p, fa86_2, fa86_2p, fa95_0, fa95_0p, fa95_1, fa95_1p, ld3, ld3p, ld4, ld4p, ld22, ld22p, ld23, ld23p, ld24, ld24p, ld26, ld26p, ld28, ld28p, ld30, ld30p, ld31, ld31p, ld46, ld46p, ld47, ld47p, ld52, ld52p, ld55, ld55p, ld57, ld57p, ld95, ld95p, st3s, st4s, st22s, st23s, st24s, st26w, st28w, st30w, st46w, st47s, st55s, st95w, ix22, ix22p, ix23, ix23p, ix24, ix24p, ix47, ix47p, ix56, ix56p, ix57, ix57p, ix101, ix101p, ln22, ln22p, ln23, ln23p, ln24, ln24p, ln47, ln47p, ln56, ln56p, ln57, ln57p, al22, al26, al28, al30, al46, al47, al95, cf14, cf15, cf16, cf17, cf18, cf19, cf20, cf21, cf22, cf23, cf24, cf25, cf26, cf27, cf28, cf29, cf30, cf31, cf32, cf33, cf34, cf35, cf36, cf37, cf38, cf39, cf40, cf41, cf42, cf43, cf44, cf45, cf46, cf47, cf48, cf49, cf50, cf51, cf52, cf53, cf54, cf55, cf56, cf57, cf58, cf59, cf60, cf61, cf62, cf63, cf64, cf65, cf66, cf67, cf68, cf69, cf70, cf71, cf72, cf73, cf74, cf75, cf76, cf77, cf78, cf79, cf80, bd26_0_1_2_7_8_9_10_11_12_13_14, bd26_0_1_2_7_8_9_10_11_12_13_14p, bd28_0, bd28_0p, bd28_0_1, bd28_0_1p, bd30_, bd30_p, bd30_0_1, bd30_0_1p, bd30_0, bd30_0p, bd46_0_1_2_3_4, bd46_0_1_2_3_4p, bd46_0_3_4, bd46_0_3_4p, bd86_0_1_2, bd86_0_1_2p, bd87_0_1_2_3, bd87_0_1_2_3p, bd95_0_1, bd95_0_1p, bs22_2_0_1, bs47_1_0, bs22_1_0, bs57_6_0_1_2_3_4_5, bs24_1_0, bs22_4_0_1_2_3, bs56_11_0_1_2_3_4_5_6_7_8_9_10, bs57_11_0_1_2_3_4_5_6_7_8_9_10, eq4, eq4p, eq28, eq28p, eq30, eq30p, eq31n, eq31np, eq31s, eq31sp, eq46, eq46p, eq50n, eq50np, eq50s, eq50sp, eq67n, eq67np, eq67s, eq67sp, ne4, ne4p, ne28, ne28p, ne30, ne30p, ne31n, ne31np, ne31s, ne31sp, ne46, ne46p, al76]
      unfold S13_k7
      try simp -implicitDefEqProofs (maxSteps := 2000000) (disch := first | with_reducible exact Nat.ne_of_beq_eq_false rfl | exact oneCell_int | exact oneCell_bool | omega | rfl | (simp; done) | fail) only [upd_ne, q16, q11, q24, q23, retK_ret, resL_tmp, upd_eq, resL_nil1, opH_sv, ld30, add_mk, Nat.add_zero, Nat.zero_add, cq5, estep, List.getElem?_cons_zero, Option.some.injEq, List.getElem?_cons_succ, cz5, exists_eq_left', eq30, beq_self_eq_true, Bool.and_self, pick_t, gd_tt, ln22, eq_int, cf17]
      refine (awake_spec st).mono ?_
      rintro _ _ ⟨rfl, rfl⟩
      try simp -implicitDefEqProofs (maxSteps := 2000000) (disch := first | with_reducible exact Nat.ne_of_beq_eq_false rfl | exact oneCell_int | exact oneCell_bool | omega | rfl | (simp; done) | fail) only []
    have hk' : k < L.length := by omega
    obtain ⟨c, hc⟩ : ∃ c, L[k]? = some c := ⟨_, List.getElem?_eq_getElem hk'⟩
    have hci := hin c (List.mem_of_getElem? hc)
    obtain ⟨b, o, cc, e1, e2⟩ := se.get hc
    simp only [Value.slice.injEq] at e1
    obtain ⟨rfl, -, -⟩ := e1
    have x0 := e2 0 (by decide)
    have x1 := e2 1 (by decide)
    simp only [cellC, Nat.add_zero, List.getElem?_cons_zero, List.getElem?_cons_succ] at x0 x1
    unfold S13_l8_k9
    try simp -implicitDefEqProofs (maxSteps := 2000000) (disch := first | with_reducible exact Nat.ne_of_beq_eq_false rfl | exact oneCell_int | exact oneCell_bool | omega | rfl | (simp; done) | fail) only [upd_ne, q23, q26, q9, q15, cf37, thenK_ret, blockK_ret, retK_ret, resL_tmp, upd_eq, resL_nil1, pureW_sv, ix22p (Int.natCast_nonneg k) hlt, Int.toNat_natCast, add_mk, ld28p, Nat.add_zero, x0, Option.some.injEq, x1, exists_eq_left']
    refine (num_spec (c := c) gs5).mono ?_
    rintro _ h5 ⟨rfl, rfl⟩
    refine ⟨Hp.le.refl _, ?_⟩
    rw [num_in hci]
    obtain ⟨n0, n1⟩ := num_256 hci w16 k16
    obtain ⟨nm, hnm⟩ : ∃ nm : Nat, (nm : Int) = numW (wC C) c := ⟨_, Int.toNat_of_nonneg n0⟩
    rw [← hnm]
    try simp -implicitDefEqProofs (maxSteps := 2000000) (disch := first | with_reducible exact Nat.ne_of_beq_eq_false rfl | exact oneCell_int | exact oneCell_bool | omega | rfl | (simp; done) | fail) only [ia76p (Int.natCast_nonneg nm) (by omega : (nm : Int) < (256 : Nat)), Int.toNat_natCast, Nat.mul_one, add_mk, Nat.zero_add, ld4p, arr_cell ba5 (by omega : nm < 256), Option.some.injEq, exists_eq_left', un_notp]
    have hmk : markB (wC C) L nm = true := by
      unfold markB
      rw [hnm]
      exact decide_eq_true (List.mem_map_of_mem (List.mem_of_getElem? hc))
    have k10 : ∀ r : Rg, r 9 = .pointer (some ⟨gp, 0, none⟩) → r 11 = .pointer (some ⟨z, 0, none⟩) → r 15 = .pointer (some ⟨a, 0, none⟩) → r 16 = .pointer (some ⟨q, 0, none⟩) → r 23 = .slice (some ⟨b, o, none⟩) L.length cap → r 24 = .int .i64 L.length → r 26 = .int .i64 k →
        S13_l8_k10 G (thenK X (blockK 6 (thenK (S13_k7 G (retK Tryd.prog G [ResultVar.tmp 8] fun u x => u = Value.bool true)) (retK Tryd.prog G [ResultVar.tmp 8] fun u x => u = Value.bool true)))) r h5 := by
      intro r q9 q11 q15 q16 q23 q24 q26
      unfold S13_l8_k10
      try simp -implicitDefEqProofs (maxSteps := 2000000) (disch := first | with_reducible exact Nat.ne_of_beq_eq_false rfl | exact oneCell_int | exact oneCell_bool | omega | rfl | (simp; done) | fail) only [q26, thenK_normal, opH_sv, bin_add, wrap_in]
      exact HX (L.length - (k + 1)) _ _ (by omega) ⟨k + 1, rfl, hk', by simp -implicitDefEqProofs (maxSteps := 2000000) (disch := first | with_reducible exact Nat.ne_of_beq_eq_false rfl | exact oneCell_int | exact oneCell_bool | omega | rfl | (simp; done) | fail) only [upd_ne, q9], by simp -implicitDefEqProofs (maxSteps := 2000000) (disch := first | with_reducible exact Nat.ne_of_beq_eq_false rfl | exact oneCell_int | exact oneCell_bool | omega | rfl | (simp; done) | fail) only [upd_ne, q11], by simp -implicitDefEqProofs (maxSteps := 2000000) (disch := first | with_reducible exact Nat.ne_of_beq_eq_false rfl | exact oneCell_int | exact oneCell_bool | omega | rfl | (simp; done) | fail) only [upd_ne, q15], by simp -implicitDefEqProofs (maxSteps := 2000000) (disch := first | with_reducible exact Nat.ne_of_beq_eq_false rfl | exact oneCell_int | exact oneCell_bool | omega | rfl | (simp; done) | fail) only [upd_ne, q16], by simp -implicitDefEqProofs (maxSteps := 2000000) (disch := first | with_reducible exact Nat.ne_of_beq_eq_false rfl | exact oneCell_int | exact oneCell_bool | omega | rfl | (simp; done) | fail) only [upd_ne, q23], by simp -implicitDefEqProofs (maxSteps := 2000000) (disch := first | with_reducible exact Nat.ne_of_beq_eq_false rfl | exact oneCell_int | exact oneCell_bool | omega | rfl | (simp; done) | fail) only [upd_ne, q24], by simp -implicitDefEqProofs (maxSteps := 2000000) (disch := first | with_reducible exact Nat.ne_of_beq_eq_false rfl | exact oneCell_int | exact oneCell_bool | omega | rfl | (simp; done) | fail) only [upd_eq] <;> rfl, rfl⟩
    by_cases hk0 : k = 0
    · subst hk0
      try simp -implicitDefEqProofs (maxSteps := 2000000) (disch := first | with_reducible exact Nat.ne_of_beq_eq_false rfl | exact oneCell_int | exact oneCell_bool | omega | rfl | (simp; done) | fail) only [hmk, Bool.not_true, Nat.reduceMul, Nat.add_zero, pick_fp, gd_ff, pureW_sv, bin_gtrp, show (((0 : Nat) : Int) > 0) = False by simp, decide_false, HL.cond_false, gd_ft]
      exact k10 _ (by simp -implicitDefEqProofs (maxSteps := 2000000) (disch := first | with_reducible exact Nat.ne_of_beq_eq_false rfl | exact oneCell_int | exact oneCell_bool | omega | rfl | (simp; done) | fail) only [upd_ne, q9]) (by simp -implicitDefEqProofs (maxSteps := 2000000) (disch := first | with_reducible exact Nat.ne_of_beq_eq_false rfl | exact oneCell_int | exact oneCell_bool | omega | rfl | (simp; done) | fail) only [upd_ne, q11]) (by simp -implicitDefEqProofs (maxSteps := 2000000) (disch := first | with_reducible exact Nat.ne_of_beq_eq_false rfl | exact oneCell_int | exact oneCell_bool | omega | rfl | (simp; done) | fail) only [upd_ne, q15]) (by simp -implicitDefEqProofs (maxSteps := 2000000) (disch := first | with_reducible exact Nat.ne_of_beq_eq_false rfl | exact oneCell_int | exact oneCell_bool | omega | rfl | (simp; done) | fail) only [upd_ne, q16]) (by simp -implicitDefEqProofs (maxSteps := 2000000) (disch := first | with_reducible exact Nat.ne_of_beq_eq_false rfl | exact oneCell_int | exact oneCell_bool | omega | rfl | (simp; done) | fail) only [upd_ne, q23]) (by simp -implicitDefEqProofs (maxSteps := 2000000) (disch := first | with_reducible exact Nat.ne_of_beq_eq_false rfl | exact oneCell_int | exact oneCell_bool | omega | rfl | (simp; done) | fail) only [upd_ne, q24]) (by simp -implicitDefEqProofs (maxSteps := 2000000) (disch := first | with_reducible exact Nat.ne_of_beq_eq_false rfl | exact oneCell_int | exact oneCell_bool | omega | rfl | (simp; done) | fail) only [upd_ne, q26] <;> rfl)
    · obtain ⟨k', rfl⟩ : ∃ k', k = k' + 1 := ⟨k - 1, by omega⟩
      obtain ⟨c', hc'⟩ : ∃ c', L[k']? = some c' := ⟨_, List.getElem?_eq_getElem (by omega)⟩
      have hci' := hin c' (List.mem_of_getElem? hc')
      obtain ⟨b', o', cc', e1', e2'⟩ := se.get hc'
      simp only [Value.slice.injEq, Option.some.injEq, Addr.mk.injEq, and_true] at e1'
      obtain ⟨⟨rfl, rfl⟩, -⟩ := e1'
      have y0 := e2' 0 (by decide)
      have y1 := e2' 1 (by decide)
      simp only [cellC, Nat.add_zero, List.getElem?_cons_zero, List.getElem?_cons_succ] at y0 y1
      have hlt3 : numW (wC C) c' < numW (wC C) c := by
        have h1 := (List.getElem?_eq_some_iff.1 hc').2
        have h2 := (List.getElem?_eq_some_iff.1 hc).2
        rw [← h1, ← h2]
        exact List.pairwise_iff_getElem.1 hrise k' (k' + 1) (by omega) (by omega) (by omega)
      have ek : ((k' + 1 : Nat) : Int) - 1 = (k' : Int) := by omega
      have hgt : (((k' + 1 : Nat) : Int) > 0) = True := eq_true (by omega)
      try simp -implicitDefEqProofs (maxSteps := 2000000) (disch := first | with_reducible exact Nat.ne_of_beq_eq_false rfl | exact oneCell_int | exact oneCell_bool | omega | rfl | (simp; done) | fail) only [hmk, Bool.not_true, pick_fp, gd_ff, pureW_sv, bin_gtrp, hgt, decide_true, pick_tp, gd_tt, cf37, bin_subp, wrap_in, ix22p, add_mk, ld28p, Nat.add_zero, ix22p (Int.natCast_nonneg (k' + 1)) hlt, Int.toNat_natCast, x0, Option.some.injEq, x1, exists_eq_left']
      refine (num_spec (c := c) gs5).mono ?_
      rintro _ h5 ⟨rfl, rfl⟩
      refine ⟨Hp.le.refl _, ?_⟩
      rw [num_in hci, ek, Int.toNat_natCast, y0, y1]
      try simp -implicitDefEqProofs (maxSteps := 2000000) (disch := first | with_reducible exact Nat.ne_of_beq_eq_false rfl | exact oneCell_int | exact oneCell_bool | omega | rfl | (simp; done) | fail) only [Option.some.injEq, exists_eq_left']
      refine (num_spec (c := c') gs5).mono ?_
      rintro _ h5 ⟨rfl, rfl⟩
      rw [num_in hci']
      try simp -implicitDefEqProofs (maxSteps := 2000000) (disch := first | with_reducible exact Nat.ne_of_beq_eq_false rfl | exact oneCell_int | exact oneCell_bool | omega | rfl | (simp; done) | fail) only [bin_leqp, decide_eq_false (show ¬numW (wC C) c ≤ numW (wC C) c' by omega), HL.cond_false]
      exact k10 _ (by simp -implicitDefEqProofs (maxSteps := 2000000) (disch := first | with_reducible exact Nat.ne_of_beq_eq_false rfl | exact oneCell_int | exact oneCell_bool | omega | rfl | (simp; done) | fail) only [upd_ne, q9]) (by simp -implicitDefEqProofs (maxSteps := 2000000) (disch := first | with_reducible exact Nat.ne_of_beq_eq_false rfl | exact oneCell_int | exact oneCell_bool | omega | rfl | (simp; done) | fail) only [upd_ne, q11]) (by simp -implicitDefEqProofs (maxSteps := 2000000) (disch := first | with_reducible exact Nat.ne_of_beq_eq_false rfl | exact oneCell_int | exact oneCell_bool | omega | rfl | (simp; done) | fail) only [upd_ne, q15]) (by simp -implicitDefEqProofs (maxSteps := 2000000) (disch := first | with_reducible exact Nat.ne_of_beq_eq_false rfl | exact oneCell_int | exact oneCell_bool | omega | rfl | (simp; done) | fail) only [upd_ne, q16]) (by simp -implicitDefEqProofs (maxSteps := 2000000) (disch := first | with_reducible exact Nat.ne_of_beq_eq_false rfl | exact oneCell_int | exact oneCell_bool | omega | rfl | (simp; done) | fail) only [upd_ne, q23]) (by simp -implicitDefEqProofs (maxSteps := 2000000) (disch := first | with_reducible exact Nat.ne_of_beq_eq_false rfl | exact oneCell_int | exact oneCell_bool | omega | rfl | (simp; done) | fail) only [upd_ne, q24]) (by simp -implicitDefEqProofs (maxSteps := 2000000) (disch := first | with_reducible exact Nat.ne_of_beq_eq_false rfl | exact oneCell_int | exact oneCell_bool | omega | rfl | (simp; done) | fail) only [upd_ne, q26] <;> rfl)
  refine loop_I (fun mm r h => ∃ i : Nat, mm = nn.toNat - i ∧ i ≤ nn.toNat ∧ r 2 = .int .i64 dd ∧ r 3 = .int .i64 nn ∧ r 9 = .pointer (some ⟨gp, 0, none⟩) ∧ r 11 = .pointer (some ⟨z, 0, none⟩) ∧ r 13 = .pointer (some ⟨w, 0, none⟩) ∧ r 14 = .bool true ∧ r 15 = .pointer (some ⟨a, 0, none⟩) ∧ r 16 = .pointer (some ⟨q, 0, none⟩) ∧ r 17 = .int .i64 i ∧
      HL.Sep [noHp.set q (poseO (stepQ p dd i)), noHp.set a (arrO (wC C) (stepsL C p dd i)), h6] h ∧ Dis G h ∧ ∀ j, j < i → legalR C (runM (stepQ p dd j) dd 1) = true) ?_
    (m := nn.toNat) ⟨0, rfl, Nat.zero_le _, by simp -implicitDefEqProofs (maxSteps := 2000000) (disch := first | with_reducible exact Nat.ne_of_beq_eq_false rfl | exact oneCell_int | exact oneCell_bool | omega | rfl | (simp; done) | fail) only [upd_ne, upd_eq], by simp -implicitDefEqProofs (maxSteps := 2000000) (disch := first | with_reducible exact Nat.ne_of_beq_eq_false rfl | exact oneCell_int | exact oneCell_bool | omega | rfl | (simp; done) | fail) only [upd_ne, upd_eq], by simp -implicitDefEqProofs (maxSteps := 2000000) (disch := first | with_reducible exact Nat.ne_of_beq_eq_false rfl | exact oneCell_int | exact oneCell_bool | omega | rfl | (simp; done) | fail) only [upd_ne, upd_eq], by simp -implicitDefEqProofs (maxSteps := 2000000) (disch := first | with_reducible exact Nat.ne_of_beq_eq_false rfl | exact oneCell_int | exact oneCell_bool | omega | rfl | (simp; done) | fail) only [upd_ne, upd_eq], by simp -implicitDefEqProofs (maxSteps := 2000000) (disch := first | with_reducible exact Nat.ne_of_beq_eq_false rfl | exact oneCell_int | exact oneCell_bool | omega | rfl | (simp; done) | fail) only [upd_ne, upd_eq], by simp -implicitDefEqProofs (maxSteps := 2000000) (disch := first | with_reducible exact Nat.ne_of_beq_eq_false rfl | exact oneCell_int | exact oneCell_bool | omega | rfl | (simp; done) | fail) only [upd_ne, upd_eq], by simp -implicitDefEqProofs (maxSteps := 2000000) (disch := first | with_reducible exact Nat.ne_of_beq_eq_false rfl | exact oneCell_int | exact oneCell_bool | omega | rfl | (simp; done) | fail) only [upd_ne, upd_eq], by simp -implicitDefEqProofs (maxSteps := 2000000) (disch := first | with_reducible exact Nat.ne_of_beq_eq_false rfl | exact oneCell_int | exact oneCell_bool | omega | rfl | (simp; done) | fail) only [upd_ne, upd_eq], by simp -implicitDefEqProofs (maxSteps := 2000000) (disch := first | with_reducible exact Nat.ne_of_beq_eq_false rfl | exact oneCell_int | exact oneCell_bool | omega | rfl | (simp; done) | fail) only [upd_eq] <;> rfl, s8, d8, fun j hj => absurd hj (Nat.not_lt_zero j)⟩
  clear s8 d8 s7 d7
  rintro mm r h ⟨i, rfl, hi, q2, q3, q9, q11, q13, q14, q15, q16, q17, sh, dh, hleg⟩ X HX
  unfold S13_l14
  simp -implicitDefEqProofs (maxSteps := 2000000) (disch := first | with_reducible exact Nat.ne_of_beq_eq_false rfl | exact oneCell_int | exact oneCell_bool | omega | rfl | (simp; done) | fail) only [q17, q3, thenK_exit, blockK_exit, thenK_normal, if_true, opH_sv, bin_lss]
  refine cond_dec (fun hlt => ?_) (fun hge => ?_)
  rotate_left
  · obtain rfl : i = nn.toNat := by omega
    try simp -implicitDefEqProofs (maxSteps := 2000000) (disch := first | with_reducible exact Nat.ne_of_beq_eq_false rfl | exact oneCell_int | exact oneCell_bool | omega | rfl | (simp; done) | fail) only [opH_sv, opH_su, pureW_sv, opH_nil, pureW_nil, pick_t, pick_f, pick_tp, pick_fp, gd_tt, gd_ft, gd_tf, gd_ff, box_new, regs0, regs1, regs2, regs3, regs4, regs5, regs6, cells_agg, cells_int, cells_bool, cells_ptr, cells_slice, cells_string, cells_func, cells_nilFunc, cells_map, retK_ret, retK_normal, resL_tmp, resL_cell, resL_nil0, resL_nil1, resL_nil2, resL_nil3, resC_ptr, ex0, ex1, ex2, ex0p, ex1p, ex2p, HL.cond_true, HL.cond_false, thenK_normal, thenK_ret, thenK_exit, blockK_normal, blockK_ret, blockK_exit, scopeK_normal, scopeK_ret, scopeK_exit, wpH_pure, bin_add, bin_sub, bin_mul, bin_lss, bin_leq, bin_gtr, bin_geq, bin_quo, bin_rem, bin_quop, bin_remp, wrap_in, bin_addp, bin_subp, bin_mulp, bin_lssp, bin_leqp, bin_gtrp, bin_geqp, un_not, un_notp, un_neg, eq_int, ne_int, eq_intp, ne_intp, callV_fn, add_mk, upd_eq, upd_ne, cell_set_self, Nat.zero_add, Nat.add_zero, Option.some.injEq, exists_eq_left', List.getElem?_cons_succ, List.getElem?_cons_zero, true_and, and_true, bne_self_eq_false, beq_self_eq_true, Bool.not_true, Bool.not_false, Bool.and_true, Bool.and_self, Bool.and_false, Bool.true_and, List.length_cons, List.length_nil, ne_eq, not_false_eq_true, Nat.reduceAdd, Nat.reduceMul, if_true, if_false, oneCell_int, oneCell_bool, oneCell_ptr, oneCell_slice, oneCell_string, oneCell_func, oneCell_map, Int.toNat_natCast, List.set_cons_zero, List.set_cons_succ, Nat.lt_irrefl, Nat.zero_lt_succ, Nat.succ_lt_succ_iff, fa26_0, fa26_0p, fa26_1, fa26_1p, fa26_10, fa26_10p, fa26_11, fa26_11p, fa26_12, fa26_12p, fa26_13, fa26_13p, fa26_14, fa26_14p, fa26_2, fa26_2p, fa26_3, fa26_3p, fa26_4, fa26_4p, fa26_5, fa26_5p, fa26_6, fa26_6p, fa26_7, fa26_7p, fa26_8, fa26_8p, fa26_9, fa26_9p, fa28_0, fa28_0p, fa28_1, fa28_1p, fa30_0, fa30_0p, fa30_1, fa30_1p, fa46_0, fa46_0p, fa46_1, fa46_1p, fa46_2, fa46_2p, fa46_3, fa46_3p, fa46_4, fa46_4p, fa46_5, fa46_5p, fa46_6, fa46_6p, fa86_0, fa86_0p, fa86_1, fa86_1p, fa86_2, fa86_2p, fa95_0, fa95_0p, fa95_1, fa95_1p, ld3, ld3p, ld4, ld4p, ld22, ld22p, ld23, ld23p, ld24, ld24p, ld26, ld26p, ld28, ld28p, ld30, ld30p, ld31, ld31p, ld46, ld46p, ld47, ld47p, ld52, ld52p, ld55, ld55p, ld57, ld57p, ld95, ld95p, st3s, st4s, st22s, st23s, st24s, st26w, st28w, st30w, st46w, st47s, st55s, st95w, ix22, ix22p, ix23, ix23p, ix24, ix24p, ix47, ix47p, ix56, ix56p, ix57, ix57p, ix101, ix101p, ln22, ln22p, ln23, ln23p, ln24, ln24p, ln47, ln47p, ln56, ln56p, ln57, ln57p, al22, al26, al28, al30, al46, al47, al95, cf14, cf15, cf16, cf17, cf18, cf19, cf20, cf21, cf22, cf23, cf24, cf25, cf26, cf27, cf28, cf29, cf30, cf31, cf32, cf33, cf34, cf35, cf36, cf37, cf38, cf39, cf40, cf41, cf42, cf43, cf44, cf45, cf46, cf47, cf48, cf49, cf50, cf51, cf52, cf53, cf54, cf55, cf56, cf57, cf58, cf59, cf60, cf61, cf62, cf63, cf64, cf65, cf66, cf67, cf68, cf69, cf70, cf71, cf72, cf73, cf74, cf75, cf76, cf77, cf78, cf79, cf80, bd26_0_1_2_7_8_9_10_11_12_13_14, bd26_0_1_2_7_8_9_10_11_12_13_14p, bd28_0, bd28_0p, bd28_0_1, bd28_0_1p, bd30_, bd30_p, bd30_0_1, bd30_0_1p, bd30_0, bd30_0p, bd46_0_1_2_3_4, bd46_0_1_2_3_4p, bd46_0_3_4, bd46_0_3_4p, bd86_0_1_2, bd86_0_1_2p, bd87_0_1_2_3, bd87_0_1_2_3p, bd95_0_1, bd95_0_1p, bs22_2_0_1, bs47_1_0, bs22_1_0, bs57_6_0_1_2_3_4_5, bs24_1_0, bs22_4_0_1_2_3, bs56_11_0_1_2_3_4_5_6_7_8_9_10, bs57_11_0_1_2_3_4_5_6_7_8_9_10, eq4, eq4p, eq28, eq28p, eq30, eq30p, eq31n, eq31np, eq31s, eq31sp, eq46, eq46p, eq50n, eq50np, eq50s, eq50sp, eq67n, eq67np, eq67s, eq67sp, ne4, ne4p, ne28, ne28p, ne30, ne30p, ne31n, ne31np, ne31s, ne31sp, ne46, ne46p, al76]
    refine k3 true nn.toNat _ _ (by simp -implicitDefEqProofs (maxSteps := 2000000) (disch := first | with_reducible exact Nat.ne_of_beq_eq_false rfl | exact oneCell_int | exact oneCell_bool | omega | rfl | (simp; done) | fail) only [upd_ne, q2]) (by simp -implicitDefEqProofs (maxSteps := 2000000) (disch := first | with_reducible exact Nat.ne_of_beq_eq_false rfl | exact oneCell_int | exact oneCell_bool | omega | rfl | (simp; done) | fail) only [upd_ne, q3]) (by simp -implicitDefEqProofs (maxSteps := 2000000) (disch := first | with_reducible exact Nat.ne_of_beq_eq_false rfl | exact oneCell_int | exact oneCell_bool | omega | rfl | (simp; done) | fail) only [upd_ne, q9]) (by simp -implicitDefEqProofs (maxSteps := 2000000) (disch := first | with_reducible exact Nat.ne_of_beq_eq_false rfl | exact oneCell_int | exact oneCell_bool | omega | rfl | (simp; done) | fail) only [upd_ne, q11]) (by simp -implicitDefEqProofs (maxSteps := 2000000) (disch := first | with_reducible exact Nat.ne_of_beq_eq_false rfl | exact oneCell_int | exact oneCell_bool | omega | rfl | (simp; done) | fail) only [upd_ne, q13]) (by simp -implicitDefEqProofs (maxSteps := 2000000) (disch := first | with_reducible exact Nat.ne_of_beq_eq_false rfl | exact oneCell_int | exact oneCell_bool | omega | rfl | (simp; done) | fail) only [upd_ne, q14]) (by simp -implicitDefEqProofs (maxSteps := 2000000) (disch := first | with_reducible exact Nat.ne_of_beq_eq_false rfl | exact oneCell_int | exact oneCell_bool | omega | rfl | (simp; done) | fail) only [upd_ne, q15]) (by simp -implicitDefEqProofs (maxSteps := 2000000) (disch := first | with_reducible exact Nat.ne_of_beq_eq_false rfl | exact oneCell_int | exact oneCell_bool | omega | rfl | (simp; done) | fail) only [upd_ne, q16]) sh dh ?_ (fun _ => rfl)
    refine (run_legal hnn16 hdd pb).2 fun j hj => ?_
    cases j with
    | zero =>
      have := hleg 0 (by omega)
      rw [one_legal hdd pb, Bool.and_eq_true] at this
      exact this.1
    | succ j =>
      have := hleg j (by omega)
      rw [one_legal hdd pb, Bool.and_eq_true] at this
      exact this.2
  have hlt' : i < nn.toNat := by omega
  have lh : h4.le h := l46.trans (sh.in 2 rfl)
  have cq : ∀ j, cellIn G h ⟨q, j, none⟩ = _ := fun j => cell_of (look_own (sh.at 0 rfl set_self))
  unfold S13_l14_k15
  try simp -implicitDefEqProofs (maxSteps := 2000000) (disch := first | with_reducible exact Nat.ne_of_beq_eq_false rfl | exact oneCell_int | exact oneCell_bool | omega | rfl | (simp; done) | fail) only [upd_ne, q16, q9, q2, thenK_exit, blockK_exit, thenK_normal, if_true, opH_sv, opH_su, al46, ld30, add_mk, Nat.add_zero, Nat.zero_add, al30, bd46_0_1_2_3_4, cf18, cq, List.getElem?_cons_zero, Option.some.injEq, List.getElem?_cons_succ, exists_eq_left']
  refine (shift_spec (g := .pointer (some ⟨gp, 0, none⟩)) (p := stepQ p dd i) (dir := dd) (n := 1) st).mono ?_
  rintro _ h ⟨rfl, rfl⟩
  have ok2 : okS dd 1 = true := by unfold okS; rw [withinB_iff.2 (show (0 : Int) ≤ 1 ∧ (1 : Int) ≤ 16 by omega), withinB_iff.2 hdd]; rfl
  rw [shiftA_eq (step_pb pb), ok2]
  unfold shiftRA
  rw [if_pos ok2]
  try simp -implicitDefEqProofs (maxSteps := 2000000) (disch := first | with_reducible exact Nat.ne_of_beq_eq_false rfl | exact oneCell_int | exact oneCell_bool | omega | rfl | (simp; done) | fail) only [ex1, un_not, Bool.not_true, pick_f, gd_ff, opH_sv, cf27, ld46, add_mk, Nat.add_zero, Nat.zero_add, ex0, st30w, cell_set_self, List.getElem?_cons_zero, Option.some.injEq, List.getElem?_cons_succ, exists_eq_left']
  intro z1 hz1 gz1
  try simp -implicitDefEqProofs (maxSteps := 2000000) (disch := first | with_reducible exact Nat.ne_of_beq_eq_false rfl | exact oneCell_int | exact oneCell_bool | omega | rfl | (simp; done) | fail) only [ez]
  have sA := sh.new (o := poseO (shiftR (stepQ p dd i) dd 1)) hz1
  have dA := dh.set (o := poseO (shiftR (stepQ p dd i) dd 1)) gz1
  generalize Hp.set h z1 _ = hA at sA dA ⊢
  have cqA : ∀ j, cellIn G hA ⟨q, j, none⟩ = _ := fun j => cell_of (look_own (sA.at 1 rfl set_self))
  try simp -implicitDefEqProofs (maxSteps := 2000000) (disch := first | with_reducible exact Nat.ne_of_beq_eq_false rfl | exact oneCell_int | exact oneCell_bool | omega | rfl | (simp; done) | fail) only [cqA, List.getElem?_cons_zero, Option.some.injEq, List.getElem?_cons_succ, exists_eq_left', st46w, cell_set_self]
  intro m1 hm1 gm1
  try simp -implicitDefEqProofs (maxSteps := 2000000) (disch := first | with_reducible exact Nat.ne_of_beq_eq_false rfl | exact oneCell_int | exact oneCell_bool | omega | rfl | (simp; done) | fail) only [ew1]
  have sB := sA.past (o := moveO (runM (stepQ p dd i) dd 1)) hm1
  obtain ⟨lB, dB, bB⟩ := boxed rfl hm1 dA gm1 (o := moveO (runM (stepQ p dd i) dd 1))
  generalize Hp.set hA m1 _ = hB at sB dB lB bB ⊢
  have cmB : ∀ j, cellIn G hB ⟨m1, j, none⟩ = _ := fun j => cell_of (look_own bB)
  try simp -implicitDefEqProofs (maxSteps := 2000000) (disch := first | with_reducible exact Nat.ne_of_beq_eq_false rfl | exact oneCell_int | exact oneCell_bool | omega | rfl | (simp; done) | fail) only [opH_sv, opH_su, pureW_sv, opH_nil, pureW_nil, pick_t, pick_f, pick_tp, pick_fp, gd_tt, gd_ft, gd_tf, gd_ff, box_new, regs0, regs1, regs2, regs3, regs4, regs5, regs6, cells_agg, cells_int, cells_bool, cells_ptr, cells_slice, cells_string, cells_func, cells_nilFunc, cells_map, retK_ret, retK_normal, resL_tmp, resL_cell, resL_nil0, resL_nil1, resL_nil2, resL_nil3, resC_ptr, ex0, ex1, ex2, ex0p, ex1p, ex2p, HL.cond_true, HL.cond_false, thenK_normal, thenK_ret, thenK_exit, blockK_normal, blockK_ret, blockK_exit, scopeK_normal, scopeK_ret, scopeK_exit, wpH_pure, bin_add, bin_sub, bin_mul, bin_lss, bin_leq, bin_gtr, bin_geq, bin_quo, bin_rem, bin_quop, bin_remp, wrap_in, bin_addp, bin_subp, bin_mulp, bin_lssp, bin_leqp, bin_gtrp, bin_geqp, un_not, un_notp, un_neg, eq_int, ne_int, eq_intp, ne_intp, callV_fn, add_mk, upd_eq, upd_ne, cell_set_self, Nat.zero_add, Nat.add_zero, Option.some.injEq, exists_eq_left', List.getElem?_cons_succ, List.getElem?_cons_zero, true_and, and_true, bne_self_eq_false, beq_self_eq_true, Bool.not_true, Bool.not_false, Bool.and_true, Bool.and_self, Bool.and_false, Bool.true_and, List.length_cons, List.length_nil, ne_eq, not_false_eq_true, Nat.reduceAdd, Nat.reduceMul, if_true, if_false, oneCell_int, oneCell_bool, oneCell_ptr, oneCell_slice, oneCell_string, oneCell_func, oneCell_map, Int.toNat_natCast, List.set_cons_zero, List.set_cons_succ, Nat.lt_irrefl, Nat.zero_lt_succ, Nat.succ_lt_succ_iff, fa26_0, fa26_0p, fa26_1, fa26_1p, fa26_10, fa26_10p, fa26_11, fa26_11p, fa26_12, fa26_12p, fa26_13, fa26_13p, fa26_14, fa26_14p, fa26_2, fa26_2p, fa26_3, fa26_3p, fa26_4, fa26_4p, fa26_5, fa26_5p, fa26_6, fa26_6p, fa26_7, fa26_7p, fa26_8, fa26_8p, fa26_9, fa26_9p, fa28_0, fa28_0p, fa28_1, fa28_1p, fa30_0, fa30_0p, fa30_1, fa30_1p, fa46_0, fa46_0p, fa46_1, fa46_1p, fa46_2, fa46_2p, fa46_3, fa46_3p, fa46_4, fa46_4p, fa46_5, fa46_5p, fa46_6, fa46_6p, fa86_0, fa86_0p, fa86_1, fa86_1p, fa86_2, fa86_2p, fa95_0, fa95_0p, fa95_1, fa95_1p, ld3, ld3p, ld4, ld4p, ld22, ld22p, ld23, ld23p, ld24, ld24p, ld26, ld26p, ld28, ld28p, ld30, ld30p, ld31, ld31p, ld46, ld46p, ld47, ld47p, ld52, ld52p, ld55, ld55p, ld57, ld57p, ld95, ld95p, st3s, st4s, st22s, st23s, st24s, st26w, st28w, st30w, st46w, st47s, st55s, st95w, ix22, ix22p, ix23, ix23p, ix24, ix24p, ix47, ix47p, ix56, ix56p, ix57, ix57p, ix101, ix101p, ln22, ln22p, ln23, ln23p, ln24, ln24p, ln47, ln47p, ln56, ln56p, ln57, ln57p, al22, al26, al28, al30, al46, al47, al95, cf14, cf15, cf16, cf17, cf18, cf19, cf20, cf21, cf22, cf23, cf24, cf25, cf26, cf27, cf28, cf29, cf30, cf31, cf32, cf33, cf34, cf35, cf36, cf37, cf38, cf39, cf40, cf41, cf42, cf43, cf44, cf45, cf46, cf47, cf48, cf49, cf50, cf51, cf52, cf53, cf54, cf55, cf56, cf57, cf58, cf59, cf60, cf61, cf62, cf63, cf64, cf65, cf66, cf67, cf68, cf69, cf70, cf71, cf72, cf73, cf74, cf75, cf76, cf77, cf78, cf79, cf80, bd26_0_1_2_7_8_9_10_11_12_13_14, bd26_0_1_2_7_8_9_10_11_12_13_14p, bd28_0, bd28_0p, bd28_0_1, bd28_0_1p, bd30_, bd30_p, bd30_0_1, bd30_0_1p, bd30_0, bd30_0p, bd46_0_1_2_3_4, bd46_0_1_2_3_4p, bd46_0_3_4, bd46_0_3_4p, bd86_0_1_2, bd86_0_1_2p, bd87_0_1_2_3, bd87_0_1_2_3p, bd95_0_1, bd95_0_1p, bs22_2_0_1, bs47_1_0, bs22_1_0, bs57_6_0_1_2_3_4_5, bs24_1_0, bs22_4_0_1_2_3, bs56_11_0_1_2_3_4_5_6_7_8_9_10, bs57_11_0_1_2_3_4_5_6_7_8_9_10, eq4, eq4p, eq28, eq28p, eq30, eq30p, eq31n, eq31np, eq31s, eq31sp, eq46, eq46p, eq50n, eq50np, eq50s, eq50sp, eq67n, eq67np, eq67s, eq67sp, ne4, ne4p, ne28, ne28p, ne30, ne30p, ne31n, ne31np, ne31s, ne31sp, ne46, ne46p, al76, cmB]
  have gsB := gs4.up (l46.trans (sB.in 3 rfl)) dB
  have mb1 := runM_mb (n := 1) (d := dd) (p := stepQ p dd i) ⟨by decide, by decide⟩ (step_pb pb)
  refine (legal_spec (m := runM (stepQ p dd i) dd 1) gsB st mb1).mono ?_
  rintro _ hB ⟨rfl, rfl⟩
  rw [legal_eq hm mb1.2]
  cases hl1 : legalR C (runM (stepQ p dd i) dd 1) with
  | false =>
    try simp -implicitDefEqProofs (maxSteps := 2000000) (disch := first | with_reducible exact Nat.ne_of_beq_eq_false rfl | exact oneCell_int | exact oneCell_bool | omega | rfl | (simp; done) | fail) only [un_not, Bool.not_false, HL.cond_true]
    refine k3 false i _ _ (by simp -implicitDefEqProofs (maxSteps := 2000000) (disch := first | with_reducible exact Nat.ne_of_beq_eq_false rfl | exact oneCell_int | exact oneCell_bool | omega | rfl | (simp; done) | fail) only [upd_ne, q2]) (by simp -implicitDefEqProofs (maxSteps := 2000000) (disch := first | with_reducible exact Nat.ne_of_beq_eq_false rfl | exact oneCell_int | exact oneCell_bool | omega | rfl | (simp; done) | fail) only [upd_ne, q3]) (by simp -implicitDefEqProofs (maxSteps := 2000000) (disch := first | with_reducible exact Nat.ne_of_beq_eq_false rfl | exact oneCell_int | exact oneCell_bool | omega | rfl | (simp; done) | fail) only [upd_ne, q9]) (by simp -implicitDefEqProofs (maxSteps := 2000000) (disch := first | with_reducible exact Nat.ne_of_beq_eq_false rfl | exact oneCell_int | exact oneCell_bool | omega | rfl | (simp; done) | fail) only [upd_ne, q11]) (by simp -implicitDefEqProofs (maxSteps := 2000000) (disch := first | with_reducible exact Nat.ne_of_beq_eq_false rfl | exact oneCell_int | exact oneCell_bool | omega | rfl | (simp; done) | fail) only [upd_ne, q13]) (by simp -implicitDefEqProofs (maxSteps := 2000000) (disch := first | with_reducible exact Nat.ne_of_beq_eq_false rfl | exact oneCell_int | exact oneCell_bool | omega | rfl | (simp; done) | fail) only [upd_eq]) (by simp -implicitDefEqProofs (maxSteps := 2000000) (disch := first | with_reducible exact Nat.ne_of_beq_eq_false rfl | exact oneCell_int | exact oneCell_bool | omega | rfl | (simp; done) | fail) only [upd_ne, q15]) (by simp -implicitDefEqProofs (maxSteps := 2000000) (disch := first | with_reducible exact Nat.ne_of_beq_eq_false rfl | exact oneCell_int | exact oneCell_bool | omega | rfl | (simp; done) | fail) only [upd_ne, q16]) sB.drop dB ?_ (fun h => by cases h)
    cases hw1 : legalR C (runM p dd nn) with
    | false => rfl
    | true =>
      have hf := (run_legal hnn16 hdd pb).1 hw1
      rw [one_legal hdd pb, hf i hi, hf (i + 1) hlt'] at hl1
      exact hl1
  | true =>
  try simp -implicitDefEqProofs (maxSteps := 2000000) (disch := first | with_reducible exact Nat.ne_of_beq_eq_false rfl | exact oneCell_int | exact oneCell_bool | omega | rfl | (simp; done) | fail) only [un_not, Bool.not_true, HL.cond_false]
  unfold S13_l14_k17
  try simp -implicitDefEqProofs (maxSteps := 2000000) (disch := first | with_reducible exact Nat.ne_of_beq_eq_false rfl | exact oneCell_int | exact oneCell_bool | omega | rfl | (simp; done) | fail) only [upd_ne, upd_eq, q9, cf47, opH_sv, ld46, add_mk, Nat.add_zero, cmB, List.getElem?_cons_zero, Option.some.injEq, Nat.zero_add, List.getElem?_cons_succ, exists_eq_left']
  refine (swept_spec (m := runM (stepQ p dd i) dd 1) gsB st mb1).mono ?_
  rintro u5 h5 ⟨i5, o5, s5, d5⟩
  rw [swept_eq hm mb1.2] at o5
  have s5 : HL.Sep [noHp.set a (arrO (wC C) (stepsL C p dd i)), i5, noHp.set z1 (poseO (shiftR (stepQ p dd i) dd 1)), noHp.set q (poseO (stepQ p dd i)), h6] h5 := (s5.split sB).sel [3, 0, 1, 2, 4] (by decide) rfl
  obtain ⟨sa, cap, rfl, _⟩ := o5.len (by decide)
  have hL256 : (rsweptM C (runM (stepQ p dd i) dd 1)).length ≤ 256 := swept_le w16 k16
  have hin : ∀ c ∈ rsweptM C (runM (stepQ p dd i) dd 1), 0 ≤ c.1 ∧ c.1 < wC C ∧ 0 ≤ c.2 ∧ c.2 < kC C := fun c hc => rswept_in hc
  have hsucc := stepsL_succ (C := C) (p := p) (d := dd) (i := i)
  generalize rsweptM C (runM (stepQ p dd i) dd 1) = L at o5 hL256 hin hsucc ⊢
  try simp -implicitDefEqProofs (maxSteps := 2000000) (disch := first | with_reducible exact Nat.ne_of_beq_eq_false rfl | exact oneCell_int | exact oneCell_bool | omega | rfl | (simp; done) | fail) only [opH_sv, opH_su, pureW_sv, opH_nil, pureW_nil, pick_t, pick_f, pick_tp, pick_fp, gd_tt, gd_ft, gd_tf, gd_ff, box_new, regs0, regs1, regs2, regs3, regs4, regs5, regs6, cells_agg, cells_int, cells_bool, cells_ptr, cells_slice, cells_string, cells_func, cells_nilFunc, cells_map, retK_ret, retK_normal, resL_tmp, resL_cell, resL_nil0, resL_nil1, resL_nil2, resL_nil3, resC_ptr, ex0, ex1, ex2, ex0p, ex1p, ex2p, HL.cond_true, HL.cond_false, thenK_normal, thenK_ret, thenK_exit, blockK_normal, blockK_ret, blockK_exit, scopeK_normal, scopeK_ret, scopeK_exit, wpH_pure, bin_add, bin_sub, bin_mul, bin_lss, bin_leq, bin_gtr, bin_geq, bin_quo, bin_rem, bin_quop, bin_remp, wrap_in, bin_addp, bin_subp, bin_mulp, bin_lssp, bin_leqp, bin_gtrp, bin_geqp, un_not, un_notp, un_neg, eq_int, ne_int, eq_intp, ne_intp, callV_fn, add_mk, upd_eq, upd_ne, cell_set_self, Nat.zero_add, Nat.add_zero, Option.some.injEq, exists_eq_left', List.getElem?_cons_succ, List.getElem?_cons_zero, true_and, and_true, bne_self_eq_false, beq_self_eq_true, Bool.not_true, Bool.not_false, Bool.and_true, Bool.and_self, Bool.and_false, Bool.true_and, List.length_cons, List.length_nil, ne_eq, not_false_eq_true, Nat.reduceAdd, Nat.reduceMul, if_true, if_false, oneCell_int, oneCell_bool, oneCell_ptr, oneCell_slice, oneCell_string, oneCell_func, oneCell_map, Int.toNat_natCast, List.set_cons_zero, List.set_cons_succ, Nat.lt_irrefl, Nat.zero_lt_succ, Nat.succ_lt_succ_iff, fa26_0, fa26_0p, fa26_1, fa26_1p, fa26_10, fa26_10p, fa26_11, fa26_11p, fa26_12, fa26_12p, fa26_13, fa26_13p, fa26_14, fa26_14p, fa26_2, fa26_2p, fa26_3, fa26_3p, fa26_4, fa26_4p, fa26_5, fa26_5p, fa26_6, fa26_6p, fa26_7, fa26_7p, fa26_8, fa26_8p, fa26_9, fa26_9p, fa28_0, fa28_0p, fa28_1, fa28_1p, fa30_0, fa30_0p, fa30_1, fa30_1p, fa46_0, fa46_0p, fa46_1, fa46_1p, fa46_2, fa46_2p, fa46_3, fa46_3p, fa46_4, fa46_4p, fa46_5, fa46_5p, fa46_6, fa46_6p, fa86_0, fa86_0p, fa86_1, fa86_1p, fa86_2, fa86_2p, fa95_0, fa95_0p, fa95_1, fa95_1p, ld3, ld3p, ld4, ld4p, ld22, ld22p, ld23, ld23p, ld24, ld24p, ld26, ld26p, ld28, ld28p, ld30, ld30p, ld31, ld31p, ld46, ld46p, ld47, ld47p, ld52, ld52p, ld55, ld55p, ld57, ld57p, ld95, ld95p, st3s, st4s, st22s, st23s, st24s, st26w, st28w, st30w, st46w, st47s, st55s, st95w, ix22, ix22p, ix23, ix23p, ix24, ix24p, ix47, ix47p, ix56, ix56p, ix57, ix57p, ix101, ix101p, ln22, ln22p, ln23, ln23p, ln24, ln24p, ln47, ln47p, ln56, ln56p, ln57, ln57p, al22, al26, al28, al30, al46, al47, al95, cf14, cf15, cf16, cf17, cf18, cf19, cf20, cf21, cf22, cf23, cf24, cf25, cf26, cf27, cf28, cf29, cf30, cf31, cf32, cf33, cf34, cf35, cf36, cf37, cf38, cf39, cf40, cf41, cf42, cf43, cf44, cf45, cf46, cf47, cf48, cf49, cf50, cf51, cf52, cf53, cf54, cf55, cf56, cf57, cf58, cf59, cf60, cf61, cf62, cf63, cf64, cf65, cf66, cf67, cf68, cf69, cf70, cf71, cf72, cf73, cf74, cf75, cf76, cf77, cf78, cf79, cf80, bd26_0_1_2_7_8_9_10_11_12_13_14, bd26_0_1_2_7_8_9_10_11_12_13_14p, bd28_0, bd28_0p, bd28_0_1, bd28_0_1p, bd30_, bd30_p, bd30_0_1, bd30_0_1p, bd30_0, bd30_0p, bd46_0_1_2_3_4, bd46_0_1_2_3_4p, bd46_0_3_4, bd46_0_3_4p, bd86_0_1_2, bd86_0_1_2p, bd87_0_1_2_3, bd87_0_1_2_3p, bd95_0_1, bd95_0_1p, bs22_2_0_1, bs47_1_0, bs22_1_0, bs57_6_0_1_2_3_4_5, bs24_1_0, bs22_4_0_1_2_3, bs56_11_0_1_2_3_4_5_6_7_8_9_10, bs57_11_0_1_2_3_4_5_6_7_8_9_10, eq4, eq4p, eq28, eq28p, eq30, eq30p, eq31n, eq31np, eq31s, eq31sp, eq46, eq46p, eq50n, eq50np, eq50s, eq50sp, eq67n, eq67np, eq67s, eq67sp, ne4, ne4p, ne28, ne28p, ne30, ne30p, ne31n, ne31np, ne31s, ne31sp, ne46, ne46p, al76]
  refine loop_I (fun mm r h => ∃ k : Nat, mm = L.length - k ∧ k ≤ L.length ∧ r 2 = .int .i64 dd ∧ r 3 = .int .i64 nn ∧ r 9 = .pointer (some ⟨gp, 0, none⟩) ∧ r 11 = .pointer (some ⟨z, 0, none⟩) ∧ r 13 = .pointer (some ⟨w, 0, none⟩) ∧ r 14 = .bool true ∧ r 15 = .pointer (some ⟨a, 0, none⟩) ∧ r 16 = .pointer (some ⟨q, 0, none⟩) ∧ r 17 = .int .i64 i ∧ r 18 = .pointer (some ⟨z1, 0, none⟩) ∧ r 21 = .slice sa L.length cap ∧ r 22 = .int .i64 k ∧
      HL.Sep [noHp.set a (arrO (wC C) (stepsL C p dd i ++ L.take k)), i5, noHp.set z1 (poseO (shiftR (stepQ p dd i) dd 1)), noHp.set q (poseO (stepQ p dd i)), h6] h ∧ Dis G h) ?_
    (m := L.length) ⟨0, rfl, Nat.zero_le _, by simp -implicitDefEqProofs (maxSteps := 2000000) (disch := first | with_reducible exact Nat.ne_of_beq_eq_false rfl | exact oneCell_int | exact oneCell_bool | omega | rfl | (simp; done) | fail) only [upd_ne, q2], by simp -implicitDefEqProofs (maxSteps := 2000000) (disch := first | with_reducible exact Nat.ne_of_beq_eq_false rfl | exact oneCell_int | exact oneCell_bool | omega | rfl | (simp; done) | fail) only [upd_ne, q3], by simp -implicitDefEqProofs (maxSteps := 2000000) (disch := first | with_reducible exact Nat.ne_of_beq_eq_false rfl | exact oneCell_int | exact oneCell_bool | omega | rfl | (simp; done) | fail) only [upd_ne, q9], by simp -implicitDefEqProofs (maxSteps := 2000000) (disch := first | with_reducible exact Nat.ne_of_beq_eq_false rfl | exact oneCell_int | exact oneCell_bool | omega | rfl | (simp; done) | fail) only [upd_ne, q11], by simp -implicitDefEqProofs (maxSteps := 2000000) (disch := first | with_reducible exact Nat.ne_of_beq_eq_false rfl | exact oneCell_int | exact oneCell_bool | omega | rfl | (simp; done) | fail) only [upd_ne, q13], by simp -implicitDefEqProofs (maxSteps := 2000000) (disch := first | with_reducible exact Nat.ne_of_beq_eq_false rfl | exact oneCell_int | exact oneCell_bool | omega | rfl | (simp; done) | fail) only [upd_ne, q14], by simp -implicitDefEqProofs (maxSteps := 2000000) (disch := first | with_reducible exact Nat.ne_of_beq_eq_false rfl | exact oneCell_int | exact oneCell_bool | omega | rfl | (simp; done) | fail) only [upd_ne, q15], by simp -implicitDefEqProofs (maxSteps := 2000000) (disch := first | with_reducible exact Nat.ne_of_beq_eq_false rfl | exact oneCell_int | exact oneCell_bool | omega | rfl | (simp; done) | fail) only [upd_ne, q16], by simp -implicitDefEqProofs (maxSteps := 2000000) (disch := first | with_reducible exact Nat.ne_of_beq_eq_false rfl | exact oneCell_int | exact oneCell_bool | omega | rfl | (simp; done) | fail) only [upd_ne, q17], by simp -implicitDefEqProofs (maxSteps := 2000000) (disch := first | with_reducible exact Nat.ne_of_beq_eq_false rfl | exact oneCell_int | exact oneCell_bool | omega | rfl | (simp; done) | fail) only [upd_ne, upd_eq], by simp -implicitDefEqProofs (maxSteps := 2000000) (disch := first | with_reducible exact Nat.ne_of_beq_eq_false rfl | exact oneCell_int | exact oneCell_bool | omega | rfl | (simp; done) | fail) only [upd_ne, upd_eq], by simp -implicitDefEqProofs (maxSteps := 2000000) (disch := first | with_reducible exact Nat.ne_of_beq_eq_false rfl | exact oneCell_int | exact oneCell_bool | omega | rfl | (simp; done) | fail) only [upd_eq] <;> rfl, by rw [List.take_zero, List.append_nil]; exact s5, d5⟩
  clear s5 d5
  rintro mm r h ⟨k, rfl, hk, q2, q3, q9, q11, q13, q14, q15, q16, q17, q18, q21, q22, sh, dh⟩ Y HY
  unfold S13_l14_l19
  simp -implicitDefEqProofs (maxSteps := 2000000) (disch := first | with_reducible exact Nat.ne_of_beq_eq_false rfl | exact oneCell_int | exact oneCell_bool | omega | rfl | (simp; done) | fail) only [q21, q22, thenK_exit, blockK_exit, thenK_normal, if_true, opH_sv, ln22, bin_lss]
  refine cond_dec (fun hlt2 => ?_) (fun hge => ?_)
  · have hk' : k < L.length := by omega
    obtain ⟨c, hc⟩ : ∃ c, L[k]? = some c := ⟨_, List.getElem?_eq_getElem hk'⟩
    have hci := hin c (List.mem_of_getElem? hc)
    obtain ⟨b, o, cc, e1, e2⟩ := (o5.sees (G := G) (by decide) (sh.in 1 rfl)).get hc
    simp only [Value.slice.injEq] at e1
    obtain ⟨rfl, -, -⟩ := e1
    have x0 := e2 0 (by decide)
    have x1 := e2 1 (by decide)
    simp only [cellC, Nat.add_zero, List.getElem?_cons_zero, List.getElem?_cons_succ] at x0 x1
    have gsh := gs4.up (l46.trans (sh.in 4 rfl)) dh
    unfold S13_l14_l19_k20
    try simp -implicitDefEqProofs (maxSteps := 2000000) (disch := first | with_reducible exact Nat.ne_of_beq_eq_false rfl | exact oneCell_int | exact oneCell_bool | omega | rfl | (simp; done) | fail) only [upd_ne, q21, q22, q9, q15, opH_su, opH_sv, cf37, ix22 (Int.natCast_nonneg k) hlt2, Int.toNat_natCast, add_mk, ld28, Nat.add_zero, x0, Option.some.injEq, x1, exists_eq_left']
    refine (num_spec (c := c) gsh).mono ?_
    rintro _ h ⟨rfl, rfl⟩
    rw [num_in hci]
    obtain ⟨n0, n1⟩ := num_256 hci w16 k16
    obtain ⟨nm, hnm⟩ : ∃ nm : Nat, (nm : Int) = numW (wC C) c := ⟨_, Int.toNat_of_nonneg n0⟩
    rw [← hnm]
    try simp -implicitDefEqProofs (maxSteps := 2000000) (disch := first | with_reducible exact Nat.ne_of_beq_eq_false rfl | exact oneCell_int | exact oneCell_bool | omega | rfl | (simp; done) | fail) only [ia76 (Int.natCast_nonneg nm) (by omega : (nm : Int) < (256 : Nat)), Int.toNat_natCast, Nat.mul_one, add_mk, Nat.zero_add]
    have hba := sh.at 0 rfl set_self
    try simp -implicitDefEqProofs (maxSteps := 2000000) (disch := first | with_reducible exact Nat.ne_of_beq_eq_false rfl | exact oneCell_int | exact oneCell_bool | omega | rfl | (simp; done) | fail) only [store_mark hba hnm (by omega)]
    have sC := sh.put (o := arrO (wC C) (stepsL C p dd i ++ L.take k ++ [c])) set_self
    rw [set_set, List.append_assoc, ← take_cat hc] at sC
    have dC := dh.set (o := arrO (wC C) (stepsL C p dd i ++ L.take k ++ [c])) (dh _ _ hba)
    rw [List.append_assoc, ← take_cat hc] at dC
    rw [List.append_assoc, ← take_cat hc]
    generalize Hp.set h a _ = hC at sC dC ⊢
    unfold S13_l14_l19_k21
    try simp -implicitDefEqProofs (maxSteps := 2000000) (disch := first | with_reducible exact Nat.ne_of_beq_eq_false rfl | exact oneCell_int | exact oneCell_bool | omega | rfl | (simp; done) | fail) only [upd_ne, q22, thenK_normal, opH_sv, bin_add, wrap_in]
    exact HY (L.length - (k + 1)) _ _ (by omega) ⟨k + 1, rfl, hk', by simp -implicitDefEqProofs (maxSteps := 2000000) (disch := first | with_reducible exact Nat.ne_of_beq_eq_false rfl | exact oneCell_int | exact oneCell_bool | omega | rfl | (simp; done) | fail) only [upd_ne, q2], by simp -implicitDefEqProofs (maxSteps := 2000000) (disch := first | with_reducible exact Nat.ne_of_beq_eq_false rfl | exact oneCell_int | exact oneCell_bool | omega | rfl | (simp; done) | fail) only [upd_ne, q3], by simp -implicitDefEqProofs (maxSteps := 2000000) (disch := first | with_reducible exact Nat.ne_of_beq_eq_false rfl | exact oneCell_int | exact oneCell_bool | omega | rfl | (simp; done) | fail) only [upd_ne, q9], by simp -implicitDefEqProofs (maxSteps := 2000000) (disch := first | with_reducible exact Nat.ne_of_beq_eq_false rfl | exact oneCell_int | exact oneCell_bool | omega | rfl | (simp; done) | fail) only [upd_ne, q11], by simp -implicitDefEqProofs (maxSteps := 2000000) (disch := first | with_reducible exact Nat.ne_of_beq_eq_false rfl | exact oneCell_int | exact oneCell_bool | omega | rfl | (simp; done) | fail) only [upd_ne, q13], by simp -implicitDefEqProofs (maxSteps := 2000000) (disch := first | with_reducible exact Nat.ne_of_beq_eq_false rfl | exact oneCell_int | exact oneCell_bool | omega | rfl | (simp; done) | fail) only [upd_ne, q14], by simp -implicitDefEqProofs (maxSteps := 2000000) (disch := first | with_reducible exact Nat.ne_of_beq_eq_false rfl | exact oneCell_int | exact oneCell_bool | omega | rfl | (simp; done) | fail) only [upd_ne, q15], by simp -implicitDefEqProofs (maxSteps := 2000000) (disch := first | with_reducible exact Nat.ne_of_beq_eq_false rfl | exact oneCell_int | exact oneCell_bool | omega | rfl | (simp; done) | fail) only [upd_ne, q16], by simp -implicitDefEqProofs (maxSteps := 2000000) (disch := first | with_reducible exact Nat.ne_of_beq_eq_false rfl | exact oneCell_int | exact oneCell_bool | omega | rfl | (simp; done) | fail) only [upd_ne, q17], by simp -implicitDefEqProofs (maxSteps := 2000000) (disch := first | with_reducible exact Nat.ne_of_beq_eq_false rfl | exact oneCell_int | exact oneCell_bool | omega | rfl | (simp; done) | fail) only [upd_ne, q18], by simp -implicitDefEqProofs (maxSteps := 2000000) (disch := first | with_reducible exact Nat.ne_of_beq_eq_false rfl | exact oneCell_int | exact oneCell_bool | omega | rfl | (simp; done) | fail) only [upd_ne, q21], by simp -implicitDefEqProofs (maxSteps := 2000000) (disch := first | with_reducible exact Nat.ne_of_beq_eq_false rfl | exact oneCell_int | exact oneCell_bool | omega | rfl | (simp; done) | fail) only [upd_eq] <;> rfl, sC, dC⟩
  obtain rfl : k = L.length := by omega
  rw [List.take_of_length_le (Nat.le_refl _), ← hsucc] at sh
  clear HY
  try simp -implicitDefEqProofs (maxSteps := 2000000) (disch := first | with_reducible exact Nat.ne_of_beq_eq_false rfl | exact oneCell_int | exact oneCell_bool | omega | rfl | (simp; done) | fail) only [opH_sv, opH_su, pureW_sv, opH_nil, pureW_nil, pick_t, pick_f, pick_tp, pick_fp, gd_tt, gd_ft, gd_tf, gd_ff, box_new, regs0, regs1, regs2, regs3, regs4, regs5, regs6, cells_agg, cells_int, cells_bool, cells_ptr, cells_slice, cells_string, cells_func, cells_nilFunc, cells_map, retK_ret, retK_normal, resL_tmp, resL_cell, resL_nil0, resL_nil1, resL_nil2, resL_nil3, resC_ptr, ex0, ex1, ex2, ex0p, ex1p, ex2p, HL.cond_true, HL.cond_false, thenK_normal, thenK_ret, thenK_exit, blockK_normal, blockK_ret, blockK_exit, scopeK_normal, scopeK_ret, scopeK_exit, wpH_pure, bin_add, bin_sub, bin_mul, bin_lss, bin_leq, bin_gtr, bin_geq, bin_quo, bin_rem, bin_quop, bin_remp, wrap_in, bin_addp, bin_subp, bin_mulp, bin_lssp, bin_leqp, bin_gtrp, bin_geqp, un_not, un_notp, un_neg, eq_int, ne_int, eq_intp, ne_intp, callV_fn, add_mk, upd_eq, upd_ne, cell_set_self, Nat.zero_add, Nat.add_zero, Option.some.injEq, exists_eq_left', List.getElem?_cons_succ, List.getElem?_cons_zero, true_and, and_true, bne_self_eq_false, beq_self_eq_true, Bool.not_true, Bool.not_false, Bool.and_true, Bool.and_self, Bool.and_false, Bool.true_and, List.length_cons, List.length_nil, ne_eq, not_false_eq_true, Nat.reduceAdd, Nat.reduceMul, if_true, if_false, oneCell_int, oneCell_bool, oneCell_ptr, oneCell_slice, oneCell_string, oneCell_func, oneCell_map, Int.toNat_natCast, List.set_cons_zero, List.set_cons_succ, Nat.lt_irrefl, Nat.zero_lt_succ, Nat.succ_lt_succ_iff, fa26_0, fa26_0p, fa26_1, fa26_1p, fa26_10, fa26_10p, fa26_11, fa26_11p, fa26_12, fa26_12p, fa26_13, fa26_13p, fa26_14, fa26_14p, fa26_2, fa26_2p, fa26_3, fa26_3p, fa26_4, fa26_4p, fa26_5, fa26_5p, fa26_6, fa26_6p, fa26_7, fa26_7p, fa26_8, fa26_8p, fa26_9, fa26_9p, fa28_0, fa28_0p, fa28_1, fa28_1p, fa30_0, fa30_0p, fa30_1, fa30_1p, fa46_0, fa46_0p, fa46_1, fa46_1p, fa46_2, fa46_2p, fa46_3, fa46_3p, fa46_4, fa46_4p, fa46_5, fa46_5p, fa46_6, fa46_6p, fa86_0, fa86_0p, fa86_1, fa86_1p, fa86_2, fa86_2p, fa95_0, fa95_0p, fa95_1, fa95_1p, ld3, ld3p, ld4, ld4p, ld22, ld22p, ld23, ld23p, ld24, ld24p, ld26, ld26p, ld28, ld28p, ld30, ld30p, ld31, ld31p, ld46, ld46p, ld47, ld47p, ld52, ld52p, ld55, ld55p, ld57, ld57p, ld95, ld95p, st3s, st4s, st22s, st23s, st24s, st26w, st28w, st30w, st46w, st47s, st55s, st95w, ix22, ix22p, ix23, ix23p, ix24, ix24p, ix47, ix47p, ix56, ix56p, ix57, ix57p, ix101, ix101p, ln22, ln22p, ln23, ln23p, ln24, ln24p, ln47, ln47p, ln56, ln56p, ln57, ln57p, al22, al26, al28, al30, al46, al47, al95, cf14, cf15, cf16, cf17, cf18, cf19, cf20, cf21, cf22, cf23, cf24, cf25, cf26, cf27, cf28, cf29, cf30, cf31, cf32, cf33, cf34, cf35, cf36, cf37, cf38, cf39, cf40, cf41, cf42, cf43, cf44, cf45, cf46, cf47, cf48, cf49, cf50, cf51, cf52, cf53, cf54, cf55, cf56, cf57, cf58, cf59, cf60, cf61, cf62, cf63, cf64, cf65, cf66, cf67, cf68, cf69, cf70, cf71, cf72, cf73, cf74, cf75, cf76, cf77, cf78, cf79, cf80, bd26_0_1_2_7_8_9_10_11_12_13_14, bd26_0_1_2_7_8_9_10_11_12_13_14p, bd28_0, bd28_0p, bd28_0_1, bd28_0_1p, bd30_, bd30_p, bd30_0_1, bd30_0_1p, bd30_0, bd30_0p, bd46_0_1_2_3_4, bd46_0_1_2_3_4p, bd46_0_3_4, bd46_0_3_4p, bd86_0_1_2, bd86_0_1_2p, bd87_0_1_2_3, bd87_0_1_2_3p, bd95_0_1, bd95_0_1p, bs22_2_0_1, bs47_1_0, bs22_1_0, bs57_6_0_1_2_3_4_5, bs24_1_0, bs22_4_0_1_2_3, bs56_11_0_1_2_3_4_5_6_7_8_9_10, bs57_11_0_1_2_3_4_5_6_7_8_9_10, eq4, eq4p, eq28, eq28p, eq30, eq30p, eq31n, eq31np, eq31s, eq31sp, eq46, eq46p, eq50n, eq50np, eq50s, eq50sp, eq67n, eq67np, eq67s, eq67sp, ne4, ne4p, ne28, ne28p, ne30, ne30p, ne31n, ne31np, ne31s, ne31sp, ne46, ne46p, al76]
  unfold S13_l14_k18
  have cz1 : ∀ j, cellIn G h ⟨z1, j, none⟩ = _ := fun j => cell_of (look_own (sh.at 2 rfl set_self))
  have hqh := sh.at 3 rfl set_self
  try simp -implicitDefEqProofs (maxSteps := 2000000) (disch := first | with_reducible exact Nat.ne_of_beq_eq_false rfl | exact oneCell_int | exact oneCell_bool | omega | rfl | (simp; done) | fail) only [upd_ne, q18, q16, opH_su, opH_sv, ld30, add_mk, Nat.add_zero, cz1, List.getElem?_cons_zero, Option.some.injEq, Nat.zero_add, List.getElem?_cons_succ, exists_eq_left', store_pose hqh]
  rw [show (⟨(shiftR (stepQ p dd i) dd 1).x, (shiftR (stepQ p dd i) dd 1).y, (shiftR (stepQ p dd i) dd 1).d⟩ : Pose) = stepQ p dd (i + 1) from step_succ]
  have sD := (sh.sel [3, 0, 4] (by decide) rfl).put (o := poseO (stepQ p dd (i + 1))) set_self
  rw [set_set] at sD
  have dD := dh.set (o := poseO (stepQ p dd (i + 1))) (dh _ _ hqh)
  generalize Hp.set h q _ = hD at sD dD ⊢
  unfold S13_l14_k16
  try simp -implicitDefEqProofs (maxSteps := 2000000) (disch := first | with_reducible exact Nat.ne_of_beq_eq_false rfl | exact oneCell_int | exact oneCell_bool | omega | rfl | (simp; done) | fail) only [upd_ne, q17, thenK_normal, opH_sv, bin_add, wrap_in]
  exact HX (nn.toNat - (i + 1)) _ _ (by omega) ⟨i + 1, rfl, hlt', by simp -implicitDefEqProofs (maxSteps := 2000000) (disch := first | with_reducible exact Nat.ne_of_beq_eq_false rfl | exact oneCell_int | exact oneCell_bool | omega | rfl | (simp; done) | fail) only [upd_ne, q2], by simp -implicitDefEqProofs (maxSteps := 2000000) (disch := first | with_reducible exact Nat.ne_of_beq_eq_false rfl | exact oneCell_int | exact oneCell_bool | omega | rfl | (simp; done) | fail) only [upd_ne, q3], by simp -implicitDefEqProofs (maxSteps := 2000000) (disch := first | with_reducible exact Nat.ne_of_beq_eq_false rfl | exact oneCell_int | exact oneCell_bool | omega | rfl | (simp; done) | fail) only [upd_ne, q9], by simp -implicitDefEqProofs (maxSteps := 2000000) (disch := first | with_reducible exact Nat.ne_of_beq_eq_false rfl | exact oneCell_int | exact oneCell_bool | omega | rfl | (simp; done) | fail) only [upd_ne, q11], by simp -implicitDefEqProofs (maxSteps := 2000000) (disch := first | with_reducible exact Nat.ne_of_beq_eq_false rfl | exact oneCell_int | exact oneCell_bool | omega | rfl | (simp; done) | fail) only [upd_ne, q13], by simp -implicitDefEqProofs (maxSteps := 2000000) (disch := first | with_reducible exact Nat.ne_of_beq_eq_false rfl | exact oneCell_int | exact oneCell_bool | omega | rfl | (simp; done) | fail) only [upd_ne, q14], by simp -implicitDefEqProofs (maxSteps := 2000000) (disch := first | with_reducible exact Nat.ne_of_beq_eq_false rfl | exact oneCell_int | exact oneCell_bool | omega | rfl | (simp; done) | fail) only [upd_ne, q15], by simp -implicitDefEqProofs (maxSteps := 2000000) (disch := first | with_reducible exact Nat.ne_of_beq_eq_false rfl | exact oneCell_int | exact oneCell_bool | omega | rfl | (simp; done) | fail) only [upd_ne, q16], by simp -implicitDefEqProofs (maxSteps := 2000000) (disch := first | with_reducible exact Nat.ne_of_beq_eq_false rfl | exact oneCell_int | exact oneCell_bool | omega | rfl | (simp; done) | fail) only [upd_eq] <;> rfl, sD, dD, fun j hj => by
    by_cases e : j = i
    · rw [e]; exact hl1
    · exact hleg j (by omega)⟩

end Go.Proofs.YtnpdploihlgcgaaDoor
end

section
/- A config that comes in as an argument. -/
set_option linter.unusedSimpArgs false
set_option linter.unusedVariables false
set_option maxRecDepth 100000
namespace Go.Proofs.YtnpdploihlgcgaaDoor
open Go Go.HL Go.ChangeShapes Go.WideShapes Go.RowKit

theorem light_of {H : Type} {P : Program} {ts : List TypeId} {ds : List (DataW H)} (h : (DataW.weightsEach P ts ds).all (· ≤ reachBytes) = true) {j : Nat} {t : TypeId} {d : DataW H} (ht : ts[j]? = some t) (hd : ds[j]? = some d) : Light P t d := fun n hn => by
  simpa using List.all_eq_true.1 h n (DataW.weights_mem_each ht hd n hn)

theorem okWide_structF {P : Program} {w : World} {r : Reach} {base : Nat} {t : TypeId} {v : Value} {tos : List (TypeId × Nat)} (ht : structFields P t = some tos) (hv : Value.okWide P w r base t v) : ∃ cs : Array Value, v = .agg cs := by
  unfold structFields at ht
  split at ht
  · rename_i fs hfs
    obtain ⟨cs, rfl, _⟩ := okWide_struct hfs hv
    exact ⟨cs, rfl⟩
  · cases ht

theorem sf30 : structFields Tryd.prog 30 = some [(28, 0), (4, 2)] := by kernel_rfl
theorem sf95 : structFields Tryd.prog 95 = some [(28, 0), (57, 2)] := by kernel_rfl
theorem sf26 : structFields Tryd.prog 26 = some [(3, 0), (3, 1), (3, 2), (22, 3), (22, 4), (23, 5), (24, 6), (3, 7), (3, 8), (3, 9), (3, 10), (3, 11), (3, 12), (3, 13), (3, 14), (4, 15)] := by kernel_rfl
theorem un4b : Tryd.prog.underlying 4 = some .bool := by kernel_rfl
theorem c4 : Tryd.prog.cellsOf 4 = 1 := by kernel_rfl
theorem c22 : Tryd.prog.cellsOf 22 = 1 := by kernel_rfl
theorem c23 : Tryd.prog.cellsOf 23 = 1 := by kernel_rfl
theorem c24 : Tryd.prog.cellsOf 24 = 1 := by kernel_rfl
theorem c26 : Tryd.prog.cellsOf 26 = 16 := by kernel_rfl
theorem c30 : Tryd.prog.cellsOf 30 = 3 := by kernel_rfl
theorem c57 : Tryd.prog.cellsOf 57 = 1 := by kernel_rfl
theorem c95 : Tryd.prog.cellsOf 95 = 3 := by kernel_rfl

section
variable {H : Type} {enc : TypeId × Value → H} {w : World} {base : Nat} {spare : Nat → Bool} {held : Bool}

theorem len2 {α : Type} {L : List α} (h : L.length = 2) : ∃ a b, L = [a, b] := by
  match L, h with
  | [a, b], _ => exact ⟨a, b, rfl⟩
theorem len3 {α : Type} {L : List α} (h : L.length = 3) : ∃ a b c, L = [a, b, c] := by
  match L, h with
  | [a, b, c], _ => exact ⟨a, b, c, rfl⟩

theorem cell_dec {m : Nat} {cs : List Value} {y : DataW H × List MemPlace} (h : DataW.trod enc Tryd.prog w base spare held m 28 cs = some y) : ∃ c : Cell, cs = cellC.enc c ∧ Bd c.1 ∧ Bd c.2 := by
  obtain ⟨hl, d⟩ := dec_fields sf28 h
  rw [c28] at hl
  obtain ⟨v0, v1, rfl⟩ := len2 hl
  obtain ⟨m0, z0, e0⟩ := d 0 _ _ rfl
  obtain ⟨m1, z1, e1⟩ := d 1 _ _ rfl
  rw [c3] at e0 e1
  obtain ⟨x0, f0, b0⟩ := dec_int un3i e0
  obtain ⟨x1, f1, b1⟩ := dec_int un3i e1
  simp at f0 f1
  subst f0 f1
  exact ⟨(x0, x1), rfl, b0, b1⟩
theorem pose_dec {m : Nat} {cs : List Value} {y : DataW H × List MemPlace} (h : DataW.trod enc Tryd.prog w base spare held m 30 cs = some y) : ∃ p : Pose, cs = poseC.enc p ∧ PB p := by
  obtain ⟨hl, d⟩ := dec_fields sf30 h
  rw [c30] at hl
  obtain ⟨v0, v1, v2, rfl⟩ := len3 hl
  obtain ⟨m0, z0, e0⟩ := d 0 _ _ rfl
  obtain ⟨m1, z1, e1⟩ := d 1 _ _ rfl
  rw [c28] at e0
  rw [c4] at e1
  obtain ⟨c, f0, b0⟩ := cell_dec e0
  obtain ⟨b, f1⟩ := dec_bool un4b e1
  simp [cellC] at f0 f1
  obtain ⟨rfl, rfl⟩ := f0
  subst f1
  exact ⟨⟨c.1, c.2, b⟩, rfl, b0⟩

/-- A stack among the arguments. -/
def RawOk (G : Hp) (r : Raw) : Prop := ∃ L : List Int, r.n = L.length ∧ Room L.length 8 ∧ ∀ h, Dis G h → Sees icC G h (.slice r.a r.n r.c) L

theorem room_of {n bytes : Nat} (h : n * bytes ≤ reachBytes) (hb : bytes ≤ 40) : Room n bytes := by
  unfold Room
  rw [show reachBytes = 140737488351232 from rfl] at h
  rw [Nat.add_mul, Nat.mul_assoc]
  have : 192 * bytes ≤ 7680 := by omega
  omega

theorem raw_dec {m : Nat} {cs : List Value} {y : DataW H × List MemPlace} (h : DataW.trod enc Tryd.prog w base spare held m 95 cs = some y) (hw : Light Tryd.prog 95 y.1) : ∃ r : Raw, cs = rawC.enc r ∧ RawOk (ground w) r := by
  obtain ⟨hl, d⟩ := dec_fieldsW sf95 h hw
  rw [c95] at hl
  obtain ⟨v0, v1, v2, rfl⟩ := len3 hl
  obtain ⟨m0, z0, e0, _⟩ := d 0 _ _ rfl
  obtain ⟨m1, z1, e1, w1⟩ := d 1 _ _ rfl
  rw [c28] at e0
  rw [c57] at e1
  obtain ⟨c, f0, b0⟩ := cell_dec e0
  obtain ⟨a, n, cap, L, f1, hL, hs, hg, _⟩ := dec_sliceW icC (fun _ => True) un57 c3 (by decide) (fun _ _ _ h _ => let ⟨x, e, _⟩ := dec_int un3i h; ⟨x, e, trivial⟩) e1 w1
  simp [cellC] at f0 f1
  obtain ⟨rfl, rfl⟩ := f0
  subst f1
  rw [show Tryd.prog.bytesOf 3 = 8 by kernel_rfl] at hs
  subst hL
  exact ⟨⟨c.1, c.2, a, L.length, cap⟩, rfl, L, rfl, room_of hs (by decide), hg⟩

theorem len16 {α : Type} {L : List α} (h : L.length = 16) : ∃ a b c d e f g i j k l m n o p q, L = [a, b, c, d, e, f, g, i, j, k, l, m, n, o, p, q] := by
  match L, h with
  | [a, b, c, d, e, f, g, i, j, k, l, m, n, o, p, q], _ => exact ⟨a, b, c, d, e, f, g, i, j, k, l, m, n, o, p, q, rfl⟩

theorem conf_dec {m : Nat} {cs : List Value} {y : DataW H × List MemPlace} (h : DataW.trod enc Tryd.prog w base spare held m 26 cs = some y) (hw : Light Tryd.prog 26 y.1) :
    ∃ C : Conf, (∀ h, Dis (ground w) h → CV (ground w) h (.agg cs.toArray) C) ∧ Fit0 C ∧ ∀ p ∈ C.ro, PB p := by
  obtain ⟨hl, d⟩ := dec_fieldsW sf26 h hw
  rw [c26] at hl
  obtain ⟨v0, v1, v2, v3, v4, v5, v6, v7, v8, v9, v10, v11, v12, v13, v14, v15, rfl⟩ := len16 hl
  obtain ⟨_, _, e0, _⟩ := d 0 _ _ rfl
  obtain ⟨_, _, e1, _⟩ := d 1 _ _ rfl
  obtain ⟨_, _, e2, _⟩ := d 2 _ _ rfl
  obtain ⟨_, _, e3, w3⟩ := d 3 _ _ rfl
  obtain ⟨_, _, e4, w4⟩ := d 4 _ _ rfl
  obtain ⟨_, _, e5, w5⟩ := d 5 _ _ rfl
  obtain ⟨_, _, e6, w6⟩ := d 6 _ _ rfl
  obtain ⟨_, _, e7, _⟩ := d 7 _ _ rfl
  obtain ⟨_, _, e8, _⟩ := d 8 _ _ rfl
  obtain ⟨_, _, e9, _⟩ := d 9 _ _ rfl
  obtain ⟨_, _, e10, _⟩ := d 10 _ _ rfl
  obtain ⟨_, _, e11, _⟩ := d 11 _ _ rfl
  obtain ⟨_, _, e12, _⟩ := d 12 _ _ rfl
  obtain ⟨_, _, e13, _⟩ := d 13 _ _ rfl
  obtain ⟨_, _, e14, _⟩ := d 14 _ _ rfl
  obtain ⟨_, _, e15, _⟩ := d 15 _ _ rfl
  simp only [c3, c4, c22, c23, c24] at e0 e1 e2 e3 e4 e5 e6 e7 e8 e9 e10 e11 e12 e13 e14 e15
  obtain ⟨x0, f0, _⟩ := dec_int un3i e0
  obtain ⟨x1, f1, _⟩ := dec_int un3i e1
  obtain ⟨x2, f2, _⟩ := dec_int un3i e2
  obtain ⟨ab, nb, cb, B, f3, hB, sB, gB, _⟩ := dec_sliceW cellC (fun _ => True) un22 c28 (by decide) (fun _ _ _ h _ => let ⟨x, e, _⟩ := cell_dec h; ⟨x, e, trivial⟩) e3 w3
  obtain ⟨ap, np, cp, PO, f4, hP, sP, gP, _⟩ := dec_sliceW cellC (fun _ => True) un22 c28 (by decide) (fun _ _ _ h _ => let ⟨x, e, _⟩ := cell_dec h; ⟨x, e, trivial⟩) e4 w4
  obtain ⟨ar, nr, cr, R, f5, hR, sR, gR, qR⟩ := dec_sliceW poseC PB un23 c30 (by decide) (fun _ _ _ h _ => pose_dec h) e5 w5
  obtain ⟨az, nz, cz, Z, f6, hZ, sZ, gZ, qZ⟩ := dec_sliceW rawC (RawOk (ground w)) un24 c95 (by decide) (fun _ _ _ h hw => raw_dec h hw) e6 w6
  obtain ⟨x7, f7, _⟩ := dec_int un3i e7
  obtain ⟨x8, f8, _⟩ := dec_int un3i e8
  obtain ⟨x9, f9, _⟩ := dec_int un3i e9
  obtain ⟨x10, f10, _⟩ := dec_int un3i e10
  obtain ⟨x11, f11, _⟩ := dec_int un3i e11
  obtain ⟨x12, f12, _⟩ := dec_int un3i e12
  obtain ⟨x13, f13, _⟩ := dec_int un3i e13
  obtain ⟨x14, f14, _⟩ := dec_int un3i e14
  obtain ⟨x15, f15⟩ := dec_bool un4b e15
  simp at f0 f1 f2 f3 f4 f5 f6 f7 f8 f9 f10 f11 f12 f13 f14 f15
  subst f0 f1 f2 f3 f4 f5 f6 f7 f8 f9 f10 f11 f12 f13 f14 f15
  subst hB hP hR hZ
  rw [show Tryd.prog.bytesOf 28 = 16 by kernel_rfl] at sB sP
  rw [show Tryd.prog.bytesOf 30 = 24 by kernel_rfl] at sR
  rw [show Tryd.prog.bytesOf 95 = 40 by kernel_rfl] at sZ
  obtain ⟨S, hS, qS⟩ := list_of (Q := fun i (s : Cell × List Int) => ∀ r, Z[i]? = some r → (r.x, r.y) = s.1 ∧ r.n = s.2.length ∧ Room s.2.length 8 ∧ ∀ h, Dis (ground w) h → Sees icC (ground w) h (.slice r.a s.2.length r.c) s.2) Z.length (fun i hi => by
    obtain ⟨L, e, rm, se⟩ := qZ _ (List.getElem_mem hi)
    refine ⟨((Z[i].x, Z[i].y), L), fun r hr => ?_⟩
    rw [List.getElem?_eq_getElem hi] at hr
    cases hr
    exact ⟨rfl, e, rm, fun h d => by rw [← e]; exact se h d⟩)
  refine ⟨⟨x0, x1, x2, B, PO, R, S, x7, x8, x9, x10, x11, x12, x13, x14, x15⟩, fun h d => ⟨ab, cb, ap, cp, ar, cr, az, cz, by simp only [confV, hS], gB h d, gP h d, gR h d, Z, by show Sees rawC _ h (.slice az S.length cz) Z; rw [hS]; exact gZ h d, fun i r s hr hs => ?_⟩, ⟨room_of sB (by decide), room_of sP (by decide), room_of sR (by decide), by show Room S.length 40; rw [hS]; exact room_of sZ (by decide), fun s hs => ?_⟩, qR⟩
  · obtain ⟨a, b, c, e⟩ := qS i s hs r hr
    exact ⟨a, b, e h d⟩
  · obtain ⟨i, hi⟩ := List.getElem?_of_mem hs
    have hi2 : i < Z.length := by rw [← hS]; exact (List.getElem?_eq_some_iff.1 hi).1
    exact (qS i s hi _ (List.getElem?_eq_getElem hi2)).2.2.1

theorem pose_arg {r : Reach} {b0 : Nat} {v : Value} {d : DataW H} {ps : List MemPlace} (k : Value.okWide Tryd.prog w r b0 30 v) (h : DataW.Trod enc Tryd.prog w base spare held 30 v d ps) : ∃ p : Pose, v = poseV p ∧ PB p := by
  obtain ⟨cs, rfl⟩ := okWide_structF sf30 k
  obtain ⟨m, h⟩ := h
  obtain ⟨c, e, b⟩ := pose_dec (cs := cs.toList) h
  exact ⟨c, by rw [← Array.toArray_toList (xs := cs), e]; rfl, b⟩
theorem int_arg {r : Reach} {b0 : Nat} {v : Value} {d : DataW H} {ps : List MemPlace} (k : Value.okWide Tryd.prog w r b0 3 v) (h : DataW.Trod enc Tryd.prog w base spare held 3 v d ps) : ∃ n : Int, v = .int .i64 n ∧ Bd n := by
  obtain ⟨n, rfl, rfl, rfl, wf⟩ := open_int un3i k h
  exact ⟨n, rfl, by simpa [Lit.wf, IntKind.min, IntKind.max, IntKind.signed, IntKind.bits, Bd] using wf⟩
/-- The config as an argument. -/
theorem conf_arg {r : Reach} {b0 : Nat} {v : Value} {d : DataW H} {ps : List MemPlace} (k : Value.okWide Tryd.prog w r b0 26 v) (h : DataW.Trod enc Tryd.prog w base spare held 26 v d ps) (hl : Light Tryd.prog 26 d) :
    ∃ C : Conf, (∀ h, Dis (ground w) h → CV (ground w) h v C) ∧ Fit0 C ∧ ∀ p ∈ C.ro, PB p := by
  obtain ⟨cs, rfl⟩ := okWide_structF sf26 k
  obtain ⟨m, h⟩ := h
  obtain ⟨C, hC, f, hp⟩ := conf_dec (cs := cs.toList) h hl
  exact ⟨C, fun h d => by simpa using hC h d, f, hp⟩
end
end Go.Proofs.YtnpdploihlgcgaaDoor
end

section
/- A move that comes in as an argument. -/
set_option linter.unusedSimpArgs false
set_option linter.unusedVariables false
set_option maxRecDepth 100000
namespace Go.Proofs.YtnpdploihlgcgaaDoor
open Go Go.HL Go.ChangeShapes Go.WideShapes Go.RowKit

section
variable {H : Type} {enc : TypeId × Value → H} {w : World} {base : Nat} {spare : Nat → Bool} {held : Bool}

end
end Go.Proofs.YtnpdploihlgcgaaDoor
end
