/- A config that comes in as an argument. -/
import Derived.Test.YtnpdploihlgcgaaDoorGZ
import Derived.Test.YtnpdploihlgcgaaDoorH3
set_option linter.unusedSimpArgs false
set_option linter.unusedVariables false
set_option maxRecDepth 100000
namespace Go.Proofs.YtnpdploihlgcgaaDoor
open Go Go.HL Go.ChangeShapes Go.WideShapes Go.RowKit

theorem light_of {H : Type} {P : Program} {ts : List TypeId} {ds : List (DataW H)} (h : (DataW.weightsEach P ts ds).all (· ≤ reachBytes) = true) {j : Nat} {t : TypeId} {d : DataW H} (ht : ts[j]? = some t) (hd : ds[j]? = some d) : Light P t d := fun n hn => by
  simpa using List.all_eq_true.1 h n (DataW.weights_mem_each ht hd n hn)

theorem okWide_structF {P : Program} {w : World} {r : Reach} {base : Nat} {t : TypeId} {v : Value} {tos : List (TypeId × Nat)} (ht : structFields P t = some tos) (hv : Value.okWide P w r base t v) : ∃ cs : Array Value, v = .agg cs := by
  unfold structFields at ht
  split at ht
  · rename_i fs hfs
    obtain ⟨cs, rfl, _⟩ := okWide_struct hfs hv
    exact ⟨cs, rfl⟩
  · cases ht

theorem sf30 : structFields Tryd.prog 30 = some [(28, 0), (4, 2)] := by kernel_rfl
theorem sf95 : structFields Tryd.prog 95 = some [(28, 0), (57, 2)] := by kernel_rfl
theorem sf26 : structFields Tryd.prog 26 = some [(3, 0), (3, 1), (3, 2), (22, 3), (22, 4), (23, 5), (24, 6), (3, 7), (3, 8), (3, 9), (3, 10), (3, 11), (3, 12), (3, 13), (3, 14), (4, 15)] := by kernel_rfl
theorem un4b : Tryd.prog.underlying 4 = some .bool := by kernel_rfl
theorem c4 : Tryd.prog.cellsOf 4 = 1 := by kernel_rfl
theorem c22 : Tryd.prog.cellsOf 22 = 1 := by kernel_rfl
theorem c23 : Tryd.prog.cellsOf 23 = 1 := by kernel_rfl
theorem c24 : Tryd.prog.cellsOf 24 = 1 := by kernel_rfl
theorem c26 : Tryd.prog.cellsOf 26 = 16 := by kernel_rfl
theorem c30 : Tryd.prog.cellsOf 30 = 3 := by kernel_rfl
theorem c57 : Tryd.prog.cellsOf 57 = 1 := by kernel_rfl
theorem c95 : Tryd.prog.cellsOf 95 = 3 := by kernel_rfl

section
variable {H : Type} {enc : TypeId × Value → H} {w : World} {base : Nat} {spare : Nat → Bool} {held : Bool}

theorem len2 {α : Type} {L : List α} (h : L.length = 2) : ∃ a b, L = [a, b] := by
  match L, h with
  | [a, b], _ => exact ⟨a, b, rfl⟩
theorem len3 {α : Type} {L : List α} (h : L.length = 3) : ∃ a b c, L = [a, b, c] := by
  match L, h with
  | [a, b, c], _ => exact ⟨a, b, c, rfl⟩

theorem cell_dec {m : Nat} {cs : List Value} {y : DataW H × List MemPlace} (h : DataW.trod enc Tryd.prog w base spare held m 28 cs = some y) : ∃ c : Cell, cs = cellC.enc c ∧ Bd c.1 ∧ Bd c.2 := by
  obtain ⟨hl, d⟩ := dec_fields sf28 h
  rw [c28] at hl
  obtain ⟨v0, v1, rfl⟩ := len2 hl
  obtain ⟨m0, z0, e0⟩ := d 0 _ _ rfl
  obtain ⟨m1, z1, e1⟩ := d 1 _ _ rfl
  rw [c3] at e0 e1
  obtain ⟨x0, f0, b0⟩ := dec_int un3i e0
  obtain ⟨x1, f1, b1⟩ := dec_int un3i e1
  simp at f0 f1
  subst f0 f1
  exact ⟨(x0, x1), rfl, b0, b1⟩
theorem pose_dec {m : Nat} {cs : List Value} {y : DataW H × List MemPlace} (h : DataW.trod enc Tryd.prog w base spare held m 30 cs = some y) : ∃ p : Pose, cs = poseC.enc p ∧ PB p := by
  obtain ⟨hl, d⟩ := dec_fields sf30 h
  rw [c30] at hl
  obtain ⟨v0, v1, v2, rfl⟩ := len3 hl
  obtain ⟨m0, z0, e0⟩ := d 0 _ _ rfl
  obtain ⟨m1, z1, e1⟩ := d 1 _ _ rfl
  rw [c28] at e0
  rw [c4] at e1
  obtain ⟨c, f0, b0⟩ := cell_dec e0
  obtain ⟨b, f1⟩ := dec_bool un4b e1
  simp [cellC] at f0 f1
  obtain ⟨rfl, rfl⟩ := f0
  subst f1
  exact ⟨⟨c.1, c.2, b⟩, rfl, b0⟩

/-- A stack among the arguments. -/
def RawOk (G : Hp) (r : Raw) : Prop := ∃ L : List Int, r.n = L.length ∧ Room L.length 8 ∧ ∀ h, Dis G h → Sees icC G h (.slice r.a r.n r.c) L

theorem room_of {n bytes : Nat} (h : n * bytes ≤ reachBytes) (hb : bytes ≤ 40) : Room n bytes := by
  unfold Room
  rw [show reachBytes = 140737488351232 from rfl] at h
  rw [Nat.add_mul, Nat.mul_assoc]
  have : 192 * bytes ≤ 7680 := by omega
  omega

theorem raw_dec {m : Nat} {cs : List Value} {y : DataW H × List MemPlace} (h : DataW.trod enc Tryd.prog w base spare held m 95 cs = some y) (hw : Light Tryd.prog 95 y.1) : ∃ r : Raw, cs = rawC.enc r ∧ RawOk (ground w) r := by
  obtain ⟨hl, d⟩ := dec_fieldsW sf95 h hw
  rw [c95] at hl
  obtain ⟨v0, v1, v2, rfl⟩ := len3 hl
  obtain ⟨m0, z0, e0, _⟩ := d 0 _ _ rfl
  obtain ⟨m1, z1, e1, w1⟩ := d 1 _ _ rfl
  rw [c28] at e0
  rw [c57] at e1
  obtain ⟨c, f0, b0⟩ := cell_dec e0
  obtain ⟨a, n, cap, L, f1, hL, hs, hg, _⟩ := dec_sliceW icC (fun _ => True) un57 c3 (by decide) (fun _ _ _ h _ => let ⟨x, e, _⟩ := dec_int un3i h; ⟨x, e, trivial⟩) e1 w1
  simp [cellC] at f0 f1
  obtain ⟨rfl, rfl⟩ := f0
  subst f1
  rw [show Tryd.prog.bytesOf 3 = 8 by kernel_rfl] at hs
  subst hL
  exact ⟨⟨c.1, c.2, a, L.length, cap⟩, rfl, L, rfl, room_of hs (by decide), hg⟩

theorem len16 {α : Type} {L : List α} (h : L.length = 16) : ∃ a b c d e f g i j k l m n o p q, L = [a, b, c, d, e, f, g, i, j, k, l, m, n, o, p, q] := by
  match L, h with
  | [a, b, c, d, e, f, g, i, j, k, l, m, n, o, p, q], _ => exact ⟨a, b, c, d, e, f, g, i, j, k, l, m, n, o, p, q, rfl⟩

theorem conf_dec {m : Nat} {cs : List Value} {y : DataW H × List MemPlace} (h : DataW.trod enc Tryd.prog w base spare held m 26 cs = some y) (hw : Light Tryd.prog 26 y.1) :
    ∃ C : Conf, (∀ h, Dis (ground w) h → CV (ground w) h (.agg cs.toArray) C) ∧ Fit0 C ∧ ∀ p ∈ C.ro, PB p := by
  obtain ⟨hl, d⟩ := dec_fieldsW sf26 h hw
  rw [c26] at hl
  obtain ⟨v0, v1, v2, v3, v4, v5, v6, v7, v8, v9, v10, v11, v12, v13, v14, v15, rfl⟩ := len16 hl
  obtain ⟨_, _, e0, _⟩ := d 0 _ _ rfl
  obtain ⟨_, _, e1, _⟩ := d 1 _ _ rfl
  obtain ⟨_, _, e2, _⟩ := d 2 _ _ rfl
  obtain ⟨_, _, e3, w3⟩ := d 3 _ _ rfl
  obtain ⟨_, _, e4, w4⟩ := d 4 _ _ rfl
  obtain ⟨_, _, e5, w5⟩ := d 5 _ _ rfl
  obtain ⟨_, _, e6, w6⟩ := d 6 _ _ rfl
  obtain ⟨_, _, e7, _⟩ := d 7 _ _ rfl
  obtain ⟨_, _, e8, _⟩ := d 8 _ _ rfl
  obtain ⟨_, _, e9, _⟩ := d 9 _ _ rfl
  obtain ⟨_, _, e10, _⟩ := d 10 _ _ rfl
  obtain ⟨_, _, e11, _⟩ := d 11 _ _ rfl
  obtain ⟨_, _, e12, _⟩ := d 12 _ _ rfl
  obtain ⟨_, _, e13, _⟩ := d 13 _ _ rfl
  obtain ⟨_, _, e14, _⟩ := d 14 _ _ rfl
  obtain ⟨_, _, e15, _⟩ := d 15 _ _ rfl
  simp only [c3, c4, c22, c23, c24] at e0 e1 e2 e3 e4 e5 e6 e7 e8 e9 e10 e11 e12 e13 e14 e15
  obtain ⟨x0, f0, _⟩ := dec_int un3i e0
  obtain ⟨x1, f1, _⟩ := dec_int un3i e1
  obtain ⟨x2, f2, _⟩ := dec_int un3i e2
  obtain ⟨ab, nb, cb, B, f3, hB, sB, gB, _⟩ := dec_sliceW cellC (fun _ => True) un22 c28 (by decide) (fun _ _ _ h _ => let ⟨x, e, _⟩ := cell_dec h; ⟨x, e, trivial⟩) e3 w3
  obtain ⟨ap, np, cp, PO, f4, hP, sP, gP, _⟩ := dec_sliceW cellC (fun _ => True) un22 c28 (by decide) (fun _ _ _ h _ => let ⟨x, e, _⟩ := cell_dec h; ⟨x, e, trivial⟩) e4 w4
  obtain ⟨ar, nr, cr, R, f5, hR, sR, gR, qR⟩ := dec_sliceW poseC PB un23 c30 (by decide) (fun _ _ _ h _ => pose_dec h) e5 w5
  obtain ⟨az, nz, cz, Z, f6, hZ, sZ, gZ, qZ⟩ := dec_sliceW rawC (RawOk (ground w)) un24 c95 (by decide) (fun _ _ _ h hw => raw_dec h hw) e6 w6
  obtain ⟨x7, f7, _⟩ := dec_int un3i e7
  obtain ⟨x8, f8, _⟩ := dec_int un3i e8
  obtain ⟨x9, f9, _⟩ := dec_int un3i e9
  obtain ⟨x10, f10, _⟩ := dec_int un3i e10
  obtain ⟨x11, f11, _⟩ := dec_int un3i e11
  obtain ⟨x12, f12, _⟩ := dec_int un3i e12
  obtain ⟨x13, f13, _⟩ := dec_int un3i e13
  obtain ⟨x14, f14, _⟩ := dec_int un3i e14
  obtain ⟨x15, f15⟩ := dec_bool un4b e15
  simp at f0 f1 f2 f3 f4 f5 f6 f7 f8 f9 f10 f11 f12 f13 f14 f15
  subst f0 f1 f2 f3 f4 f5 f6 f7 f8 f9 f10 f11 f12 f13 f14 f15
  subst hB hP hR hZ
  rw [show Tryd.prog.bytesOf 28 = 16 by kernel_rfl] at sB sP
  rw [show Tryd.prog.bytesOf 30 = 24 by kernel_rfl] at sR
  rw [show Tryd.prog.bytesOf 95 = 40 by kernel_rfl] at sZ
  obtain ⟨S, hS, qS⟩ := list_of (Q := fun i (s : Cell × List Int) => ∀ r, Z[i]? = some r → (r.x, r.y) = s.1 ∧ r.n = s.2.length ∧ Room s.2.length 8 ∧ ∀ h, Dis (ground w) h → Sees icC (ground w) h (.slice r.a s.2.length r.c) s.2) Z.length (fun i hi => by
    obtain ⟨L, e, rm, se⟩ := qZ _ (List.getElem_mem hi)
    refine ⟨((Z[i].x, Z[i].y), L), fun r hr => ?_⟩
    rw [List.getElem?_eq_getElem hi] at hr
    cases hr
    exact ⟨rfl, e, rm, fun h d => by rw [← e]; exact se h d⟩)
  refine ⟨⟨x0, x1, x2, B, PO, R, S, x7, x8, x9, x10, x11, x12, x13, x14, x15⟩, fun h d => ⟨ab, cb, ap, cp, ar, cr, az, cz, by simp only [confV, hS], gB h d, gP h d, gR h d, Z, by show Sees rawC _ h (.slice az S.length cz) Z; rw [hS]; exact gZ h d, fun i r s hr hs => ?_⟩, ⟨room_of sB (by decide), room_of sP (by decide), room_of sR (by decide), by show Room S.length 40; rw [hS]; exact room_of sZ (by decide), fun s hs => ?_⟩, qR⟩
  · obtain ⟨a, b, c, e⟩ := qS i s hs r hr
    exact ⟨a, b, e h d⟩
  · obtain ⟨i, hi⟩ := List.getElem?_of_mem hs
    have hi2 : i < Z.length := by rw [← hS]; exact (List.getElem?_eq_some_iff.1 hi).1
    exact (qS i s hi _ (List.getElem?_eq_getElem hi2)).2.2.1

/-- The config as an argument. -/
theorem conf_arg {r : Reach} {b0 : Nat} {v : Value} {d : DataW H} {ps : List MemPlace} (k : Value.okWide Tryd.prog w r b0 26 v) (h : DataW.Trod enc Tryd.prog w base spare held 26 v d ps) (hl : Light Tryd.prog 26 d) :
    ∃ C : Conf, (∀ h, Dis (ground w) h → CV (ground w) h v C) ∧ Fit0 C ∧ ∀ p ∈ C.ro, PB p := by
  obtain ⟨cs, rfl⟩ := okWide_structF sf26 k
  obtain ⟨m, h⟩ := h
  obtain ⟨C, hC, f, hp⟩ := conf_dec (cs := cs.toList) h hl
  exact ⟨C, fun h d => by simpa using hC h d, f, hp⟩
end
end Go.Proofs.YtnpdploihlgcgaaDoor
