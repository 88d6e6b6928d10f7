/- Arguments: wants, numbers, scripts. -/
import Derived.Test.YtbloobepmgmbgaaRK
import Derived.Test.YtbloobepmgmbgaaH2
set_option linter.unusedSimpArgs false
set_option linter.unusedVariables false
set_option maxRecDepth 100000
namespace Go.Proofs.Ytbloobepmgmbgaa
open Go Go.HL Go.ChangeShapes Go.WideShapes Go.RowKit Go.Proofs.Resv

theorem u3i : Try.prog.underlying 3 = some (.int .i64) := by kernel_rfl
theorem c3 : Try.prog.cellsOf 3 = 1 := by kernel_rfl
theorem cwl : Try.prog.cellsOf 22 = 1 := by kernel_rfl
theorem cw : Try.prog.cellsOf 30 = 3 := by kernel_rfl
theorem cop : Try.prog.cellsOf 51 = 6 := by kernel_rfl
theorem sfw : structFields Try.prog 30 = some [(3, 0), (3, 1), (3, 2)] := by kernel_rfl
theorem sfo : structFields Try.prog 51 = some [(3, 0), (3, 1), (3, 2), (3, 3), (3, 4), (22, 5)] := by kernel_rfl

/-- A want's numbers. -/
def WB (w : Want) : Prop := Bd w.c ∧ Bd w.f ∧ Bd w.t
structure Rop where
  k : Int
  r : Int
  c : Int
  a : Int
  y : Int
  la : Option Addr
  ln : Nat
  lc : Nat
def opC : Cod Rop := ⟨6, fun o => [.int .i64 o.k, .int .i64 o.r, .int .i64 o.c, .int .i64 o.a, .int .i64 o.y, .slice o.la o.ln o.lc], fun _ => rfl, fun _ v hv => by simp at hv; rcases hv with rfl | rfl | rfl | rfl | rfl | rfl <;> rfl⟩
/-- A call that comes in. -/
def OpOk (G : Hp) (o : Rop) (l : List Want) : Prop := o.ln = l.length ∧ GSees wantC G (.slice o.la o.ln o.lc) l ∧ (∀ w ∈ l, WB w) ∧ Bd o.k ∧ Bd o.r ∧ Bd o.c ∧ Bd o.a ∧ Bd o.y

section
variable {H : Type} {enc : TypeId × Value → H} {w : World} {base : Nat} {spare : Nat → Bool} {held : Bool}
theorem len3 {α : Type} {L : List α} (h : L.length = 3) : ∃ a b c, L = [a, b, c] := by
  match L, h with
  | [a, b, c], _ => exact ⟨a, b, c, rfl⟩
theorem len6 {α : Type} {L : List α} (h : L.length = 6) : ∃ a b c d e f, L = [a, b, c, d, e, f] := by
  match L, h with
  | [a, b, c, d, e, f], _ => exact ⟨a, b, c, d, e, f, rfl⟩

theorem want_dec {m : Nat} {cs : List Value} {y : DataW H × List MemPlace} (h : DataW.trod enc Try.prog w base spare held m 30 cs = some y) : ∃ x : Want, cs = wantC.enc x ∧ WB x := by
  obtain ⟨hl, d⟩ := dec_fields sfw h
  rw [cw] at hl
  obtain ⟨v0, v1, v2, rfl⟩ := len3 hl
  obtain ⟨m0, z0, e0⟩ := d 0 _ _ rfl
  obtain ⟨m1, z1, e1⟩ := d 1 _ _ rfl
  obtain ⟨m2, z2, e2⟩ := d 2 _ _ rfl
  rw [c3] at e0 e1 e2
  obtain ⟨x0, f0, b0⟩ := dec_int u3i e0
  obtain ⟨x1, f1, b1⟩ := dec_int u3i e1
  obtain ⟨x2, f2, b2⟩ := dec_int u3i e2
  simp at f0 f1 f2
  subst f0 f1 f2
  exact ⟨⟨x0, x1, x2⟩, rfl, b0, b1, b2⟩

theorem ints_arg {r : Reach} {b0 : Nat} {v : Value} {d : DataW H} {ps : List MemPlace} (k : Value.okWide Try.prog w r b0 64 v) (h : DataW.Trod enc Try.prog w base spare held 64 v d ps) : ∃ l : List Int, GSees intC (ground w) v l ∧ ∀ x ∈ l, Bd x := by
  obtain ⟨a, len, cap, rfl⟩ := okWide_slice un64 k
  obtain ⟨m, h⟩ := h
  obtain ⟨a', len', cap', L, e, hl, _, hg, hq⟩ := dec_slice intC Bd un64 c3 (by decide) (fun _ _ _ h => dec_int u3i h) h
  simp [Value.cells] at e
  obtain ⟨rfl, rfl, rfl⟩ := e
  exact ⟨L, hg, hq⟩

theorem op_dec {m : Nat} {cs : List Value} {y : DataW H × List MemPlace} (h : DataW.trod enc Try.prog w base spare held m 51 cs = some y) : ∃ o : Rop, cs = opC.enc o ∧ ∃ l, OpOk (ground w) o l := by
  obtain ⟨hl, d⟩ := dec_fields sfo h
  rw [cop] at hl
  obtain ⟨v0, v1, v2, v3, v4, v5, rfl⟩ := len6 hl
  obtain ⟨m0, z0, e0⟩ := d 0 _ _ rfl
  obtain ⟨m1, z1, e1⟩ := d 1 _ _ rfl
  obtain ⟨m2, z2, e2⟩ := d 2 _ _ rfl
  obtain ⟨m3, z3, e3⟩ := d 3 _ _ rfl
  obtain ⟨m4, z4, e4⟩ := d 4 _ _ rfl
  obtain ⟨m5, z5, e5⟩ := d 5 _ _ rfl
  rw [c3] at e0 e1 e2 e3 e4
  rw [cwl] at e5
  obtain ⟨x0, f0, b0⟩ := dec_int u3i e0
  obtain ⟨x1, f1, b1⟩ := dec_int u3i e1
  obtain ⟨x2, f2, b2⟩ := dec_int u3i e2
  obtain ⟨x3, f3, b3⟩ := dec_int u3i e3
  obtain ⟨x4, f4, b4⟩ := dec_int u3i e4
  obtain ⟨a, n, cap, L, f5, hL, _, hg, hq⟩ := dec_slice wantC WB un22 cw (by decide) (fun _ _ _ h => want_dec h) e5
  simp at f0 f1 f2 f3 f4 f5
  subst f0 f1 f2 f3 f4 f5
  exact ⟨⟨x0, x1, x2, x3, x4, a, n, cap⟩, rfl, L, hL, hg, hq, b0, b1, b2, b3, b4⟩

theorem ops_arg {r : Reach} {b0 : Nat} {v : Value} {d : DataW H} {ps : List MemPlace} (k : Value.okWide Try.prog w r b0 46 v) (h : DataW.Trod enc Try.prog w base spare held 46 v d ps) : ∃ l : List Rop, GSees opC (ground w) v l ∧ ∀ x ∈ l, ∃ ws, OpOk (ground w) x ws := by
  obtain ⟨a, len, cap, rfl⟩ := okWide_slice un46 k
  obtain ⟨m, h⟩ := h
  obtain ⟨a', len', cap', L, e, hl, _, hg, hq⟩ := dec_slice opC (fun x => ∃ ws, OpOk (ground w) x ws) un46 cop (by decide) (fun _ _ _ h => op_dec h) h
  simp [Value.cells] at e
  obtain ⟨rfl, rfl, rfl⟩ := e
  exact ⟨L, hg, hq⟩

theorem int_arg {r : Reach} {b0 : Nat} {v : Value} {d : DataW H} {ps : List MemPlace} (k : Value.okWide Try.prog w r b0 3 v) (h : DataW.Trod enc Try.prog w base spare held 3 v d ps) : ∃ n : Int, v = .int .i64 n ∧ Bd n := by
  obtain ⟨n, rfl, rfl, rfl, wf⟩ := open_int u3i k h
  exact ⟨n, rfl, by simpa [Lit.wf, IntKind.min, IntKind.max, IntKind.signed, IntKind.bits, Bd] using wf⟩
end
end Go.Proofs.Ytbloobepmgmbgaa
