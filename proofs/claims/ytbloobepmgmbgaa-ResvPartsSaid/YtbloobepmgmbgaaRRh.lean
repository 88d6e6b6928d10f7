/- A script read; slots rise and never meet: the walk. -/
import Derived.Test.YtbloobepmgmbgaaRRg
set_option linter.unusedSimpArgs false
set_option linter.unusedVariables false
set_option maxRecDepth 100000
namespace Go.Proofs.Ytbloobepmgmbgaa
open Go Go.HL Go.Proofs.Resv

theorem Sees.op {G h : Hp} {sa : Option Addr} {cap n : Nat} {L : List Rop} (s : Sees opC G h (.slice sa n cap) L) {i : Nat} {x : Rop} (hx : L[i]? = some x) :
    ∃ b o, sa = some ⟨b, o, none⟩ ∧ cellIn G h ⟨b, o + i * 6, none⟩ = some (.int .i64 x.k) ∧ cellIn G h ⟨b, o + i * 6 + 1, none⟩ = some (.int .i64 x.r) ∧ cellIn G h ⟨b, o + i * 6 + 2, none⟩ = some (.int .i64 x.c) ∧ cellIn G h ⟨b, o + i * 6 + 3, none⟩ = some (.int .i64 x.a) ∧ cellIn G h ⟨b, o + i * 6 + 4, none⟩ = some (.int .i64 x.y) ∧ cellIn G h ⟨b, o + i * 6 + 5, none⟩ = some (.slice x.la x.ln x.lc) := by
  obtain ⟨b, o, c, e1, e2⟩ := s.get hx
  simp only [Value.slice.injEq] at e1
  obtain ⟨rfl, -, -⟩ := e1
  have x0 := e2 0 (by decide)
  have x1 := e2 1 (by decide)
  have x2 := e2 2 (by decide)
  have x3 := e2 3 (by decide)
  have x4 := e2 4 (by decide)
  have x5 := e2 5 (by decide)
  simp only [opC, Nat.add_zero, List.getElem?_cons_zero, List.getElem?_cons_succ] at x0 x1 x2 x3 x4 x5
  exact ⟨b, o, rfl, x0, x1, x2, x3, x4, x5⟩

end Go.Proofs.Ytbloobepmgmbgaa
