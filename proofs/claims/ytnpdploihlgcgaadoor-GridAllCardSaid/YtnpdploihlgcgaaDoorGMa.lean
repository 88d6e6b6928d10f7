/- GridMay: the walk. -/
import Derived.Test.YtnpdploihlgcgaaDoorGZ
import Derived.Test.YtnpdploihlgcgaaDoorGLS
set_option linter.unusedSimpArgs false
set_option linter.unusedVariables false
set_option maxRecDepth 100000
namespace Go.Proofs.YtnpdploihlgcgaaDoor
open Go Go.HL

theorem Fit0.lens {C : Conf} (f : Fit0 C) : C.bl.length ≤ 100000000000000 ∧ C.po.length ≤ 100000000000000 ∧ C.ro.length ≤ 100000000000000 ∧ C.st.length ≤ 100000000000000 := by
  obtain ⟨a, b, c, d, _⟩ := f
  unfold Room at a b c d
  omega

theorem CV.box {G h : Hp} {v : Value} {C : Conf} (hv : CV G h v C) : ∃ a1 n1 a2 n2 a3 n3 a4 n4, v = confV C a1 n1 a2 n2 a3 n3 a4 n4 := by
  obtain ⟨ab, cb, ap, cp, ar, cr, az, cs, rfl, ca⟩ := hv
  exact ⟨_, _, _, _, _, _, _, _, rfl⟩

end Go.Proofs.YtnpdploihlgcgaaDoor
