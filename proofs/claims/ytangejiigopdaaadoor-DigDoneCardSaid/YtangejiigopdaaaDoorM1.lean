/- Texts of the proof, one behind the other. -/
import Derived.Test.YtangejiigopdaaaDoorH2
import Derived.Test.YtangejiigopdaaaDoorProg
import Derived.Test.YtangejiigopdaaaDoorH3
section
/- A text of the proofs. -/
namespace Go.Proofs.YtangejiigopdaaaDoor
open Go Go.HL
theorem mixed : Tryd.prog.follows .mixedOrders = true := by kernel_rfl
theorem fa26_0 {G h : Hp} {a : Addr} {K : Value → Hp → Prop} : wpH Tryd.prog G (Instr.fieldAt 26 (.pointer (some a)) 0) h K = K (.pointer (some (a.add 0))) h := by kernel_rfl
theorem fa26_0p {G h : Hp} {a : Addr} {K : Value → Prop} : pw Tryd.prog G h (Instr.fieldAt 26 (.pointer (some a)) 0) K = K (.pointer (some (a.add 0))) := by kernel_rfl
theorem fa26_1 {G h : Hp} {a : Addr} {K : Value → Hp → Prop} : wpH Tryd.prog G (Instr.fieldAt 26 (.pointer (some a)) 1) h K = K (.pointer (some (a.add 1))) h := by kernel_rfl
theorem fa26_1p {G h : Hp} {a : Addr} {K : Value → Prop} : pw Tryd.prog G h (Instr.fieldAt 26 (.pointer (some a)) 1) K = K (.pointer (some (a.add 1))) := by kernel_rfl
theorem fa26_10 {G h : Hp} {a : Addr} {K : Value → Hp → Prop} : wpH Tryd.prog G (Instr.fieldAt 26 (.pointer (some a)) 10) h K = K (.pointer (some (a.add 10))) h := by kernel_rfl
theorem fa26_10p {G h : Hp} {a : Addr} {K : Value → Prop} : pw Tryd.prog G h (Instr.fieldAt 26 (.pointer (some a)) 10) K = K (.pointer (some (a.add 10))) := by kernel_rfl
theorem fa26_11 {G h : Hp} {a : Addr} {K : Value → Hp → Prop} : wpH Tryd.prog G (Instr.fieldAt 26 (.pointer (some a)) 11) h K = K (.pointer (some (a.add 11))) h := by kernel_rfl
theorem fa26_11p {G h : Hp} {a : Addr} {K : Value → Prop} : pw Tryd.prog G h (Instr.fieldAt 26 (.pointer (some a)) 11) K = K (.pointer (some (a.add 11))) := by kernel_rfl
theorem fa26_12 {G h : Hp} {a : Addr} {K : Value → Hp → Prop} : wpH Tryd.prog G (Instr.fieldAt 26 (.pointer (some a)) 12) h K = K (.pointer (some (a.add 12))) h := by kernel_rfl
theorem fa26_12p {G h : Hp} {a : Addr} {K : Value → Prop} : pw Tryd.prog G h (Instr.fieldAt 26 (.pointer (some a)) 12) K = K (.pointer (some (a.add 12))) := by kernel_rfl
theorem fa26_13 {G h : Hp} {a : Addr} {K : Value → Hp → Prop} : wpH Tryd.prog G (Instr.fieldAt 26 (.pointer (some a)) 13) h K = K (.pointer (some (a.add 13))) h := by kernel_rfl
theorem fa26_13p {G h : Hp} {a : Addr} {K : Value → Prop} : pw Tryd.prog G h (Instr.fieldAt 26 (.pointer (some a)) 13) K = K (.pointer (some (a.add 13))) := by kernel_rfl
theorem fa26_14 {G h : Hp} {a : Addr} {K : Value → Hp → Prop} : wpH Tryd.prog G (Instr.fieldAt 26 (.pointer (some a)) 14) h K = K (.pointer (some (a.add 14))) h := by kernel_rfl
theorem fa26_14p {G h : Hp} {a : Addr} {K : Value → Prop} : pw Tryd.prog G h (Instr.fieldAt 26 (.pointer (some a)) 14) K = K (.pointer (some (a.add 14))) := by kernel_rfl
theorem fa26_15 {G h : Hp} {a : Addr} {K : Value → Hp → Prop} : wpH Tryd.prog G (Instr.fieldAt 26 (.pointer (some a)) 15) h K = K (.pointer (some (a.add 15))) h := by kernel_rfl
theorem fa26_15p {G h : Hp} {a : Addr} {K : Value → Prop} : pw Tryd.prog G h (Instr.fieldAt 26 (.pointer (some a)) 15) K = K (.pointer (some (a.add 15))) := by kernel_rfl
theorem fa26_2 {G h : Hp} {a : Addr} {K : Value → Hp → Prop} : wpH Tryd.prog G (Instr.fieldAt 26 (.pointer (some a)) 2) h K = K (.pointer (some (a.add 2))) h := by kernel_rfl
theorem fa26_2p {G h : Hp} {a : Addr} {K : Value → Prop} : pw Tryd.prog G h (Instr.fieldAt 26 (.pointer (some a)) 2) K = K (.pointer (some (a.add 2))) := by kernel_rfl
theorem fa26_3 {G h : Hp} {a : Addr} {K : Value → Hp → Prop} : wpH Tryd.prog G (Instr.fieldAt 26 (.pointer (some a)) 3) h K = K (.pointer (some (a.add 3))) h := by kernel_rfl
theorem fa26_3p {G h : Hp} {a : Addr} {K : Value → Prop} : pw Tryd.prog G h (Instr.fieldAt 26 (.pointer (some a)) 3) K = K (.pointer (some (a.add 3))) := by kernel_rfl
theorem fa26_4 {G h : Hp} {a : Addr} {K : Value → Hp → Prop} : wpH Tryd.prog G (Instr.fieldAt 26 (.pointer (some a)) 4) h K = K (.pointer (some (a.add 4))) h := by kernel_rfl
theorem fa26_4p {G h : Hp} {a : Addr} {K : Value → Prop} : pw Tryd.prog G h (Instr.fieldAt 26 (.pointer (some a)) 4) K = K (.pointer (some (a.add 4))) := by kernel_rfl
theorem fa26_5 {G h : Hp} {a : Addr} {K : Value → Hp → Prop} : wpH Tryd.prog G (Instr.fieldAt 26 (.pointer (some a)) 5) h K = K (.pointer (some (a.add 5))) h := by kernel_rfl
theorem fa26_5p {G h : Hp} {a : Addr} {K : Value → Prop} : pw Tryd.prog G h (Instr.fieldAt 26 (.pointer (some a)) 5) K = K (.pointer (some (a.add 5))) := by kernel_rfl
theorem fa26_6 {G h : Hp} {a : Addr} {K : Value → Hp → Prop} : wpH Tryd.prog G (Instr.fieldAt 26 (.pointer (some a)) 6) h K = K (.pointer (some (a.add 6))) h := by kernel_rfl
theorem fa26_6p {G h : Hp} {a : Addr} {K : Value → Prop} : pw Tryd.prog G h (Instr.fieldAt 26 (.pointer (some a)) 6) K = K (.pointer (some (a.add 6))) := by kernel_rfl
theorem fa26_7 {G h : Hp} {a : Addr} {K : Value → Hp → Prop} : wpH Tryd.prog G (Instr.fieldAt 26 (.pointer (some a)) 7) h K = K (.pointer (some (a.add 7))) h := by kernel_rfl
theorem fa26_7p {G h : Hp} {a : Addr} {K : Value → Prop} : pw Tryd.prog G h (Instr.fieldAt 26 (.pointer (some a)) 7) K = K (.pointer (some (a.add 7))) := by kernel_rfl
theorem fa26_8 {G h : Hp} {a : Addr} {K : Value → Hp → Prop} : wpH Tryd.prog G (Instr.fieldAt 26 (.pointer (some a)) 8) h K = K (.pointer (some (a.add 8))) h := by kernel_rfl
theorem fa26_8p {G h : Hp} {a : Addr} {K : Value → Prop} : pw Tryd.prog G h (Instr.fieldAt 26 (.pointer (some a)) 8) K = K (.pointer (some (a.add 8))) := by kernel_rfl
theorem fa26_9 {G h : Hp} {a : Addr} {K : Value → Hp → Prop} : wpH Tryd.prog G (Instr.fieldAt 26 (.pointer (some a)) 9) h K = K (.pointer (some (a.add 9))) h := by kernel_rfl
theorem fa26_9p {G h : Hp} {a : Addr} {K : Value → Prop} : pw Tryd.prog G h (Instr.fieldAt 26 (.pointer (some a)) 9) K = K (.pointer (some (a.add 9))) := by kernel_rfl
theorem fa28_0 {G h : Hp} {a : Addr} {K : Value → Hp → Prop} : wpH Tryd.prog G (Instr.fieldAt 28 (.pointer (some a)) 0) h K = K (.pointer (some (a.add 0))) h := by kernel_rfl
theorem fa28_0p {G h : Hp} {a : Addr} {K : Value → Prop} : pw Tryd.prog G h (Instr.fieldAt 28 (.pointer (some a)) 0) K = K (.pointer (some (a.add 0))) := by kernel_rfl
theorem fa28_1 {G h : Hp} {a : Addr} {K : Value → Hp → Prop} : wpH Tryd.prog G (Instr.fieldAt 28 (.pointer (some a)) 1) h K = K (.pointer (some (a.add 1))) h := by kernel_rfl
theorem fa28_1p {G h : Hp} {a : Addr} {K : Value → Prop} : pw Tryd.prog G h (Instr.fieldAt 28 (.pointer (some a)) 1) K = K (.pointer (some (a.add 1))) := by kernel_rfl
theorem fa45_0 {G h : Hp} {a : Addr} {K : Value → Hp → Prop} : wpH Tryd.prog G (Instr.fieldAt 45 (.pointer (some a)) 0) h K = K (.pointer (some (a.add 0))) h := by kernel_rfl
theorem fa45_0p {G h : Hp} {a : Addr} {K : Value → Prop} : pw Tryd.prog G h (Instr.fieldAt 45 (.pointer (some a)) 0) K = K (.pointer (some (a.add 0))) := by kernel_rfl
theorem fa45_1 {G h : Hp} {a : Addr} {K : Value → Hp → Prop} : wpH Tryd.prog G (Instr.fieldAt 45 (.pointer (some a)) 1) h K = K (.pointer (some (a.add 1))) h := by kernel_rfl
theorem fa45_1p {G h : Hp} {a : Addr} {K : Value → Prop} : pw Tryd.prog G h (Instr.fieldAt 45 (.pointer (some a)) 1) K = K (.pointer (some (a.add 1))) := by kernel_rfl
theorem fa45_2 {G h : Hp} {a : Addr} {K : Value → Hp → Prop} : wpH Tryd.prog G (Instr.fieldAt 45 (.pointer (some a)) 2) h K = K (.pointer (some (a.add 2))) h := by kernel_rfl
theorem fa45_2p {G h : Hp} {a : Addr} {K : Value → Prop} : pw Tryd.prog G h (Instr.fieldAt 45 (.pointer (some a)) 2) K = K (.pointer (some (a.add 2))) := by kernel_rfl
theorem fa45_3 {G h : Hp} {a : Addr} {K : Value → Hp → Prop} : wpH Tryd.prog G (Instr.fieldAt 45 (.pointer (some a)) 3) h K = K (.pointer (some (a.add 3))) h := by kernel_rfl
theorem fa45_3p {G h : Hp} {a : Addr} {K : Value → Prop} : pw Tryd.prog G h (Instr.fieldAt 45 (.pointer (some a)) 3) K = K (.pointer (some (a.add 3))) := by kernel_rfl
theorem fa45_4 {G h : Hp} {a : Addr} {K : Value → Hp → Prop} : wpH Tryd.prog G (Instr.fieldAt 45 (.pointer (some a)) 4) h K = K (.pointer (some (a.add 4))) h := by kernel_rfl
theorem fa45_4p {G h : Hp} {a : Addr} {K : Value → Prop} : pw Tryd.prog G h (Instr.fieldAt 45 (.pointer (some a)) 4) K = K (.pointer (some (a.add 4))) := by kernel_rfl
theorem fa45_5 {G h : Hp} {a : Addr} {K : Value → Hp → Prop} : wpH Tryd.prog G (Instr.fieldAt 45 (.pointer (some a)) 5) h K = K (.pointer (some (a.add 6))) h := by kernel_rfl
theorem fa45_5p {G h : Hp} {a : Addr} {K : Value → Prop} : pw Tryd.prog G h (Instr.fieldAt 45 (.pointer (some a)) 5) K = K (.pointer (some (a.add 6))) := by kernel_rfl
theorem fa45_6 {G h : Hp} {a : Addr} {K : Value → Hp → Prop} : wpH Tryd.prog G (Instr.fieldAt 45 (.pointer (some a)) 6) h K = K (.pointer (some (a.add 8))) h := by kernel_rfl
theorem fa45_6p {G h : Hp} {a : Addr} {K : Value → Prop} : pw Tryd.prog G h (Instr.fieldAt 45 (.pointer (some a)) 6) K = K (.pointer (some (a.add 8))) := by kernel_rfl
theorem fa49_0 {G h : Hp} {a : Addr} {K : Value → Hp → Prop} : wpH Tryd.prog G (Instr.fieldAt 49 (.pointer (some a)) 0) h K = K (.pointer (some (a.add 0))) h := by kernel_rfl
theorem fa49_0p {G h : Hp} {a : Addr} {K : Value → Prop} : pw Tryd.prog G h (Instr.fieldAt 49 (.pointer (some a)) 0) K = K (.pointer (some (a.add 0))) := by kernel_rfl
theorem fa49_1 {G h : Hp} {a : Addr} {K : Value → Hp → Prop} : wpH Tryd.prog G (Instr.fieldAt 49 (.pointer (some a)) 1) h K = K (.pointer (some (a.add 2))) h := by kernel_rfl
theorem fa49_1p {G h : Hp} {a : Addr} {K : Value → Prop} : pw Tryd.prog G h (Instr.fieldAt 49 (.pointer (some a)) 1) K = K (.pointer (some (a.add 2))) := by kernel_rfl
theorem fa74_0 {G h : Hp} {a : Addr} {K : Value → Hp → Prop} : wpH Tryd.prog G (Instr.fieldAt 74 (.pointer (some a)) 0) h K = K (.pointer (some (a.add 0))) h := by kernel_rfl
theorem fa74_0p {G h : Hp} {a : Addr} {K : Value → Prop} : pw Tryd.prog G h (Instr.fieldAt 74 (.pointer (some a)) 0) K = K (.pointer (some (a.add 0))) := by kernel_rfl
theorem fa74_1 {G h : Hp} {a : Addr} {K : Value → Hp → Prop} : wpH Tryd.prog G (Instr.fieldAt 74 (.pointer (some a)) 1) h K = K (.pointer (some (a.add 16))) h := by kernel_rfl
theorem fa74_1p {G h : Hp} {a : Addr} {K : Value → Prop} : pw Tryd.prog G h (Instr.fieldAt 74 (.pointer (some a)) 1) K = K (.pointer (some (a.add 16))) := by kernel_rfl
theorem fa74_2 {G h : Hp} {a : Addr} {K : Value → Hp → Prop} : wpH Tryd.prog G (Instr.fieldAt 74 (.pointer (some a)) 2) h K = K (.pointer (some (a.add 17))) h := by kernel_rfl
theorem fa74_2p {G h : Hp} {a : Addr} {K : Value → Prop} : pw Tryd.prog G h (Instr.fieldAt 74 (.pointer (some a)) 2) K = K (.pointer (some (a.add 17))) := by kernel_rfl
theorem fa74_3 {G h : Hp} {a : Addr} {K : Value → Hp → Prop} : wpH Tryd.prog G (Instr.fieldAt 74 (.pointer (some a)) 3) h K = K (.pointer (some (a.add 18))) h := by kernel_rfl
theorem fa74_3p {G h : Hp} {a : Addr} {K : Value → Prop} : pw Tryd.prog G h (Instr.fieldAt 74 (.pointer (some a)) 3) K = K (.pointer (some (a.add 18))) := by kernel_rfl
theorem fa85_0 {G h : Hp} {a : Addr} {K : Value → Hp → Prop} : wpH Tryd.prog G (Instr.fieldAt 85 (.pointer (some a)) 0) h K = K (.pointer (some (a.add 0))) h := by kernel_rfl
theorem fa85_0p {G h : Hp} {a : Addr} {K : Value → Prop} : pw Tryd.prog G h (Instr.fieldAt 85 (.pointer (some a)) 0) K = K (.pointer (some (a.add 0))) := by kernel_rfl
theorem fa85_1 {G h : Hp} {a : Addr} {K : Value → Hp → Prop} : wpH Tryd.prog G (Instr.fieldAt 85 (.pointer (some a)) 1) h K = K (.pointer (some (a.add 2))) h := by kernel_rfl
theorem fa85_1p {G h : Hp} {a : Addr} {K : Value → Prop} : pw Tryd.prog G h (Instr.fieldAt 85 (.pointer (some a)) 1) K = K (.pointer (some (a.add 2))) := by kernel_rfl
theorem fa93_0 {G h : Hp} {a : Addr} {K : Value → Hp → Prop} : wpH Tryd.prog G (Instr.fieldAt 93 (.pointer (some a)) 0) h K = K (.pointer (some (a.add 0))) h := by kernel_rfl
theorem fa93_0p {G h : Hp} {a : Addr} {K : Value → Prop} : pw Tryd.prog G h (Instr.fieldAt 93 (.pointer (some a)) 0) K = K (.pointer (some (a.add 0))) := by kernel_rfl
theorem fa93_1 {G h : Hp} {a : Addr} {K : Value → Hp → Prop} : wpH Tryd.prog G (Instr.fieldAt 93 (.pointer (some a)) 1) h K = K (.pointer (some (a.add 1))) h := by kernel_rfl
theorem fa93_1p {G h : Hp} {a : Addr} {K : Value → Prop} : pw Tryd.prog G h (Instr.fieldAt 93 (.pointer (some a)) 1) K = K (.pointer (some (a.add 1))) := by kernel_rfl
theorem fa93_2 {G h : Hp} {a : Addr} {K : Value → Hp → Prop} : wpH Tryd.prog G (Instr.fieldAt 93 (.pointer (some a)) 2) h K = K (.pointer (some (a.add 2))) h := by kernel_rfl
theorem fa93_2p {G h : Hp} {a : Addr} {K : Value → Prop} : pw Tryd.prog G h (Instr.fieldAt 93 (.pointer (some a)) 2) K = K (.pointer (some (a.add 2))) := by kernel_rfl
theorem ld3 {G h : Hp} {a : Addr} {K : Value → Hp → Prop} : wpH Tryd.prog G (Instr.loadAt 3 (.pointer (some a))) h K = (∃ x, cellIn G h a = some x ∧ K x h) := by kernel_rfl
theorem ld3p {G h : Hp} {a : Addr} {K : Value → Prop} : pw Tryd.prog G h (Instr.loadAt 3 (.pointer (some a))) K = (∃ x, cellIn G h a = some x ∧ K x) := by kernel_rfl
theorem ld4 {G h : Hp} {a : Addr} {K : Value → Hp → Prop} : wpH Tryd.prog G (Instr.loadAt 4 (.pointer (some a))) h K = (∃ x, cellIn G h a = some x ∧ K x h) := by kernel_rfl
theorem ld4p {G h : Hp} {a : Addr} {K : Value → Prop} : pw Tryd.prog G h (Instr.loadAt 4 (.pointer (some a))) K = (∃ x, cellIn G h a = some x ∧ K x) := by kernel_rfl
theorem ld22 {G h : Hp} {a : Addr} {K : Value → Hp → Prop} : wpH Tryd.prog G (Instr.loadAt 22 (.pointer (some a))) h K = (∃ x, cellIn G h a = some x ∧ K x h) := by kernel_rfl
theorem ld22p {G h : Hp} {a : Addr} {K : Value → Prop} : pw Tryd.prog G h (Instr.loadAt 22 (.pointer (some a))) K = (∃ x, cellIn G h a = some x ∧ K x) := by kernel_rfl
theorem ld23 {G h : Hp} {a : Addr} {K : Value → Hp → Prop} : wpH Tryd.prog G (Instr.loadAt 23 (.pointer (some a))) h K = (∃ x, cellIn G h a = some x ∧ K x h) := by kernel_rfl
theorem ld23p {G h : Hp} {a : Addr} {K : Value → Prop} : pw Tryd.prog G h (Instr.loadAt 23 (.pointer (some a))) K = (∃ x, cellIn G h a = some x ∧ K x) := by kernel_rfl
theorem ld24 {G h : Hp} {a : Addr} {K : Value → Hp → Prop} : wpH Tryd.prog G (Instr.loadAt 24 (.pointer (some a))) h K = (∃ x, cellIn G h a = some x ∧ K x h) := by kernel_rfl
theorem ld24p {G h : Hp} {a : Addr} {K : Value → Prop} : pw Tryd.prog G h (Instr.loadAt 24 (.pointer (some a))) K = (∃ x, cellIn G h a = some x ∧ K x) := by kernel_rfl
theorem ld26 {G h : Hp} {a : Addr} {K : Value → Hp → Prop} : wpH Tryd.prog G (Instr.loadAt 26 (.pointer (some a))) h K = (∃ x0, cellIn G h (a.add 0) = some x0 ∧ ∃ x1, cellIn G h (a.add 1) = some x1 ∧ ∃ x2, cellIn G h (a.add 2) = some x2 ∧ ∃ x3, cellIn G h (a.add 3) = some x3 ∧ ∃ x4, cellIn G h (a.add 4) = some x4 ∧ ∃ x5, cellIn G h (a.add 5) = some x5 ∧ ∃ x6, cellIn G h (a.add 6) = some x6 ∧ ∃ x7, cellIn G h (a.add 7) = some x7 ∧ ∃ x8, cellIn G h (a.add 8) = some x8 ∧ ∃ x9, cellIn G h (a.add 9) = some x9 ∧ ∃ x10, cellIn G h (a.add 10) = some x10 ∧ ∃ x11, cellIn G h (a.add 11) = some x11 ∧ ∃ x12, cellIn G h (a.add 12) = some x12 ∧ ∃ x13, cellIn G h (a.add 13) = some x13 ∧ ∃ x14, cellIn G h (a.add 14) = some x14 ∧ ∃ x15, cellIn G h (a.add 15) = some x15 ∧ K (.agg #[x0, x1, x2, x3, x4, x5, x6, x7, x8, x9, x10, x11, x12, x13, x14, x15]) h) := by kernel_rfl
theorem ld26p {G h : Hp} {a : Addr} {K : Value → Prop} : pw Tryd.prog G h (Instr.loadAt 26 (.pointer (some a))) K = (∃ x0, cellIn G h (a.add 0) = some x0 ∧ ∃ x1, cellIn G h (a.add 1) = some x1 ∧ ∃ x2, cellIn G h (a.add 2) = some x2 ∧ ∃ x3, cellIn G h (a.add 3) = some x3 ∧ ∃ x4, cellIn G h (a.add 4) = some x4 ∧ ∃ x5, cellIn G h (a.add 5) = some x5 ∧ ∃ x6, cellIn G h (a.add 6) = some x6 ∧ ∃ x7, cellIn G h (a.add 7) = some x7 ∧ ∃ x8, cellIn G h (a.add 8) = some x8 ∧ ∃ x9, cellIn G h (a.add 9) = some x9 ∧ ∃ x10, cellIn G h (a.add 10) = some x10 ∧ ∃ x11, cellIn G h (a.add 11) = some x11 ∧ ∃ x12, cellIn G h (a.add 12) = some x12 ∧ ∃ x13, cellIn G h (a.add 13) = some x13 ∧ ∃ x14, cellIn G h (a.add 14) = some x14 ∧ ∃ x15, cellIn G h (a.add 15) = some x15 ∧ K (.agg #[x0, x1, x2, x3, x4, x5, x6, x7, x8, x9, x10, x11, x12, x13, x14, x15])) := by kernel_rfl
theorem ld28 {G h : Hp} {a : Addr} {K : Value → Hp → Prop} : wpH Tryd.prog G (Instr.loadAt 28 (.pointer (some a))) h K = (∃ x0, cellIn G h (a.add 0) = some x0 ∧ ∃ x1, cellIn G h (a.add 1) = some x1 ∧ K (.agg #[x0, x1]) h) := by kernel_rfl
theorem ld28p {G h : Hp} {a : Addr} {K : Value → Prop} : pw Tryd.prog G h (Instr.loadAt 28 (.pointer (some a))) K = (∃ x0, cellIn G h (a.add 0) = some x0 ∧ ∃ x1, cellIn G h (a.add 1) = some x1 ∧ K (.agg #[x0, x1])) := by kernel_rfl
theorem ld42 {G h : Hp} {a : Addr} {K : Value → Hp → Prop} : wpH Tryd.prog G (Instr.loadAt 42 (.pointer (some a))) h K = (∃ x, cellIn G h a = some x ∧ K x h) := by kernel_rfl
theorem ld42p {G h : Hp} {a : Addr} {K : Value → Prop} : pw Tryd.prog G h (Instr.loadAt 42 (.pointer (some a))) K = (∃ x, cellIn G h a = some x ∧ K x) := by kernel_rfl
theorem ld45 {G h : Hp} {a : Addr} {K : Value → Hp → Prop} : wpH Tryd.prog G (Instr.loadAt 45 (.pointer (some a))) h K = (∃ x0, cellIn G h (a.add 0) = some x0 ∧ ∃ x1, cellIn G h (a.add 1) = some x1 ∧ ∃ x2, cellIn G h (a.add 2) = some x2 ∧ ∃ x3, cellIn G h (a.add 3) = some x3 ∧ ∃ x4, cellIn G h (a.add 4) = some x4 ∧ ∃ x5, cellIn G h (a.add 5) = some x5 ∧ ∃ x6, cellIn G h (a.add 6) = some x6 ∧ ∃ x7, cellIn G h (a.add 7) = some x7 ∧ ∃ x8, cellIn G h (a.add 8) = some x8 ∧ K (.agg #[x0, x1, x2, x3, x4, x5, x6, x7, x8]) h) := by kernel_rfl
theorem ld45p {G h : Hp} {a : Addr} {K : Value → Prop} : pw Tryd.prog G h (Instr.loadAt 45 (.pointer (some a))) K = (∃ x0, cellIn G h (a.add 0) = some x0 ∧ ∃ x1, cellIn G h (a.add 1) = some x1 ∧ ∃ x2, cellIn G h (a.add 2) = some x2 ∧ ∃ x3, cellIn G h (a.add 3) = some x3 ∧ ∃ x4, cellIn G h (a.add 4) = some x4 ∧ ∃ x5, cellIn G h (a.add 5) = some x5 ∧ ∃ x6, cellIn G h (a.add 6) = some x6 ∧ ∃ x7, cellIn G h (a.add 7) = some x7 ∧ ∃ x8, cellIn G h (a.add 8) = some x8 ∧ K (.agg #[x0, x1, x2, x3, x4, x5, x6, x7, x8])) := by kernel_rfl
theorem ld49 {G h : Hp} {a : Addr} {K : Value → Hp → Prop} : wpH Tryd.prog G (Instr.loadAt 49 (.pointer (some a))) h K = (∃ x0, cellIn G h (a.add 0) = some x0 ∧ ∃ x1, cellIn G h (a.add 1) = some x1 ∧ ∃ x2, cellIn G h (a.add 2) = some x2 ∧ K (.agg #[x0, x1, x2]) h) := by kernel_rfl
theorem ld49p {G h : Hp} {a : Addr} {K : Value → Prop} : pw Tryd.prog G h (Instr.loadAt 49 (.pointer (some a))) K = (∃ x0, cellIn G h (a.add 0) = some x0 ∧ ∃ x1, cellIn G h (a.add 1) = some x1 ∧ ∃ x2, cellIn G h (a.add 2) = some x2 ∧ K (.agg #[x0, x1, x2])) := by kernel_rfl
theorem ld58 {G h : Hp} {a : Addr} {K : Value → Hp → Prop} : wpH Tryd.prog G (Instr.loadAt 58 (.pointer (some a))) h K = (∃ x, cellIn G h a = some x ∧ K x h) := by kernel_rfl
theorem ld58p {G h : Hp} {a : Addr} {K : Value → Prop} : pw Tryd.prog G h (Instr.loadAt 58 (.pointer (some a))) K = (∃ x, cellIn G h a = some x ∧ K x) := by kernel_rfl
theorem ld69 {G h : Hp} {a : Addr} {K : Value → Hp → Prop} : wpH Tryd.prog G (Instr.loadAt 69 (.pointer (some a))) h K = (∃ x, cellIn G h a = some x ∧ K x h) := by kernel_rfl
theorem ld69p {G h : Hp} {a : Addr} {K : Value → Prop} : pw Tryd.prog G h (Instr.loadAt 69 (.pointer (some a))) K = (∃ x, cellIn G h a = some x ∧ K x) := by kernel_rfl
theorem ld72 {G h : Hp} {a : Addr} {K : Value → Hp → Prop} : wpH Tryd.prog G (Instr.loadAt 72 (.pointer (some a))) h K = (∃ x, cellIn G h a = some x ∧ K x h) := by kernel_rfl
theorem ld72p {G h : Hp} {a : Addr} {K : Value → Prop} : pw Tryd.prog G h (Instr.loadAt 72 (.pointer (some a))) K = (∃ x, cellIn G h a = some x ∧ K x) := by kernel_rfl
theorem ld85 {G h : Hp} {a : Addr} {K : Value → Hp → Prop} : wpH Tryd.prog G (Instr.loadAt 85 (.pointer (some a))) h K = (∃ x0, cellIn G h (a.add 0) = some x0 ∧ ∃ x1, cellIn G h (a.add 1) = some x1 ∧ ∃ x2, cellIn G h (a.add 2) = some x2 ∧ K (.agg #[x0, x1, x2]) h) := by kernel_rfl
theorem ld85p {G h : Hp} {a : Addr} {K : Value → Prop} : pw Tryd.prog G h (Instr.loadAt 85 (.pointer (some a))) K = (∃ x0, cellIn G h (a.add 0) = some x0 ∧ ∃ x1, cellIn G h (a.add 1) = some x1 ∧ ∃ x2, cellIn G h (a.add 2) = some x2 ∧ K (.agg #[x0, x1, x2])) := by kernel_rfl
-- 108: array 4 28
theorem sz3 : (Tryd.prog.info? 3).map (·.size) = some 1 := by kernel_rfl
theorem sz4 : (Tryd.prog.info? 4).map (·.size) = some 1 := by kernel_rfl
theorem sz22 : (Tryd.prog.info? 22).map (·.size) = some 1 := by kernel_rfl
theorem sz23 : (Tryd.prog.info? 23).map (·.size) = some 1 := by kernel_rfl
theorem sz24 : (Tryd.prog.info? 24).map (·.size) = some 1 := by kernel_rfl
theorem sz26 : (Tryd.prog.info? 26).map (·.size) = some 16 := by kernel_rfl
theorem sz28 : (Tryd.prog.info? 28).map (·.size) = some 2 := by kernel_rfl
theorem sz42 : (Tryd.prog.info? 42).map (·.size) = some 1 := by kernel_rfl
theorem sz45 : (Tryd.prog.info? 45).map (·.size) = some 9 := by kernel_rfl
theorem sz49 : (Tryd.prog.info? 49).map (·.size) = some 3 := by kernel_rfl
theorem sz85 : (Tryd.prog.info? 85).map (·.size) = some 3 := by kernel_rfl
theorem st3s {G h : Hp} {b i : Nat} {e : TypeId} {l : List Value} {v : Value} {K : Unit → Hp → Prop} (h1 : oneCell v = true) (hl : i < l.length) : wpH Tryd.prog G (Instr.storeAt 3 (.pointer (some ⟨b, i, none⟩)) v) (h.set b (.cells l.toArray e (0, 0))) K = K () (h.set b (.cells (l.set i v).toArray e (0, 0))) := store1_self sz3 h1 hl
theorem st4s {G h : Hp} {b i : Nat} {e : TypeId} {l : List Value} {v : Value} {K : Unit → Hp → Prop} (h1 : oneCell v = true) (hl : i < l.length) : wpH Tryd.prog G (Instr.storeAt 4 (.pointer (some ⟨b, i, none⟩)) v) (h.set b (.cells l.toArray e (0, 0))) K = K () (h.set b (.cells (l.set i v).toArray e (0, 0))) := store1_self sz4 h1 hl
theorem st22s {G h : Hp} {b i : Nat} {e : TypeId} {l : List Value} {v : Value} {K : Unit → Hp → Prop} (h1 : oneCell v = true) (hl : i < l.length) : wpH Tryd.prog G (Instr.storeAt 22 (.pointer (some ⟨b, i, none⟩)) v) (h.set b (.cells l.toArray e (0, 0))) K = K () (h.set b (.cells (l.set i v).toArray e (0, 0))) := store1_self sz22 h1 hl
theorem st23s {G h : Hp} {b i : Nat} {e : TypeId} {l : List Value} {v : Value} {K : Unit → Hp → Prop} (h1 : oneCell v = true) (hl : i < l.length) : wpH Tryd.prog G (Instr.storeAt 23 (.pointer (some ⟨b, i, none⟩)) v) (h.set b (.cells l.toArray e (0, 0))) K = K () (h.set b (.cells (l.set i v).toArray e (0, 0))) := store1_self sz23 h1 hl
theorem st24s {G h : Hp} {b i : Nat} {e : TypeId} {l : List Value} {v : Value} {K : Unit → Hp → Prop} (h1 : oneCell v = true) (hl : i < l.length) : wpH Tryd.prog G (Instr.storeAt 24 (.pointer (some ⟨b, i, none⟩)) v) (h.set b (.cells l.toArray e (0, 0))) K = K () (h.set b (.cells (l.set i v).toArray e (0, 0))) := store1_self sz24 h1 hl
theorem st26w {G h : Hp} {b : Nat} {e : TypeId} {z0 z1 z2 z3 z4 z5 z6 z7 z8 z9 z10 z11 z12 z13 z14 z15 : Value} {k0 : IntKind} {y0 : Int} {k1 : IntKind} {y1 : Int} {k2 : IntKind} {y2 : Int} {y3 : Option Addr} {n3 c3 : Nat} {y4 : Option Addr} {n4 c4 : Nat} {y5 : Option Addr} {n5 c5 : Nat} {y6 : Option Addr} {n6 c6 : Nat} {k7 : IntKind} {y7 : Int} {k8 : IntKind} {y8 : Int} {k9 : IntKind} {y9 : Int} {k10 : IntKind} {y10 : Int} {k11 : IntKind} {y11 : Int} {k12 : IntKind} {y12 : Int} {k13 : IntKind} {y13 : Int} {k14 : IntKind} {y14 : Int} {y15 : Bool} {K : Unit → Hp → Prop} : wpH Tryd.prog G (Instr.storeAt 26 (.pointer (some ⟨b, 0, none⟩)) (.agg #[(.int k0 y0), (.int k1 y1), (.int k2 y2), (.slice y3 n3 c3), (.slice y4 n4 c4), (.slice y5 n5 c5), (.slice y6 n6 c6), (.int k7 y7), (.int k8 y8), (.int k9 y9), (.int k10 y10), (.int k11 y11), (.int k12 y12), (.int k13 y13), (.int k14 y14), (.bool y15)])) (h.set b (.cells #[z0, z1, z2, z3, z4, z5, z6, z7, z8, z9, z10, z11, z12, z13, z14, z15] e (0, 0))) K = K () (h.set b (.cells #[(.int k0 y0), (.int k1 y1), (.int k2 y2), (.slice y3 n3 c3), (.slice y4 n4 c4), (.slice y5 n5 c5), (.slice y6 n6 c6), (.int k7 y7), (.int k8 y8), (.int k9 y9), (.int k10 y10), (.int k11 y11), (.int k12 y12), (.int k13 y13), (.int k14 y14), (.bool y15)] e (0, 0))) := store_whole sz26 rfl rfl (fun x hx => by simp only [List.mem_cons, List.not_mem_nil, or_false] at hx; rcases hx with rfl | rfl | rfl | rfl | rfl | rfl | rfl | rfl | rfl | rfl | rfl | rfl | rfl | rfl | rfl | rfl <;> first | rfl | assumption)
theorem st28w {G h : Hp} {b : Nat} {e : TypeId} {z0 z1 : Value} {k0 : IntKind} {y0 : Int} {k1 : IntKind} {y1 : Int} {K : Unit → Hp → Prop} : wpH Tryd.prog G (Instr.storeAt 28 (.pointer (some ⟨b, 0, none⟩)) (.agg #[(.int k0 y0), (.int k1 y1)])) (h.set b (.cells #[z0, z1] e (0, 0))) K = K () (h.set b (.cells #[(.int k0 y0), (.int k1 y1)] e (0, 0))) := store_whole sz28 rfl rfl (fun x hx => by simp only [List.mem_cons, List.not_mem_nil, or_false] at hx; rcases hx with rfl | rfl <;> first | rfl | assumption)
theorem st42s {G h : Hp} {b i : Nat} {e : TypeId} {l : List Value} {v : Value} {K : Unit → Hp → Prop} (h1 : oneCell v = true) (hl : i < l.length) : wpH Tryd.prog G (Instr.storeAt 42 (.pointer (some ⟨b, i, none⟩)) v) (h.set b (.cells l.toArray e (0, 0))) K = K () (h.set b (.cells (l.set i v).toArray e (0, 0))) := store1_self sz42 h1 hl
theorem st45w {G h : Hp} {b : Nat} {e : TypeId} {z0 z1 z2 z3 z4 z5 z6 z7 z8 : Value} {k0 : IntKind} {y0 : Int} {k1 : IntKind} {y1 : Int} {k2 : IntKind} {y2 : Int} {k3 : IntKind} {y3 : Int} {k4 : IntKind} {y4 : Int} {k5 : IntKind} {y5 : Int} {k6 : IntKind} {y6 : Int} {k7 : IntKind} {y7 : Int} {k8 : IntKind} {y8 : Int} {K : Unit → Hp → Prop} : wpH Tryd.prog G (Instr.storeAt 45 (.pointer (some ⟨b, 0, none⟩)) (.agg #[(.int k0 y0), (.int k1 y1), (.int k2 y2), (.int k3 y3), (.int k4 y4), (.int k5 y5), (.int k6 y6), (.int k7 y7), (.int k8 y8)])) (h.set b (.cells #[z0, z1, z2, z3, z4, z5, z6, z7, z8] e (0, 0))) K = K () (h.set b (.cells #[(.int k0 y0), (.int k1 y1), (.int k2 y2), (.int k3 y3), (.int k4 y4), (.int k5 y5), (.int k6 y6), (.int k7 y7), (.int k8 y8)] e (0, 0))) := store_whole sz45 rfl rfl (fun x hx => by simp only [List.mem_cons, List.not_mem_nil, or_false] at hx; rcases hx with rfl | rfl | rfl | rfl | rfl | rfl | rfl | rfl | rfl <;> first | rfl | assumption)
theorem st49w {G h : Hp} {b : Nat} {e : TypeId} {z0 z1 z2 : Value} {k0 : IntKind} {y0 : Int} {k1 : IntKind} {y1 : Int} {y2 : Option Addr} {n2 c2 : Nat} {K : Unit → Hp → Prop} : wpH Tryd.prog G (Instr.storeAt 49 (.pointer (some ⟨b, 0, none⟩)) (.agg #[(.int k0 y0), (.int k1 y1), (.slice y2 n2 c2)])) (h.set b (.cells #[z0, z1, z2] e (0, 0))) K = K () (h.set b (.cells #[(.int k0 y0), (.int k1 y1), (.slice y2 n2 c2)] e (0, 0))) := store_whole sz49 rfl rfl (fun x hx => by simp only [List.mem_cons, List.not_mem_nil, or_false] at hx; rcases hx with rfl | rfl | rfl <;> first | rfl | assumption)
theorem st85w {G h : Hp} {b : Nat} {e : TypeId} {z0 z1 z2 : Value} {k0 : IntKind} {y0 : Int} {k1 : IntKind} {y1 : Int} {y2 : Bool} {K : Unit → Hp → Prop} : wpH Tryd.prog G (Instr.storeAt 85 (.pointer (some ⟨b, 0, none⟩)) (.agg #[(.int k0 y0), (.int k1 y1), (.bool y2)])) (h.set b (.cells #[z0, z1, z2] e (0, 0))) K = K () (h.set b (.cells #[(.int k0 y0), (.int k1 y1), (.bool y2)] e (0, 0))) := store_whole sz85 rfl rfl (fun x hx => by simp only [List.mem_cons, List.not_mem_nil, or_false] at hx; rcases hx with rfl | rfl | rfl <;> first | rfl | assumption)
theorem un22 : Tryd.prog.underlying 22 = some (.slice 28) := by kernel_rfl
theorem ix22 {G h : Hp} {ad : Addr} {len cap : Nat} {k : IntKind} {i : Int} {K : Value → Hp → Prop} (h1 : 0 ≤ i) (h2 : i < len) : wpH Tryd.prog G (Instr.indexAt 22 (.slice (some ad) len cap) (.int k i)) h K = K (.pointer (some (ad.add (i.toNat * 2)))) h := index_slice un22 sz28 h1 h2
theorem ix22p {G h : Hp} {ad : Addr} {len cap : Nat} {k : IntKind} {i : Int} {K : Value → Prop} (h1 : 0 ≤ i) (h2 : i < len) : pw Tryd.prog G h (Instr.indexAt 22 (.slice (some ad) len cap) (.int k i)) K = K (.pointer (some (ad.add (i.toNat * 2)))) := index_slicep un22 sz28 h1 h2
theorem un23 : Tryd.prog.underlying 23 = some (.slice 85) := by kernel_rfl
theorem ix23 {G h : Hp} {ad : Addr} {len cap : Nat} {k : IntKind} {i : Int} {K : Value → Hp → Prop} (h1 : 0 ≤ i) (h2 : i < len) : wpH Tryd.prog G (Instr.indexAt 23 (.slice (some ad) len cap) (.int k i)) h K = K (.pointer (some (ad.add (i.toNat * 3)))) h := index_slice un23 sz85 h1 h2
theorem ix23p {G h : Hp} {ad : Addr} {len cap : Nat} {k : IntKind} {i : Int} {K : Value → Prop} (h1 : 0 ≤ i) (h2 : i < len) : pw Tryd.prog G h (Instr.indexAt 23 (.slice (some ad) len cap) (.int k i)) K = K (.pointer (some (ad.add (i.toNat * 3)))) := index_slicep un23 sz85 h1 h2
theorem un24 : Tryd.prog.underlying 24 = some (.slice 49) := by kernel_rfl
theorem ix24 {G h : Hp} {ad : Addr} {len cap : Nat} {k : IntKind} {i : Int} {K : Value → Hp → Prop} (h1 : 0 ≤ i) (h2 : i < len) : wpH Tryd.prog G (Instr.indexAt 24 (.slice (some ad) len cap) (.int k i)) h K = K (.pointer (some (ad.add (i.toNat * 3)))) h := index_slice un24 sz49 h1 h2
theorem ix24p {G h : Hp} {ad : Addr} {len cap : Nat} {k : IntKind} {i : Int} {K : Value → Prop} (h1 : 0 ≤ i) (h2 : i < len) : pw Tryd.prog G h (Instr.indexAt 24 (.slice (some ad) len cap) (.int k i)) K = K (.pointer (some (ad.add (i.toNat * 3)))) := index_slicep un24 sz49 h1 h2
theorem un31 : Tryd.prog.underlying 31 = some (.slice 45) := by kernel_rfl
theorem ix31 {G h : Hp} {ad : Addr} {len cap : Nat} {k : IntKind} {i : Int} {K : Value → Hp → Prop} (h1 : 0 ≤ i) (h2 : i < len) : wpH Tryd.prog G (Instr.indexAt 31 (.slice (some ad) len cap) (.int k i)) h K = K (.pointer (some (ad.add (i.toNat * 9)))) h := index_slice un31 sz45 h1 h2
theorem ix31p {G h : Hp} {ad : Addr} {len cap : Nat} {k : IntKind} {i : Int} {K : Value → Prop} (h1 : 0 ≤ i) (h2 : i < len) : pw Tryd.prog G h (Instr.indexAt 31 (.slice (some ad) len cap) (.int k i)) K = K (.pointer (some (ad.add (i.toNat * 9)))) := index_slicep un31 sz45 h1 h2
theorem un42 : Tryd.prog.underlying 42 = some (.slice 3) := by kernel_rfl
theorem ix42 {G h : Hp} {ad : Addr} {len cap : Nat} {k : IntKind} {i : Int} {K : Value → Hp → Prop} (h1 : 0 ≤ i) (h2 : i < len) : wpH Tryd.prog G (Instr.indexAt 42 (.slice (some ad) len cap) (.int k i)) h K = K (.pointer (some (ad.add (i.toNat * 1)))) h := index_slice un42 sz3 h1 h2
theorem ix42p {G h : Hp} {ad : Addr} {len cap : Nat} {k : IntKind} {i : Int} {K : Value → Prop} (h1 : 0 ≤ i) (h2 : i < len) : pw Tryd.prog G h (Instr.indexAt 42 (.slice (some ad) len cap) (.int k i)) K = K (.pointer (some (ad.add (i.toNat * 1)))) := index_slicep un42 sz3 h1 h2
theorem un104 : Tryd.prog.underlying 104 = some (.slice 4) := by kernel_rfl
theorem ix104 {G h : Hp} {ad : Addr} {len cap : Nat} {k : IntKind} {i : Int} {K : Value → Hp → Prop} (h1 : 0 ≤ i) (h2 : i < len) : wpH Tryd.prog G (Instr.indexAt 104 (.slice (some ad) len cap) (.int k i)) h K = K (.pointer (some (ad.add (i.toNat * 1)))) h := index_slice un104 sz4 h1 h2
theorem ix104p {G h : Hp} {ad : Addr} {len cap : Nat} {k : IntKind} {i : Int} {K : Value → Prop} (h1 : 0 ≤ i) (h2 : i < len) : pw Tryd.prog G h (Instr.indexAt 104 (.slice (some ad) len cap) (.int k i)) K = K (.pointer (some (ad.add (i.toNat * 1)))) := index_slicep un104 sz4 h1 h2
theorem ln22 {G h : Hp} {a : Option Addr} {n c : Nat} {K : Value → Hp → Prop} : wpH Tryd.prog G (Builtin.len_ #[22] 3 #[.slice a n c]) h K = K (.int .i64 n) h := by kernel_rfl
theorem ln22p {G h : Hp} {a : Option Addr} {n c : Nat} {K : Value → Prop} : pw Tryd.prog G h (Builtin.len_ #[22] 3 #[.slice a n c]) K = K (.int .i64 n) := by kernel_rfl
theorem ln23 {G h : Hp} {a : Option Addr} {n c : Nat} {K : Value → Hp → Prop} : wpH Tryd.prog G (Builtin.len_ #[23] 3 #[.slice a n c]) h K = K (.int .i64 n) h := by kernel_rfl
theorem ln23p {G h : Hp} {a : Option Addr} {n c : Nat} {K : Value → Prop} : pw Tryd.prog G h (Builtin.len_ #[23] 3 #[.slice a n c]) K = K (.int .i64 n) := by kernel_rfl
theorem ln24 {G h : Hp} {a : Option Addr} {n c : Nat} {K : Value → Hp → Prop} : wpH Tryd.prog G (Builtin.len_ #[24] 3 #[.slice a n c]) h K = K (.int .i64 n) h := by kernel_rfl
theorem ln24p {G h : Hp} {a : Option Addr} {n c : Nat} {K : Value → Prop} : pw Tryd.prog G h (Builtin.len_ #[24] 3 #[.slice a n c]) K = K (.int .i64 n) := by kernel_rfl
theorem ln31 {G h : Hp} {a : Option Addr} {n c : Nat} {K : Value → Hp → Prop} : wpH Tryd.prog G (Builtin.len_ #[31] 3 #[.slice a n c]) h K = K (.int .i64 n) h := by kernel_rfl
theorem ln31p {G h : Hp} {a : Option Addr} {n c : Nat} {K : Value → Prop} : pw Tryd.prog G h (Builtin.len_ #[31] 3 #[.slice a n c]) K = K (.int .i64 n) := by kernel_rfl
theorem ln42 {G h : Hp} {a : Option Addr} {n c : Nat} {K : Value → Hp → Prop} : wpH Tryd.prog G (Builtin.len_ #[42] 3 #[.slice a n c]) h K = K (.int .i64 n) h := by kernel_rfl
theorem ln42p {G h : Hp} {a : Option Addr} {n c : Nat} {K : Value → Prop} : pw Tryd.prog G h (Builtin.len_ #[42] 3 #[.slice a n c]) K = K (.int .i64 n) := by kernel_rfl
-- len 107: map
theorem al4 {G h : Hp} {v : Value} {K : Value → Hp → Prop} : wpH Tryd.prog G (Instr.alloc 4 true v) h K = ∀ x, h x = none → G x = none → K (.pointer (some ⟨x, 0, none⟩)) (h.set x (.cells #[(.bool false)] 4 (0, 0))) := by kernel_rfl
theorem al22 {G h : Hp} {v : Value} {K : Value → Hp → Prop} : wpH Tryd.prog G (Instr.alloc 22 true v) h K = ∀ x, h x = none → G x = none → K (.pointer (some ⟨x, 0, none⟩)) (h.set x (.cells #[(.slice none 0 0)] 22 (0, 0))) := by kernel_rfl
theorem al26 {G h : Hp} {v : Value} {K : Value → Hp → Prop} : wpH Tryd.prog G (Instr.alloc 26 true v) h K = ∀ x, h x = none → G x = none → K (.pointer (some ⟨x, 0, none⟩)) (h.set x (.cells #[(.int .i64 0), (.int .i64 0), (.int .i64 0), (.slice none 0 0), (.slice none 0 0), (.slice none 0 0), (.slice none 0 0), (.int .i64 0), (.int .i64 0), (.int .i64 0), (.int .i64 0), (.int .i64 0), (.int .i64 0), (.int .i64 0), (.int .i64 0), (.bool false)] 26 (0, 0))) := by kernel_rfl
theorem al28 {G h : Hp} {v : Value} {K : Value → Hp → Prop} : wpH Tryd.prog G (Instr.alloc 28 true v) h K = ∀ x, h x = none → G x = none → K (.pointer (some ⟨x, 0, none⟩)) (h.set x (.cells #[(.int .i64 0), (.int .i64 0)] 28 (0, 0))) := by kernel_rfl
theorem al42 {G h : Hp} {v : Value} {K : Value → Hp → Prop} : wpH Tryd.prog G (Instr.alloc 42 true v) h K = ∀ x, h x = none → G x = none → K (.pointer (some ⟨x, 0, none⟩)) (h.set x (.cells #[(.slice none 0 0)] 42 (0, 0))) := by kernel_rfl
theorem al49 {G h : Hp} {v : Value} {K : Value → Hp → Prop} : wpH Tryd.prog G (Instr.alloc 49 true v) h K = ∀ x, h x = none → G x = none → K (.pointer (some ⟨x, 0, none⟩)) (h.set x (.cells #[(.int .i64 0), (.int .i64 0), (.slice none 0 0)] 49 (0, 0))) := by kernel_rfl
theorem al85 {G h : Hp} {v : Value} {K : Value → Hp → Prop} : wpH Tryd.prog G (Instr.alloc 85 true v) h K = ∀ x, h x = none → G x = none → K (.pointer (some ⟨x, 0, none⟩)) (h.set x (.cells #[(.int .i64 0), (.int .i64 0), (.bool false)] 85 (0, 0))) := by kernel_rfl
theorem cf10 {G h : Hp} {args : Array Value} {K : Value → Hp → Prop} : opH Tryd.prog G (callFunc 10 args) h K = HCalls Tryd.prog G 10 args h K := by kernel_rfl
theorem cf11 {G h : Hp} {args : Array Value} {K : Value → Hp → Prop} : opH Tryd.prog G (callFunc 11 args) h K = HCalls Tryd.prog G 11 args h K := by kernel_rfl
theorem cf12 {G h : Hp} {args : Array Value} {K : Value → Hp → Prop} : opH Tryd.prog G (callFunc 12 args) h K = HCalls Tryd.prog G 12 args h K := by kernel_rfl
theorem cf13 {G h : Hp} {args : Array Value} {K : Value → Hp → Prop} : opH Tryd.prog G (callFunc 13 args) h K = HCalls Tryd.prog G 13 args h K := by kernel_rfl
theorem cf14 {G h : Hp} {args : Array Value} {K : Value → Hp → Prop} : opH Tryd.prog G (callFunc 14 args) h K = HCalls Tryd.prog G 14 args h K := by kernel_rfl
theorem cf15 {G h : Hp} {args : Array Value} {K : Value → Hp → Prop} : opH Tryd.prog G (callFunc 15 args) h K = HCalls Tryd.prog G 15 args h K := by kernel_rfl
theorem cf16 {G h : Hp} {args : Array Value} {K : Value → Hp → Prop} : opH Tryd.prog G (callFunc 16 args) h K = HCalls Tryd.prog G 16 args h K := by kernel_rfl
theorem cf17 {G h : Hp} {args : Array Value} {K : Value → Hp → Prop} : opH Tryd.prog G (callFunc 17 args) h K = HCalls Tryd.prog G 17 args h K := by kernel_rfl
theorem cf18 {G h : Hp} {args : Array Value} {K : Value → Hp → Prop} : opH Tryd.prog G (callFunc 18 args) h K = HCalls Tryd.prog G 18 args h K := by kernel_rfl
theorem cf19 {G h : Hp} {args : Array Value} {K : Value → Hp → Prop} : opH Tryd.prog G (callFunc 19 args) h K = HCalls Tryd.prog G 19 args h K := by kernel_rfl
theorem cf20 {G h : Hp} {args : Array Value} {K : Value → Hp → Prop} : opH Tryd.prog G (callFunc 20 args) h K = HCalls Tryd.prog G 20 args h K := by kernel_rfl
theorem cf21 {G h : Hp} {args : Array Value} {K : Value → Hp → Prop} : opH Tryd.prog G (callFunc 21 args) h K = HCalls Tryd.prog G 21 args h K := by kernel_rfl
theorem cf22 {G h : Hp} {args : Array Value} {K : Value → Hp → Prop} : opH Tryd.prog G (callFunc 22 args) h K = HCalls Tryd.prog G 22 args h K := by kernel_rfl
theorem cf23 {G h : Hp} {args : Array Value} {K : Value → Hp → Prop} : opH Tryd.prog G (callFunc 23 args) h K = HCalls Tryd.prog G 23 args h K := by kernel_rfl
theorem cf24 {G h : Hp} {args : Array Value} {K : Value → Hp → Prop} : opH Tryd.prog G (callFunc 24 args) h K = HCalls Tryd.prog G 24 args h K := by kernel_rfl
theorem cf25 {G h : Hp} {args : Array Value} {K : Value → Hp → Prop} : opH Tryd.prog G (callFunc 25 args) h K = HCalls Tryd.prog G 25 args h K := by kernel_rfl
theorem cf26 {G h : Hp} {args : Array Value} {K : Value → Hp → Prop} : opH Tryd.prog G (callFunc 26 args) h K = HCalls Tryd.prog G 26 args h K := by kernel_rfl
theorem cf27 {G h : Hp} {args : Array Value} {K : Value → Hp → Prop} : opH Tryd.prog G (callFunc 27 args) h K = HCalls Tryd.prog G 27 args h K := by kernel_rfl
theorem cf28 {G h : Hp} {args : Array Value} {K : Value → Hp → Prop} : opH Tryd.prog G (callFunc 28 args) h K = HCalls Tryd.prog G 28 args h K := by kernel_rfl
theorem cf29 {G h : Hp} {args : Array Value} {K : Value → Hp → Prop} : opH Tryd.prog G (callFunc 29 args) h K = HCalls Tryd.prog G 29 args h K := by kernel_rfl
theorem cf30 {G h : Hp} {args : Array Value} {K : Value → Hp → Prop} : opH Tryd.prog G (callFunc 30 args) h K = HCalls Tryd.prog G 30 args h K := by kernel_rfl
theorem cf31 {G h : Hp} {args : Array Value} {K : Value → Hp → Prop} : opH Tryd.prog G (callFunc 31 args) h K = HCalls Tryd.prog G 31 args h K := by kernel_rfl
theorem cf32 {G h : Hp} {args : Array Value} {K : Value → Hp → Prop} : opH Tryd.prog G (callFunc 32 args) h K = HCalls Tryd.prog G 32 args h K := by kernel_rfl
theorem cf33 {G h : Hp} {args : Array Value} {K : Value → Hp → Prop} : opH Tryd.prog G (callFunc 33 args) h K = HCalls Tryd.prog G 33 args h K := by kernel_rfl
theorem cf34 {G h : Hp} {args : Array Value} {K : Value → Hp → Prop} : opH Tryd.prog G (callFunc 34 args) h K = HCalls Tryd.prog G 34 args h K := by kernel_rfl
theorem cf35 {G h : Hp} {args : Array Value} {K : Value → Hp → Prop} : opH Tryd.prog G (callFunc 35 args) h K = HCalls Tryd.prog G 35 args h K := by kernel_rfl
theorem cf36 {G h : Hp} {args : Array Value} {K : Value → Hp → Prop} : opH Tryd.prog G (callFunc 36 args) h K = HCalls Tryd.prog G 36 args h K := by kernel_rfl
theorem cf37 {G h : Hp} {args : Array Value} {K : Value → Hp → Prop} : opH Tryd.prog G (callFunc 37 args) h K = HCalls Tryd.prog G 37 args h K := by kernel_rfl
theorem cf38 {G h : Hp} {args : Array Value} {K : Value → Hp → Prop} : opH Tryd.prog G (callFunc 38 args) h K = HCalls Tryd.prog G 38 args h K := by kernel_rfl
theorem cf39 {G h : Hp} {args : Array Value} {K : Value → Hp → Prop} : opH Tryd.prog G (callFunc 39 args) h K = HCalls Tryd.prog G 39 args h K := by kernel_rfl
theorem cf40 {G h : Hp} {args : Array Value} {K : Value → Hp → Prop} : opH Tryd.prog G (callFunc 40 args) h K = HCalls Tryd.prog G 40 args h K := by kernel_rfl
theorem cf41 {G h : Hp} {args : Array Value} {K : Value → Hp → Prop} : opH Tryd.prog G (callFunc 41 args) h K = HCalls Tryd.prog G 41 args h K := by kernel_rfl
theorem cf42 {G h : Hp} {args : Array Value} {K : Value → Hp → Prop} : opH Tryd.prog G (callFunc 42 args) h K = HCalls Tryd.prog G 42 args h K := by kernel_rfl
theorem cf43 {G h : Hp} {args : Array Value} {K : Value → Hp → Prop} : opH Tryd.prog G (callFunc 43 args) h K = HCalls Tryd.prog G 43 args h K := by kernel_rfl
theorem cf44 {G h : Hp} {args : Array Value} {K : Value → Hp → Prop} : opH Tryd.prog G (callFunc 44 args) h K = HCalls Tryd.prog G 44 args h K := by kernel_rfl
theorem cf45 {G h : Hp} {args : Array Value} {K : Value → Hp → Prop} : opH Tryd.prog G (callFunc 45 args) h K = HCalls Tryd.prog G 45 args h K := by kernel_rfl
theorem cf46 {G h : Hp} {args : Array Value} {K : Value → Hp → Prop} : opH Tryd.prog G (callFunc 46 args) h K = HCalls Tryd.prog G 46 args h K := by kernel_rfl
theorem cf47 {G h : Hp} {args : Array Value} {K : Value → Hp → Prop} : opH Tryd.prog G (callFunc 47 args) h K = HCalls Tryd.prog G 47 args h K := by kernel_rfl
theorem cf48 {G h : Hp} {args : Array Value} {K : Value → Hp → Prop} : opH Tryd.prog G (callFunc 48 args) h K = HCalls Tryd.prog G 48 args h K := by kernel_rfl
theorem cf49 {G h : Hp} {args : Array Value} {K : Value → Hp → Prop} : opH Tryd.prog G (callFunc 49 args) h K = HCalls Tryd.prog G 49 args h K := by kernel_rfl
theorem cf50 {G h : Hp} {args : Array Value} {K : Value → Hp → Prop} : opH Tryd.prog G (callFunc 50 args) h K = HCalls Tryd.prog G 50 args h K := by kernel_rfl
theorem cf51 {G h : Hp} {args : Array Value} {K : Value → Hp → Prop} : opH Tryd.prog G (callFunc 51 args) h K = HCalls Tryd.prog G 51 args h K := by kernel_rfl
theorem cf52 {G h : Hp} {args : Array Value} {K : Value → Hp → Prop} : opH Tryd.prog G (callFunc 52 args) h K = HCalls Tryd.prog G 52 args h K := by kernel_rfl
theorem cf53 {G h : Hp} {args : Array Value} {K : Value → Hp → Prop} : opH Tryd.prog G (callFunc 53 args) h K = HCalls Tryd.prog G 53 args h K := by kernel_rfl
theorem cf54 {G h : Hp} {args : Array Value} {K : Value → Hp → Prop} : opH Tryd.prog G (callFunc 54 args) h K = HCalls Tryd.prog G 54 args h K := by kernel_rfl
theorem cf55 {G h : Hp} {args : Array Value} {K : Value → Hp → Prop} : opH Tryd.prog G (callFunc 55 args) h K = HCalls Tryd.prog G 55 args h K := by kernel_rfl
theorem cf56 {G h : Hp} {args : Array Value} {K : Value → Hp → Prop} : opH Tryd.prog G (callFunc 56 args) h K = HCalls Tryd.prog G 56 args h K := by kernel_rfl
theorem cf57 {G h : Hp} {args : Array Value} {K : Value → Hp → Prop} : opH Tryd.prog G (callFunc 57 args) h K = HCalls Tryd.prog G 57 args h K := by kernel_rfl
theorem cf58 {G h : Hp} {args : Array Value} {K : Value → Hp → Prop} : opH Tryd.prog G (callFunc 58 args) h K = HCalls Tryd.prog G 58 args h K := by kernel_rfl
theorem cf59 {G h : Hp} {args : Array Value} {K : Value → Hp → Prop} : opH Tryd.prog G (callFunc 59 args) h K = HCalls Tryd.prog G 59 args h K := by kernel_rfl
theorem cf60 {G h : Hp} {args : Array Value} {K : Value → Hp → Prop} : opH Tryd.prog G (callFunc 60 args) h K = HCalls Tryd.prog G 60 args h K := by kernel_rfl
theorem cf61 {G h : Hp} {args : Array Value} {K : Value → Hp → Prop} : opH Tryd.prog G (callFunc 61 args) h K = HCalls Tryd.prog G 61 args h K := by kernel_rfl
theorem cf62 {G h : Hp} {args : Array Value} {K : Value → Hp → Prop} : opH Tryd.prog G (callFunc 62 args) h K = HCalls Tryd.prog G 62 args h K := by kernel_rfl
theorem cf63 {G h : Hp} {args : Array Value} {K : Value → Hp → Prop} : opH Tryd.prog G (callFunc 63 args) h K = HCalls Tryd.prog G 63 args h K := by kernel_rfl
theorem cf64 {G h : Hp} {args : Array Value} {K : Value → Hp → Prop} : opH Tryd.prog G (callFunc 64 args) h K = HCalls Tryd.prog G 64 args h K := by kernel_rfl
theorem cf65 {G h : Hp} {args : Array Value} {K : Value → Hp → Prop} : opH Tryd.prog G (callFunc 65 args) h K = HCalls Tryd.prog G 65 args h K := by kernel_rfl
theorem cf66 {G h : Hp} {args : Array Value} {K : Value → Hp → Prop} : opH Tryd.prog G (callFunc 66 args) h K = HCalls Tryd.prog G 66 args h K := by kernel_rfl
theorem cf67 {G h : Hp} {args : Array Value} {K : Value → Hp → Prop} : opH Tryd.prog G (callFunc 67 args) h K = HCalls Tryd.prog G 67 args h K := by kernel_rfl
theorem cf68 {G h : Hp} {args : Array Value} {K : Value → Hp → Prop} : opH Tryd.prog G (callFunc 68 args) h K = HCalls Tryd.prog G 68 args h K := by kernel_rfl
theorem cf69 {G h : Hp} {args : Array Value} {K : Value → Hp → Prop} : opH Tryd.prog G (callFunc 69 args) h K = HCalls Tryd.prog G 69 args h K := by kernel_rfl
theorem cf70 {G h : Hp} {args : Array Value} {K : Value → Hp → Prop} : opH Tryd.prog G (callFunc 70 args) h K = HCalls Tryd.prog G 70 args h K := by kernel_rfl
theorem cf71 {G h : Hp} {args : Array Value} {K : Value → Hp → Prop} : opH Tryd.prog G (callFunc 71 args) h K = HCalls Tryd.prog G 71 args h K := by kernel_rfl
theorem cf72 {G h : Hp} {args : Array Value} {K : Value → Hp → Prop} : opH Tryd.prog G (callFunc 72 args) h K = HCalls Tryd.prog G 72 args h K := by kernel_rfl
theorem cf73 {G h : Hp} {args : Array Value} {K : Value → Hp → Prop} : opH Tryd.prog G (callFunc 73 args) h K = HCalls Tryd.prog G 73 args h K := by kernel_rfl
theorem cf74 {G h : Hp} {args : Array Value} {K : Value → Hp → Prop} : opH Tryd.prog G (callFunc 74 args) h K = HCalls Tryd.prog G 74 args h K := by kernel_rfl
theorem cf75 {G h : Hp} {args : Array Value} {K : Value → Hp → Prop} : opH Tryd.prog G (callFunc 75 args) h K = HCalls Tryd.prog G 75 args h K := by kernel_rfl
theorem bd26_0_1_2_7_8_9_10_11_12_13_14_4_15 {G h : Hp} {k0 : IntKind} {y0 : Int} {k1 : IntKind} {y1 : Int} {k2 : IntKind} {y2 : Int} {k7 : IntKind} {y7 : Int} {k8 : IntKind} {y8 : Int} {k9 : IntKind} {y9 : Int} {k10 : IntKind} {y10 : Int} {k11 : IntKind} {y11 : Int} {k12 : IntKind} {y12 : Int} {k13 : IntKind} {y13 : Int} {k14 : IntKind} {y14 : Int} {y4 : Option Addr} {n4 c4 : Nat} {y15 : Bool} {K : Value → Hp → Prop} : wpH Tryd.prog G (Instr.build 26 #[(0, (.int k0 y0)), (1, (.int k1 y1)), (2, (.int k2 y2)), (7, (.int k7 y7)), (8, (.int k8 y8)), (9, (.int k9 y9)), (10, (.int k10 y10)), (11, (.int k11 y11)), (12, (.int k12 y12)), (13, (.int k13 y13)), (14, (.int k14 y14)), (4, (.slice y4 n4 c4)), (15, (.bool y15))]) h K = K (.agg #[(.int k0 y0), (.int k1 y1), (.int k2 y2), (.slice none 0 0), (.slice y4 n4 c4), (.slice none 0 0), (.slice none 0 0), (.int k7 y7), (.int k8 y8), (.int k9 y9), (.int k10 y10), (.int k11 y11), (.int k12 y12), (.int k13 y13), (.int k14 y14), (.bool y15)]) h := by kernel_rfl
theorem bd26_0_1_2_7_8_9_10_11_12_13_14_4_15p {G h : Hp} {k0 : IntKind} {y0 : Int} {k1 : IntKind} {y1 : Int} {k2 : IntKind} {y2 : Int} {k7 : IntKind} {y7 : Int} {k8 : IntKind} {y8 : Int} {k9 : IntKind} {y9 : Int} {k10 : IntKind} {y10 : Int} {k11 : IntKind} {y11 : Int} {k12 : IntKind} {y12 : Int} {k13 : IntKind} {y13 : Int} {k14 : IntKind} {y14 : Int} {y4 : Option Addr} {n4 c4 : Nat} {y15 : Bool} {K : Value → Prop} : pw Tryd.prog G h (Instr.build 26 #[(0, (.int k0 y0)), (1, (.int k1 y1)), (2, (.int k2 y2)), (7, (.int k7 y7)), (8, (.int k8 y8)), (9, (.int k9 y9)), (10, (.int k10 y10)), (11, (.int k11 y11)), (12, (.int k12 y12)), (13, (.int k13 y13)), (14, (.int k14 y14)), (4, (.slice y4 n4 c4)), (15, (.bool y15))]) K = K (.agg #[(.int k0 y0), (.int k1 y1), (.int k2 y2), (.slice none 0 0), (.slice y4 n4 c4), (.slice none 0 0), (.slice none 0 0), (.int k7 y7), (.int k8 y8), (.int k9 y9), (.int k10 y10), (.int k11 y11), (.int k12 y12), (.int k13 y13), (.int k14 y14), (.bool y15)]) := by kernel_rfl
theorem bd28_ {G h : Hp}  {K : Value → Hp → Prop} : wpH Tryd.prog G (Instr.build 28 #[]) h K = K (.agg #[(.int .i64 0), (.int .i64 0)]) h := by kernel_rfl
theorem bd28_p {G h : Hp}  {K : Value → Prop} : pw Tryd.prog G h (Instr.build 28 #[]) K = K (.agg #[(.int .i64 0), (.int .i64 0)]) := by kernel_rfl
theorem bd28_0 {G h : Hp} {k0 : IntKind} {y0 : Int} {K : Value → Hp → Prop} : wpH Tryd.prog G (Instr.build 28 #[(0, (.int k0 y0))]) h K = K (.agg #[(.int k0 y0), (.int .i64 0)]) h := by kernel_rfl
theorem bd28_0p {G h : Hp} {k0 : IntKind} {y0 : Int} {K : Value → Prop} : pw Tryd.prog G h (Instr.build 28 #[(0, (.int k0 y0))]) K = K (.agg #[(.int k0 y0), (.int .i64 0)]) := by kernel_rfl
theorem bd28_0_1 {G h : Hp} {k0 : IntKind} {y0 : Int} {k1 : IntKind} {y1 : Int} {K : Value → Hp → Prop} : wpH Tryd.prog G (Instr.build 28 #[(0, (.int k0 y0)), (1, (.int k1 y1))]) h K = K (.agg #[(.int k0 y0), (.int k1 y1)]) h := by kernel_rfl
theorem bd28_0_1p {G h : Hp} {k0 : IntKind} {y0 : Int} {k1 : IntKind} {y1 : Int} {K : Value → Prop} : pw Tryd.prog G h (Instr.build 28 #[(0, (.int k0 y0)), (1, (.int k1 y1))]) K = K (.agg #[(.int k0 y0), (.int k1 y1)]) := by kernel_rfl
theorem bd45_1_3_4_5_6 {G h : Hp} {k1 : IntKind} {y1 : Int} {k3 : IntKind} {y3 : Int} {y4_0 y4_1 : Value} {y5_0 y5_1 : Value} {k6 : IntKind} {y6 : Int} {K : Value → Hp → Prop} : wpH Tryd.prog G (Instr.build 45 #[(1, (.int k1 y1)), (3, (.int k3 y3)), (4, (.agg #[y4_0, y4_1])), (5, (.agg #[y5_0, y5_1])), (6, (.int k6 y6))]) h K = K (.agg #[(.int .i64 0), (.int k1 y1), (.int .i64 0), (.int k3 y3), y4_0, y4_1, y5_0, y5_1, (.int k6 y6)]) h := by kernel_rfl
theorem bd45_1_3_4_5_6p {G h : Hp} {k1 : IntKind} {y1 : Int} {k3 : IntKind} {y3 : Int} {y4_0 y4_1 : Value} {y5_0 y5_1 : Value} {k6 : IntKind} {y6 : Int} {K : Value → Prop} : pw Tryd.prog G h (Instr.build 45 #[(1, (.int k1 y1)), (3, (.int k3 y3)), (4, (.agg #[y4_0, y4_1])), (5, (.agg #[y5_0, y5_1])), (6, (.int k6 y6))]) K = K (.agg #[(.int .i64 0), (.int k1 y1), (.int .i64 0), (.int k3 y3), y4_0, y4_1, y5_0, y5_1, (.int k6 y6)]) := by kernel_rfl
theorem bd49_0_1 {G h : Hp} {y0_0 y0_1 : Value} {y1 : Option Addr} {n1 c1 : Nat} {K : Value → Hp → Prop} : wpH Tryd.prog G (Instr.build 49 #[(0, (.agg #[y0_0, y0_1])), (1, (.slice y1 n1 c1))]) h K = K (.agg #[y0_0, y0_1, (.slice y1 n1 c1)]) h := by kernel_rfl
theorem bd49_0_1p {G h : Hp} {y0_0 y0_1 : Value} {y1 : Option Addr} {n1 c1 : Nat} {K : Value → Prop} : pw Tryd.prog G h (Instr.build 49 #[(0, (.agg #[y0_0, y0_1])), (1, (.slice y1 n1 c1))]) K = K (.agg #[y0_0, y0_1, (.slice y1 n1 c1)]) := by kernel_rfl
theorem bd49_1 {G h : Hp} {y1 : Option Addr} {n1 c1 : Nat} {K : Value → Hp → Prop} : wpH Tryd.prog G (Instr.build 49 #[(1, (.slice y1 n1 c1))]) h K = K (.agg #[(.int .i64 0), (.int .i64 0), (.slice y1 n1 c1)]) h := by kernel_rfl
theorem bd49_1p {G h : Hp} {y1 : Option Addr} {n1 c1 : Nat} {K : Value → Prop} : pw Tryd.prog G h (Instr.build 49 #[(1, (.slice y1 n1 c1))]) K = K (.agg #[(.int .i64 0), (.int .i64 0), (.slice y1 n1 c1)]) := by kernel_rfl
theorem bd74_0_1_2_3 {G h : Hp} {y0_0 y0_1 y0_2 y0_3 y0_4 y0_5 y0_6 y0_7 y0_8 y0_9 y0_10 y0_11 y0_12 y0_13 y0_14 y0_15 : Value} {y1 : Option Addr} {y2 : Option Nat} {y3 : Option Addr} {n3 c3 : Nat} {K : Value → Hp → Prop} : wpH Tryd.prog G (Instr.build 74 #[(0, (.agg #[y0_0, y0_1, y0_2, y0_3, y0_4, y0_5, y0_6, y0_7, y0_8, y0_9, y0_10, y0_11, y0_12, y0_13, y0_14, y0_15])), (1, (.pointer y1)), (2, (.map y2)), (3, (.slice y3 n3 c3))]) h K = K (.agg #[y0_0, y0_1, y0_2, y0_3, y0_4, y0_5, y0_6, y0_7, y0_8, y0_9, y0_10, y0_11, y0_12, y0_13, y0_14, y0_15, (.pointer y1), (.map y2), (.slice y3 n3 c3)]) h := by kernel_rfl
theorem bd74_0_1_2_3p {G h : Hp} {y0_0 y0_1 y0_2 y0_3 y0_4 y0_5 y0_6 y0_7 y0_8 y0_9 y0_10 y0_11 y0_12 y0_13 y0_14 y0_15 : Value} {y1 : Option Addr} {y2 : Option Nat} {y3 : Option Addr} {n3 c3 : Nat} {K : Value → Prop} : pw Tryd.prog G h (Instr.build 74 #[(0, (.agg #[y0_0, y0_1, y0_2, y0_3, y0_4, y0_5, y0_6, y0_7, y0_8, y0_9, y0_10, y0_11, y0_12, y0_13, y0_14, y0_15])), (1, (.pointer y1)), (2, (.map y2)), (3, (.slice y3 n3 c3))]) K = K (.agg #[y0_0, y0_1, y0_2, y0_3, y0_4, y0_5, y0_6, y0_7, y0_8, y0_9, y0_10, y0_11, y0_12, y0_13, y0_14, y0_15, (.pointer y1), (.map y2), (.slice y3 n3 c3)]) := by kernel_rfl
theorem bd85_0 {G h : Hp} {y0_0 y0_1 : Value} {K : Value → Hp → Prop} : wpH Tryd.prog G (Instr.build 85 #[(0, (.agg #[y0_0, y0_1]))]) h K = K (.agg #[y0_0, y0_1, (.bool false)]) h := by kernel_rfl
theorem bd85_0p {G h : Hp} {y0_0 y0_1 : Value} {K : Value → Prop} : pw Tryd.prog G h (Instr.build 85 #[(0, (.agg #[y0_0, y0_1]))]) K = K (.agg #[y0_0, y0_1, (.bool false)]) := by kernel_rfl
theorem bd85_0_1 {G h : Hp} {y0_0 y0_1 : Value} {y1 : Bool} {K : Value → Hp → Prop} : wpH Tryd.prog G (Instr.build 85 #[(0, (.agg #[y0_0, y0_1])), (1, (.bool y1))]) h K = K (.agg #[y0_0, y0_1, (.bool y1)]) h := by kernel_rfl
theorem bd85_0_1p {G h : Hp} {y0_0 y0_1 : Value} {y1 : Bool} {K : Value → Prop} : pw Tryd.prog G h (Instr.build 85 #[(0, (.agg #[y0_0, y0_1])), (1, (.bool y1))]) K = K (.agg #[y0_0, y0_1, (.bool y1)]) := by kernel_rfl
theorem bd93_0_1_2 {G h : Hp} {k0 : IntKind} {y0 : Int} {k1 : IntKind} {y1 : Int} {y2 : Option Addr} {n2 c2 : Nat} {K : Value → Hp → Prop} : wpH Tryd.prog G (Instr.build 93 #[(0, (.int k0 y0)), (1, (.int k1 y1)), (2, (.slice y2 n2 c2))]) h K = K (.agg #[(.int k0 y0), (.int k1 y1), (.slice y2 n2 c2)]) h := by kernel_rfl
theorem bd93_0_1_2p {G h : Hp} {k0 : IntKind} {y0 : Int} {k1 : IntKind} {y1 : Int} {y2 : Option Addr} {n2 c2 : Nat} {K : Value → Prop} : pw Tryd.prog G h (Instr.build 93 #[(0, (.int k0 y0)), (1, (.int k1 y1)), (2, (.slice y2 n2 c2))]) K = K (.agg #[(.int k0 y0), (.int k1 y1), (.slice y2 n2 c2)]) := by kernel_rfl
theorem bd94_0_1_2_3 {G h : Hp} {k0 : IntKind} {y0 : Int} {k1 : IntKind} {y1 : Int} {k2 : IntKind} {y2 : Int} {k3 : IntKind} {y3 : Int} {K : Value → Hp → Prop} : wpH Tryd.prog G (Instr.build 94 #[(0, (.int k0 y0)), (1, (.int k1 y1)), (2, (.int k2 y2)), (3, (.int k3 y3))]) h K = K (.agg #[(.int k0 y0), (.int k1 y1), (.int k2 y2), (.int k3 y3)]) h := by kernel_rfl
theorem bd94_0_1_2_3p {G h : Hp} {k0 : IntKind} {y0 : Int} {k1 : IntKind} {y1 : Int} {k2 : IntKind} {y2 : Int} {k3 : IntKind} {y3 : Int} {K : Value → Prop} : pw Tryd.prog G h (Instr.build 94 #[(0, (.int k0 y0)), (1, (.int k1 y1)), (2, (.int k2 y2)), (3, (.int k3 y3))]) K = K (.agg #[(.int k0 y0), (.int k1 y1), (.int k2 y2), (.int k3 y3)]) := by kernel_rfl
theorem bs42_1_0 {G h : Hp} {k0 : IntKind} {y0 : Int} {K : Value → Hp → Prop} : wpH Tryd.prog G (Instr.buildSlice 42 1 #[(0, (.int k0 y0))]) h K = ∀ x, h x = none → G x = none → K (.slice (some ⟨x, 0, none⟩) 1 1) (h.set x (.cells #[(.int k0 y0)] 3 (0, 0))) := by kernel_rfl
theorem bs22_1_0 {G h : Hp} {y0_0 y0_1 : Value} {K : Value → Hp → Prop} : wpH Tryd.prog G (Instr.buildSlice 22 1 #[(0, (.agg #[y0_0, y0_1]))]) h K = ∀ x, h x = none → G x = none → K (.slice (some ⟨x, 0, none⟩) 1 1) (h.set x (.cells #[y0_0, y0_1] 28 (0, 0))) := by kernel_rfl
theorem bs24_1_0 {G h : Hp} {y0_0 y0_1 y0_2 : Value} {K : Value → Hp → Prop} : wpH Tryd.prog G (Instr.buildSlice 24 1 #[(0, (.agg #[y0_0, y0_1, y0_2]))]) h K = ∀ x, h x = none → G x = none → K (.slice (some ⟨x, 0, none⟩) 1 1) (h.set x (.cells #[y0_0, y0_1, y0_2] 49 (0, 0))) := by kernel_rfl
theorem bs42_3_0_1_2 {G h : Hp} {k0 : IntKind} {y0 : Int} {k1 : IntKind} {y1 : Int} {k2 : IntKind} {y2 : Int} {K : Value → Hp → Prop} : wpH Tryd.prog G (Instr.buildSlice 42 3 #[(0, (.int k0 y0)), (1, (.int k1 y1)), (2, (.int k2 y2))]) h K = ∀ x, h x = none → G x = none → K (.slice (some ⟨x, 0, none⟩) 3 3) (h.set x (.cells #[(.int k0 y0), (.int k1 y1), (.int k2 y2)] 3 (0, 0))) := by kernel_rfl
theorem bs31_1_0 {G h : Hp} {y0_0 y0_1 y0_2 y0_3 y0_4 y0_5 y0_6 y0_7 y0_8 : Value} {K : Value → Hp → Prop} : wpH Tryd.prog G (Instr.buildSlice 31 1 #[(0, (.agg #[y0_0, y0_1, y0_2, y0_3, y0_4, y0_5, y0_6, y0_7, y0_8]))]) h K = ∀ x, h x = none → G x = none → K (.slice (some ⟨x, 0, none⟩) 1 1) (h.set x (.cells #[y0_0, y0_1, y0_2, y0_3, y0_4, y0_5, y0_6, y0_7, y0_8] 45 (0, 0))) := by kernel_rfl
theorem bs22_2_0_1 {G h : Hp} {y0_0 y0_1 : Value} {y1_0 y1_1 : Value} {K : Value → Hp → Prop} : wpH Tryd.prog G (Instr.buildSlice 22 2 #[(0, (.agg #[y0_0, y0_1])), (1, (.agg #[y1_0, y1_1]))]) h K = ∀ x, h x = none → G x = none → K (.slice (some ⟨x, 0, none⟩) 2 2) (h.set x (.cells #[y0_0, y0_1, y1_0, y1_1] 28 (0, 0))) := by kernel_rfl
theorem bs42_6_0_1_2_3_4_5 {G h : Hp} {k0 : IntKind} {y0 : Int} {k1 : IntKind} {y1 : Int} {k2 : IntKind} {y2 : Int} {k3 : IntKind} {y3 : Int} {k4 : IntKind} {y4 : Int} {k5 : IntKind} {y5 : Int} {K : Value → Hp → Prop} : wpH Tryd.prog G (Instr.buildSlice 42 6 #[(0, (.int k0 y0)), (1, (.int k1 y1)), (2, (.int k2 y2)), (3, (.int k3 y3)), (4, (.int k4 y4)), (5, (.int k5 y5))]) h K = ∀ x, h x = none → G x = none → K (.slice (some ⟨x, 0, none⟩) 6 6) (h.set x (.cells #[(.int k0 y0), (.int k1 y1), (.int k2 y2), (.int k3 y3), (.int k4 y4), (.int k5 y5)] 3 (0, 0))) := by kernel_rfl
theorem bs42_0_ {G h : Hp}  {K : Value → Hp → Prop} : wpH Tryd.prog G (Instr.buildSlice 42 0 #[]) h K = ∀ x, h x = none → G x = none → K (.slice (some ⟨x, 0, none⟩) 0 0) (h.set x (.cells #[] 3 (0, 0))) := by kernel_rfl
theorem eo45 : ElemOk Tryd.prog 45 9 72 := ⟨by kernel_rfl, by kernel_rfl, by kernel_rfl⟩
theorem eq4 {G h : Hp} {cx cy : Operand} {x y : Bool} {K : Value → Hp → Prop} : opH Tryd.prog G (xEq .eql 4 cx cy (.bool x) (.bool y)) h K = K (.bool ((x == y))) h := by kernel_rfl
theorem eq4p {G h h1 : Hp} {cx cy : Operand} {x y : Bool} {K : Value → Hp → Prop} : pureW Tryd.prog G h1 (xEq .eql 4 cx cy (.bool x) (.bool y)) h K = K (.bool ((x == y))) h := by kernel_rfl
theorem deq28 (d : Nat) {x0 y0 : Int} {x1 y1 : Int} : Det Tryd.prog (Op.equalIn (d + 1 + 1) 28 (.agg #[.int .i64 x0, .int .i64 x1]) (.agg #[.int .i64 y0, .int .i64 y1])) ((x0 == y0) && ((x1 == y1) && true)) := by
  refine eqD_struct Tryd.underlying28 (by kernel_rfl) ?_
  refine eqF_cons (by decide) (part_cell Tryd.underlying3 rfl rfl) (part_cell Tryd.underlying3 rfl rfl) (eqD_int (d := d + 0) Tryd.underlying3) ?_
  refine eqF_cons (by decide) (part_cell Tryd.underlying3 rfl rfl) (part_cell Tryd.underlying3 rfl rfl) (eqD_int (d := d + 0) Tryd.underlying3) ?_
  exact eqF_nil
theorem eq28 {G h : Hp} {cx cy : Operand} {x0 y0 : Int} {x1 y1 : Int} {K : Value → Hp → Prop} : opH Tryd.prog G (xEq .eql 28 cx cy (.agg #[.int .i64 x0, .int .i64 x1]) (.agg #[.int .i64 y0, .int .i64 y1])) h K = K (.bool (((x0 == y0) && ((x1 == y1) && true)))) h := eq_agg (by kernel_rfl) (deq28 9998)
theorem eq28p {G h h1 : Hp} {cx cy : Operand} {x0 y0 : Int} {x1 y1 : Int} {K : Value → Hp → Prop} : pureW Tryd.prog G h1 (xEq .eql 28 cx cy (.agg #[.int .i64 x0, .int .i64 x1]) (.agg #[.int .i64 y0, .int .i64 y1])) h K = K (.bool (((x0 == y0) && ((x1 == y1) && true)))) h := eq_aggp (by kernel_rfl) (deq28 9998)
theorem eq42n {G h : Hp} {cx cy : Operand} {n c m d : Nat} {K : Value → Hp → Prop} : opH Tryd.prog G (xEq .eql 42 cx cy (.slice none n c) (.slice none m d)) h K = K (.bool true) h := by kernel_rfl
theorem eq42np {G h h1 : Hp} {cx cy : Operand} {n c m d : Nat} {K : Value → Hp → Prop} : pureW Tryd.prog G h1 (xEq .eql 42 cx cy (.slice none n c) (.slice none m d)) h K = K (.bool true) h := by kernel_rfl
theorem eq42s {G h : Hp} {cx cy : Operand} {a : Addr} {n c m d : Nat} {K : Value → Hp → Prop} : opH Tryd.prog G (xEq .eql 42 cx cy (.slice (some a) n c) (.slice none m d)) h K = K (.bool false) h := by kernel_rfl
theorem eq42sp {G h h1 : Hp} {cx cy : Operand} {a : Addr} {n c m d : Nat} {K : Value → Hp → Prop} : pureW Tryd.prog G h1 (xEq .eql 42 cx cy (.slice (some a) n c) (.slice none m d)) h K = K (.bool false) h := by kernel_rfl
theorem eq58n {G h : Hp} {cx cy : Operand}  {K : Value → Hp → Prop} : opH Tryd.prog G (xEq .eql 58 cx cy (.pointer none) (.pointer none)) h K = K (.bool true) h := by kernel_rfl
theorem eq58np {G h h1 : Hp} {cx cy : Operand}  {K : Value → Hp → Prop} : pureW Tryd.prog G h1 (xEq .eql 58 cx cy (.pointer none) (.pointer none)) h K = K (.bool true) h := by kernel_rfl
theorem eq58s {G h : Hp} {cx cy : Operand} {a : Addr} {K : Value → Hp → Prop} : opH Tryd.prog G (xEq .eql 58 cx cy (.pointer (some a)) (.pointer none)) h K = K (.bool false) h := by kernel_rfl
theorem eq58sp {G h h1 : Hp} {cx cy : Operand} {a : Addr} {K : Value → Hp → Prop} : pureW Tryd.prog G h1 (xEq .eql 58 cx cy (.pointer (some a)) (.pointer none)) h K = K (.bool false) h := by kernel_rfl
theorem eq63n {G h : Hp} {cx cy : Operand}  {K : Value → Hp → Prop} : opH Tryd.prog G (xEq .eql 63 cx cy .nilFunc .nilFunc) h K = K (.bool true) h := by kernel_rfl
theorem eq63np {G h h1 : Hp} {cx cy : Operand}  {K : Value → Hp → Prop} : pureW Tryd.prog G h1 (xEq .eql 63 cx cy .nilFunc .nilFunc) h K = K (.bool true) h := by kernel_rfl
theorem eq63s {G h : Hp} {cx cy : Operand} {f : Fn} {p q : Array Value} {K : Value → Hp → Prop} : opH Tryd.prog G (xEq .eql 63 cx cy (.func f p q) .nilFunc) h K = K (.bool false) h := by kernel_rfl
theorem eq63sp {G h h1 : Hp} {cx cy : Operand} {f : Fn} {p q : Array Value} {K : Value → Hp → Prop} : pureW Tryd.prog G h1 (xEq .eql 63 cx cy (.func f p q) .nilFunc) h K = K (.bool false) h := by kernel_rfl
theorem ne28 {G h : Hp} {cx cy : Operand} {x0 y0 : Int} {x1 y1 : Int} {K : Value → Hp → Prop} : opH Tryd.prog G (xEq .neq 28 cx cy (.agg #[.int .i64 x0, .int .i64 x1]) (.agg #[.int .i64 y0, .int .i64 y1])) h K = K (.bool (!((x0 == y0) && ((x1 == y1) && true)))) h := ne_agg (by kernel_rfl) (deq28 9998)
theorem ne28p {G h h1 : Hp} {cx cy : Operand} {x0 y0 : Int} {x1 y1 : Int} {K : Value → Hp → Prop} : pureW Tryd.prog G h1 (xEq .neq 28 cx cy (.agg #[.int .i64 x0, .int .i64 x1]) (.agg #[.int .i64 y0, .int .i64 y1])) h K = K (.bool (!((x0 == y0) && ((x1 == y1) && true)))) h := ne_aggp (by kernel_rfl) (deq28 9998)
theorem deq45 (d : Nat) {x0 y0 : Int} {x1 y1 : Int} {x2 y2 : Int} {x3 y3 : Int} {x4 y4 : Int} {x5 y5 : Int} {x6 y6 : Int} {x7 y7 : Int} {x8 y8 : Int} : Det Tryd.prog (Op.equalIn (d + 2 + 1) 45 (.agg #[.int .i64 x0, .int .i64 x1, .int .i64 x2, .int .i64 x3, .int .i64 x4, .int .i64 x5, .int .i64 x6, .int .i64 x7, .int .i64 x8]) (.agg #[.int .i64 y0, .int .i64 y1, .int .i64 y2, .int .i64 y3, .int .i64 y4, .int .i64 y5, .int .i64 y6, .int .i64 y7, .int .i64 y8])) ((x0 == y0) && ((x1 == y1) && ((x2 == y2) && ((x3 == y3) && (((x4 == y4) && ((x5 == y5) && true)) && (((x6 == y6) && ((x7 == y7) && true)) && ((x8 == y8) && true))))))) := by
  refine eqD_struct Tryd.underlying45 (by kernel_rfl) ?_
  refine eqF_cons (by decide) (part_cell Tryd.underlying3 rfl rfl) (part_cell Tryd.underlying3 rfl rfl) (eqD_int (d := d + 1) Tryd.underlying3) ?_
  refine eqF_cons (by decide) (part_cell Tryd.underlying3 rfl rfl) (part_cell Tryd.underlying3 rfl rfl) (eqD_int (d := d + 1) Tryd.underlying3) ?_
  refine eqF_cons (by decide) (part_cell Tryd.underlying3 rfl rfl) (part_cell Tryd.underlying3 rfl rfl) (eqD_int (d := d + 1) Tryd.underlying3) ?_
  refine eqF_cons (by decide) (part_cell Tryd.underlying3 rfl rfl) (part_cell Tryd.underlying3 rfl rfl) (eqD_int (d := d + 1) Tryd.underlying3) ?_
  refine eqF_cons (by decide) (part_agg Tryd.underlying28 (n := 2) (by kernel_rfl)) (part_agg Tryd.underlying28 (n := 2) (by kernel_rfl)) (deq28 (d + 0)) ?_
  refine eqF_cons (by decide) (part_agg Tryd.underlying28 (n := 2) (by kernel_rfl)) (part_agg Tryd.underlying28 (n := 2) (by kernel_rfl)) (deq28 (d + 0)) ?_
  refine eqF_cons (by decide) (part_cell Tryd.underlying3 rfl rfl) (part_cell Tryd.underlying3 rfl rfl) (eqD_int (d := d + 1) Tryd.underlying3) ?_
  exact eqF_nil
theorem ne45 {G h : Hp} {cx cy : Operand} {x0 y0 : Int} {x1 y1 : Int} {x2 y2 : Int} {x3 y3 : Int} {x4 y4 : Int} {x5 y5 : Int} {x6 y6 : Int} {x7 y7 : Int} {x8 y8 : Int} {K : Value → Hp → Prop} : opH Tryd.prog G (xEq .neq 45 cx cy (.agg #[.int .i64 x0, .int .i64 x1, .int .i64 x2, .int .i64 x3, .int .i64 x4, .int .i64 x5, .int .i64 x6, .int .i64 x7, .int .i64 x8]) (.agg #[.int .i64 y0, .int .i64 y1, .int .i64 y2, .int .i64 y3, .int .i64 y4, .int .i64 y5, .int .i64 y6, .int .i64 y7, .int .i64 y8])) h K = K (.bool (!((x0 == y0) && ((x1 == y1) && ((x2 == y2) && ((x3 == y3) && (((x4 == y4) && ((x5 == y5) && true)) && (((x6 == y6) && ((x7 == y7) && true)) && ((x8 == y8) && true))))))))) h := ne_agg (by kernel_rfl) (deq45 9997)
theorem ne45p {G h h1 : Hp} {cx cy : Operand} {x0 y0 : Int} {x1 y1 : Int} {x2 y2 : Int} {x3 y3 : Int} {x4 y4 : Int} {x5 y5 : Int} {x6 y6 : Int} {x7 y7 : Int} {x8 y8 : Int} {K : Value → Hp → Prop} : pureW Tryd.prog G h1 (xEq .neq 45 cx cy (.agg #[.int .i64 x0, .int .i64 x1, .int .i64 x2, .int .i64 x3, .int .i64 x4, .int .i64 x5, .int .i64 x6, .int .i64 x7, .int .i64 x8]) (.agg #[.int .i64 y0, .int .i64 y1, .int .i64 y2, .int .i64 y3, .int .i64 y4, .int .i64 y5, .int .i64 y6, .int .i64 y7, .int .i64 y8])) h K = K (.bool (!((x0 == y0) && ((x1 == y1) && ((x2 == y2) && ((x3 == y3) && (((x4 == y4) && ((x5 == y5) && true)) && (((x6 == y6) && ((x7 == y7) && true)) && ((x8 == y8) && true))))))))) h := ne_aggp (by kernel_rfl) (deq45 9997)
end Go.Proofs.YtangejiigopdaaaDoor
end

section
/- A text of the proofs. -/
set_option linter.unusedVariables false
set_option maxRecDepth 100000
namespace Go.Proofs.YtangejiigopdaaaDoor
open Go Go.HL
def md14 : Nat → Hint
  | 6 => ⟨false, [0, 0, 2, 0, 14, 30, 63, 127, 255, 511, 1023, 511, 2559, 511, 14847, 31231, 65535, 131071, 262143, 524287, 1048575, 2097151, 1048575, 5242879, 1048575, 30408703, 63963135, 134217727, 268435455, 536870911], [.pureM, .pureN, .pureM, .pureN, .pureN, .pureM, .eff, .pureN, .pureN, .pureN, .pureM, .pureN, .pureM, .pureN, .pureN, .pureM, .eff, .pureN, .pureN, .pureN, .pureN, .pureM, .pureN, .pureM, .pureN, .pureN, .pureM, .eff, .pureN, .pureN], [.pureM, .pureN, .pureM, .pureN, .pureN, .pureM, .eff, .pureN, .pureN, .pureN, .late, .pureN, .late, .pureN, .pureN, .late, .eff, .pureN, .pureN, .pureN, .pureN, .late, .pureN, .late, .pureN, .pureN, .late, .eff, .pureN, .pureN], [false, false, false, false, false, false, false, false, false, false, false, false, false, false, false, false, false, false, false, false, false, false, false, false, false, false, false, false, false, false], false⟩
  | 11 => ⟨false, [0, 0, 2, 0, 14, 30, 63, 127, 255, 511, 1023, 511, 2559, 511, 14847, 31231, 65535, 131071, 262143, 524287, 1048575, 1048575, 3145727, 1048575, 15728639, 32505855, 67108863, 134217727, 268435455, 536870911, 536870911, 1610612735, 536870911, 8053063679, 16642998271, 34359738367, 68719476735, 137438953471], [.pureM, .pureN, .pureM, .pureN, .pureN, .pureM, .eff, .pureN, .pureN, .pureN, .pureM, .pureN, .pureM, .pureN, .pureN, .pureM, .eff, .pureN, .pureN, .pureN, .pureM, .pureN, .pureM, .pureN, .pureN, .pureM, .eff, .pureN, .pureN, .pureM, .pureN, .pureM, .pureN, .pureN, .pureM, .eff, .pureN, .pureN], [.pureM, .pureN, .pureM, .pureN, .pureN, .pureM, .eff, .pureN, .pureN, .pureN, .late, .pureN, .late, .pureN, .pureN, .late, .eff, .pureN, .pureN, .pureN, .late, .pureN, .late, .pureN, .pureN, .late, .eff, .pureN, .pureN, .late, .pureN, .late, .pureN, .pureN, .late, .eff, .pureN, .pureN], [false, false, false, false, false, false, false, false, false, false, false, false, false, false, false, false, false, false, false, false, false, false, false, false, false, false, false, false, false, false, false, false, false, false, false, false, false, false], false⟩
  | 17 => ⟨false, [0, 0, 2, 0, 14, 30, 63, 127], [.pureM, .pureN, .pureM, .pureN, .pureN, .pureM, .eff, .pureN], [.pureM, .pureN, .pureM, .pureN, .pureN, .pureM, .eff, .pureN], [false, false, false, false, false, false, false, false], false⟩
  | _ => ⟨false, [], [], [], [], false⟩
def S14_k5 (G : Hp) (K : Exit → Rg → Hp → Prop) (r : Rg) (h : Hp) : Prop :=
  opH Tryd.prog G (sv (Instr.loadAt 26 (r 1))) h fun v19 h19 =>
  opH Tryd.prog G (callFunc 46 #[v19]) h19 fun v20 h20 =>
  K .ret (upd (upd (upd r 147 v19) 148 v20) 2 v20) h20
def S14_l6_k8 (G : Hp) (K : Exit → Rg → Hp → Prop) (r : Rg) (h : Hp) : Prop :=
  opH Tryd.prog G (sv (binOp .add 3 (r 7) (.int .i64 1))) h fun v23 h23 =>
  K .normal (upd (upd (upd r 138 (r 7)) 139 v23) 7 v23) h23
def S14_l6_k7 (G : Hp) (K : Exit → Rg → Hp → Prop) (r : Rg) (h : Hp) : Prop :=
  opH Tryd.prog G (sv (Instr.indexAt 22 (r 5) (r 7))) h fun v24 h24 =>
  opH Tryd.prog G (sv (Instr.loadAt 28 v24)) h24 fun v25 h25 =>
  opH Tryd.prog G (callFunc 41 #[(r 5), v25]) h25 fun v26 h26 =>
  opH Tryd.prog G (sv (binOp .gtr 3 v26 (.int .i64 1))) h26 fun v27 h27 =>
  cond v27
  (K .ret (upd (upd (upd (upd (upd (upd (upd (upd r 140 (r 5)) 141 (r 5)) 142 (r 7)) 143 v24) 144 v25) 145 v26) 146 v27) 2 (.bool false)) h27)
  (S14_l6_k8 G K (upd (upd (upd (upd (upd (upd (upd r 140 (r 5)) 141 (r 5)) 142 (r 7)) 143 v24) 144 v25) 145 v26) 146 v27) h27)
def S14_l6 (G : Hp) (r : Rg) (h : Hp) (K : Exit → Rg → Hp → Prop) : Prop :=
  opH Tryd.prog G (sv (Builtin.len_ #[22] 3 #[(r 5)])) h fun v21 h21 =>
  opH Tryd.prog G (sv (binOp .lss 3 (r 7) v21)) h21 fun v22 h22 =>
  cond v22
  (S14_l6_k7 G K (upd (upd (upd (upd r 134 (r 7)) 135 (r 5)) 136 v21) 137 v22) h22)
  (K (.exit 6) (upd (upd (upd (upd r 134 (r 7)) 135 (r 5)) 136 v21) 137 v22) h22)
def S14_k4 (G : Hp) (K : Exit → Rg → Hp → Prop) (r : Rg) (h : Hp) : Prop :=
  loopP (S14_l6 G) (upd r 7 (.int .i64 0)) h (blockK 6 (thenK (S14_k5 G K) K))
def S14_l9_k11 (G : Hp) (K : Exit → Rg → Hp → Prop) (r : Rg) (h : Hp) : Prop :=
  opH Tryd.prog G (sv (binOp .add 3 (r 6) (.int .i64 1))) h fun v32 h32 =>
  K .normal (upd (upd (upd r 116 (r 6)) 117 v32) 6 v32) h32
def S14_l9_k12 (G : Hp) (K : Exit → Rg → Hp → Prop) (r : Rg) (h : Hp) : Prop :=
  opH Tryd.prog G (sv (Instr.fieldAt 26 (r 1) 5)) h fun v40 h40 =>
  opH Tryd.prog G (sv (Instr.loadAt 23 v40)) h40 fun v41 h41 =>
  opH Tryd.prog G (sv (Instr.indexAt 23 v41 (r 6))) h41 fun v42 h42 =>
  opH Tryd.prog G (sv (Instr.loadAt 85 v42)) h42 fun v43 h43 =>
  opH Tryd.prog G (callFunc 45 #[v43]) h43 fun v44 h44 =>
  opH Tryd.prog G (sv (Builtin.append_ #[22, 22] 22 #[(r 5), v44])) h44 fun v45 h45 =>
  S14_l9_k11 G K (upd (upd (upd (upd (upd (upd (upd (upd (upd r 126 (r 5)) 127 v40) 128 v41) 129 (r 6)) 130 v42) 131 v43) 132 v44) 133 v45) 5 v45) h45
def S14_l9_k10 (G : Hp) (K : Exit → Rg → Hp → Prop) (r : Rg) (h : Hp) : Prop :=
  pureW Tryd.prog G h (sv (Instr.loadAt 26 (r 1))) h fun v33 h33 =>
  pureW Tryd.prog noHp noHp (sv (Instr.fieldAt 26 (r 1) 5)) h33 fun v34 h34 =>
  pureW Tryd.prog G h (sv (Instr.loadAt 23 v34)) h34 fun v35 h35 =>
  pureW Tryd.prog noHp noHp (sv (Instr.indexAt 23 v35 (r 6))) h35 fun v36 h36 =>
  pureW Tryd.prog G h (sv (Instr.loadAt 85 v36)) h36 fun v37 h37 =>
  opH Tryd.prog G (callFunc 44 #[v33, v37]) h37 fun v38 h38 =>
  pureW Tryd.prog noHp noHp (sv (Op.unary .not v38)) h38 fun v39 h39 =>
  cond v39
  (K .ret (upd (upd (upd (upd (upd (upd (upd (upd (upd r 118 v33) 119 v34) 120 v35) 121 (r 6)) 122 v36) 123 v37) 124 v38) 125 v39) 2 (.bool false)) h39)
  (S14_l9_k12 G K (upd (upd (upd (upd (upd (upd (upd (upd r 118 v33) 119 v34) 120 v35) 121 (r 6)) 122 v36) 123 v37) 124 v38) 125 v39) h39)
def S14_l9 (G : Hp) (r : Rg) (h : Hp) (K : Exit → Rg → Hp → Prop) : Prop :=
  opH Tryd.prog G (sv (Instr.fieldAt 26 (r 1) 5)) h fun v28 h28 =>
  opH Tryd.prog G (sv (Instr.loadAt 23 v28)) h28 fun v29 h29 =>
  opH Tryd.prog G (sv (Builtin.len_ #[23] 3 #[v29])) h29 fun v30 h30 =>
  opH Tryd.prog G (sv (binOp .lss 3 (r 6) v30)) h30 fun v31 h31 =>
  cond v31
  (S14_l9_k10 G K (upd (upd (upd (upd (upd r 111 (r 6)) 112 v28) 113 v29) 114 v30) 115 v31) h31)
  (K (.exit 4) (upd (upd (upd (upd (upd r 111 (r 6)) 112 v28) 113 v29) 114 v30) 115 v31) h31)
def S14_k3 (G : Hp) (K : Exit → Rg → Hp → Prop) (r : Rg) (h : Hp) : Prop :=
  loopP (S14_l9 G) (upd (upd r 5 (.slice none 0 0)) 6 (.int .i64 0)) h (blockK 4 (thenK (S14_k4 G K) K))
def S14_l13_k15 (G : Hp) (K : Exit → Rg → Hp → Prop) (r : Rg) (h : Hp) : Prop :=
  opH Tryd.prog G (sv (binOp .add 3 (r 4) (.int .i64 1))) h fun v50 h50 =>
  K .normal (upd (upd (upd r 71 (r 4)) 72 v50) 4 v50) h50
def S14_l13_k14 (G : Hp) (K : Exit → Rg → Hp → Prop) (r : Rg) (h : Hp) : Prop :=
  pureW Tryd.prog G h (sv (Instr.loadAt 26 (r 1))) h fun v51 h51 =>
  pureW Tryd.prog noHp noHp (sv (Instr.fieldAt 26 (r 1) 4)) h51 fun v52 h52 =>
  pureW Tryd.prog G h (sv (Instr.loadAt 22 v52)) h52 fun v53 h53 =>
  pureW Tryd.prog noHp noHp (sv (Instr.indexAt 22 v53 (r 4))) h53 fun v54 h54 =>
  pureW Tryd.prog G h (sv (Instr.loadAt 28 v54)) h54 fun v55 h55 =>
  opH Tryd.prog G (callFunc 40 #[v51, v55]) h55 fun v56 h56 =>
  pureW Tryd.prog noHp noHp (sv (Op.unary .not v56)) h56 fun v57 h57 =>
  gd (wantB v57 false) (pureW Tryd.prog noHp noHp (sv (Instr.fieldAt 26 (r 1) 4)) h57) h57 fun v58 h58 =>
  gd (wantB v57 false) (pureW Tryd.prog G h58 (sv (Instr.loadAt 22 v58)) h58) h58 fun v59 h59 =>
  gd (wantB v57 false) (pureW Tryd.prog noHp noHp (sv (Instr.fieldAt 26 (r 1) 4)) h59) h59 fun v60 h60 =>
  gd (wantB v57 false) (pureW Tryd.prog G h60 (sv (Instr.loadAt 22 v60)) h60) h60 fun v61 h61 =>
  gd (wantB v57 false) (fun K1 => K1 (r 4) h61) h61 fun v62 h62 =>
  gd (wantB v57 false) (pureW Tryd.prog noHp noHp (sv (Instr.indexAt 22 v61 v62)) h62) h62 fun v63 h63 =>
  gd (wantB v57 false) (pureW Tryd.prog G h63 (sv (Instr.loadAt 28 v63)) h63) h63 fun v64 h64 =>
  gd (wantB v57 false) (opH Tryd.prog G (callFunc 41 #[v59, v64]) h64) h64 fun v65 h65 =>
  gd (wantB v57 false) (pureW Tryd.prog noHp noHp (sv (binOp .gtr 3 v65 (.int .i64 1))) h65) h65 fun v66 h66 =>
  pureW Tryd.prog noHp noHp (xPick v57 (.bool true) v66) h66 fun v67 h67 =>
  gd (wantB v67 false) (pureW Tryd.prog G h67 (sv (Instr.loadAt 26 (r 1))) h67) h67 fun v68 h68 =>
  gd (wantB v67 false) (pureW Tryd.prog noHp noHp (sv (Instr.fieldAt 26 (r 1) 4)) h68) h68 fun v69 h69 =>
  gd (wantB v67 false) (pureW Tryd.prog G h69 (sv (Instr.loadAt 22 v69)) h69) h69 fun v70 h70 =>
  gd (wantB v67 false) (fun K1 => K1 (r 4) h70) h70 fun v71 h71 =>
  gd (wantB v67 false) (pureW Tryd.prog noHp noHp (sv (Instr.indexAt 22 v70 v71)) h71) h71 fun v72 h72 =>
  gd (wantB v67 false) (pureW Tryd.prog G h72 (sv (Instr.loadAt 28 v72)) h72) h72 fun v73 h73 =>
  gd (wantB v67 false) (opH Tryd.prog G (callFunc 42 #[v68, v73]) h73) h73 fun v74 h74 =>
  pureW Tryd.prog noHp noHp (xPick v67 (.bool true) v74) h74 fun v75 h75 =>
  gd (wantB v75 false) (pureW Tryd.prog G h75 (sv (Instr.loadAt 26 (r 1))) h75) h75 fun v76 h76 =>
  gd (wantB v75 false) (pureW Tryd.prog noHp noHp (sv (Instr.fieldAt 26 (r 1) 4)) h76) h76 fun v77 h77 =>
  gd (wantB v75 false) (pureW Tryd.prog G h77 (sv (Instr.loadAt 22 v77)) h77) h77 fun v78 h78 =>
  gd (wantB v75 false) (fun K1 => K1 (r 4) h78) h78 fun v79 h79 =>
  gd (wantB v75 false) (pureW Tryd.prog noHp noHp (sv (Instr.indexAt 22 v78 v79)) h79) h79 fun v80 h80 =>
  gd (wantB v75 false) (pureW Tryd.prog G h80 (sv (Instr.loadAt 28 v80)) h80) h80 fun v81 h81 =>
  gd (wantB v75 false) (opH Tryd.prog G (callFunc 43 #[v76, v81]) h81) h81 fun v82 h82 =>
  gd (wantB v75 false) (pureW Tryd.prog noHp noHp (sv (Op.unary .not v82)) h82) h82 fun v83 h83 =>
  pureW Tryd.prog noHp noHp (xPick v75 (.bool true) v83) h83 fun v84 h84 =>
  cond v84
  (K .ret (upd (upd (upd (upd (upd (upd (upd (upd (upd (upd (upd (upd (upd (upd (upd (upd (upd (upd (upd (upd (upd (upd (upd (upd (upd (upd (upd (upd (upd (upd (upd (upd (upd (upd (upd (upd (upd (upd (upd r 73 v51) 74 v52) 75 v53) 76 (r 4)) 77 v54) 78 v55) 79 v56) 80 v57) 81 v57) 82 v58) 83 v59) 84 v60) 85 v61) 86 v62) 87 v63) 88 v64) 89 v65) 90 v66) 91 v67) 92 v67) 93 v68) 94 v69) 95 v70) 96 v71) 97 v72) 98 v73) 99 v74) 100 v75) 101 v75) 102 v76) 103 v77) 104 v78) 105 v79) 106 v80) 107 v81) 108 v82) 109 v83) 110 v84) 2 (.bool false)) h84)
  (S14_l13_k15 G K (upd (upd (upd (upd (upd (upd (upd (upd (upd (upd (upd (upd (upd (upd (upd (upd (upd (upd (upd (upd (upd (upd (upd (upd (upd (upd (upd (upd (upd (upd (upd (upd (upd (upd (upd (upd (upd (upd r 73 v51) 74 v52) 75 v53) 76 (r 4)) 77 v54) 78 v55) 79 v56) 80 v57) 81 v57) 82 v58) 83 v59) 84 v60) 85 v61) 86 v62) 87 v63) 88 v64) 89 v65) 90 v66) 91 v67) 92 v67) 93 v68) 94 v69) 95 v70) 96 v71) 97 v72) 98 v73) 99 v74) 100 v75) 101 v75) 102 v76) 103 v77) 104 v78) 105 v79) 106 v80) 107 v81) 108 v82) 109 v83) 110 v84) h84)
def S14_l13 (G : Hp) (r : Rg) (h : Hp) (K : Exit → Rg → Hp → Prop) : Prop :=
  opH Tryd.prog G (sv (Instr.fieldAt 26 (r 1) 4)) h fun v46 h46 =>
  opH Tryd.prog G (sv (Instr.loadAt 22 v46)) h46 fun v47 h47 =>
  opH Tryd.prog G (sv (Builtin.len_ #[22] 3 #[v47])) h47 fun v48 h48 =>
  opH Tryd.prog G (sv (binOp .lss 3 (r 4) v48)) h48 fun v49 h49 =>
  cond v49
  (S14_l13_k14 G K (upd (upd (upd (upd (upd r 66 (r 4)) 67 v46) 68 v47) 69 v48) 70 v49) h49)
  (K (.exit 2) (upd (upd (upd (upd (upd r 66 (r 4)) 67 v46) 68 v47) 69 v48) 70 v49) h49)
def S14_k2 (G : Hp) (K : Exit → Rg → Hp → Prop) (r : Rg) (h : Hp) : Prop :=
  loopP (S14_l13 G) (upd r 4 (.int .i64 0)) h (blockK 2 (thenK (S14_k3 G K) K))
def S14_l16_k18 (G : Hp) (K : Exit → Rg → Hp → Prop) (r : Rg) (h : Hp) : Prop :=
  opH Tryd.prog G (sv (binOp .add 3 (r 3) (.int .i64 1))) h fun v89 h89 =>
  K .normal (upd (upd (upd r 34 (r 3)) 35 v89) 3 v89) h89
def S14_l16_k17 (G : Hp) (K : Exit → Rg → Hp → Prop) (r : Rg) (h : Hp) : Prop :=
  pureW Tryd.prog G h (sv (Instr.loadAt 26 (r 1))) h fun v90 h90 =>
  pureW Tryd.prog noHp noHp (sv (Instr.fieldAt 26 (r 1) 3)) h90 fun v91 h91 =>
  pureW Tryd.prog G h (sv (Instr.loadAt 22 v91)) h91 fun v92 h92 =>
  pureW Tryd.prog noHp noHp (sv (Instr.indexAt 22 v92 (r 3))) h92 fun v93 h93 =>
  pureW Tryd.prog G h (sv (Instr.loadAt 28 v93)) h93 fun v94 h94 =>
  opH Tryd.prog G (callFunc 40 #[v90, v94]) h94 fun v95 h95 =>
  pureW Tryd.prog noHp noHp (sv (Op.unary .not v95)) h95 fun v96 h96 =>
  gd (wantB v96 false) (pureW Tryd.prog noHp noHp (sv (Instr.fieldAt 26 (r 1) 3)) h96) h96 fun v97 h97 =>
  gd (wantB v96 false) (pureW Tryd.prog G h97 (sv (Instr.loadAt 22 v97)) h97) h97 fun v98 h98 =>
  gd (wantB v96 false) (pureW Tryd.prog noHp noHp (sv (Instr.fieldAt 26 (r 1) 3)) h98) h98 fun v99 h99 =>
  gd (wantB v96 false) (pureW Tryd.prog G h99 (sv (Instr.loadAt 22 v99)) h99) h99 fun v100 h100 =>
  gd (wantB v96 false) (fun K1 => K1 (r 3) h100) h100 fun v101 h101 =>
  gd (wantB v96 false) (pureW Tryd.prog noHp noHp (sv (Instr.indexAt 22 v100 v101)) h101) h101 fun v102 h102 =>
  gd (wantB v96 false) (pureW Tryd.prog G h102 (sv (Instr.loadAt 28 v102)) h102) h102 fun v103 h103 =>
  gd (wantB v96 false) (opH Tryd.prog G (callFunc 41 #[v98, v103]) h103) h103 fun v104 h104 =>
  gd (wantB v96 false) (pureW Tryd.prog noHp noHp (sv (binOp .gtr 3 v104 (.int .i64 1))) h104) h104 fun v105 h105 =>
  pureW Tryd.prog noHp noHp (xPick v96 (.bool true) v105) h105 fun v106 h106 =>
  gd (wantB v106 false) (pureW Tryd.prog noHp noHp (sv (Instr.fieldAt 26 (r 1) 4)) h106) h106 fun v107 h107 =>
  gd (wantB v106 false) (pureW Tryd.prog G h107 (sv (Instr.loadAt 22 v107)) h107) h107 fun v108 h108 =>
  gd (wantB v106 false) (pureW Tryd.prog noHp noHp (sv (Instr.fieldAt 26 (r 1) 3)) h108) h108 fun v109 h109 =>
  gd (wantB v106 false) (pureW Tryd.prog G h109 (sv (Instr.loadAt 22 v109)) h109) h109 fun v110 h110 =>
  gd (wantB v106 false) (fun K1 => K1 (r 3) h110) h110 fun v111 h111 =>
  gd (wantB v106 false) (pureW Tryd.prog noHp noHp (sv (Instr.indexAt 22 v110 v111)) h111) h111 fun v112 h112 =>
  gd (wantB v106 false) (pureW Tryd.prog G h112 (sv (Instr.loadAt 28 v112)) h112) h112 fun v113 h113 =>
  gd (wantB v106 false) (opH Tryd.prog G (callFunc 41 #[v108, v113]) h113) h113 fun v114 h114 =>
  gd (wantB v106 false) (pureW Tryd.prog noHp noHp (sv (binOp .gtr 3 v114 (.int .i64 0))) h114) h114 fun v115 h115 =>
  pureW Tryd.prog noHp noHp (xPick v106 (.bool true) v115) h115 fun v116 h116 =>
  cond v116
  (K .ret (upd (upd (upd (upd (upd (upd (upd (upd (upd (upd (upd (upd (upd (upd (upd (upd (upd (upd (upd (upd (upd (upd (upd (upd (upd (upd (upd (upd (upd (upd (upd r 36 v90) 37 v91) 38 v92) 39 (r 3)) 40 v93) 41 v94) 42 v95) 43 v96) 44 v96) 45 v97) 46 v98) 47 v99) 48 v100) 49 v101) 50 v102) 51 v103) 52 v104) 53 v105) 54 v106) 55 v106) 56 v107) 57 v108) 58 v109) 59 v110) 60 v111) 61 v112) 62 v113) 63 v114) 64 v115) 65 v116) 2 (.bool false)) h116)
  (S14_l16_k18 G K (upd (upd (upd (upd (upd (upd (upd (upd (upd (upd (upd (upd (upd (upd (upd (upd (upd (upd (upd (upd (upd (upd (upd (upd (upd (upd (upd (upd (upd (upd r 36 v90) 37 v91) 38 v92) 39 (r 3)) 40 v93) 41 v94) 42 v95) 43 v96) 44 v96) 45 v97) 46 v98) 47 v99) 48 v100) 49 v101) 50 v102) 51 v103) 52 v104) 53 v105) 54 v106) 55 v106) 56 v107) 57 v108) 58 v109) 59 v110) 60 v111) 61 v112) 62 v113) 63 v114) 64 v115) 65 v116) h116)
def S14_l16 (G : Hp) (r : Rg) (h : Hp) (K : Exit → Rg → Hp → Prop) : Prop :=
  opH Tryd.prog G (sv (Instr.fieldAt 26 (r 1) 3)) h fun v85 h85 =>
  opH Tryd.prog G (sv (Instr.loadAt 22 v85)) h85 fun v86 h86 =>
  opH Tryd.prog G (sv (Builtin.len_ #[22] 3 #[v86])) h86 fun v87 h87 =>
  opH Tryd.prog G (sv (binOp .lss 3 (r 3) v87)) h87 fun v88 h88 =>
  cond v88
  (S14_l16_k17 G K (upd (upd (upd (upd (upd r 29 (r 3)) 30 v85) 31 v86) 32 v87) 33 v88) h88)
  (K (.exit 0) (upd (upd (upd (upd (upd r 29 (r 3)) 30 v85) 31 v86) 32 v87) 33 v88) h88)
def S14_k1 (G : Hp) (K : Exit → Rg → Hp → Prop) (r : Rg) (h : Hp) : Prop :=
  loopP (S14_l16 G) (upd r 3 (.int .i64 0)) h (blockK 0 (thenK (S14_k2 G K) K))
def S14 (G : Hp) (K : Exit → Rg → Hp → Prop) (r : Rg) (h : Hp) : Prop :=
  opH Tryd.prog G (sv (Instr.box 26 (r 0))) h fun v0 h0 =>
  opH Tryd.prog G (sv (Instr.loadAt 26 v0)) h0 fun v1 h1 =>
  opH Tryd.prog G (callFunc 39 #[v1]) h1 fun v2 h2 =>
  opH Tryd.prog G (sv (Op.unary .not v2)) h2 fun v3 h3 =>
  gd (wantB v3 false) (opH Tryd.prog G (sv (Instr.fieldAt 26 v0 4)) h3) h3 fun v4 h4 =>
  gd (wantB v3 false) (opH Tryd.prog G (sv (Instr.loadAt 22 v4)) h4) h4 fun v5 h5 =>
  gd (wantB v3 false) (opH Tryd.prog G (sv (Builtin.len_ #[22] 3 #[v5])) h5) h5 fun v6 h6 =>
  gd (wantB v3 false) (opH Tryd.prog G (sv (binOp .gtr 3 v6 (.int .i64 8))) h6) h6 fun v7 h7 =>
  opH Tryd.prog G (xPick v3 (.bool true) v7) h7 fun v8 h8 =>
  gd (wantB v8 false) (opH Tryd.prog G (sv (Instr.fieldAt 26 v0 5)) h8) h8 fun v9 h9 =>
  gd (wantB v8 false) (opH Tryd.prog G (sv (Instr.loadAt 23 v9)) h9) h9 fun v10 h10 =>
  gd (wantB v8 false) (opH Tryd.prog G (sv (Builtin.len_ #[23] 3 #[v10])) h10) h10 fun v11 h11 =>
  gd (wantB v8 false) (opH Tryd.prog G (sv (binOp .gtr 3 v11 (.int .i64 8))) h11) h11 fun v12 h12 =>
  opH Tryd.prog G (xPick v8 (.bool true) v12) h12 fun v13 h13 =>
  gd (wantB v13 false) (opH Tryd.prog G (sv (Instr.fieldAt 26 v0 3)) h13) h13 fun v14 h14 =>
  gd (wantB v13 false) (opH Tryd.prog G (sv (Instr.loadAt 22 v14)) h14) h14 fun v15 h15 =>
  gd (wantB v13 false) (opH Tryd.prog G (sv (Builtin.len_ #[22] 3 #[v15])) h15) h15 fun v16 h16 =>
  gd (wantB v13 false) (opH Tryd.prog G (sv (binOp .gtr 3 v16 (.int .i64 256))) h16) h16 fun v17 h17 =>
  opH Tryd.prog G (xPick v13 (.bool true) v17) h17 fun v18 h18 =>
  cond v18
  (K .ret (upd (upd (upd (upd (upd (upd (upd (upd (upd (upd (upd (upd (upd (upd (upd (upd (upd (upd (upd (upd (upd (upd (upd (upd r 1 v0) 2 (.bool false)) 8 v1) 9 v2) 10 v3) 11 v3) 12 v4) 13 v5) 14 v6) 15 v7) 16 v8) 17 v8) 18 v9) 19 v10) 20 v11) 21 v12) 22 v13) 23 v13) 24 v14) 25 v15) 26 v16) 27 v17) 28 v18) 2 (.bool false)) h18)
  (S14_k1 G K (upd (upd (upd (upd (upd (upd (upd (upd (upd (upd (upd (upd (upd (upd (upd (upd (upd (upd (upd (upd (upd (upd (upd r 1 v0) 2 (.bool false)) 8 v1) 9 v2) 10 v3) 11 v3) 12 v4) 13 v5) 14 v6) 15 v7) 16 v8) 17 v8) 18 v9) 19 v10) 20 v11) 21 v12) 22 v13) 23 v13) 24 v14) 25 v15) 26 v16) 27 v17) 28 v18) h18)
theorem S14_eq (G : Hp) (K : Exit → Rg → Hp → Prop) (r : Rg) (h : Hp) : wpC Tryd.prog G 149 md14 true (Tryd.f14.body.getD .skip) r h K = S14 G K r h := by kernel_rfl
theorem enter14 {G : Hp} {h : Hp} {args : Array Value} {R : Value → Hp → Prop} (hn : args.size ≤ 149) (H : S14 G (retK Tryd.prog G [.tmp 2] R) (regs args) h) : HCalls Tryd.prog G 14 args h R :=
  HCalls.enter (md := md14) mixed Tryd.func14 rfl hn (by rw [← S14_eq] at H; exact H)

def md45 : Nat → Hint
  | _ => ⟨false, [], [], [], [], false⟩
def S45_k1 (G : Hp) (K : Exit → Rg → Hp → Prop) (r : Rg) (h : Hp) : Prop :=
  opH Tryd.prog G (sv (Instr.fieldAt 85 (r 1) 0)) h fun v3 h3 =>
  opH Tryd.prog G (sv (Instr.loadAt 28 v3)) h3 fun v4 h4 =>
  opH Tryd.prog G (sv (Instr.fieldAt 85 (r 1) 0)) h4 fun v5 h5 =>
  opH Tryd.prog G (sv (Instr.fieldAt 28 v5 0)) h5 fun v6 h6 =>
  opH Tryd.prog G (sv (Instr.loadAt 3 v6)) h6 fun v7 h7 =>
  opH Tryd.prog G (sv (binOp .add 3 v7 (.int .i64 1))) h7 fun v8 h8 =>
  opH Tryd.prog G (sv (Instr.fieldAt 85 (r 1) 0)) h8 fun v9 h9 =>
  opH Tryd.prog G (sv (Instr.fieldAt 28 v9 1)) h9 fun v10 h10 =>
  opH Tryd.prog G (sv (Instr.loadAt 3 v10)) h10 fun v11 h11 =>
  opH Tryd.prog G (sv (Instr.build 28 #[(0, v8), (1, v11)])) h11 fun v12 h12 =>
  opH Tryd.prog G (sv (Instr.buildSlice 22 2 #[(0, v4), (1, v12)])) h12 fun v13 h13 =>
  K .ret (upd (upd (upd (upd (upd (upd (upd (upd (upd (upd (upd (upd r 16 v3) 17 v4) 18 v5) 19 v6) 20 v7) 21 v8) 22 v9) 23 v10) 24 v11) 25 v12) 26 v13) 2 v13) h13
def S45 (G : Hp) (K : Exit → Rg → Hp → Prop) (r : Rg) (h : Hp) : Prop :=
  opH Tryd.prog G (sv (Instr.box 85 (r 0))) h fun v0 h0 =>
  opH Tryd.prog G (sv (Instr.fieldAt 85 v0 1)) h0 fun v1 h1 =>
  opH Tryd.prog G (sv (Instr.loadAt 4 v1)) h1 fun v2 h2 =>
  cond v2
  (opH Tryd.prog G (sv (Instr.fieldAt 85 v0 0)) h2 fun v14 h14 =>
  opH Tryd.prog G (sv (Instr.loadAt 28 v14)) h14 fun v15 h15 =>
  opH Tryd.prog G (sv (Instr.fieldAt 85 v0 0)) h15 fun v16 h16 =>
  opH Tryd.prog G (sv (Instr.fieldAt 28 v16 0)) h16 fun v17 h17 =>
  opH Tryd.prog G (sv (Instr.loadAt 3 v17)) h17 fun v18 h18 =>
  opH Tryd.prog G (sv (Instr.fieldAt 85 v0 0)) h18 fun v19 h19 =>
  opH Tryd.prog G (sv (Instr.fieldAt 28 v19 1)) h19 fun v20 h20 =>
  opH Tryd.prog G (sv (Instr.loadAt 3 v20)) h20 fun v21 h21 =>
  opH Tryd.prog G (sv (binOp .add 3 v21 (.int .i64 1))) h21 fun v22 h22 =>
  opH Tryd.prog G (sv (Instr.build 28 #[(0, v18), (1, v22)])) h22 fun v23 h23 =>
  opH Tryd.prog G (sv (Instr.buildSlice 22 2 #[(0, v15), (1, v23)])) h23 fun v24 h24 =>
  K .ret (upd (upd (upd (upd (upd (upd (upd (upd (upd (upd (upd (upd (upd (upd (upd (upd r 1 v0) 2 (.slice none 0 0)) 3 v1) 4 v2) 5 v14) 6 v15) 7 v16) 8 v17) 9 v18) 10 v19) 11 v20) 12 v21) 13 v22) 14 v23) 15 v24) 2 v24) h24)
  (S45_k1 G K (upd (upd (upd (upd r 1 v0) 2 (.slice none 0 0)) 3 v1) 4 v2) h2)
theorem S45_eq (G : Hp) (K : Exit → Rg → Hp → Prop) (r : Rg) (h : Hp) : wpC Tryd.prog G 27 md45 true (Tryd.f45.body.getD .skip) r h K = S45 G K r h := by kernel_rfl
theorem enter45 {G : Hp} {h : Hp} {args : Array Value} {R : Value → Hp → Prop} (hn : args.size ≤ 27) (H : S45 G (retK Tryd.prog G [.tmp 2] R) (regs args) h) : HCalls Tryd.prog G 45 args h R :=
  HCalls.enter (md := md45) mixed Tryd.func45 rfl hn (by rw [← S45_eq] at H; exact H)

def md44 : Nat → Hint
  | 2 => ⟨false, [0, 0, 2, 6, 15, 31, 63, 63, 191, 447, 1023, 2047, 4095], [.pureM, .pureN, .pureN, .pureM, .eff, .pureN, .pureM, .pureN, .pureN, .pureM, .eff, .pureN, .pureN], [.pureM, .pureN, .pureN, .pureM, .eff, .pureN, .late, .pureN, .pureN, .late, .eff, .pureN, .pureN], [false, false, false, false, false, false, false, false, false, false, false, false, false], false⟩
  | _ => ⟨false, [], [], [], [], false⟩
def S44 (G : Hp) (K : Exit → Rg → Hp → Prop) (r : Rg) (h : Hp) : Prop :=
  opH Tryd.prog G (sv (Instr.box 26 (r 0))) h fun v0 h0 =>
  opH Tryd.prog G (sv (Instr.box 85 (r 1))) h0 fun v1 h1 =>
  opH Tryd.prog G (sv (Instr.loadAt 85 v1)) h1 fun v2 h2 =>
  opH Tryd.prog G (callFunc 45 #[v2]) h2 fun v3 h3 =>
  pureW Tryd.prog G h3 (sv (Instr.loadAt 26 v0)) h3 fun v4 h4 =>
  pureW Tryd.prog noHp noHp (sv (Instr.indexAt 22 v3 (.int .i64 0))) h4 fun v5 h5 =>
  pureW Tryd.prog G h3 (sv (Instr.loadAt 28 v5)) h5 fun v6 h6 =>
  opH Tryd.prog G (callFunc 52 #[v4, v6]) h6 fun v7 h7 =>
  gd (wantB v7 true) (pureW Tryd.prog G h7 (sv (Instr.loadAt 26 v0)) h7) h7 fun v8 h8 =>
  gd (wantB v7 true) (fun K1 => K1 v3 h8) h8 fun v9 h9 =>
  gd (wantB v7 true) (pureW Tryd.prog noHp noHp (sv (Instr.indexAt 22 v9 (.int .i64 1))) h9) h9 fun v10 h10 =>
  gd (wantB v7 true) (pureW Tryd.prog G h10 (sv (Instr.loadAt 28 v10)) h10) h10 fun v11 h11 =>
  gd (wantB v7 true) (opH Tryd.prog G (callFunc 52 #[v8, v11]) h11) h11 fun v12 h12 =>
  pureW Tryd.prog noHp noHp (xPick v7 v12 (.bool false)) h12 fun v13 h13 =>
  K .ret (upd (upd (upd (upd (upd (upd (upd (upd (upd (upd (upd (upd (upd (upd (upd (upd (upd (upd (upd r 2 v0) 3 v1) 4 (.bool false)) 6 v2) 7 v3) 5 v3) 8 v4) 9 v3) 10 v5) 11 v6) 12 v7) 13 v7) 14 v8) 15 v9) 16 v10) 17 v11) 18 v12) 19 v13) 4 v13) h13
theorem S44_eq (G : Hp) (K : Exit → Rg → Hp → Prop) (r : Rg) (h : Hp) : wpC Tryd.prog G 20 md44 true (Tryd.f44.body.getD .skip) r h K = S44 G K r h := by kernel_rfl
theorem enter44 {G : Hp} {h : Hp} {args : Array Value} {R : Value → Hp → Prop} (hn : args.size ≤ 20) (H : S44 G (retK Tryd.prog G [.tmp 4] R) (regs args) h) : HCalls Tryd.prog G 44 args h R :=
  HCalls.enter (md := md44) mixed Tryd.func44 rfl hn (by rw [← S44_eq] at H; exact H)

def md52 : Nat → Hint
  | _ => ⟨false, [], [], [], [], false⟩
def S52 (G : Hp) (K : Exit → Rg → Hp → Prop) (r : Rg) (h : Hp) : Prop :=
  opH Tryd.prog G (sv (Instr.box 26 (r 0))) h fun v0 h0 =>
  opH Tryd.prog G (sv (Instr.box 28 (r 1))) h0 fun v1 h1 =>
  opH Tryd.prog G (sv (Instr.loadAt 26 v0)) h1 fun v2 h2 =>
  opH Tryd.prog G (sv (Instr.loadAt 28 v1)) h2 fun v3 h3 =>
  opH Tryd.prog G (callFunc 40 #[v2, v3]) h3 fun v4 h4 =>
  gd (wantB v4 true) (opH Tryd.prog G (sv (Instr.fieldAt 26 v0 3)) h4) h4 fun v5 h5 =>
  gd (wantB v4 true) (opH Tryd.prog G (sv (Instr.loadAt 22 v5)) h5) h5 fun v6 h6 =>
  gd (wantB v4 true) (opH Tryd.prog G (sv (Instr.loadAt 28 v1)) h6) h6 fun v7 h7 =>
  gd (wantB v4 true) (opH Tryd.prog G (callFunc 41 #[v6, v7]) h7) h7 fun v8 h8 =>
  gd (wantB v4 true) (opH Tryd.prog G (xEq .eql 3 (.tmp 0) (.const .nilFunc) v8 (.int .i64 0)) h8) h8 fun v9 h9 =>
  opH Tryd.prog G (xPick v4 v9 (.bool false)) h9 fun v10 h10 =>
  K .ret (upd (upd (upd (upd (upd (upd (upd (upd (upd (upd (upd (upd (upd (upd r 2 v0) 3 v1) 4 (.bool false)) 5 v2) 6 v3) 7 v4) 8 v4) 9 v5) 10 v6) 11 v7) 12 v8) 13 v9) 14 v10) 4 v10) h10
theorem S52_eq (G : Hp) (K : Exit → Rg → Hp → Prop) (r : Rg) (h : Hp) : wpC Tryd.prog G 15 md52 true (Tryd.f52.body.getD .skip) r h K = S52 G K r h := by kernel_rfl
theorem enter52 {G : Hp} {h : Hp} {args : Array Value} {R : Value → Hp → Prop} (hn : args.size ≤ 15) (H : S52 G (retK Tryd.prog G [.tmp 4] R) (regs args) h) : HCalls Tryd.prog G 52 args h R :=
  HCalls.enter (md := md52) mixed Tryd.func52 rfl hn (by rw [← S52_eq] at H; exact H)

def md47 : Nat → Hint
  | 4 => ⟨false, [0, 1, 0, 7, 15, 0, 63], [.pureN, .pureM, .pureN, .pureN, .pureM, .pureM, .pureM], [.pureN, .pureM, .pureN, .pureN, .pureM, .pureM, .pureM], [false, false, false, false, false, false, false], false⟩
  | _ => ⟨false, [], [], [], [], false⟩
def S47_k1 (G : Hp) (K : Exit → Rg → Hp → Prop) (r : Rg) (h : Hp) : Prop :=
  K .ret (upd r 4 (.int .i64 (-1))) h
def S47_l2_k4 (G : Hp) (K : Exit → Rg → Hp → Prop) (r : Rg) (h : Hp) : Prop :=
  opH Tryd.prog G (sv (binOp .add 3 (r 5) (.int .i64 1))) h fun v6 h6 =>
  K .normal (upd (upd (upd r 11 (r 5)) 12 v6) 5 v6) h6
def S47_l2_k3 (G : Hp) (K : Exit → Rg → Hp → Prop) (r : Rg) (h : Hp) : Prop :=
  pureW Tryd.prog noHp noHp (sv (Instr.fieldAt 26 (r 2) 4)) h fun v7 h7 =>
  pureW Tryd.prog G h (sv (Instr.loadAt 22 v7)) h7 fun v8 h8 =>
  pureW Tryd.prog noHp noHp (sv (Instr.indexAt 22 v8 (r 5))) h8 fun v9 h9 =>
  pureW Tryd.prog G h (sv (Instr.loadAt 28 v9)) h9 fun v10 h10 =>
  pureW Tryd.prog G h (sv (Instr.loadAt 28 (r 3))) h10 fun v11 h11 =>
  pureW Tryd.prog G h (xEq .eql 28 (.tmp 0) (.tmp 0) v10 v11) h11 fun v12 h12 =>
  cond v12
  (K .ret (upd (upd (upd (upd (upd (upd (upd (upd (upd r 13 v7) 14 v8) 15 (r 5)) 16 v9) 17 v10) 18 v11) 19 v12) 20 (r 5)) 4 (r 5)) h12)
  (S47_l2_k4 G K (upd (upd (upd (upd (upd (upd (upd r 13 v7) 14 v8) 15 (r 5)) 16 v9) 17 v10) 18 v11) 19 v12) h12)
def S47_l2 (G : Hp) (r : Rg) (h : Hp) (K : Exit → Rg → Hp → Prop) : Prop :=
  opH Tryd.prog G (sv (Instr.fieldAt 26 (r 2) 4)) h fun v2 h2 =>
  opH Tryd.prog G (sv (Instr.loadAt 22 v2)) h2 fun v3 h3 =>
  opH Tryd.prog G (sv (Builtin.len_ #[22] 3 #[v3])) h3 fun v4 h4 =>
  opH Tryd.prog G (sv (binOp .lss 3 (r 5) v4)) h4 fun v5 h5 =>
  cond v5
  (S47_l2_k3 G K (upd (upd (upd (upd (upd r 6 (r 5)) 7 v2) 8 v3) 9 v4) 10 v5) h5)
  (K (.exit 0) (upd (upd (upd (upd (upd r 6 (r 5)) 7 v2) 8 v3) 9 v4) 10 v5) h5)
def S47 (G : Hp) (K : Exit → Rg → Hp → Prop) (r : Rg) (h : Hp) : Prop :=
  opH Tryd.prog G (sv (Instr.box 26 (r 0))) h fun v0 h0 =>
  opH Tryd.prog G (sv (Instr.box 28 (r 1))) h0 fun v1 h1 =>
  loopP (S47_l2 G) (upd (upd (upd (upd r 2 v0) 3 v1) 4 (.int .i64 0)) 5 (.int .i64 0)) h1 (blockK 0 (thenK (S47_k1 G K) K))
theorem S47_eq (G : Hp) (K : Exit → Rg → Hp → Prop) (r : Rg) (h : Hp) : wpC Tryd.prog G 21 md47 true (Tryd.f47.body.getD .skip) r h K = S47 G K r h := by kernel_rfl
theorem enter47 {G : Hp} {h : Hp} {args : Array Value} {R : Value → Hp → Prop} (hn : args.size ≤ 21) (H : S47 G (retK Tryd.prog G [.tmp 4] R) (regs args) h) : HCalls Tryd.prog G 47 args h R :=
  HCalls.enter (md := md47) mixed Tryd.func47 rfl hn (by rw [← S47_eq] at H; exact H)

def md23 : Nat → Hint
  | _ => ⟨false, [], [], [], [], false⟩
def S23 (G : Hp) (K : Exit → Rg → Hp → Prop) (r : Rg) (h : Hp) : Prop :=
  opH Tryd.prog G (sv (Instr.box 26 (r 0))) h fun v0 h0 =>
  opH Tryd.prog G (sv (Instr.box 28 (r 1))) h0 fun v1 h1 =>
  opH Tryd.prog G (sv (Instr.loadAt 26 v0)) h1 fun v2 h2 =>
  opH Tryd.prog G (sv (Instr.loadAt 28 v1)) h2 fun v3 h3 =>
  opH Tryd.prog G (callFunc 52 #[v2, v3]) h3 fun v4 h4 =>
  gd (wantB v4 true) (opH Tryd.prog G (sv (Instr.loadAt 26 v0)) h4) h4 fun v5 h5 =>
  gd (wantB v4 true) (opH Tryd.prog G (sv (Instr.loadAt 28 v1)) h5) h5 fun v6 h6 =>
  gd (wantB v4 true) (opH Tryd.prog G (callFunc 47 #[v5, v6]) h6) h6 fun v7 h7 =>
  gd (wantB v4 true) (opH Tryd.prog G (sv (binOp .lss 3 v7 (.int .i64 0))) h7) h7 fun v8 h8 =>
  opH Tryd.prog G (xPick v4 v8 (.bool false)) h8 fun v9 h9 =>
  gd (wantB v9 true) (opH Tryd.prog G (sv (Instr.loadAt 26 v0)) h9) h9 fun v10 h10 =>
  gd (wantB v9 true) (opH Tryd.prog G (sv (Instr.loadAt 28 v1)) h10) h10 fun v11 h11 =>
  gd (wantB v9 true) (opH Tryd.prog G (callFunc 42 #[v10, v11]) h11) h11 fun v12 h12 =>
  gd (wantB v9 true) (opH Tryd.prog G (sv (Op.unary .not v12)) h12) h12 fun v13 h13 =>
  opH Tryd.prog G (xPick v9 v13 (.bool false)) h13 fun v14 h14 =>
  gd (wantB v14 true) (opH Tryd.prog G (sv (Instr.loadAt 26 v0)) h14) h14 fun v15 h15 =>
  gd (wantB v14 true) (opH Tryd.prog G (sv (Instr.loadAt 28 v1)) h15) h15 fun v16 h16 =>
  gd (wantB v14 true) (opH Tryd.prog G (callFunc 43 #[v15, v16]) h16) h16 fun v17 h17 =>
  opH Tryd.prog G (xPick v14 v17 (.bool false)) h17 fun v18 h18 =>
  K .ret (upd (upd (upd (upd (upd (upd (upd (upd (upd (upd (upd (upd (upd (upd (upd (upd (upd (upd (upd (upd (upd (upd (upd (upd r 2 v0) 3 v1) 4 (.bool false)) 5 v2) 6 v3) 7 v4) 8 v4) 9 v5) 10 v6) 11 v7) 12 v8) 13 v9) 14 v9) 15 v10) 16 v11) 17 v12) 18 v13) 19 v14) 20 v14) 21 v15) 22 v16) 23 v17) 24 v18) 4 v18) h18
theorem S23_eq (G : Hp) (K : Exit → Rg → Hp → Prop) (r : Rg) (h : Hp) : wpC Tryd.prog G 25 md23 true (Tryd.f23.body.getD .skip) r h K = S23 G K r h := by kernel_rfl
theorem enter23 {G : Hp} {h : Hp} {args : Array Value} {R : Value → Hp → Prop} (hn : args.size ≤ 25) (H : S23 G (retK Tryd.prog G [.tmp 4] R) (regs args) h) : HCalls Tryd.prog G 23 args h R :=
  HCalls.enter (md := md23) mixed Tryd.func23 rfl hn (by rw [← S23_eq] at H; exact H)

def md39 : Nat → Hint
  | _ => ⟨false, [], [], [], [], false⟩
def S39 (G : Hp) (K : Exit → Rg → Hp → Prop) (r : Rg) (h : Hp) : Prop :=
  opH Tryd.prog G (sv (Instr.box 26 (r 0))) h fun v0 h0 =>
  opH Tryd.prog G (sv (Instr.fieldAt 26 v0 0)) h0 fun v1 h1 =>
  opH Tryd.prog G (sv (Instr.loadAt 3 v1)) h1 fun v2 h2 =>
  opH Tryd.prog G (callFunc 65 #[v2, (.int .i64 1), (.int .i64 16)]) h2 fun v3 h3 =>
  gd (wantB v3 true) (opH Tryd.prog G (sv (Instr.fieldAt 26 v0 1)) h3) h3 fun v4 h4 =>
  gd (wantB v3 true) (opH Tryd.prog G (sv (Instr.loadAt 3 v4)) h4) h4 fun v5 h5 =>
  gd (wantB v3 true) (opH Tryd.prog G (callFunc 65 #[v5, (.int .i64 1), (.int .i64 16)]) h5) h5 fun v6 h6 =>
  opH Tryd.prog G (xPick v3 v6 (.bool false)) h6 fun v7 h7 =>
  gd (wantB v7 true) (opH Tryd.prog G (sv (Instr.fieldAt 26 v0 2)) h7) h7 fun v8 h8 =>
  gd (wantB v7 true) (opH Tryd.prog G (sv (Instr.loadAt 3 v8)) h8) h8 fun v9 h9 =>
  gd (wantB v7 true) (opH Tryd.prog G (callFunc 65 #[v9, (.int .i64 1), (.int .i64 8)]) h9) h9 fun v10 h10 =>
  opH Tryd.prog G (xPick v7 v10 (.bool false)) h10 fun v11 h11 =>
  gd (wantB v11 true) (opH Tryd.prog G (sv (Instr.fieldAt 26 v0 7)) h11) h11 fun v12 h12 =>
  gd (wantB v11 true) (opH Tryd.prog G (sv (Instr.loadAt 3 v12)) h12) h12 fun v13 h13 =>
  gd (wantB v11 true) (opH Tryd.prog G (callFunc 65 #[v13, (.int .i64 1), (.int .i64 1000)]) h13) h13 fun v14 h14 =>
  opH Tryd.prog G (xPick v11 v14 (.bool false)) h14 fun v15 h15 =>
  gd (wantB v15 true) (opH Tryd.prog G (sv (Instr.fieldAt 26 v0 8)) h15) h15 fun v16 h16 =>
  gd (wantB v15 true) (opH Tryd.prog G (sv (Instr.loadAt 3 v16)) h16) h16 fun v17 h17 =>
  gd (wantB v15 true) (opH Tryd.prog G (callFunc 65 #[v17, (.int .i64 1), (.int .i64 1000)]) h17) h17 fun v18 h18 =>
  opH Tryd.prog G (xPick v15 v18 (.bool false)) h18 fun v19 h19 =>
  gd (wantB v19 true) (opH Tryd.prog G (sv (Instr.fieldAt 26 v0 9)) h19) h19 fun v20 h20 =>
  gd (wantB v19 true) (opH Tryd.prog G (sv (Instr.loadAt 3 v20)) h20) h20 fun v21 h21 =>
  gd (wantB v19 true) (opH Tryd.prog G (callFunc 65 #[v21, (.int .i64 1), (.int .i64 1000)]) h21) h21 fun v22 h22 =>
  opH Tryd.prog G (xPick v19 v22 (.bool false)) h22 fun v23 h23 =>
  gd (wantB v23 true) (opH Tryd.prog G (sv (Instr.fieldAt 26 v0 10)) h23) h23 fun v24 h24 =>
  gd (wantB v23 true) (opH Tryd.prog G (sv (Instr.loadAt 3 v24)) h24) h24 fun v25 h25 =>
  gd (wantB v23 true) (opH Tryd.prog G (callFunc 65 #[v25, (.int .i64 1), (.int .i64 1000)]) h25) h25 fun v26 h26 =>
  opH Tryd.prog G (xPick v23 v26 (.bool false)) h26 fun v27 h27 =>
  gd (wantB v27 true) (opH Tryd.prog G (sv (Instr.fieldAt 26 v0 11)) h27) h27 fun v28 h28 =>
  gd (wantB v27 true) (opH Tryd.prog G (sv (Instr.loadAt 3 v28)) h28) h28 fun v29 h29 =>
  gd (wantB v27 true) (opH Tryd.prog G (callFunc 65 #[v29, (.int .i64 1), (.int .i64 1000)]) h29) h29 fun v30 h30 =>
  opH Tryd.prog G (xPick v27 v30 (.bool false)) h30 fun v31 h31 =>
  gd (wantB v31 true) (opH Tryd.prog G (sv (Instr.fieldAt 26 v0 13)) h31) h31 fun v32 h32 =>
  gd (wantB v31 true) (opH Tryd.prog G (sv (Instr.loadAt 3 v32)) h32) h32 fun v33 h33 =>
  gd (wantB v31 true) (opH Tryd.prog G (callFunc 65 #[v33, (.int .i64 1), (.int .i64 1000)]) h33) h33 fun v34 h34 =>
  opH Tryd.prog G (xPick v31 v34 (.bool false)) h34 fun v35 h35 =>
  gd (wantB v35 true) (opH Tryd.prog G (sv (Instr.fieldAt 26 v0 12)) h35) h35 fun v36 h36 =>
  gd (wantB v35 true) (opH Tryd.prog G (sv (Instr.loadAt 3 v36)) h36) h36 fun v37 h37 =>
  gd (wantB v35 true) (opH Tryd.prog G (callFunc 65 #[v37, (.int .i64 1), (.int .i64 16)]) h37) h37 fun v38 h38 =>
  opH Tryd.prog G (xPick v35 v38 (.bool false)) h38 fun v39 h39 =>
  gd (wantB v39 true) (opH Tryd.prog G (sv (Instr.fieldAt 26 v0 14)) h39) h39 fun v40 h40 =>
  gd (wantB v39 true) (opH Tryd.prog G (sv (Instr.loadAt 3 v40)) h40) h40 fun v41 h41 =>
  gd (wantB v39 true) (opH Tryd.prog G (callFunc 65 #[v41, (.int .i64 1), (.int .i64 1048576)]) h41) h41 fun v42 h42 =>
  opH Tryd.prog G (xPick v39 v42 (.bool false)) h42 fun v43 h43 =>
  K .ret (upd (upd (upd (upd (upd (upd (upd (upd (upd (upd (upd (upd (upd (upd (upd (upd (upd (upd (upd (upd (upd (upd (upd (upd (upd (upd (upd (upd (upd (upd (upd (upd (upd (upd (upd (upd (upd (upd (upd (upd (upd (upd (upd (upd (upd (upd (upd (upd (upd (upd (upd (upd (upd (upd (upd (upd r 1 v0) 2 (.bool false)) 3 v1) 4 v2) 5 v3) 6 v3) 7 v4) 8 v5) 9 v6) 10 v7) 11 v7) 12 v8) 13 v9) 14 v10) 15 v11) 16 v11) 17 v12) 18 v13) 19 v14) 20 v15) 21 v15) 22 v16) 23 v17) 24 v18) 25 v19) 26 v19) 27 v20) 28 v21) 29 v22) 30 v23) 31 v23) 32 v24) 33 v25) 34 v26) 35 v27) 36 v27) 37 v28) 38 v29) 39 v30) 40 v31) 41 v31) 42 v32) 43 v33) 44 v34) 45 v35) 46 v35) 47 v36) 48 v37) 49 v38) 50 v39) 51 v39) 52 v40) 53 v41) 54 v42) 55 v43) 2 v43) h43
theorem S39_eq (G : Hp) (K : Exit → Rg → Hp → Prop) (r : Rg) (h : Hp) : wpC Tryd.prog G 56 md39 true (Tryd.f39.body.getD .skip) r h K = S39 G K r h := by kernel_rfl
theorem enter39 {G : Hp} {h : Hp} {args : Array Value} {R : Value → Hp → Prop} (hn : args.size ≤ 56) (H : S39 G (retK Tryd.prog G [.tmp 2] R) (regs args) h) : HCalls Tryd.prog G 39 args h R :=
  HCalls.enter (md := md39) mixed Tryd.func39 rfl hn (by rw [← S39_eq] at H; exact H)

def md40 : Nat → Hint
  | _ => ⟨false, [], [], [], [], false⟩
def S40 (G : Hp) (K : Exit → Rg → Hp → Prop) (r : Rg) (h : Hp) : Prop :=
  opH Tryd.prog G (sv (Instr.box 26 (r 0))) h fun v0 h0 =>
  opH Tryd.prog G (sv (Instr.box 28 (r 1))) h0 fun v1 h1 =>
  opH Tryd.prog G (sv (Instr.fieldAt 28 v1 0)) h1 fun v2 h2 =>
  opH Tryd.prog G (sv (Instr.loadAt 3 v2)) h2 fun v3 h3 =>
  opH Tryd.prog G (sv (binOp .geq 3 v3 (.int .i64 0))) h3 fun v4 h4 =>
  gd (wantB v4 true) (opH Tryd.prog G (sv (Instr.fieldAt 28 v1 1)) h4) h4 fun v5 h5 =>
  gd (wantB v4 true) (opH Tryd.prog G (sv (Instr.loadAt 3 v5)) h5) h5 fun v6 h6 =>
  gd (wantB v4 true) (opH Tryd.prog G (sv (binOp .geq 3 v6 (.int .i64 0))) h6) h6 fun v7 h7 =>
  opH Tryd.prog G (xPick v4 v7 (.bool false)) h7 fun v8 h8 =>
  gd (wantB v8 true) (opH Tryd.prog G (sv (Instr.fieldAt 28 v1 0)) h8) h8 fun v9 h9 =>
  gd (wantB v8 true) (opH Tryd.prog G (sv (Instr.loadAt 3 v9)) h9) h9 fun v10 h10 =>
  gd (wantB v8 true) (opH Tryd.prog G (sv (Instr.fieldAt 26 v0 0)) h10) h10 fun v11 h11 =>
  gd (wantB v8 true) (opH Tryd.prog G (sv (Instr.loadAt 3 v11)) h11) h11 fun v12 h12 =>
  gd (wantB v8 true) (opH Tryd.prog G (sv (binOp .lss 3 v10 v12)) h12) h12 fun v13 h13 =>
  opH Tryd.prog G (xPick v8 v13 (.bool false)) h13 fun v14 h14 =>
  gd (wantB v14 true) (opH Tryd.prog G (sv (Instr.fieldAt 28 v1 1)) h14) h14 fun v15 h15 =>
  gd (wantB v14 true) (opH Tryd.prog G (sv (Instr.loadAt 3 v15)) h15) h15 fun v16 h16 =>
  gd (wantB v14 true) (opH Tryd.prog G (sv (Instr.fieldAt 26 v0 1)) h16) h16 fun v17 h17 =>
  gd (wantB v14 true) (opH Tryd.prog G (sv (Instr.loadAt 3 v17)) h17) h17 fun v18 h18 =>
  gd (wantB v14 true) (opH Tryd.prog G (sv (binOp .lss 3 v16 v18)) h18) h18 fun v19 h19 =>
  opH Tryd.prog G (xPick v14 v19 (.bool false)) h19 fun v20 h20 =>
  K .ret (upd (upd (upd (upd (upd (upd (upd (upd (upd (upd (upd (upd (upd (upd (upd (upd (upd (upd (upd (upd (upd (upd (upd (upd (upd (upd r 2 v0) 3 v1) 4 (.bool false)) 5 v2) 6 v3) 7 v4) 8 v4) 9 v5) 10 v6) 11 v7) 12 v8) 13 v8) 14 v9) 15 v10) 16 v11) 17 v12) 18 v13) 19 v14) 20 v14) 21 v15) 22 v16) 23 v17) 24 v18) 25 v19) 26 v20) 4 v20) h20
theorem S40_eq (G : Hp) (K : Exit → Rg → Hp → Prop) (r : Rg) (h : Hp) : wpC Tryd.prog G 27 md40 true (Tryd.f40.body.getD .skip) r h K = S40 G K r h := by kernel_rfl
theorem enter40 {G : Hp} {h : Hp} {args : Array Value} {R : Value → Hp → Prop} (hn : args.size ≤ 27) (H : S40 G (retK Tryd.prog G [.tmp 4] R) (regs args) h) : HCalls Tryd.prog G 40 args h R :=
  HCalls.enter (md := md40) mixed Tryd.func40 rfl hn (by rw [← S40_eq] at H; exact H)

def md41 : Nat → Hint
  | 5 => ⟨false, [0, 0, 3, 7, 0, 31], [.pureN, .pureN, .pureN, .pureM, .pureM, .pureM], [.pureN, .pureN, .pureN, .pureM, .pureM, .pureM], [false, false, false, false, false, false], false⟩
  | _ => ⟨false, [], [], [], [], false⟩
def S41_k1 (G : Hp) (K : Exit → Rg → Hp → Prop) (r : Rg) (h : Hp) : Prop :=
  K .ret (upd (upd r 21 (r 5)) 4 (r 5)) h
def S41_l2_k4 (G : Hp) (K : Exit → Rg → Hp → Prop) (r : Rg) (h : Hp) : Prop :=
  opH Tryd.prog G (sv (binOp .add 3 (r 6) (.int .i64 1))) h fun v3 h3 =>
  K .normal (upd (upd (upd r 11 (r 6)) 12 v3) 6 v3) h3
def S41_l2_k3 (G : Hp) (K : Exit → Rg → Hp → Prop) (r : Rg) (h : Hp) : Prop :=
  pureW Tryd.prog noHp noHp (sv (Instr.indexAt 22 (r 0) (r 6))) h fun v4 h4 =>
  pureW Tryd.prog G h (sv (Instr.loadAt 28 v4)) h4 fun v5 h5 =>
  pureW Tryd.prog G h (sv (Instr.loadAt 28 (r 3))) h5 fun v6 h6 =>
  pureW Tryd.prog G h (xEq .eql 28 (.tmp 0) (.tmp 0) v5 v6) h6 fun v7 h7 =>
  cond v7
  (opH Tryd.prog G (sv (binOp .add 3 (r 5) (.int .i64 1))) h7 fun v8 h8 =>
  S41_l2_k4 G K (upd (upd (upd (upd (upd (upd (upd (upd (upd r 13 (r 0)) 14 (r 6)) 15 v4) 16 v5) 17 v6) 18 v7) 19 (r 5)) 20 v8) 5 v8) h8)
  (S41_l2_k4 G K (upd (upd (upd (upd (upd (upd r 13 (r 0)) 14 (r 6)) 15 v4) 16 v5) 17 v6) 18 v7) h7)
def S41_l2 (G : Hp) (r : Rg) (h : Hp) (K : Exit → Rg → Hp → Prop) : Prop :=
  opH Tryd.prog G (sv (Builtin.len_ #[22] 3 #[(r 0)])) h fun v1 h1 =>
  opH Tryd.prog G (sv (binOp .lss 3 (r 6) v1)) h1 fun v2 h2 =>
  cond v2
  (S41_l2_k3 G K (upd (upd (upd (upd r 7 (r 6)) 8 (r 0)) 9 v1) 10 v2) h2)
  (K (.exit 0) (upd (upd (upd (upd r 7 (r 6)) 8 (r 0)) 9 v1) 10 v2) h2)
def S41 (G : Hp) (K : Exit → Rg → Hp → Prop) (r : Rg) (h : Hp) : Prop :=
  opH Tryd.prog G (sv (Instr.box 28 (r 1))) h fun v0 h0 =>
  loopP (S41_l2 G) (upd (upd (upd (upd r 3 v0) 4 (.int .i64 0)) 5 (.int .i64 0)) 6 (.int .i64 0)) h0 (blockK 0 (thenK (S41_k1 G K) K))
theorem S41_eq (G : Hp) (K : Exit → Rg → Hp → Prop) (r : Rg) (h : Hp) : wpC Tryd.prog G 22 md41 true (Tryd.f41.body.getD .skip) r h K = S41 G K r h := by kernel_rfl
theorem enter41 {G : Hp} {h : Hp} {args : Array Value} {R : Value → Hp → Prop} (hn : args.size ≤ 22) (H : S41 G (retK Tryd.prog G [.tmp 4] R) (regs args) h) : HCalls Tryd.prog G 41 args h R :=
  HCalls.enter (md := md41) mixed Tryd.func41 rfl hn (by rw [← S41_eq] at H; exact H)

def md42 : Nat → Hint
  | 4 => ⟨false, [0, 1, 0, 7, 15, 31, 0, 127, 255], [.pureN, .pureM, .pureN, .pureN, .pureM, .eff, .pureM, .eff, .pureN], [.pureN, .pureM, .pureN, .pureN, .pureM, .eff, .pureM, .eff, .pureN], [false, false, false, false, false, true, false, false, false], true⟩
  | _ => ⟨false, [], [], [], [], false⟩
def S42_k1 (G : Hp) (K : Exit → Rg → Hp → Prop) (r : Rg) (h : Hp) : Prop :=
  K .ret (upd r 4 (.bool false)) h
def S42_l2_k4 (G : Hp) (K : Exit → Rg → Hp → Prop) (r : Rg) (h : Hp) : Prop :=
  opH Tryd.prog G (sv (binOp .add 3 (r 5) (.int .i64 1))) h fun v6 h6 =>
  K .normal (upd (upd (upd r 11 (r 5)) 12 v6) 5 v6) h6
def S42_l2_k3 (G : Hp) (K : Exit → Rg → Hp → Prop) (r : Rg) (h : Hp) : Prop :=
  ∃ q7 : Hp, q7.le h ∧
  pureW Tryd.prog noHp noHp (sv (Instr.fieldAt 26 (r 2) 5)) h fun v8 h8 =>
  pureW Tryd.prog G q7 (sv (Instr.loadAt 23 v8)) h8 fun v9 h9 =>
  pureW Tryd.prog noHp noHp (sv (Instr.indexAt 23 v9 (r 5))) h9 fun v10 h10 =>
  pureW Tryd.prog G q7 (sv (Instr.loadAt 85 v10)) h10 fun v11 h11 =>
  opH Tryd.prog G (callFunc 45 #[v11]) h11 fun v12 h12 => q7.le h12 ∧
  pureW Tryd.prog G q7 (sv (Instr.loadAt 28 (r 3))) h12 fun v13 h13 =>
  opH Tryd.prog G (callFunc 41 #[v12, v13]) h13 fun v14 h14 =>
  pureW Tryd.prog noHp noHp (sv (binOp .gtr 3 v14 (.int .i64 0))) h14 fun v15 h15 =>
  cond v15
  (K .ret (upd (upd (upd (upd (upd (upd (upd (upd (upd (upd r 13 v8) 14 v9) 15 (r 5)) 16 v10) 17 v11) 18 v12) 19 v13) 20 v14) 21 v15) 4 (.bool true)) h15)
  (S42_l2_k4 G K (upd (upd (upd (upd (upd (upd (upd (upd (upd r 13 v8) 14 v9) 15 (r 5)) 16 v10) 17 v11) 18 v12) 19 v13) 20 v14) 21 v15) h15)
def S42_l2 (G : Hp) (r : Rg) (h : Hp) (K : Exit → Rg → Hp → Prop) : Prop :=
  opH Tryd.prog G (sv (Instr.fieldAt 26 (r 2) 5)) h fun v2 h2 =>
  opH Tryd.prog G (sv (Instr.loadAt 23 v2)) h2 fun v3 h3 =>
  opH Tryd.prog G (sv (Builtin.len_ #[23] 3 #[v3])) h3 fun v4 h4 =>
  opH Tryd.prog G (sv (binOp .lss 3 (r 5) v4)) h4 fun v5 h5 =>
  cond v5
  (S42_l2_k3 G K (upd (upd (upd (upd (upd r 6 (r 5)) 7 v2) 8 v3) 9 v4) 10 v5) h5)
  (K (.exit 0) (upd (upd (upd (upd (upd r 6 (r 5)) 7 v2) 8 v3) 9 v4) 10 v5) h5)
def S42 (G : Hp) (K : Exit → Rg → Hp → Prop) (r : Rg) (h : Hp) : Prop :=
  opH Tryd.prog G (sv (Instr.box 26 (r 0))) h fun v0 h0 =>
  opH Tryd.prog G (sv (Instr.box 28 (r 1))) h0 fun v1 h1 =>
  loopP (S42_l2 G) (upd (upd (upd (upd r 2 v0) 3 v1) 4 (.bool false)) 5 (.int .i64 0)) h1 (blockK 0 (thenK (S42_k1 G K) K))
theorem S42_eq (G : Hp) (K : Exit → Rg → Hp → Prop) (r : Rg) (h : Hp) : wpC Tryd.prog G 22 md42 true (Tryd.f42.body.getD .skip) r h K = S42 G K r h := by kernel_rfl
theorem enter42 {G : Hp} {h : Hp} {args : Array Value} {R : Value → Hp → Prop} (hn : args.size ≤ 22) (H : S42 G (retK Tryd.prog G [.tmp 4] R) (regs args) h) : HCalls Tryd.prog G 42 args h R :=
  HCalls.enter (md := md42) mixed Tryd.func42 rfl hn (by rw [← S42_eq] at H; exact H)

def md43 : Nat → Hint
  | _ => ⟨false, [], [], [], [], false⟩
def S43 (G : Hp) (K : Exit → Rg → Hp → Prop) (r : Rg) (h : Hp) : Prop :=
  opH Tryd.prog G (sv (Instr.box 26 (r 0))) h fun v0 h0 =>
  opH Tryd.prog G (sv (Instr.box 28 (r 1))) h0 fun v1 h1 =>
  opH Tryd.prog G (sv (Instr.loadAt 26 v0)) h1 fun v2 h2 =>
  opH Tryd.prog G (sv (Instr.fieldAt 28 v1 0)) h2 fun v3 h3 =>
  opH Tryd.prog G (sv (Instr.loadAt 3 v3)) h3 fun v4 h4 =>
  opH Tryd.prog G (sv (binOp .add 3 v4 (.int .i64 1))) h4 fun v5 h5 =>
  opH Tryd.prog G (sv (Instr.fieldAt 28 v1 1)) h5 fun v6 h6 =>
  opH Tryd.prog G (sv (Instr.loadAt 3 v6)) h6 fun v7 h7 =>
  opH Tryd.prog G (sv (Instr.build 28 #[(0, v5), (1, v7)])) h7 fun v8 h8 =>
  opH Tryd.prog G (callFunc 52 #[v2, v8]) h8 fun v9 h9 =>
  gd (wantB v9 false) (opH Tryd.prog G (sv (Instr.loadAt 26 v0)) h9) h9 fun v10 h10 =>
  gd (wantB v9 false) (opH Tryd.prog G (sv (Instr.fieldAt 28 v1 0)) h10) h10 fun v11 h11 =>
  gd (wantB v9 false) (opH Tryd.prog G (sv (Instr.loadAt 3 v11)) h11) h11 fun v12 h12 =>
  gd (wantB v9 false) (opH Tryd.prog G (sv (Instr.fieldAt 28 v1 1)) h12) h12 fun v13 h13 =>
  gd (wantB v9 false) (opH Tryd.prog G (sv (Instr.loadAt 3 v13)) h13) h13 fun v14 h14 =>
  gd (wantB v9 false) (opH Tryd.prog G (sv (binOp .add 3 v14 (.int .i64 1))) h14) h14 fun v15 h15 =>
  gd (wantB v9 false) (opH Tryd.prog G (sv (Instr.build 28 #[(0, v12), (1, v15)])) h15) h15 fun v16 h16 =>
  gd (wantB v9 false) (opH Tryd.prog G (callFunc 52 #[v10, v16]) h16) h16 fun v17 h17 =>
  opH Tryd.prog G (xPick v9 (.bool true) v17) h17 fun v18 h18 =>
  K .ret (upd (upd (upd (upd (upd (upd (upd (upd (upd (upd (upd (upd (upd (upd (upd (upd (upd (upd (upd (upd (upd (upd r 2 v0) 3 v1) 4 (.bool false)) 5 v2) 6 v3) 7 v4) 8 v5) 9 v6) 10 v7) 11 v8) 12 v9) 13 v9) 14 v10) 15 v11) 16 v12) 17 v13) 18 v14) 19 v15) 20 v16) 21 v17) 22 v18) 4 v18) h18
theorem S43_eq (G : Hp) (K : Exit → Rg → Hp → Prop) (r : Rg) (h : Hp) : wpC Tryd.prog G 23 md43 true (Tryd.f43.body.getD .skip) r h K = S43 G K r h := by kernel_rfl
theorem enter43 {G : Hp} {h : Hp} {args : Array Value} {R : Value → Hp → Prop} (hn : args.size ≤ 23) (H : S43 G (retK Tryd.prog G [.tmp 4] R) (regs args) h) : HCalls Tryd.prog G 43 args h R :=
  HCalls.enter (md := md43) mixed Tryd.func43 rfl hn (by rw [← S43_eq] at H; exact H)

def md46 : Nat → Hint
  | 5 => ⟨false, [0, 1, 3, 7, 7, 23, 7, 119, 247, 503, 1023, 2047, 4095, 8191, 16383, 32767, 16383, 131071, 262143, 524287, 1048575, 16383, 2113535, 8388607, 16777215], [.pureN, .pureN, .pureN, .pureM, .pureN, .pureM, .pureN, .pureN, .pureN, .pureM, .eff, .pureN, .pureN, .pureN, .pureN, .pureM, .pureN, .pureN, .pureN, .pureM, .pureM, .pureN, .pureM, .pureN, .pureN], [.pureN, .pureN, .pureN, .pureM, .pureN, .pureM, .pureN, .pureN, .pureN, .pureM, .eff, .pureN, .pureN, .pureN, .pureN, .late, .pureN, .pureN, .pureN, .late, .late, .pureN, .late, .pureN, .pureN], [false, false, false, false, false, false, false, false, false, false, false, false, false, false, false, false, false, false, false, false, false, false, false, false, false], false⟩
  | 10 => ⟨false, [0, 1, 0, 7, 15, 31, 0, 64, 0, 448, 960, 1984, 4095], [.pureN, .pureM, .pureN, .pureN, .pureN, .pureM, .pureN, .pureM, .pureN, .pureN, .pureN, .pureM, .pureM], [.pureN, .pureM, .pureN, .pureN, .pureN, .pureM, .pureN, .pureM, .pureN, .pureN, .pureN, .pureM, .pureM], [false, false, false, false, false, false, false, false, false, false, false, false, false], false⟩
  | 23 => ⟨false, [0, 0, 3, 7, 0, 0, 48, 112, 255], [.pureN, .pureN, .pureN, .pureM, .pureN, .pureN, .pureN, .pureM, .pureM], [.pureN, .pureN, .pureN, .pureM, .pureN, .pureN, .pureN, .pureM, .pureM], [false, false, false, false, false, false, false, false, false], false⟩
  | _ => ⟨false, [], [], [], [], false⟩
def S46_k3 (G : Hp) (K : Exit → Rg → Hp → Prop) (r : Rg) (h : Hp) : Prop :=
  K .ret (upd r 2 (.bool true)) h
def S46_l4_k6 (G : Hp) (K : Exit → Rg → Hp → Prop) (r : Rg) (h : Hp) : Prop :=
  opH Tryd.prog G (sv (binOp .add 3 (r 6) (.int .i64 1))) h fun v5 h5 =>
  K .normal (upd (upd (upd r 73 (r 6)) 74 v5) 6 v5) h5
def S46_l4_l8_k10 (G : Hp) (K : Exit → Rg → Hp → Prop) (r : Rg) (h : Hp) : Prop :=
  opH Tryd.prog G (sv (binOp .add 3 (r 7) (.int .i64 1))) h fun v11 h11 =>
  K .normal (upd (upd (upd r 84 (r 7)) 85 v11) 7 v11) h11
def S46_l4_l8_k9 (G : Hp) (K : Exit → Rg → Hp → Prop) (r : Rg) (h : Hp) : Prop :=
  pureW Tryd.prog noHp noHp (sv (Instr.indexAt 42 (r 3) (r 7))) h fun v12 h12 =>
  pureW Tryd.prog G h (sv (Instr.loadAt 3 v12)) h12 fun v13 h13 =>
  pureW Tryd.prog noHp noHp (sv (Instr.indexAt 42 (r 3) (r 6))) h13 fun v14 h14 =>
  pureW Tryd.prog G h (sv (Instr.loadAt 3 v14)) h14 fun v15 h15 =>
  pureW Tryd.prog G h (xEq .eql 3 (.tmp 0) (.tmp 0) v13 v15) h15 fun v16 h16 =>
  cond v16
  (K .ret (upd (upd (upd (upd (upd (upd (upd (upd (upd (upd r 86 (r 3)) 87 (r 7)) 88 v12) 89 v13) 90 (r 3)) 91 (r 6)) 92 v14) 93 v15) 94 v16) 2 (.bool false)) h16)
  (S46_l4_l8_k10 G K (upd (upd (upd (upd (upd (upd (upd (upd (upd r 86 (r 3)) 87 (r 7)) 88 v12) 89 v13) 90 (r 3)) 91 (r 6)) 92 v14) 93 v15) 94 v16) h16)
def S46_l4_l8 (G : Hp) (r : Rg) (h : Hp) (K : Exit → Rg → Hp → Prop) : Prop :=
  opH Tryd.prog G (sv (binOp .lss 3 (r 7) (r 6))) h fun v10 h10 =>
  cond v10
  (S46_l4_l8_k9 G K (upd (upd (upd r 81 (r 7)) 82 (r 6)) 83 v10) h10)
  (K (.exit 6) (upd (upd (upd r 81 (r 7)) 82 (r 6)) 83 v10) h10)
def S46_l4_k7 (G : Hp) (K : Exit → Rg → Hp → Prop) (r : Rg) (h : Hp) : Prop :=
  loopP (S46_l4_l8 G) (upd r 7 (.int .i64 0)) h (blockK 6 (blockK 5 (thenK (S46_l4_k6 G K) K)))
def S46_l4_k5 (G : Hp) (K : Exit → Rg → Hp → Prop) (r : Rg) (h : Hp) : Prop :=
  opH Tryd.prog G (sv (Instr.indexAt 42 (r 3) (r 6))) h fun v6 h6 =>
  opH Tryd.prog G (sv (Instr.loadAt 3 v6)) h6 fun v7 h7 =>
  opH Tryd.prog G (callFunc 65 #[v7, (.int .i64 1), (.int .i64 1000000000)]) h7 fun v8 h8 =>
  opH Tryd.prog G (sv (Op.unary .not v8)) h8 fun v9 h9 =>
  cond v9
  (K .ret (upd (upd (upd (upd (upd (upd (upd r 75 (r 3)) 76 (r 6)) 77 v6) 78 v7) 79 v8) 80 v9) 2 (.bool false)) h9)
  (S46_l4_k7 G K (upd (upd (upd (upd (upd (upd r 75 (r 3)) 76 (r 6)) 77 v6) 78 v7) 79 v8) 80 v9) h9)
def S46_l4 (G : Hp) (r : Rg) (h : Hp) (K : Exit → Rg → Hp → Prop) : Prop :=
  opH Tryd.prog G (sv (Builtin.len_ #[42] 3 #[(r 3)])) h fun v3 h3 =>
  opH Tryd.prog G (sv (binOp .lss 3 (r 6) v3)) h3 fun v4 h4 =>
  cond v4
  (S46_l4_k5 G K (upd (upd (upd (upd r 69 (r 6)) 70 (r 3)) 71 v3) 72 v4) h4)
  (K (.exit 4) (upd (upd (upd (upd r 69 (r 6)) 70 (r 3)) 71 v3) 72 v4) h4)
def S46_k2 (G : Hp) (K : Exit → Rg → Hp → Prop) (r : Rg) (h : Hp) : Prop :=
  loopP (S46_l4 G) (upd r 6 (.int .i64 0)) h (blockK 4 (thenK (S46_k3 G K) K))
def S46_k1 (G : Hp) (K : Exit → Rg → Hp → Prop) (r : Rg) (h : Hp) : Prop :=
  opH Tryd.prog G (sv (Builtin.len_ #[42] 3 #[(r 3)])) h fun v1 h1 =>
  opH Tryd.prog G (sv (binOp .gtr 3 v1 (.int .i64 512))) h1 fun v2 h2 =>
  cond v2
  (K .ret (upd (upd (upd (upd r 66 (r 3)) 67 v1) 68 v2) 2 (.bool false)) h2)
  (S46_k2 G K (upd (upd (upd r 66 (r 3)) 67 v1) 68 v2) h2)
def S46_l11_k13 (G : Hp) (K : Exit → Rg → Hp → Prop) (r : Rg) (h : Hp) : Prop :=
  opH Tryd.prog G (sv (binOp .add 3 (r 4) (.int .i64 1))) h fun v21 h21 =>
  K .normal (upd (upd (upd r 13 (r 4)) 14 v21) 4 v21) h21
def S46_l11_k15 (G : Hp) (K : Exit → Rg → Hp → Prop) (r : Rg) (h : Hp) : Prop :=
  opH Tryd.prog G (sv (Instr.fieldAt 26 (r 1) 6)) h fun v44 h44 =>
  opH Tryd.prog G (sv (Instr.loadAt 24 v44)) h44 fun v45 h45 =>
  opH Tryd.prog G (sv (Instr.indexAt 24 v45 (r 4))) h45 fun v46 h46 =>
  opH Tryd.prog G (sv (Instr.fieldAt 49 v46 1)) h46 fun v47 h47 =>
  opH Tryd.prog G (sv (Instr.loadAt 42 v47)) h47 fun v48 h48 =>
  opH Tryd.prog G (sv (Builtin.append_ #[42, 42] 42 #[(r 3), v48])) h48 fun v49 h49 =>
  S46_l11_k13 G K (upd (upd (upd (upd (upd (upd (upd (upd (upd r 58 (r 3)) 59 v44) 60 v45) 61 (r 4)) 62 v46) 63 v47) 64 v48) 65 v49) 3 v49) h49
def S46_l11_l16_k18 (G : Hp) (K : Exit → Rg → Hp → Prop) (r : Rg) (h : Hp) : Prop :=
  opH Tryd.prog G (sv (binOp .add 3 (r 5) (.int .i64 1))) h fun v51 h51 =>
  K .normal (upd (upd (upd r 43 (r 5)) 44 v51) 5 v51) h51
def S46_l11_l16_k17 (G : Hp) (K : Exit → Rg → Hp → Prop) (r : Rg) (h : Hp) : Prop :=
  pureW Tryd.prog noHp noHp (sv (Instr.fieldAt 26 (r 1) 6)) h fun v52 h52 =>
  pureW Tryd.prog G h (sv (Instr.loadAt 24 v52)) h52 fun v53 h53 =>
  pureW Tryd.prog noHp noHp (sv (Instr.indexAt 24 v53 (r 5))) h53 fun v54 h54 =>
  pureW Tryd.prog noHp noHp (sv (Instr.fieldAt 49 v54 0)) h54 fun v55 h55 =>
  pureW Tryd.prog G h (sv (Instr.loadAt 28 v55)) h55 fun v56 h56 =>
  pureW Tryd.prog noHp noHp (sv (Instr.fieldAt 26 (r 1) 6)) h56 fun v57 h57 =>
  pureW Tryd.prog G h (sv (Instr.loadAt 24 v57)) h57 fun v58 h58 =>
  pureW Tryd.prog noHp noHp (sv (Instr.indexAt 24 v58 (r 4))) h58 fun v59 h59 =>
  pureW Tryd.prog noHp noHp (sv (Instr.fieldAt 49 v59 0)) h59 fun v60 h60 =>
  pureW Tryd.prog G h (sv (Instr.loadAt 28 v60)) h60 fun v61 h61 =>
  pureW Tryd.prog G h (xEq .eql 28 (.tmp 0) (.tmp 0) v56 v61) h61 fun v62 h62 =>
  cond v62
  (K .ret (upd (upd (upd (upd (upd (upd (upd (upd (upd (upd (upd (upd (upd (upd r 45 v52) 46 v53) 47 (r 5)) 48 v54) 49 v55) 50 v56) 51 v57) 52 v58) 53 (r 4)) 54 v59) 55 v60) 56 v61) 57 v62) 2 (.bool false)) h62)
  (S46_l11_l16_k18 G K (upd (upd (upd (upd (upd (upd (upd (upd (upd (upd (upd (upd (upd r 45 v52) 46 v53) 47 (r 5)) 48 v54) 49 v55) 50 v56) 51 v57) 52 v58) 53 (r 4)) 54 v59) 55 v60) 56 v61) 57 v62) h62)
def S46_l11_l16 (G : Hp) (r : Rg) (h : Hp) (K : Exit → Rg → Hp → Prop) : Prop :=
  opH Tryd.prog G (sv (binOp .lss 3 (r 5) (r 4))) h fun v50 h50 =>
  cond v50
  (S46_l11_l16_k17 G K (upd (upd (upd r 40 (r 5)) 41 (r 4)) 42 v50) h50)
  (K (.exit 2) (upd (upd (upd r 40 (r 5)) 41 (r 4)) 42 v50) h50)
def S46_l11_k14 (G : Hp) (K : Exit → Rg → Hp → Prop) (r : Rg) (h : Hp) : Prop :=
  loopP (S46_l11_l16 G) (upd r 5 (.int .i64 0)) h (blockK 2 (thenK (S46_l11_k15 G K) (blockK 1 (thenK (S46_l11_k13 G K) K))))
def S46_l11_k12 (G : Hp) (K : Exit → Rg → Hp → Prop) (r : Rg) (h : Hp) : Prop :=
  pureW Tryd.prog noHp noHp (sv (binOp .gtr 3 (r 4) (.int .i64 256))) h fun v22 h22 =>
  gd (wantB v22 false) (pureW Tryd.prog G h (sv (Instr.loadAt 26 (r 1))) h22) h22 fun v23 h23 =>
  gd (wantB v22 false) (pureW Tryd.prog noHp noHp (sv (Instr.fieldAt 26 (r 1) 6)) h23) h23 fun v24 h24 =>
  gd (wantB v22 false) (pureW Tryd.prog G h (sv (Instr.loadAt 24 v24)) h24) h24 fun v25 h25 =>
  gd (wantB v22 false) (fun K1 => K1 (r 4) h25) h25 fun v26 h26 =>
  gd (wantB v22 false) (pureW Tryd.prog noHp noHp (sv (Instr.indexAt 24 v25 v26)) h26) h26 fun v27 h27 =>
  gd (wantB v22 false) (pureW Tryd.prog noHp noHp (sv (Instr.fieldAt 49 v27 0)) h27) h27 fun v28 h28 =>
  gd (wantB v22 false) (pureW Tryd.prog G h (sv (Instr.loadAt 28 v28)) h28) h28 fun v29 h29 =>
  gd (wantB v22 false) (opH Tryd.prog G (callFunc 23 #[v23, v29]) h29) h29 fun v30 h30 =>
  gd (wantB v22 false) (pureW Tryd.prog noHp noHp (sv (Op.unary .not v30)) h30) h30 fun v31 h31 =>
  pureW Tryd.prog noHp noHp (xPick v22 (.bool true) v31) h31 fun v32 h32 =>
  gd (wantB v32 false) (pureW Tryd.prog noHp noHp (sv (Instr.fieldAt 26 (r 1) 6)) h32) h32 fun v33 h33 =>
  gd (wantB v32 false) (pureW Tryd.prog G h33 (sv (Instr.loadAt 24 v33)) h33) h33 fun v34 h34 =>
  gd (wantB v32 false) (fun K1 => K1 (r 4) h34) h34 fun v35 h35 =>
  gd (wantB v32 false) (pureW Tryd.prog noHp noHp (sv (Instr.indexAt 24 v34 v35)) h35) h35 fun v36 h36 =>
  gd (wantB v32 false) (pureW Tryd.prog noHp noHp (sv (Instr.fieldAt 49 v36 1)) h36) h36 fun v37 h37 =>
  gd (wantB v32 false) (pureW Tryd.prog G h37 (sv (Instr.loadAt 42 v37)) h37) h37 fun v38 h38 =>
  gd (wantB v32 false) (pureW Tryd.prog G h38 (sv (Builtin.len_ #[42] 3 #[v38])) h38) h38 fun v39 h39 =>
  gd (wantB v32 false) (pureW Tryd.prog noHp noHp (sv (Instr.fieldAt 26 (r 1) 2)) h39) h39 fun v40 h40 =>
  gd (wantB v32 false) (pureW Tryd.prog G h40 (sv (Instr.loadAt 3 v40)) h40) h40 fun v41 h41 =>
  gd (wantB v32 false) (pureW Tryd.prog noHp noHp (sv (binOp .gtr 3 v39 v41)) h41) h41 fun v42 h42 =>
  pureW Tryd.prog noHp noHp (xPick v32 (.bool true) v42) h42 fun v43 h43 =>
  cond v43
  (K .ret (upd (upd (upd (upd (upd (upd (upd (upd (upd (upd (upd (upd (upd (upd (upd (upd (upd (upd (upd (upd (upd (upd (upd (upd (upd (upd r 15 (r 4)) 16 v22) 17 v22) 18 v23) 19 v24) 20 v25) 21 v26) 22 v27) 23 v28) 24 v29) 25 v30) 26 v31) 27 v32) 28 v32) 29 v33) 30 v34) 31 v35) 32 v36) 33 v37) 34 v38) 35 v39) 36 v40) 37 v41) 38 v42) 39 v43) 2 (.bool false)) h43)
  (S46_l11_k14 G K (upd (upd (upd (upd (upd (upd (upd (upd (upd (upd (upd (upd (upd (upd (upd (upd (upd (upd (upd (upd (upd (upd (upd (upd (upd r 15 (r 4)) 16 v22) 17 v22) 18 v23) 19 v24) 20 v25) 21 v26) 22 v27) 23 v28) 24 v29) 25 v30) 26 v31) 27 v32) 28 v32) 29 v33) 30 v34) 31 v35) 32 v36) 33 v37) 34 v38) 35 v39) 36 v40) 37 v41) 38 v42) 39 v43) h43)
def S46_l11 (G : Hp) (r : Rg) (h : Hp) (K : Exit → Rg → Hp → Prop) : Prop :=
  opH Tryd.prog G (sv (Instr.fieldAt 26 (r 1) 6)) h fun v17 h17 =>
  opH Tryd.prog G (sv (Instr.loadAt 24 v17)) h17 fun v18 h18 =>
  opH Tryd.prog G (sv (Builtin.len_ #[24] 3 #[v18])) h18 fun v19 h19 =>
  opH Tryd.prog G (sv (binOp .lss 3 (r 4) v19)) h19 fun v20 h20 =>
  cond v20
  (S46_l11_k12 G K (upd (upd (upd (upd (upd r 8 (r 4)) 9 v17) 10 v18) 11 v19) 12 v20) h20)
  (K (.exit 0) (upd (upd (upd (upd (upd r 8 (r 4)) 9 v17) 10 v18) 11 v19) 12 v20) h20)
def S46 (G : Hp) (K : Exit → Rg → Hp → Prop) (r : Rg) (h : Hp) : Prop :=
  opH Tryd.prog G (sv (Instr.box 26 (r 0))) h fun v0 h0 =>
  loopP (S46_l11 G) (upd (upd (upd (upd r 1 v0) 2 (.bool false)) 3 (.slice none 0 0)) 4 (.int .i64 0)) h0 (blockK 0 (thenK (S46_k1 G K) K))
theorem S46_eq (G : Hp) (K : Exit → Rg → Hp → Prop) (r : Rg) (h : Hp) : wpC Tryd.prog G 95 md46 true (Tryd.f46.body.getD .skip) r h K = S46 G K r h := by kernel_rfl
theorem enter46 {G : Hp} {h : Hp} {args : Array Value} {R : Value → Hp → Prop} (hn : args.size ≤ 95) (H : S46 G (retK Tryd.prog G [.tmp 2] R) (regs args) h) : HCalls Tryd.prog G 46 args h R :=
  HCalls.enter (md := md46) mixed Tryd.func46 rfl hn (by rw [← S46_eq] at H; exact H)

def md65 : Nat → Hint
  | _ => ⟨false, [], [], [], [], false⟩
def S65 (G : Hp) (K : Exit → Rg → Hp → Prop) (r : Rg) (h : Hp) : Prop :=
  opH Tryd.prog G (sv (binOp .geq 3 (r 0) (r 1))) h fun v0 h0 =>
  gd (wantB v0 true) (fun K1 => K1 (r 0) h0) h0 fun v1 h1 =>
  gd (wantB v0 true) (fun K1 => K1 (r 2) h1) h1 fun v2 h2 =>
  gd (wantB v0 true) (opH Tryd.prog G (sv (binOp .leq 3 v1 v2)) h2) h2 fun v3 h3 =>
  opH Tryd.prog G (xPick v0 v3 (.bool false)) h3 fun v4 h4 =>
  K .ret (upd (upd (upd (upd (upd (upd (upd (upd (upd (upd r 6 (.bool false)) 7 (r 0)) 8 (r 1)) 9 v0) 10 v0) 11 v1) 12 v2) 13 v3) 14 v4) 6 v4) h4
theorem S65_eq (G : Hp) (K : Exit → Rg → Hp → Prop) (r : Rg) (h : Hp) : wpC Tryd.prog G 15 md65 true (Tryd.f65.body.getD .skip) r h K = S65 G K r h := by kernel_rfl
theorem enter65 {G : Hp} {h : Hp} {args : Array Value} {R : Value → Hp → Prop} (hn : args.size ≤ 15) (H : S65 G (retK Tryd.prog G [.tmp 6] R) (regs args) h) : HCalls Tryd.prog G 65 args h R :=
  HCalls.enter (md := md65) mixed Tryd.func65 rfl hn (by rw [← S65_eq] at H; exact H)

end Go.Proofs.YtangejiigopdaaaDoor
end

section
/- The hive's config as it lies in memory; the reference's answers on cells. -/
set_option linter.unusedSimpArgs false
set_option linter.unusedVariables false
namespace Go.Proofs.YtangejiigopdaaaDoor
open Go Go.HL

abbrev Cell := Int × Int
structure Pose where
  x : Int
  y : Int
  d : Bool
  deriving DecidableEq
/-- A stack as it lies: its cell, its row of bins. -/
structure Raw where
  x : Int
  y : Int
  a : Option Addr
  n : Nat
  c : Nat
structure Conf where
  w : Int
  h : Int
  ht : Int
  bl : List Cell
  po : List Cell
  ro : List Pose
  st : List (Cell × List Int)
  un : Int
  ac : Int
  sp : Int
  tu : Int
  ho : Int
  qu : Int
  re : Int
  bu : Int
  back : Bool

def cellC : Cod Cell := ⟨2, fun x => [.int .i64 x.1, .int .i64 x.2], fun _ => rfl, fun _ v hv => by simp at hv; rcases hv with rfl | rfl <;> rfl⟩
def poseC : Cod Pose := ⟨3, fun p => [.int .i64 p.x, .int .i64 p.y, .bool p.d], fun _ => rfl, fun _ v hv => by simp at hv; rcases hv with rfl | rfl | rfl <;> rfl⟩
def icC : Cod Int := ⟨1, fun x => [.int .i64 x], fun _ => rfl, fun _ v hv => by simp at hv; rcases hv with rfl; rfl⟩
def bcC : Cod Bool := ⟨1, fun x => [.bool x], fun _ => rfl, fun _ v hv => by simp at hv; rcases hv with rfl; rfl⟩
def rawC : Cod Raw := ⟨3, fun s => [.int .i64 s.x, .int .i64 s.y, .slice s.a s.n s.c], fun _ => rfl, fun _ v hv => by simp at hv; rcases hv with rfl | rfl | rfl <;> rfl⟩

abbrev cellV (c : Cell) : Value := .agg #[.int .i64 c.1, .int .i64 c.2]
abbrev poseV (p : Pose) : Value := .agg #[.int .i64 p.x, .int .i64 p.y, .bool p.d]

/-- The config's lists, seen. -/
structure CA (G h : Hp) (C : Conf) (ab : Option Addr) (cb : Nat) (ap : Option Addr) (cp : Nat) (ar : Option Addr) (cr : Nat) (az : Option Addr) (cs : Nat) : Prop where
  bl : Sees cellC G h (.slice ab C.bl.length cb) C.bl
  po : Sees cellC G h (.slice ap C.po.length cp) C.po
  ro : Sees poseC G h (.slice ar C.ro.length cr) C.ro
  st : ∃ raw : List Raw, Sees rawC G h (.slice az C.st.length cs) raw ∧ ∀ (i : Nat) (r : Raw) (s : Cell × List Int), raw[i]? = some r → C.st[i]? = some s → (r.x, r.y) = s.1 ∧ r.n = s.2.length ∧ Sees icC G h (.slice r.a s.2.length r.c) s.2

abbrev confV (C : Conf) (ab : Option Addr) (cb : Nat) (ap : Option Addr) (cp : Nat) (ar : Option Addr) (cr : Nat) (az : Option Addr) (cs : Nat) : Value :=
  .agg #[.int .i64 C.w, .int .i64 C.h, .int .i64 C.ht, .slice ab C.bl.length cb, .slice ap C.po.length cp, .slice ar C.ro.length cr, .slice az C.st.length cs, .int .i64 C.un, .int .i64 C.ac, .int .i64 C.sp, .int .i64 C.tu, .int .i64 C.ho, .int .i64 C.qu, .int .i64 C.re, .int .i64 C.bu, .bool C.back]

def CV (G h : Hp) (v : Value) (C : Conf) : Prop := ∃ ab cb ap cp ar cr az cs, v = confV C ab cb ap cp ar cr az cs ∧ CA G h C ab cb ap cp ar cr az cs

theorem CA.up {G h h' : Hp} {C : Conf} {ab : Option Addr} {cb : Nat} {ap : Option Addr} {cp : Nat} {ar : Option Addr} {cr : Nat} {az : Option Addr} {cs : Nat} (c : CA G h C ab cb ap cp ar cr az cs) (l : h.le h') (d : Dis G h') : CA G h' C ab cb ap cp ar cr az cs := by
  obtain ⟨c1, c2, c3, raw, c4, c5⟩ := c
  exact ⟨c1.up l d, c2.up l d, c3.up l d, raw, c4.up l d, fun i r s h1 h2 => let ⟨a, b, c⟩ := c5 i r s h1 h2; ⟨a, b, c.up l d⟩⟩
theorem CV.up {G h h' : Hp} {v : Value} {C : Conf} (c : CV G h v C) (l : h.le h') (d : Dis G h') : CV G h' v C := by
  obtain ⟨ab, cb, ap, cp, ar, cr, az, cs, e, c⟩ := c
  exact ⟨ab, cb, ap, cp, ar, cr, az, cs, e, c.up l d⟩
theorem CA.cv {G h : Hp} {C : Conf} {ab : Option Addr} {cb : Nat} {ap : Option Addr} {cp : Nat} {ar : Option Addr} {cr : Nat} {az : Option Addr} {cs : Nat} (c : CA G h C ab cb ap cp ar cr az cs) : CV G h (confV C ab cb ap cp ar cr az cs) C := ⟨ab, cb, ap, cp, ar, cr, az, cs, rfl, c⟩

def withinB (n a b : Int) : Bool := decide (n ≥ a) && decide (n ≤ b)
def inB (C : Conf) (c : Cell) : Bool := decide (c.1 ≥ 0) && (decide (c.2 ≥ 0) && (decide (c.1 < C.w) && decide (c.2 < C.h)))
def openB (C : Conf) (c : Cell) : Bool := inB C c && (C.bl.count c == 0)
def wr (x : Int) : Int := IntKind.i64.wrap x
def east (p : Pose) : Cell := if p.d then (p.x, wr (p.y + 1)) else (wr (p.x + 1), p.y)
def cellsP (p : Pose) : List Cell := [(p.x, p.y), east p]
def fitsB (C : Conf) (p : Pose) : Bool := openB C (p.x, p.y) && openB C (east p)
def besideB (C : Conf) (c : Cell) : Bool := openB C (wr (c.1 + 1), c.2) || openB C (c.1, wr (c.2 + 1))
def homeB (C : Conf) (c : Cell) : Bool := C.ro.any fun p => decide (((cellsP p).count c : Int) > 0)
def portI (C : Conf) (c : Cell) : Int := if c ∈ C.po then (C.po.idxOf c : Int) else -1
def stackedB (C : Conf) (c : Cell) : Bool := openB C c && (decide (portI C c < 0) && (!homeB C c && besideB C c))

theorem rwithin_spec {G h : Hp} {n a b : Int} : HCalls Tryd.prog G 65 #[.int .i64 n, .int .i64 a, .int .i64 b] h (fun u h' => u = .bool (withinB n a b) ∧ h' = h) := by
  refine quietly (enter65 (by simp) ?_)
  unfold S65
  simp -implicitDefEqProofs only [regs0, regs1, regs2, retK_ret, resL_tmp, upd_eq, resL_nil1, opH_sv, bin_geq]
  unfold withinB
  cases hc : decide (n ≥ a) with
  | false => simp -implicitDefEqProofs only [pick_f, gd_ft]; exact ⟨rfl, Hp.le.refl h⟩
  | true => simp -implicitDefEqProofs only [Bool.true_and, pick_t, gd_tt, opH_sv, bin_leq, true_and]; exact Hp.le.refl h

theorem in_spec {G h : Hp} {v : Value} {C : Conf} {c : Cell} (hv : CV G h v C) : HCalls Tryd.prog G 40 #[v, cellV c] h (fun u h' => u = .bool (inB C c) ∧ h' = h) := by
  obtain ⟨ab, cb, ap, cp, ar, cr, az, cs, rfl, ca⟩ := hv
  refine quietly (enter40 (by simp) ?_)
  unfold S40
  simp -implicitDefEqProofs only [regs0, regs1, retK_ret, resL_tmp, upd_eq, resL_nil1, opH_sv, box_new, cells_agg, fa28_0, add_mk, Nat.add_zero, ld3, cell_set_self, List.getElem?_cons_zero, Option.some.injEq, exists_eq_left', bin_geq]
  intro x hx gx y hy gy
  have l := (le_set (o := .cells #[.int .i64 C.w, .int .i64 C.h, .int .i64 C.ht, .slice ab C.bl.length cb, .slice ap C.po.length cp, .slice ar C.ro.length cr, .slice az C.st.length cs, .int .i64 C.un, .int .i64 C.ac, .int .i64 C.sp, .int .i64 C.tu, .int .i64 C.ho, .int .i64 C.qu, .int .i64 C.re, .int .i64 C.bu, .bool C.back] 26 (0, 0)) hx).trans (le_set (o := .cells #[.int .i64 c.1, .int .i64 c.2] 28 (0, 0)) hy)
  have exy := ne_of_set hy
  unfold inB
  cases hc : decide (c.1 ≥ 0) with
  | false => simp -implicitDefEqProofs only [pick_f, gd_ft]; exact ⟨rfl, l⟩
  | true =>
  simp -implicitDefEqProofs only [Bool.true_and, pick_t, gd_tt, opH_sv, fa28_1, add_mk, Nat.zero_add, ld3, cell_set_self, List.getElem?_cons_succ, List.getElem?_cons_zero, Option.some.injEq, exists_eq_left', bin_geq]
  cases hc2 : decide (c.2 ≥ 0) with
  | false => simp -implicitDefEqProofs only [pick_f, gd_ft]; exact ⟨rfl, l⟩
  | true =>
  simp -implicitDefEqProofs only [Bool.true_and, pick_t, gd_tt, opH_sv, fa26_0, add_mk, Nat.add_zero, ld3, fa28_0, cell_set_self, List.getElem?_cons_zero, Option.some.injEq, cell_set_other exy, exists_eq_left', bin_lss]
  cases hc3 : decide (c.1 < C.w) with
  | false => simp -implicitDefEqProofs only [pick_f, gd_ft]; exact ⟨rfl, l⟩
  | true =>
  simp -implicitDefEqProofs only [Bool.true_and, pick_t, gd_tt, opH_sv, fa26_1, add_mk, Nat.zero_add, ld3, fa28_1, cell_set_self, List.getElem?_cons_succ, List.getElem?_cons_zero, Option.some.injEq, cell_set_other exy, exists_eq_left', bin_lss, true_and]
  exact l

theorem cget {G h : Hp} {b o i : Nat} {x : Cell} (e : ∀ j, j < cellC.n → cellIn G h ⟨b, o + i * cellC.n + j, none⟩ = (cellC.enc x)[j]?) :
    cellIn G h ⟨b, o + i * 2, none⟩ = some (.int .i64 x.1) ∧ cellIn G h ⟨b, o + i * 2 + 1, none⟩ = some (.int .i64 x.2) := ⟨e 0 (by decide), e 1 (by decide)⟩
theorem pget {G h : Hp} {b o i : Nat} {x : Pose} (e : ∀ j, j < poseC.n → cellIn G h ⟨b, o + i * poseC.n + j, none⟩ = (poseC.enc x)[j]?) :
    cellIn G h ⟨b, o + i * 3, none⟩ = some (.int .i64 x.x) ∧ cellIn G h ⟨b, o + i * 3 + 1, none⟩ = some (.int .i64 x.y) ∧ cellIn G h ⟨b, o + i * 3 + 2, none⟩ = some (.bool x.d) := ⟨e 0 (by decide), e 1 (by decide), e 2 (by decide)⟩

theorem cell_beq (x y : Cell) : (x.1 == y.1 && x.2 == y.2) = (x == y) := rfl

/-- At an element of a row of cells. -/
theorem Sees.cell {G h : Hp} {sa : Option Addr} {cap : Nat} {L : List Cell} (s : Sees cellC G h (.slice sa L.length cap) L) {i : Nat} {x : Cell} (hx : L[i]? = some x) :
    ∃ b o, sa = some ⟨b, o, none⟩ ∧ cellIn G h ⟨b, o + i * 2, none⟩ = some (.int .i64 x.1) ∧ cellIn G h ⟨b, o + i * 2 + 1, none⟩ = some (.int .i64 x.2) := by
  obtain ⟨b, o, c, e1, e2⟩ := s.get hx
  simp only [Value.slice.injEq] at e1
  exact ⟨b, o, e1.1, cget e2⟩
theorem Sees.pose {G h : Hp} {sa : Option Addr} {cap : Nat} {L : List Pose} (s : Sees poseC G h (.slice sa L.length cap) L) {i : Nat} {x : Pose} (hx : L[i]? = some x) :
    ∃ b o, sa = some ⟨b, o, none⟩ ∧ cellIn G h ⟨b, o + i * 3, none⟩ = some (.int .i64 x.x) ∧ cellIn G h ⟨b, o + i * 3 + 1, none⟩ = some (.int .i64 x.y) ∧ cellIn G h ⟨b, o + i * 3 + 2, none⟩ = some (.bool x.d) := by
  obtain ⟨b, o, c, e1, e2⟩ := s.get hx
  simp only [Value.slice.injEq] at e1
  exact ⟨b, o, e1.1, pget e2⟩

theorem among_spec {G h : Hp} {v : Value} {L : List Cell} {c : Cell} (hv : Sees cellC G h v L) (hL : L.length ≤ 100000000000000) : HCalls Tryd.prog G 41 #[v, cellV c] h (fun u h' => u = .int .i64 (L.count c) ∧ h' = h) := by
  obtain ⟨sa, cap, rfl⟩ := hv.len
  refine HCalls.assume fun d => quietly (enter41 (by simp) ?_)
  unfold S41
  simp -implicitDefEqProofs only [regs1, opH_sv, box_new, cells_agg]
  intro x hx gx
  have l := le_set (o := .cells #[.int .i64 c.1, .int .i64 c.2] 28 (0, 0)) hx
  have hs := hv.up l (d.set gx)
  have hxx : (h.set x (.cells #[.int .i64 c.1, .int .i64 c.2] 28 (0, 0))) x = some (.cells #[.int .i64 c.1, .int .i64 c.2] 28 (0, 0)) := set_self
  generalize h.set x (.cells #[.int .i64 c.1, .int .i64 c.2] 28 (0, 0)) = h2 at *
  have cx : ∀ k, cellIn G h2 ⟨x, k, none⟩ = _ := fun k => cell_of (look_own hxx)
  refine loop_I (fun m r h3 => ∃ i : Nat, m = L.length - i ∧ i ≤ L.length ∧ r 0 = .slice sa L.length cap ∧ r 3 = .pointer (some ⟨x, 0, none⟩) ∧ r 5 = .int .i64 ((L.take i).count c) ∧ r 6 = .int .i64 i ∧ h3 = h2) ?_
    (m := L.length) ⟨0, rfl, Nat.zero_le _, by simp -implicitDefEqProofs (disch := first | with_reducible exact Nat.ne_of_beq_eq_false rfl | omega) only [upd_ne, regs0], by simp -implicitDefEqProofs (disch := first | with_reducible exact Nat.ne_of_beq_eq_false rfl | omega) only [upd_ne, upd_eq], by simp -implicitDefEqProofs (disch := first | with_reducible exact Nat.ne_of_beq_eq_false rfl | omega) only [upd_ne, upd_eq] <;> rfl, by simp -implicitDefEqProofs only [upd_eq] <;> rfl, rfl⟩
  rintro m r h3 ⟨i, rfl, hi, g0, g3, g5, g6, rfl⟩ X HX
  unfold S41_l2
  simp -implicitDefEqProofs only [g0, g6, thenK_exit, blockK_exit, thenK_normal, if_true, opH_sv, ln22, bin_lss]
  refine cond_dec (fun hlt => ?_) (fun hge => ?_)
  · have hlt' : i < L.length := by omega
    obtain ⟨y, hy⟩ : ∃ x, L[i]? = some x := ⟨_, List.getElem?_eq_getElem hlt'⟩
    obtain ⟨b, o, rfl, y0, y1⟩ := Sees.cell hs hy
    have htk : L.take (i + 1) = L.take i ++ [y] := by rw [List.take_add_one, hy]; rfl
    have hcnt : ((L.take i).count c : Int) ≤ i := by have := List.count_le_length (a := c) (l := L.take i); rw [List.length_take] at this; omega
    unfold S41_l2_k3
    simp -implicitDefEqProofs (maxSteps := 2000000) (disch := first | with_reducible exact Nat.ne_of_beq_eq_false rfl | exact oneCell_int | exact oneCell_bool | omega | rfl | (simp; done) | fail) only [upd_ne, g0, g6, g3, opH_sv, pureW_sv, ld28p, add_mk, Nat.add_zero, cx, List.getElem?_cons_zero, Option.some.injEq, Nat.zero_add, List.getElem?_cons_succ, exists_eq_left', ix22p (Int.natCast_nonneg i) hlt, Int.toNat_natCast, y0, y1, eq28p, Bool.and_true, cell_beq]
    cases hb : (y == c) with
    | true =>
      simp -implicitDefEqProofs (maxSteps := 2000000) (disch := first | with_reducible exact Nat.ne_of_beq_eq_false rfl | exact oneCell_int | exact oneCell_bool | omega | rfl | (simp; done) | fail) only [g5, bin_add, wrap_in, HL.cond_true]
      unfold S41_l2_k4
      simp -implicitDefEqProofs (disch := first | with_reducible exact Nat.ne_of_beq_eq_false rfl | omega) only [upd_ne, g6, thenK_normal, opH_sv, bin_add, wrap_in]
      refine HX (L.length - (i + 1)) _ _ (by omega) ⟨i + 1, rfl, hlt', by simp -implicitDefEqProofs (disch := first | with_reducible exact Nat.ne_of_beq_eq_false rfl | omega) only [upd_ne, g0], by simp -implicitDefEqProofs (disch := first | with_reducible exact Nat.ne_of_beq_eq_false rfl | omega) only [upd_ne, g3], ?_, by simp -implicitDefEqProofs (disch := first | with_reducible exact Nat.ne_of_beq_eq_false rfl | omega) only [upd_eq] <;> rfl, rfl⟩
      simp -implicitDefEqProofs (maxSteps := 2000000) (disch := first | with_reducible exact Nat.ne_of_beq_eq_false rfl | exact oneCell_int | exact oneCell_bool | omega | rfl | (simp; done) | fail) only [upd_ne, upd_eq]
      rw [htk, List.count_append, List.count_singleton, hb]
      rfl
    | false =>
      simp -implicitDefEqProofs (maxSteps := 2000000) (disch := first | with_reducible exact Nat.ne_of_beq_eq_false rfl | exact oneCell_int | exact oneCell_bool | omega | rfl | (simp; done) | fail) only [HL.cond_false]
      unfold S41_l2_k4
      simp -implicitDefEqProofs (disch := first | with_reducible exact Nat.ne_of_beq_eq_false rfl | omega) only [upd_ne, g6, thenK_normal, opH_sv, bin_add, wrap_in]
      refine HX (L.length - (i + 1)) _ _ (by omega) ⟨i + 1, rfl, hlt', by simp -implicitDefEqProofs (maxSteps := 2000000) (disch := first | with_reducible exact Nat.ne_of_beq_eq_false rfl | exact oneCell_int | exact oneCell_bool | omega | rfl | (simp; done) | fail) only [upd_ne, g0], by simp -implicitDefEqProofs (maxSteps := 2000000) (disch := first | with_reducible exact Nat.ne_of_beq_eq_false rfl | exact oneCell_int | exact oneCell_bool | omega | rfl | (simp; done) | fail) only [upd_ne, g3], ?_, by simp -implicitDefEqProofs (maxSteps := 2000000) (disch := first | with_reducible exact Nat.ne_of_beq_eq_false rfl | exact oneCell_int | exact oneCell_bool | omega | rfl | (simp; done) | fail) only [upd_eq] <;> rfl, rfl⟩
      simp -implicitDefEqProofs (disch := first | with_reducible exact Nat.ne_of_beq_eq_false rfl | omega) only [upd_ne, g5]
      rw [htk, List.count_append, List.count_singleton, hb]
      rfl
  · obtain rfl : i = L.length := by omega
    rw [List.take_of_length_le (Nat.le_refl _)] at g5
    show S41_k1 _ _ _ _
    unfold S41_k1
    simp -implicitDefEqProofs (disch := first | with_reducible exact Nat.ne_of_beq_eq_false rfl | omega) only [upd_ne, g5, retK_ret, resL_tmp, upd_eq, resL_nil1, true_and]
    exact l

end Go.Proofs.YtangejiigopdaaaDoor
end

section
/- The reference's answers on cells, poses: open, port, home, beside, stacked. -/
set_option linter.unusedSimpArgs false
set_option linter.unusedVariables false
set_option maxRecDepth 100000
namespace Go.Proofs.YtangejiigopdaaaDoor
open Go Go.HL

theorem boxed {G h h1 : Hp} {x : Nat} {o : Obj} (e : h.set x o = h1) (hx : h x = none) (d : Dis G h) (gx : G x = none) : h.le h1 ∧ Dis G h1 ∧ h1 x = some o := by
  subst e
  exact ⟨le_set hx, d.set gx, set_self⟩

theorem ropen_spec {G h : Hp} {v : Value} {C : Conf} {c : Cell} (hv : CV G h v C) (hL : C.bl.length ≤ 100000000000000) : HCalls Tryd.prog G 52 #[v, cellV c] h (fun u h' => u = .bool (openB C c) ∧ h' = h) := by
  have hv0 := hv
  obtain ⟨ab, cb, ap, cp, ar, cr, az, cs, rfl, ca⟩ := hv
  refine HCalls.assume fun d => quietly (enter52 (by simp) ?_)
  unfold S52
  simp -implicitDefEqProofs only [regs0, regs1, retK_ret, resL_tmp, upd_eq, resL_nil1, cf40, opH_sv, box_new, cells_agg, ld28, add_mk, Nat.add_zero, Nat.zero_add, ld26, cell_set_self, List.getElem?_cons_zero, Option.some.injEq, List.getElem?_cons_succ, exists_eq_left']
  intro x hx gx
  generalize e1 : Hp.set h x _ = h1
  obtain ⟨l1, d1, b1⟩ := boxed e1 hx d gx
  intro y hy gy
  generalize e2 : Hp.set h1 y _ = h2
  obtain ⟨l2, d2, b2⟩ := boxed e2 hy d1 gy
  have cx : ∀ k, cellIn G h2 ⟨x, k, none⟩ = _ := fun k => cell_of (look_own (l2 _ _ b1))
  have cy : ∀ k, cellIn G h2 ⟨y, k, none⟩ = _ := fun k => cell_of (look_own b2)
  have ca2 := ca.up (l1.trans l2) d2
  try simp -implicitDefEqProofs only [cx, List.getElem?_cons_zero, Option.some.injEq, List.getElem?_cons_succ, exists_eq_left']
  refine (in_spec ca2.cv).mono ?_
  rintro _ _ ⟨rfl, rfl⟩
  unfold openB
  cases hc : inB C c with
  | false => simp -implicitDefEqProofs only [pick_f, gd_ft]; exact ⟨rfl, l1.trans l2⟩
  | true =>
  simp -implicitDefEqProofs only [Bool.true_and, pick_t, gd_tt, cf41, opH_sv, ld28, add_mk, Nat.add_zero, Nat.zero_add, fa26_3, ld22, cx, List.getElem?_cons_succ, List.getElem?_cons_zero, Option.some.injEq, cy, exists_eq_left']
  refine (among_spec ca2.bl hL).mono ?_
  rintro _ _ ⟨rfl, rfl⟩
  simp -implicitDefEqProofs only [eq_int]
  refine ⟨?_, l1.trans l2⟩
  congr 1
  rw [Bool.eq_iff_iff]
  simp

theorem rport_spec {G h : Hp} {v : Value} {C : Conf} {c : Cell} (hv : CV G h v C) (hL : C.po.length ≤ 100000000000000) : HCalls Tryd.prog G 47 #[v, cellV c] h (fun u h' => u = .int .i64 (portI C c) ∧ h' = h) := by
  obtain ⟨ab, cb, ap, cp, ar, cr, az, cs, rfl, ca⟩ := hv
  refine HCalls.assume fun d => quietly (enter47 (by simp) ?_)
  unfold S47
  simp -implicitDefEqProofs only [regs0, regs1, opH_sv, box_new, cells_agg]
  intro x hx gx
  generalize e1 : Hp.set h x _ = h1
  obtain ⟨l1, d1, b1⟩ := boxed e1 hx d gx
  intro y hy gy
  generalize e2 : Hp.set h1 y _ = h2
  obtain ⟨l2, d2, b2⟩ := boxed e2 hy d1 gy
  have cx : ∀ k, cellIn G h2 ⟨x, k, none⟩ = _ := fun k => cell_of (look_own (l2 _ _ b1))
  have cy : ∀ k, cellIn G h2 ⟨y, k, none⟩ = _ := fun k => cell_of (look_own b2)
  have ca2 := ca.up (l1.trans l2) d2
  refine loop_I (fun m r h3 => ∃ i : Nat, m = C.po.length - i ∧ i ≤ C.po.length ∧ r 2 = .pointer (some ⟨x, 0, none⟩) ∧ r 3 = .pointer (some ⟨y, 0, none⟩) ∧ r 5 = .int .i64 i ∧ c ∉ C.po.take i ∧ h3 = h2) ?_
    (m := C.po.length) ⟨0, rfl, Nat.zero_le _, by simp -implicitDefEqProofs (disch := first | with_reducible exact Nat.ne_of_beq_eq_false rfl | omega) only [upd_ne, upd_eq], by simp -implicitDefEqProofs (disch := first | with_reducible exact Nat.ne_of_beq_eq_false rfl | omega) only [upd_ne, upd_eq], by simp -implicitDefEqProofs only [upd_eq] <;> rfl, by simp, rfl⟩
  rintro m r h3 ⟨i, rfl, hi, g2, g3, g5, hni, rfl⟩ X HX
  unfold S47_l2
  simp -implicitDefEqProofs only [g2, g5, thenK_exit, blockK_exit, thenK_normal, if_true, opH_sv, fa26_4, add_mk, Nat.zero_add, ld22, cx, List.getElem?_cons_succ, List.getElem?_cons_zero, Option.some.injEq, exists_eq_left', ln22, bin_lss]
  refine cond_dec (fun hlt => ?_) (fun hge => ?_)
  · have hlt' : i < C.po.length := by omega
    obtain ⟨z, hz⟩ : ∃ x, C.po[i]? = some x := ⟨_, List.getElem?_eq_getElem hlt'⟩
    obtain ⟨b, o, rfl, y0, y1⟩ := Sees.cell ca2.po hz
    have htk : C.po.take (i + 1) = C.po.take i ++ [z] := by rw [List.take_add_one, hz]; rfl
    unfold S47_l2_k3
    simp -implicitDefEqProofs (maxSteps := 2000000) (disch := first | with_reducible exact Nat.ne_of_beq_eq_false rfl | exact oneCell_int | exact oneCell_bool | omega | rfl | (simp; done) | fail) only [upd_ne, g2, g5, g3, thenK_ret, blockK_ret, retK_ret, resL_tmp, upd_eq, resL_nil1, pureW_sv, ld28p, add_mk, Nat.add_zero, cy, List.getElem?_cons_zero, Option.some.injEq, Nat.zero_add, List.getElem?_cons_succ, exists_eq_left', fa26_4p, ld22p, cx, ix22p (Int.natCast_nonneg i) hlt, Int.toNat_natCast, y0, y1, eq28p, Bool.and_true, cell_beq]
    cases hb : (z == c) with
    | true =>
      simp -implicitDefEqProofs (maxSteps := 2000000) (disch := first | with_reducible exact Nat.ne_of_beq_eq_false rfl | exact oneCell_int | exact oneCell_bool | omega | rfl | (simp; done) | fail) only [HL.cond_true]
      have hzc : z = c := by simpa using hb
      subst hzc
      refine ⟨?_, l1.trans l2⟩
      have hm : z ∈ C.po := List.mem_of_getElem? hz
      unfold portI
      rw [if_pos hm]
      congr 1
      have h1 : C.po = C.po.take i ++ z :: C.po.drop (i + 1) := by
        have := List.getElem?_eq_some_iff.1 hz
        conv => lhs; rw [← List.take_append_drop i C.po, List.drop_eq_getElem_cons hlt', this.2]
      rw [h1, List.idxOf_append, if_neg hni, List.idxOf_cons_self, List.length_take]
      omega
    | false =>
      simp -implicitDefEqProofs (maxSteps := 2000000) (disch := first | with_reducible exact Nat.ne_of_beq_eq_false rfl | exact oneCell_int | exact oneCell_bool | omega | rfl | (simp; done) | fail) only [HL.cond_false]
      unfold S47_l2_k4
      simp -implicitDefEqProofs (disch := first | with_reducible exact Nat.ne_of_beq_eq_false rfl | omega) only [upd_ne, g5, thenK_normal, opH_sv, bin_add, wrap_in]
      refine HX (C.po.length - (i + 1)) _ _ (by omega) ⟨i + 1, rfl, hlt', by simp -implicitDefEqProofs (disch := first | with_reducible exact Nat.ne_of_beq_eq_false rfl | omega) only [upd_ne, g2], by simp -implicitDefEqProofs (disch := first | with_reducible exact Nat.ne_of_beq_eq_false rfl | omega) only [upd_ne, g3], by simp -implicitDefEqProofs (disch := first | with_reducible exact Nat.ne_of_beq_eq_false rfl | omega) only [upd_eq] <;> rfl, ?_, rfl⟩
      rw [htk, List.mem_append, List.mem_singleton]
      rintro (h | rfl)
      · exact hni h
      · simp at hb
  · obtain rfl : i = C.po.length := by omega
    rw [List.take_of_length_le (Nat.le_refl _)] at hni
    show S47_k1 _ _ _ _
    unfold S47_k1
    simp -implicitDefEqProofs only [retK_ret, resL_tmp, upd_eq, resL_nil1]
    refine ⟨?_, l1.trans l2⟩
    unfold portI
    rw [if_neg hni]

theorem rcells_spec {G h : Hp} {p : Pose} : HCalls Tryd.prog G 45 #[poseV p] h (fun u h' => ∃ b, u = .slice (some ⟨b, 0, none⟩) 2 2 ∧ h b = none ∧ G b = none ∧ h' = h.set b (.cells #[.int .i64 p.x, .int .i64 p.y, .int .i64 (east p).1, .int .i64 (east p).2] 28 (0, 0))) := by
  refine HCalls.assume fun d => HCalls.less (enter45 (by simp) (R := fun u h' => ∃ b, u = .slice (some ⟨b, 0, none⟩) 2 2 ∧ h b = none ∧ G b = none ∧ (h.set b (.cells #[.int .i64 p.x, .int .i64 p.y, .int .i64 (east p).1, .int .i64 (east p).2] 28 (0, 0))).le h') ?_) ?_
  rotate_left
  · rintro v h' ⟨b, e, h1, h2, h3⟩
    exact ⟨_, h3, b, e, h1, h2, rfl⟩
  unfold S45
  simp -implicitDefEqProofs only [regs0, retK_ret, resL_tmp, upd_eq, resL_nil1, opH_sv, box_new, cells_agg, fa85_0, add_mk, Nat.add_zero, fa28_1, Nat.zero_add, ld3, fa28_0, ld28, fa85_1, ld4, cell_set_self, List.getElem?_cons_succ, List.getElem?_cons_zero, Option.some.injEq, exists_eq_left', bin_add, bd28_0_1, bs22_2_0_1]
  intro x hx gx
  generalize e1 : Hp.set h x _ = h1
  obtain ⟨l1, d1, b1⟩ := boxed e1 hx d gx
  have cx : ∀ k, cellIn G h1 ⟨x, k, none⟩ = _ := fun k => cell_of (look_own b1)
  try simp -implicitDefEqProofs only [opH_sv, opH_su, pureW_sv, opH_nil, pureW_nil, pick_t, pick_f, pick_tp, pick_fp, gd_tt, gd_ft, gd_tf, gd_ff, box_new, regs0, regs1, regs2, regs3, regs4, regs5, regs6, cells_agg, cells_int, cells_bool, cells_ptr, cells_slice, cells_string, cells_func, cells_nilFunc, cells_map, retK_ret, retK_normal, resL_tmp, resL_cell, resL_nil0, resL_nil1, resL_nil2, resL_nil3, resC_ptr, ex0, ex1, ex2, ex0p, ex1p, ex2p, HL.cond_true, HL.cond_false, thenK_normal, thenK_ret, thenK_exit, blockK_normal, blockK_ret, blockK_exit, scopeK_normal, scopeK_ret, scopeK_exit, wpH_pure, bin_add, bin_sub, bin_mul, bin_lss, bin_leq, bin_gtr, bin_geq, bin_quo, bin_rem, bin_quop, bin_remp, wrap_in, bin_addp, bin_subp, bin_mulp, bin_lssp, bin_leqp, bin_gtrp, bin_geqp, un_not, un_notp, un_neg, eq_int, ne_int, eq_intp, ne_intp, callV_fn, add_mk, upd_eq, upd_ne, cell_set_self, Nat.zero_add, Nat.add_zero, Option.some.injEq, exists_eq_left', List.getElem?_cons_succ, List.getElem?_cons_zero, true_and, and_true, bne_self_eq_false, beq_self_eq_true, Bool.not_true, Bool.not_false, Bool.and_true, Bool.and_self, Bool.and_false, Bool.true_and, List.length_cons, List.length_nil, ne_eq, not_false_eq_true, Nat.reduceAdd, Nat.reduceMul, if_true, if_false, oneCell_int, oneCell_bool, oneCell_ptr, oneCell_slice, oneCell_string, oneCell_func, oneCell_map, Int.toNat_natCast, List.set_cons_zero, List.set_cons_succ, Nat.lt_irrefl, Nat.zero_lt_succ, Nat.succ_lt_succ_iff, fa26_0, fa26_0p, fa26_1, fa26_1p, fa26_10, fa26_10p, fa26_11, fa26_11p, fa26_12, fa26_12p, fa26_13, fa26_13p, fa26_14, fa26_14p, fa26_15, fa26_15p, fa26_2, fa26_2p, fa26_3, fa26_3p, fa26_4, fa26_4p, fa26_5, fa26_5p, fa26_6, fa26_6p, fa26_7, fa26_7p, fa26_8, fa26_8p, fa26_9, fa26_9p, fa28_0, fa28_0p, fa28_1, fa28_1p, fa45_0, fa45_0p, fa45_1, fa45_1p, fa45_2, fa45_2p, fa45_3, fa45_3p, fa45_4, fa45_4p, fa45_5, fa45_5p, fa45_6, fa45_6p, fa49_0, fa49_0p, fa49_1, fa49_1p, fa74_0, fa74_0p, fa74_1, fa74_1p, fa74_2, fa74_2p, fa74_3, fa74_3p, fa85_0, fa85_0p, fa85_1, fa85_1p, fa93_0, fa93_0p, fa93_1, fa93_1p, fa93_2, fa93_2p, ld3, ld3p, ld4, ld4p, ld22, ld22p, ld23, ld23p, ld24, ld24p, ld26, ld26p, ld28, ld28p, ld42, ld42p, ld45, ld45p, ld49, ld49p, ld58, ld58p, ld69, ld69p, ld72, ld72p, ld85, ld85p, st3s, st4s, st22s, st23s, st24s, st26w, st28w, st42s, st45w, st49w, st85w, ix22, ix22p, ix23, ix23p, ix24, ix24p, ix31, ix31p, ix42, ix42p, ix104, ix104p, ln22, ln22p, ln23, ln23p, ln24, ln24p, ln31, ln31p, ln42, ln42p, al4, al22, al26, al28, al42, al49, al85, cf10, cf11, cf12, cf13, cf14, cf15, cf16, cf17, cf18, cf19, cf20, cf21, cf22, cf23, cf24, cf25, cf26, cf27, cf28, cf29, cf30, cf31, cf32, cf33, cf34, cf35, cf36, cf37, cf38, cf39, cf40, cf41, cf42, cf43, cf44, cf45, cf46, cf47, cf48, cf49, cf50, cf51, cf52, cf53, cf54, cf55, cf56, cf57, cf58, cf59, cf60, cf61, cf62, cf63, cf64, cf65, cf66, cf67, cf68, cf69, cf70, cf71, cf72, cf73, cf74, cf75, bd26_0_1_2_7_8_9_10_11_12_13_14_4_15, bd26_0_1_2_7_8_9_10_11_12_13_14_4_15p, bd28_, bd28_p, bd28_0, bd28_0p, bd28_0_1, bd28_0_1p, bd45_1_3_4_5_6, bd45_1_3_4_5_6p, bd49_0_1, bd49_0_1p, bd49_1, bd49_1p, bd74_0_1_2_3, bd74_0_1_2_3p, bd85_0, bd85_0p, bd85_0_1, bd85_0_1p, bd93_0_1_2, bd93_0_1_2p, bd94_0_1_2_3, bd94_0_1_2_3p, bs42_1_0, bs22_1_0, bs24_1_0, bs42_3_0_1_2, bs31_1_0, bs22_2_0_1, bs42_6_0_1_2_3_4_5, bs42_0_, eq4, eq4p, eq28, eq28p, eq42n, eq42np, eq42s, eq42sp, eq58n, eq58np, eq58s, eq58sp, eq63n, eq63np, eq63s, eq63sp, ne28, ne28p, ne45, ne45p, cx]
  unfold east wr
  cases hd : p.d with
  | true =>
    try simp -implicitDefEqProofs only [if_true, HL.cond_true]
    intro b hb gb
    exact ⟨b, rfl, l1.none hb, gb, l1.both⟩
  | false =>
    try simp -implicitDefEqProofs only [HL.cond_false]
    unfold S45_k1
    simp -implicitDefEqProofs (disch := first | with_reducible exact Nat.ne_of_beq_eq_false rfl | omega) only [upd_ne, upd_eq, retK_ret, resL_tmp, resL_nil1, opH_sv, fa85_0, add_mk, Nat.add_zero, fa28_1, Nat.zero_add, ld3, fa28_0, ld28, cx, List.getElem?_cons_zero, Option.some.injEq, List.getElem?_cons_succ, exists_eq_left', bin_add, bd28_0_1, bs22_2_0_1]
    intro b hb gb
    exact ⟨b, rfl, l1.none hb, gb, l1.both⟩

theorem rfits_spec {G h : Hp} {v : Value} {C : Conf} {p : Pose} (hv : CV G h v C) (hL : C.bl.length ≤ 100000000000000) : HCalls Tryd.prog G 44 #[v, poseV p] h (fun u h' => u = .bool (fitsB C p) ∧ h' = h) := by
  obtain ⟨ab, cb, ap, cp, ar, cr, az, cs, rfl, ca⟩ := hv
  refine HCalls.assume fun d => quietly (enter44 (by simp) ?_)
  unfold S44
  simp -implicitDefEqProofs only [regs0, regs1, retK_ret, resL_tmp, upd_eq, resL_nil1, cf52, pureW_sv, cf45, opH_sv, box_new, cells_agg, ld85, add_mk, Nat.add_zero, cell_set_self, List.getElem?_cons_zero, Option.some.injEq, Nat.zero_add, List.getElem?_cons_succ, exists_eq_left', ld26p]
  intro x hx gx
  generalize e1 : Hp.set h x _ = h1
  obtain ⟨l1, d1, b1⟩ := boxed e1 hx d gx
  intro y hy gy
  generalize e2 : Hp.set h1 y _ = h2
  obtain ⟨l2, d2, b2⟩ := boxed e2 hy d1 gy
  have cy : ∀ k, cellIn G h2 ⟨y, k, none⟩ = _ := fun k => cell_of (look_own b2)
  try simp -implicitDefEqProofs only [opH_sv, opH_su, pureW_sv, opH_nil, pureW_nil, pick_t, pick_f, pick_tp, pick_fp, gd_tt, gd_ft, gd_tf, gd_ff, box_new, regs0, regs1, regs2, regs3, regs4, regs5, regs6, cells_agg, cells_int, cells_bool, cells_ptr, cells_slice, cells_string, cells_func, cells_nilFunc, cells_map, retK_ret, retK_normal, resL_tmp, resL_cell, resL_nil0, resL_nil1, resL_nil2, resL_nil3, resC_ptr, ex0, ex1, ex2, ex0p, ex1p, ex2p, HL.cond_true, HL.cond_false, thenK_normal, thenK_ret, thenK_exit, blockK_normal, blockK_ret, blockK_exit, scopeK_normal, scopeK_ret, scopeK_exit, wpH_pure, bin_add, bin_sub, bin_mul, bin_lss, bin_leq, bin_gtr, bin_geq, bin_quo, bin_rem, bin_quop, bin_remp, wrap_in, bin_addp, bin_subp, bin_mulp, bin_lssp, bin_leqp, bin_gtrp, bin_geqp, un_not, un_notp, un_neg, eq_int, ne_int, eq_intp, ne_intp, callV_fn, add_mk, upd_eq, upd_ne, cell_set_self, Nat.zero_add, Nat.add_zero, Option.some.injEq, exists_eq_left', List.getElem?_cons_succ, List.getElem?_cons_zero, true_and, and_true, bne_self_eq_false, beq_self_eq_true, Bool.not_true, Bool.not_false, Bool.and_true, Bool.and_self, Bool.and_false, Bool.true_and, List.length_cons, List.length_nil, ne_eq, not_false_eq_true, Nat.reduceAdd, Nat.reduceMul, if_true, if_false, oneCell_int, oneCell_bool, oneCell_ptr, oneCell_slice, oneCell_string, oneCell_func, oneCell_map, Int.toNat_natCast, List.set_cons_zero, List.set_cons_succ, Nat.lt_irrefl, Nat.zero_lt_succ, Nat.succ_lt_succ_iff, fa26_0, fa26_0p, fa26_1, fa26_1p, fa26_10, fa26_10p, fa26_11, fa26_11p, fa26_12, fa26_12p, fa26_13, fa26_13p, fa26_14, fa26_14p, fa26_15, fa26_15p, fa26_2, fa26_2p, fa26_3, fa26_3p, fa26_4, fa26_4p, fa26_5, fa26_5p, fa26_6, fa26_6p, fa26_7, fa26_7p, fa26_8, fa26_8p, fa26_9, fa26_9p, fa28_0, fa28_0p, fa28_1, fa28_1p, fa45_0, fa45_0p, fa45_1, fa45_1p, fa45_2, fa45_2p, fa45_3, fa45_3p, fa45_4, fa45_4p, fa45_5, fa45_5p, fa45_6, fa45_6p, fa49_0, fa49_0p, fa49_1, fa49_1p, fa74_0, fa74_0p, fa74_1, fa74_1p, fa74_2, fa74_2p, fa74_3, fa74_3p, fa85_0, fa85_0p, fa85_1, fa85_1p, fa93_0, fa93_0p, fa93_1, fa93_1p, fa93_2, fa93_2p, ld3, ld3p, ld4, ld4p, ld22, ld22p, ld23, ld23p, ld24, ld24p, ld26, ld26p, ld28, ld28p, ld42, ld42p, ld45, ld45p, ld49, ld49p, ld58, ld58p, ld69, ld69p, ld72, ld72p, ld85, ld85p, st3s, st4s, st22s, st23s, st24s, st26w, st28w, st42s, st45w, st49w, st85w, ix22, ix22p, ix23, ix23p, ix24, ix24p, ix31, ix31p, ix42, ix42p, ix104, ix104p, ln22, ln22p, ln23, ln23p, ln24, ln24p, ln31, ln31p, ln42, ln42p, al4, al22, al26, al28, al42, al49, al85, cf10, cf11, cf12, cf13, cf14, cf15, cf16, cf17, cf18, cf19, cf20, cf21, cf22, cf23, cf24, cf25, cf26, cf27, cf28, cf29, cf30, cf31, cf32, cf33, cf34, cf35, cf36, cf37, cf38, cf39, cf40, cf41, cf42, cf43, cf44, cf45, cf46, cf47, cf48, cf49, cf50, cf51, cf52, cf53, cf54, cf55, cf56, cf57, cf58, cf59, cf60, cf61, cf62, cf63, cf64, cf65, cf66, cf67, cf68, cf69, cf70, cf71, cf72, cf73, cf74, cf75, bd26_0_1_2_7_8_9_10_11_12_13_14_4_15, bd26_0_1_2_7_8_9_10_11_12_13_14_4_15p, bd28_, bd28_p, bd28_0, bd28_0p, bd28_0_1, bd28_0_1p, bd45_1_3_4_5_6, bd45_1_3_4_5_6p, bd49_0_1, bd49_0_1p, bd49_1, bd49_1p, bd74_0_1_2_3, bd74_0_1_2_3p, bd85_0, bd85_0p, bd85_0_1, bd85_0_1p, bd93_0_1_2, bd93_0_1_2p, bd94_0_1_2_3, bd94_0_1_2_3p, bs42_1_0, bs22_1_0, bs24_1_0, bs42_3_0_1_2, bs31_1_0, bs22_2_0_1, bs42_6_0_1_2_3_4_5, bs42_0_, eq4, eq4p, eq28, eq28p, eq42n, eq42np, eq42s, eq42sp, eq58n, eq58np, eq58s, eq58sp, eq63n, eq63np, eq63s, eq63sp, ne28, ne28p, ne45, ne45p, cy]
  refine rcells_spec.mono ?_
  rintro _ _ ⟨b, rfl, hb, gb, rfl⟩
  generalize e3 : Hp.set h2 b _ = h3
  obtain ⟨l3, d3, b3⟩ := boxed e3 hb d2 gb
  have L := (l1.trans l2).trans l3
  have cx : ∀ k, cellIn G h3 ⟨x, k, none⟩ = _ := fun k => cell_of (look_own (l3 _ _ (l2 _ _ b1)))
  have cb3 : ∀ k, cellIn G h3 ⟨b, k, none⟩ = _ := fun k => cell_of (look_own b3)
  have ca3 := ca.up L d3
  try simp -implicitDefEqProofs only [cx, List.getElem?_cons_zero, Option.some.injEq, List.getElem?_cons_succ, ix22p (by decide : (0 : Int) ≤ 0) (by decide : (0 : Int) < (2 : Nat)), Int.toNat_zero, Nat.zero_mul, add_mk, Nat.add_zero, ld28p, cb3, Nat.zero_add, exists_eq_left']
  refine (ropen_spec (c := (p.x, p.y)) ca3.cv hL).mono ?_
  rintro _ _ ⟨rfl, rfl⟩
  unfold fitsB
  cases hc : openB C (p.x, p.y) with
  | false => simp -implicitDefEqProofs only [pick_fp, gd_ft]; exact ⟨rfl, L⟩
  | true =>
  try simp -implicitDefEqProofs only [Bool.true_and, pick_tp, gd_tt, cf52, pureW_sv, ix22p (by decide : (0 : Int) ≤ 1) (by decide : (1 : Int) < (2 : Nat)), Int.toNat_one, Nat.one_mul, add_mk, Nat.zero_add, ld28p, Nat.add_zero, Nat.reduceAdd, cb3, List.getElem?_cons_succ, List.getElem?_cons_zero, Option.some.injEq, exists_eq_left', ld26p, cx]
  refine (ropen_spec (c := east p) ca3.cv hL).mono ?_
  rintro _ _ ⟨rfl, rfl⟩
  try simp -implicitDefEqProofs only [true_and]
  first | exact L | exact ⟨by simp, L⟩

theorem rbeside_spec {G h : Hp} {v : Value} {C : Conf} {c : Cell} (hv : CV G h v C) (hL : C.bl.length ≤ 100000000000000) : HCalls Tryd.prog G 43 #[v, cellV c] h (fun u h' => u = .bool (besideB C c) ∧ h' = h) := by
  obtain ⟨ab, cb, ap, cp, ar, cr, az, cs, rfl, ca⟩ := hv
  refine HCalls.assume fun d => quietly (enter43 (by simp) ?_)
  unfold S43
  simp -implicitDefEqProofs only [regs0, regs1, retK_ret, resL_tmp, upd_eq, resL_nil1, cf52, opH_sv, box_new, cells_agg, fa28_1, add_mk, Nat.zero_add, ld3, fa28_0, Nat.add_zero, ld26, cell_set_self, List.getElem?_cons_zero, Option.some.injEq, exists_eq_left', bin_add, List.getElem?_cons_succ, bd28_0_1]
  intro x hx gx
  generalize e1 : Hp.set h x _ = h1
  obtain ⟨l1, d1, b1⟩ := boxed e1 hx d gx
  intro y hy gy
  generalize e2 : Hp.set h1 y _ = h2
  obtain ⟨l2, d2, b2⟩ := boxed e2 hy d1 gy
  have L := l1.trans l2
  have cx : ∀ k, cellIn G h2 ⟨x, k, none⟩ = _ := fun k => cell_of (look_own (l2 _ _ b1))
  have cy : ∀ k, cellIn G h2 ⟨y, k, none⟩ = _ := fun k => cell_of (look_own b2)
  have ca2 := ca.up L d2
  try simp -implicitDefEqProofs only [cx, List.getElem?_cons_zero, Option.some.injEq, List.getElem?_cons_succ, exists_eq_left']
  refine (ropen_spec (c := (IntKind.i64.wrap (c.1 + 1), c.2)) ca2.cv hL).mono ?_
  rintro _ _ ⟨rfl, rfl⟩
  unfold besideB wr
  cases hc : openB C (IntKind.i64.wrap (c.1 + 1), c.2) with
  | true => simp -implicitDefEqProofs only [pick_t, gd_tf]; first | exact L | exact ⟨rfl, L⟩
  | false =>
  try simp -implicitDefEqProofs only [pick_f, gd_ff, cf52, opH_sv, fa28_1, add_mk, Nat.zero_add, ld3, fa28_0, Nat.add_zero, ld26, cx, List.getElem?_cons_zero, Option.some.injEq, List.getElem?_cons_succ, cy, exists_eq_left', bin_add, bd28_0_1]
  refine (ropen_spec (c := (c.1, IntKind.i64.wrap (c.2 + 1))) ca2.cv hL).mono ?_
  rintro _ _ ⟨rfl, rfl⟩
  try simp -implicitDefEqProofs only [opH_sv, opH_su, pureW_sv, opH_nil, pureW_nil, pick_t, pick_f, pick_tp, pick_fp, gd_tt, gd_ft, gd_tf, gd_ff, box_new, regs0, regs1, regs2, regs3, regs4, regs5, regs6, cells_agg, cells_int, cells_bool, cells_ptr, cells_slice, cells_string, cells_func, cells_nilFunc, cells_map, retK_ret, retK_normal, resL_tmp, resL_cell, resL_nil0, resL_nil1, resL_nil2, resL_nil3, resC_ptr, ex0, ex1, ex2, ex0p, ex1p, ex2p, HL.cond_true, HL.cond_false, thenK_normal, thenK_ret, thenK_exit, blockK_normal, blockK_ret, blockK_exit, scopeK_normal, scopeK_ret, scopeK_exit, wpH_pure, bin_add, bin_sub, bin_mul, bin_lss, bin_leq, bin_gtr, bin_geq, bin_quo, bin_rem, bin_quop, bin_remp, wrap_in, bin_addp, bin_subp, bin_mulp, bin_lssp, bin_leqp, bin_gtrp, bin_geqp, un_not, un_notp, un_neg, eq_int, ne_int, eq_intp, ne_intp, callV_fn, add_mk, upd_eq, upd_ne, cell_set_self, Nat.zero_add, Nat.add_zero, Option.some.injEq, exists_eq_left', List.getElem?_cons_succ, List.getElem?_cons_zero, true_and, and_true, bne_self_eq_false, beq_self_eq_true, Bool.not_true, Bool.not_false, Bool.and_true, Bool.and_self, Bool.and_false, Bool.true_and, List.length_cons, List.length_nil, ne_eq, not_false_eq_true, Nat.reduceAdd, Nat.reduceMul, if_true, if_false, oneCell_int, oneCell_bool, oneCell_ptr, oneCell_slice, oneCell_string, oneCell_func, oneCell_map, Int.toNat_natCast, List.set_cons_zero, List.set_cons_succ, Nat.lt_irrefl, Nat.zero_lt_succ, Nat.succ_lt_succ_iff, fa26_0, fa26_0p, fa26_1, fa26_1p, fa26_10, fa26_10p, fa26_11, fa26_11p, fa26_12, fa26_12p, fa26_13, fa26_13p, fa26_14, fa26_14p, fa26_15, fa26_15p, fa26_2, fa26_2p, fa26_3, fa26_3p, fa26_4, fa26_4p, fa26_5, fa26_5p, fa26_6, fa26_6p, fa26_7, fa26_7p, fa26_8, fa26_8p, fa26_9, fa26_9p, fa28_0, fa28_0p, fa28_1, fa28_1p, fa45_0, fa45_0p, fa45_1, fa45_1p, fa45_2, fa45_2p, fa45_3, fa45_3p, fa45_4, fa45_4p, fa45_5, fa45_5p, fa45_6, fa45_6p, fa49_0, fa49_0p, fa49_1, fa49_1p, fa74_0, fa74_0p, fa74_1, fa74_1p, fa74_2, fa74_2p, fa74_3, fa74_3p, fa85_0, fa85_0p, fa85_1, fa85_1p, fa93_0, fa93_0p, fa93_1, fa93_1p, fa93_2, fa93_2p, ld3, ld3p, ld4, ld4p, ld22, ld22p, ld23, ld23p, ld24, ld24p, ld26, ld26p, ld28, ld28p, ld42, ld42p, ld45, ld45p, ld49, ld49p, ld58, ld58p, ld69, ld69p, ld72, ld72p, ld85, ld85p, st3s, st4s, st22s, st23s, st24s, st26w, st28w, st42s, st45w, st49w, st85w, ix22, ix22p, ix23, ix23p, ix24, ix24p, ix31, ix31p, ix42, ix42p, ix104, ix104p, ln22, ln22p, ln23, ln23p, ln24, ln24p, ln31, ln31p, ln42, ln42p, al4, al22, al26, al28, al42, al49, al85, cf10, cf11, cf12, cf13, cf14, cf15, cf16, cf17, cf18, cf19, cf20, cf21, cf22, cf23, cf24, cf25, cf26, cf27, cf28, cf29, cf30, cf31, cf32, cf33, cf34, cf35, cf36, cf37, cf38, cf39, cf40, cf41, cf42, cf43, cf44, cf45, cf46, cf47, cf48, cf49, cf50, cf51, cf52, cf53, cf54, cf55, cf56, cf57, cf58, cf59, cf60, cf61, cf62, cf63, cf64, cf65, cf66, cf67, cf68, cf69, cf70, cf71, cf72, cf73, cf74, cf75, bd26_0_1_2_7_8_9_10_11_12_13_14_4_15, bd26_0_1_2_7_8_9_10_11_12_13_14_4_15p, bd28_, bd28_p, bd28_0, bd28_0p, bd28_0_1, bd28_0_1p, bd45_1_3_4_5_6, bd45_1_3_4_5_6p, bd49_0_1, bd49_0_1p, bd49_1, bd49_1p, bd74_0_1_2_3, bd74_0_1_2_3p, bd85_0, bd85_0p, bd85_0_1, bd85_0_1p, bd93_0_1_2, bd93_0_1_2p, bd94_0_1_2_3, bd94_0_1_2_3p, bs42_1_0, bs22_1_0, bs24_1_0, bs42_3_0_1_2, bs31_1_0, bs22_2_0_1, bs42_6_0_1_2_3_4_5, bs42_0_, eq4, eq4p, eq28, eq28p, eq42n, eq42np, eq42s, eq42sp, eq58n, eq58np, eq58s, eq58sp, eq63n, eq63np, eq63s, eq63sp, ne28, ne28p, ne45, ne45p]
  first | exact L | exact ⟨by simp, L⟩

theorem rhome_spec {G h : Hp} {v : Value} {C : Conf} {c : Cell} (hv : CV G h v C) (hL : C.ro.length ≤ 100000000000000) : HCalls Tryd.prog G 42 #[v, cellV c] h (fun u h' => u = .bool (homeB C c) ∧ h' = h) := by
  obtain ⟨ab, cb, ap, cp, ar, cr, az, cs, rfl, ca⟩ := hv
  refine HCalls.assume fun d => quietly (enter42 (by simp) ?_)
  unfold S42
  simp -implicitDefEqProofs only [regs0, regs1, opH_sv, box_new, cells_agg]
  intro x hx gx
  generalize e1 : Hp.set h x _ = h1
  obtain ⟨l1, d1, b1⟩ := boxed e1 hx d gx
  intro y hy gy
  generalize e2 : Hp.set h1 y _ = h2
  obtain ⟨l2, d2, b2⟩ := boxed e2 hy d1 gy
  have L := l1.trans l2
  have b1' := l2 _ _ b1
  have ca2 := ca.up L d2
  refine loop_I (fun m r h3 => ∃ i : Nat, m = C.ro.length - i ∧ i ≤ C.ro.length ∧ r 2 = .pointer (some ⟨x, 0, none⟩) ∧ r 3 = .pointer (some ⟨y, 0, none⟩) ∧ r 5 = .int .i64 i ∧ ((C.ro.take i).any fun p => decide (((cellsP p).count c : Int) > 0)) = false ∧ h2.le h3 ∧ Dis G h3) ?_
    (m := C.ro.length) ⟨0, rfl, Nat.zero_le _, by simp -implicitDefEqProofs (disch := first | with_reducible exact Nat.ne_of_beq_eq_false rfl | omega) only [upd_ne, upd_eq], by simp -implicitDefEqProofs (disch := first | with_reducible exact Nat.ne_of_beq_eq_false rfl | omega) only [upd_ne, upd_eq], by simp -implicitDefEqProofs only [upd_eq] <;> rfl, by simp, Hp.le.refl _, d2⟩
  rintro m r h3 ⟨i, rfl, hi, g2, g3, g5, hni, l3, d3⟩ X HX
  have cx : ∀ k, cellIn G h3 ⟨x, k, none⟩ = _ := fun k => cell_of (look_own (l3 _ _ b1'))
  unfold S42_l2
  simp -implicitDefEqProofs only [g2, g5, thenK_exit, blockK_exit, thenK_normal, if_true, opH_sv, fa26_5, add_mk, Nat.zero_add, ld23, cx, List.getElem?_cons_succ, List.getElem?_cons_zero, Option.some.injEq, exists_eq_left', ln23, bin_lss]
  refine cond_dec (fun hlt => ?_) (fun hge => ?_)
  · have hlt' : i < C.ro.length := by omega
    obtain ⟨z, hz⟩ : ∃ x, C.ro[i]? = some x := ⟨_, List.getElem?_eq_getElem hlt'⟩
    have ca3 := ca2.up l3 d3
    obtain ⟨b, o, rfl, y0, y1, y2⟩ := Sees.pose ca3.ro hz
    have htk : C.ro.take (i + 1) = C.ro.take i ++ [z] := by rw [List.take_add_one, hz]; rfl
    unfold S42_l2_k3
    refine ⟨h3, Hp.le.refl _, ?_⟩
    simp -implicitDefEqProofs (disch := first | with_reducible exact Nat.ne_of_beq_eq_false rfl | omega) only [upd_ne, g2, g5, g3, thenK_ret, blockK_ret, retK_ret, resL_tmp, upd_eq, resL_nil1, pureW_sv, cf41, ld28p, add_mk, Nat.add_zero, Nat.zero_add, cf45, fa26_5p, ld23p, cx, List.getElem?_cons_succ, List.getElem?_cons_zero, Option.some.injEq, exists_eq_left', ix23p (Int.natCast_nonneg i) hlt, Int.toNat_natCast, ld85p, y0, y1, y2]
    refine (rcells_spec (p := z)).mono ?_
    rintro _ _ ⟨b', rfl, hb, gb, rfl⟩
    generalize e4 : Hp.set h3 b' _ = h4
    obtain ⟨l4, d4, b4⟩ := boxed e4 hb d3 gb
    have cy : ∀ k, cellIn G h3 ⟨y, k, none⟩ = _ := fun k => cell_of (look_own (l3 _ _ b2))
    refine ⟨l4, ?_⟩
    try simp -implicitDefEqProofs only [cy, List.getElem?_cons_zero, Option.some.injEq, List.getElem?_cons_succ, exists_eq_left']
    refine (among_spec (L := cellsP z) (c := c) (Sees.row b4 rfl (Nat.le_refl _)) (by simp [cellsP])).mono ?_
    rintro _ _ ⟨rfl, rfl⟩
    try simp -implicitDefEqProofs only [bin_gtrp]
    cases hb : decide (((cellsP z).count c : Int) > 0) with
    | true =>
      try simp -implicitDefEqProofs only [HL.cond_true]
      refine ⟨?_, (L.trans l3).trans l4⟩
      unfold homeB
      congr 1
      symm
      rw [List.any_eq_true]
      exact ⟨z, List.mem_of_getElem? hz, hb⟩
    | false =>
      try simp -implicitDefEqProofs only [HL.cond_false]
      unfold S42_l2_k4
      simp -implicitDefEqProofs (disch := first | with_reducible exact Nat.ne_of_beq_eq_false rfl | omega) only [upd_ne, g5, thenK_normal, opH_sv, bin_add, wrap_in]
      refine HX (C.ro.length - (i + 1)) _ _ (by omega) ⟨i + 1, rfl, hlt', by simp -implicitDefEqProofs (disch := first | with_reducible exact Nat.ne_of_beq_eq_false rfl | omega) only [upd_ne, g2], by simp -implicitDefEqProofs (disch := first | with_reducible exact Nat.ne_of_beq_eq_false rfl | omega) only [upd_ne, g3], by simp -implicitDefEqProofs (disch := first | with_reducible exact Nat.ne_of_beq_eq_false rfl | omega) only [upd_eq] <;> rfl, ?_, l3.trans l4, d4⟩
      rw [htk, List.any_append, hni]
      simp only [List.any_cons, List.any_nil, hb]
      rfl
  · obtain rfl : i = C.ro.length := by omega
    rw [List.take_of_length_le (Nat.le_refl _)] at hni
    show S42_k1 _ _ _ _
    unfold S42_k1
    simp -implicitDefEqProofs only [retK_ret, resL_tmp, upd_eq, resL_nil1]
    refine ⟨?_, L.trans l3⟩
    unfold homeB
    rw [hni]

theorem rstacked_spec {G h : Hp} {v : Value} {C : Conf} {c : Cell} (hv : CV G h v C) (hL : C.bl.length ≤ 100000000000000) (hP : C.po.length ≤ 100000000000000) (hR : C.ro.length ≤ 100000000000000) : HCalls Tryd.prog G 23 #[v, cellV c] h (fun u h' => u = .bool (stackedB C c) ∧ h' = h) := by
  obtain ⟨ab, cb, ap, cp, ar, cr, az, cs, rfl, ca⟩ := hv
  refine HCalls.assume fun d => quietly (enter23 (by simp) ?_)
  unfold S23
  simp -implicitDefEqProofs only [regs0, regs1, retK_ret, resL_tmp, upd_eq, resL_nil1, cf52, opH_sv, box_new, cells_agg, ld28, add_mk, Nat.add_zero, Nat.zero_add, ld26, cell_set_self, List.getElem?_cons_zero, Option.some.injEq, List.getElem?_cons_succ, exists_eq_left']
  intro x hx gx
  generalize e1 : Hp.set h x _ = h1
  obtain ⟨l1, d1, b1⟩ := boxed e1 hx d gx
  intro y hy gy
  generalize e2 : Hp.set h1 y _ = h2
  obtain ⟨l2, d2, b2⟩ := boxed e2 hy d1 gy
  have L := l1.trans l2
  have cx : ∀ k, cellIn G h2 ⟨x, k, none⟩ = _ := fun k => cell_of (look_own (l2 _ _ b1))
  have cy : ∀ k, cellIn G h2 ⟨y, k, none⟩ = _ := fun k => cell_of (look_own b2)
  have ca2 := ca.up L d2
  unfold stackedB
  try simp -implicitDefEqProofs only [cx, List.getElem?_cons_zero, Option.some.injEq, List.getElem?_cons_succ, exists_eq_left']
  refine (ropen_spec ca2.cv hL).mono ?_
  rintro _ _ ⟨rfl, rfl⟩
  cases hc : openB C c with
  | false => simp -implicitDefEqProofs only [pick_f, gd_ft]; exact ⟨by simp, L⟩
  | true =>
  try simp -implicitDefEqProofs only [Bool.true_and, pick_t, gd_tt, opH_sv, cf47, ld28, add_mk, Nat.add_zero, Nat.zero_add, ld26, cx, List.getElem?_cons_zero, Option.some.injEq, List.getElem?_cons_succ, cy, exists_eq_left']
  refine (rport_spec ca2.cv hP).mono ?_
  rintro _ _ ⟨rfl, rfl⟩
  try simp -implicitDefEqProofs only [bin_lss]
  cases hc2 : decide (portI C c < 0) with
  | false => simp -implicitDefEqProofs only [pick_f, gd_ft]; exact ⟨by simp, L⟩
  | true =>
  try simp -implicitDefEqProofs only [Bool.true_and, pick_t, gd_tt, opH_sv, cf42, ld28, add_mk, Nat.add_zero, Nat.zero_add, ld26, cx, List.getElem?_cons_zero, Option.some.injEq, List.getElem?_cons_succ, cy, exists_eq_left']
  refine (rhome_spec ca2.cv hR).mono ?_
  rintro _ _ ⟨rfl, rfl⟩
  try simp -implicitDefEqProofs only [un_not]
  cases hc3 : homeB C c with
  | true => simp -implicitDefEqProofs only [Bool.not_true, pick_f, gd_ft]; exact ⟨by simp, L⟩
  | false =>
  try simp -implicitDefEqProofs only [Bool.not_false, Bool.true_and, pick_t, gd_tt, cf43, opH_sv, ld28, add_mk, Nat.add_zero, Nat.zero_add, ld26, cx, List.getElem?_cons_zero, Option.some.injEq, List.getElem?_cons_succ, cy, exists_eq_left']
  refine (rbeside_spec ca2.cv hL).mono ?_
  rintro _ _ ⟨rfl, rfl⟩
  try simp -implicitDefEqProofs only [true_and]
  first | exact L | exact ⟨by simp, L⟩

end Go.Proofs.YtangejiigopdaaaDoor
end
