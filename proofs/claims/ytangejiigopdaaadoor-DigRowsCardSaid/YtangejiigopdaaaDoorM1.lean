/- Texts of the proof, one behind the other. -/
import Derived.Test.YtangejiigopdaaaDoorH2
import Derived.Test.YtangejiigopdaaaDoorProg
import Derived.Test.YtangejiigopdaaaDoorH3
section
/- A text of the proofs. -/
namespace Go.Proofs.YtangejiigopdaaaDoor
open Go Go.HL
theorem mixed : Tryd.prog.follows .mixedOrders = true := by kernel_rfl
theorem fa26_0 {G h : Hp} {a : Addr} {K : Value → Hp → Prop} : wpH Tryd.prog G (Instr.fieldAt 26 (.pointer (some a)) 0) h K = K (.pointer (some (a.add 0))) h := by kernel_rfl
theorem fa26_0p {G h : Hp} {a : Addr} {K : Value → Prop} : pw Tryd.prog G h (Instr.fieldAt 26 (.pointer (some a)) 0) K = K (.pointer (some (a.add 0))) := by kernel_rfl
theorem fa26_1 {G h : Hp} {a : Addr} {K : Value → Hp → Prop} : wpH Tryd.prog G (Instr.fieldAt 26 (.pointer (some a)) 1) h K = K (.pointer (some (a.add 1))) h := by kernel_rfl
theorem fa26_1p {G h : Hp} {a : Addr} {K : Value → Prop} : pw Tryd.prog G h (Instr.fieldAt 26 (.pointer (some a)) 1) K = K (.pointer (some (a.add 1))) := by kernel_rfl
theorem fa26_10 {G h : Hp} {a : Addr} {K : Value → Hp → Prop} : wpH Tryd.prog G (Instr.fieldAt 26 (.pointer (some a)) 10) h K = K (.pointer (some (a.add 10))) h := by kernel_rfl
theorem fa26_10p {G h : Hp} {a : Addr} {K : Value → Prop} : pw Tryd.prog G h (Instr.fieldAt 26 (.pointer (some a)) 10) K = K (.pointer (some (a.add 10))) := by kernel_rfl
theorem fa26_11 {G h : Hp} {a : Addr} {K : Value → Hp → Prop} : wpH Tryd.prog G (Instr.fieldAt 26 (.pointer (some a)) 11) h K = K (.pointer (some (a.add 11))) h := by kernel_rfl
theorem fa26_11p {G h : Hp} {a : Addr} {K : Value → Prop} : pw Tryd.prog G h (Instr.fieldAt 26 (.pointer (some a)) 11) K = K (.pointer (some (a.add 11))) := by kernel_rfl
theorem fa26_12 {G h : Hp} {a : Addr} {K : Value → Hp → Prop} : wpH Tryd.prog G (Instr.fieldAt 26 (.pointer (some a)) 12) h K = K (.pointer (some (a.add 12))) h := by kernel_rfl
theorem fa26_12p {G h : Hp} {a : Addr} {K : Value → Prop} : pw Tryd.prog G h (Instr.fieldAt 26 (.pointer (some a)) 12) K = K (.pointer (some (a.add 12))) := by kernel_rfl
theorem fa26_13 {G h : Hp} {a : Addr} {K : Value → Hp → Prop} : wpH Tryd.prog G (Instr.fieldAt 26 (.pointer (some a)) 13) h K = K (.pointer (some (a.add 13))) h := by kernel_rfl
theorem fa26_13p {G h : Hp} {a : Addr} {K : Value → Prop} : pw Tryd.prog G h (Instr.fieldAt 26 (.pointer (some a)) 13) K = K (.pointer (some (a.add 13))) := by kernel_rfl
theorem fa26_14 {G h : Hp} {a : Addr} {K : Value → Hp → Prop} : wpH Tryd.prog G (Instr.fieldAt 26 (.pointer (some a)) 14) h K = K (.pointer (some (a.add 14))) h := by kernel_rfl
theorem fa26_14p {G h : Hp} {a : Addr} {K : Value → Prop} : pw Tryd.prog G h (Instr.fieldAt 26 (.pointer (some a)) 14) K = K (.pointer (some (a.add 14))) := by kernel_rfl
theorem fa26_15 {G h : Hp} {a : Addr} {K : Value → Hp → Prop} : wpH Tryd.prog G (Instr.fieldAt 26 (.pointer (some a)) 15) h K = K (.pointer (some (a.add 15))) h := by kernel_rfl
theorem fa26_15p {G h : Hp} {a : Addr} {K : Value → Prop} : pw Tryd.prog G h (Instr.fieldAt 26 (.pointer (some a)) 15) K = K (.pointer (some (a.add 15))) := by kernel_rfl
theorem fa26_2 {G h : Hp} {a : Addr} {K : Value → Hp → Prop} : wpH Tryd.prog G (Instr.fieldAt 26 (.pointer (some a)) 2) h K = K (.pointer (some (a.add 2))) h := by kernel_rfl
theorem fa26_2p {G h : Hp} {a : Addr} {K : Value → Prop} : pw Tryd.prog G h (Instr.fieldAt 26 (.pointer (some a)) 2) K = K (.pointer (some (a.add 2))) := by kernel_rfl
theorem fa26_3 {G h : Hp} {a : Addr} {K : Value → Hp → Prop} : wpH Tryd.prog G (Instr.fieldAt 26 (.pointer (some a)) 3) h K = K (.pointer (some (a.add 3))) h := by kernel_rfl
theorem fa26_3p {G h : Hp} {a : Addr} {K : Value → Prop} : pw Tryd.prog G h (Instr.fieldAt 26 (.pointer (some a)) 3) K = K (.pointer (some (a.add 3))) := by kernel_rfl
theorem fa26_4 {G h : Hp} {a : Addr} {K : Value → Hp → Prop} : wpH Tryd.prog G (Instr.fieldAt 26 (.pointer (some a)) 4) h K = K (.pointer (some (a.add 4))) h := by kernel_rfl
theorem fa26_4p {G h : Hp} {a : Addr} {K : Value → Prop} : pw Tryd.prog G h (Instr.fieldAt 26 (.pointer (some a)) 4) K = K (.pointer (some (a.add 4))) := by kernel_rfl
theorem fa26_5 {G h : Hp} {a : Addr} {K : Value → Hp → Prop} : wpH Tryd.prog G (Instr.fieldAt 26 (.pointer (some a)) 5) h K = K (.pointer (some (a.add 5))) h := by kernel_rfl
theorem fa26_5p {G h : Hp} {a : Addr} {K : Value → Prop} : pw Tryd.prog G h (Instr.fieldAt 26 (.pointer (some a)) 5) K = K (.pointer (some (a.add 5))) := by kernel_rfl
theorem fa26_6 {G h : Hp} {a : Addr} {K : Value → Hp → Prop} : wpH Tryd.prog G (Instr.fieldAt 26 (.pointer (some a)) 6) h K = K (.pointer (some (a.add 6))) h := by kernel_rfl
theorem fa26_6p {G h : Hp} {a : Addr} {K : Value → Prop} : pw Tryd.prog G h (Instr.fieldAt 26 (.pointer (some a)) 6) K = K (.pointer (some (a.add 6))) := by kernel_rfl
theorem fa26_7 {G h : Hp} {a : Addr} {K : Value → Hp → Prop} : wpH Tryd.prog G (Instr.fieldAt 26 (.pointer (some a)) 7) h K = K (.pointer (some (a.add 7))) h := by kernel_rfl
theorem fa26_7p {G h : Hp} {a : Addr} {K : Value → Prop} : pw Tryd.prog G h (Instr.fieldAt 26 (.pointer (some a)) 7) K = K (.pointer (some (a.add 7))) := by kernel_rfl
theorem fa26_8 {G h : Hp} {a : Addr} {K : Value → Hp → Prop} : wpH Tryd.prog G (Instr.fieldAt 26 (.pointer (some a)) 8) h K = K (.pointer (some (a.add 8))) h := by kernel_rfl
theorem fa26_8p {G h : Hp} {a : Addr} {K : Value → Prop} : pw Tryd.prog G h (Instr.fieldAt 26 (.pointer (some a)) 8) K = K (.pointer (some (a.add 8))) := by kernel_rfl
theorem fa26_9 {G h : Hp} {a : Addr} {K : Value → Hp → Prop} : wpH Tryd.prog G (Instr.fieldAt 26 (.pointer (some a)) 9) h K = K (.pointer (some (a.add 9))) h := by kernel_rfl
theorem fa26_9p {G h : Hp} {a : Addr} {K : Value → Prop} : pw Tryd.prog G h (Instr.fieldAt 26 (.pointer (some a)) 9) K = K (.pointer (some (a.add 9))) := by kernel_rfl
theorem fa28_0 {G h : Hp} {a : Addr} {K : Value → Hp → Prop} : wpH Tryd.prog G (Instr.fieldAt 28 (.pointer (some a)) 0) h K = K (.pointer (some (a.add 0))) h := by kernel_rfl
theorem fa28_0p {G h : Hp} {a : Addr} {K : Value → Prop} : pw Tryd.prog G h (Instr.fieldAt 28 (.pointer (some a)) 0) K = K (.pointer (some (a.add 0))) := by kernel_rfl
theorem fa28_1 {G h : Hp} {a : Addr} {K : Value → Hp → Prop} : wpH Tryd.prog G (Instr.fieldAt 28 (.pointer (some a)) 1) h K = K (.pointer (some (a.add 1))) h := by kernel_rfl
theorem fa28_1p {G h : Hp} {a : Addr} {K : Value → Prop} : pw Tryd.prog G h (Instr.fieldAt 28 (.pointer (some a)) 1) K = K (.pointer (some (a.add 1))) := by kernel_rfl
theorem fa45_0 {G h : Hp} {a : Addr} {K : Value → Hp → Prop} : wpH Tryd.prog G (Instr.fieldAt 45 (.pointer (some a)) 0) h K = K (.pointer (some (a.add 0))) h := by kernel_rfl
theorem fa45_0p {G h : Hp} {a : Addr} {K : Value → Prop} : pw Tryd.prog G h (Instr.fieldAt 45 (.pointer (some a)) 0) K = K (.pointer (some (a.add 0))) := by kernel_rfl
theorem fa45_1 {G h : Hp} {a : Addr} {K : Value → Hp → Prop} : wpH Tryd.prog G (Instr.fieldAt 45 (.pointer (some a)) 1) h K = K (.pointer (some (a.add 1))) h := by kernel_rfl
theorem fa45_1p {G h : Hp} {a : Addr} {K : Value → Prop} : pw Tryd.prog G h (Instr.fieldAt 45 (.pointer (some a)) 1) K = K (.pointer (some (a.add 1))) := by kernel_rfl
theorem fa45_2 {G h : Hp} {a : Addr} {K : Value → Hp → Prop} : wpH Tryd.prog G (Instr.fieldAt 45 (.pointer (some a)) 2) h K = K (.pointer (some (a.add 2))) h := by kernel_rfl
theorem fa45_2p {G h : Hp} {a : Addr} {K : Value → Prop} : pw Tryd.prog G h (Instr.fieldAt 45 (.pointer (some a)) 2) K = K (.pointer (some (a.add 2))) := by kernel_rfl
theorem fa45_3 {G h : Hp} {a : Addr} {K : Value → Hp → Prop} : wpH Tryd.prog G (Instr.fieldAt 45 (.pointer (some a)) 3) h K = K (.pointer (some (a.add 3))) h := by kernel_rfl
theorem fa45_3p {G h : Hp} {a : Addr} {K : Value → Prop} : pw Tryd.prog G h (Instr.fieldAt 45 (.pointer (some a)) 3) K = K (.pointer (some (a.add 3))) := by kernel_rfl
theorem fa45_4 {G h : Hp} {a : Addr} {K : Value → Hp → Prop} : wpH Tryd.prog G (Instr.fieldAt 45 (.pointer (some a)) 4) h K = K (.pointer (some (a.add 4))) h := by kernel_rfl
theorem fa45_4p {G h : Hp} {a : Addr} {K : Value → Prop} : pw Tryd.prog G h (Instr.fieldAt 45 (.pointer (some a)) 4) K = K (.pointer (some (a.add 4))) := by kernel_rfl
theorem fa45_5 {G h : Hp} {a : Addr} {K : Value → Hp → Prop} : wpH Tryd.prog G (Instr.fieldAt 45 (.pointer (some a)) 5) h K = K (.pointer (some (a.add 6))) h := by kernel_rfl
theorem fa45_5p {G h : Hp} {a : Addr} {K : Value → Prop} : pw Tryd.prog G h (Instr.fieldAt 45 (.pointer (some a)) 5) K = K (.pointer (some (a.add 6))) := by kernel_rfl
theorem fa45_6 {G h : Hp} {a : Addr} {K : Value → Hp → Prop} : wpH Tryd.prog G (Instr.fieldAt 45 (.pointer (some a)) 6) h K = K (.pointer (some (a.add 8))) h := by kernel_rfl
theorem fa45_6p {G h : Hp} {a : Addr} {K : Value → Prop} : pw Tryd.prog G h (Instr.fieldAt 45 (.pointer (some a)) 6) K = K (.pointer (some (a.add 8))) := by kernel_rfl
theorem fa49_0 {G h : Hp} {a : Addr} {K : Value → Hp → Prop} : wpH Tryd.prog G (Instr.fieldAt 49 (.pointer (some a)) 0) h K = K (.pointer (some (a.add 0))) h := by kernel_rfl
theorem fa49_0p {G h : Hp} {a : Addr} {K : Value → Prop} : pw Tryd.prog G h (Instr.fieldAt 49 (.pointer (some a)) 0) K = K (.pointer (some (a.add 0))) := by kernel_rfl
theorem fa49_1 {G h : Hp} {a : Addr} {K : Value → Hp → Prop} : wpH Tryd.prog G (Instr.fieldAt 49 (.pointer (some a)) 1) h K = K (.pointer (some (a.add 2))) h := by kernel_rfl
theorem fa49_1p {G h : Hp} {a : Addr} {K : Value → Prop} : pw Tryd.prog G h (Instr.fieldAt 49 (.pointer (some a)) 1) K = K (.pointer (some (a.add 2))) := by kernel_rfl
theorem fa74_0 {G h : Hp} {a : Addr} {K : Value → Hp → Prop} : wpH Tryd.prog G (Instr.fieldAt 74 (.pointer (some a)) 0) h K = K (.pointer (some (a.add 0))) h := by kernel_rfl
theorem fa74_0p {G h : Hp} {a : Addr} {K : Value → Prop} : pw Tryd.prog G h (Instr.fieldAt 74 (.pointer (some a)) 0) K = K (.pointer (some (a.add 0))) := by kernel_rfl
theorem fa74_1 {G h : Hp} {a : Addr} {K : Value → Hp → Prop} : wpH Tryd.prog G (Instr.fieldAt 74 (.pointer (some a)) 1) h K = K (.pointer (some (a.add 16))) h := by kernel_rfl
theorem fa74_1p {G h : Hp} {a : Addr} {K : Value → Prop} : pw Tryd.prog G h (Instr.fieldAt 74 (.pointer (some a)) 1) K = K (.pointer (some (a.add 16))) := by kernel_rfl
theorem fa74_2 {G h : Hp} {a : Addr} {K : Value → Hp → Prop} : wpH Tryd.prog G (Instr.fieldAt 74 (.pointer (some a)) 2) h K = K (.pointer (some (a.add 17))) h := by kernel_rfl
theorem fa74_2p {G h : Hp} {a : Addr} {K : Value → Prop} : pw Tryd.prog G h (Instr.fieldAt 74 (.pointer (some a)) 2) K = K (.pointer (some (a.add 17))) := by kernel_rfl
theorem fa74_3 {G h : Hp} {a : Addr} {K : Value → Hp → Prop} : wpH Tryd.prog G (Instr.fieldAt 74 (.pointer (some a)) 3) h K = K (.pointer (some (a.add 18))) h := by kernel_rfl
theorem fa74_3p {G h : Hp} {a : Addr} {K : Value → Prop} : pw Tryd.prog G h (Instr.fieldAt 74 (.pointer (some a)) 3) K = K (.pointer (some (a.add 18))) := by kernel_rfl
theorem fa85_0 {G h : Hp} {a : Addr} {K : Value → Hp → Prop} : wpH Tryd.prog G (Instr.fieldAt 85 (.pointer (some a)) 0) h K = K (.pointer (some (a.add 0))) h := by kernel_rfl
theorem fa85_0p {G h : Hp} {a : Addr} {K : Value → Prop} : pw Tryd.prog G h (Instr.fieldAt 85 (.pointer (some a)) 0) K = K (.pointer (some (a.add 0))) := by kernel_rfl
theorem fa85_1 {G h : Hp} {a : Addr} {K : Value → Hp → Prop} : wpH Tryd.prog G (Instr.fieldAt 85 (.pointer (some a)) 1) h K = K (.pointer (some (a.add 2))) h := by kernel_rfl
theorem fa85_1p {G h : Hp} {a : Addr} {K : Value → Prop} : pw Tryd.prog G h (Instr.fieldAt 85 (.pointer (some a)) 1) K = K (.pointer (some (a.add 2))) := by kernel_rfl
theorem fa93_0 {G h : Hp} {a : Addr} {K : Value → Hp → Prop} : wpH Tryd.prog G (Instr.fieldAt 93 (.pointer (some a)) 0) h K = K (.pointer (some (a.add 0))) h := by kernel_rfl
theorem fa93_0p {G h : Hp} {a : Addr} {K : Value → Prop} : pw Tryd.prog G h (Instr.fieldAt 93 (.pointer (some a)) 0) K = K (.pointer (some (a.add 0))) := by kernel_rfl
theorem fa93_1 {G h : Hp} {a : Addr} {K : Value → Hp → Prop} : wpH Tryd.prog G (Instr.fieldAt 93 (.pointer (some a)) 1) h K = K (.pointer (some (a.add 1))) h := by kernel_rfl
theorem fa93_1p {G h : Hp} {a : Addr} {K : Value → Prop} : pw Tryd.prog G h (Instr.fieldAt 93 (.pointer (some a)) 1) K = K (.pointer (some (a.add 1))) := by kernel_rfl
theorem fa93_2 {G h : Hp} {a : Addr} {K : Value → Hp → Prop} : wpH Tryd.prog G (Instr.fieldAt 93 (.pointer (some a)) 2) h K = K (.pointer (some (a.add 2))) h := by kernel_rfl
theorem fa93_2p {G h : Hp} {a : Addr} {K : Value → Prop} : pw Tryd.prog G h (Instr.fieldAt 93 (.pointer (some a)) 2) K = K (.pointer (some (a.add 2))) := by kernel_rfl
theorem ld3 {G h : Hp} {a : Addr} {K : Value → Hp → Prop} : wpH Tryd.prog G (Instr.loadAt 3 (.pointer (some a))) h K = (∃ x, cellIn G h a = some x ∧ K x h) := by kernel_rfl
theorem ld3p {G h : Hp} {a : Addr} {K : Value → Prop} : pw Tryd.prog G h (Instr.loadAt 3 (.pointer (some a))) K = (∃ x, cellIn G h a = some x ∧ K x) := by kernel_rfl
theorem ld4 {G h : Hp} {a : Addr} {K : Value → Hp → Prop} : wpH Tryd.prog G (Instr.loadAt 4 (.pointer (some a))) h K = (∃ x, cellIn G h a = some x ∧ K x h) := by kernel_rfl
theorem ld4p {G h : Hp} {a : Addr} {K : Value → Prop} : pw Tryd.prog G h (Instr.loadAt 4 (.pointer (some a))) K = (∃ x, cellIn G h a = some x ∧ K x) := by kernel_rfl
theorem ld22 {G h : Hp} {a : Addr} {K : Value → Hp → Prop} : wpH Tryd.prog G (Instr.loadAt 22 (.pointer (some a))) h K = (∃ x, cellIn G h a = some x ∧ K x h) := by kernel_rfl
theorem ld22p {G h : Hp} {a : Addr} {K : Value → Prop} : pw Tryd.prog G h (Instr.loadAt 22 (.pointer (some a))) K = (∃ x, cellIn G h a = some x ∧ K x) := by kernel_rfl
theorem ld23 {G h : Hp} {a : Addr} {K : Value → Hp → Prop} : wpH Tryd.prog G (Instr.loadAt 23 (.pointer (some a))) h K = (∃ x, cellIn G h a = some x ∧ K x h) := by kernel_rfl
theorem ld23p {G h : Hp} {a : Addr} {K : Value → Prop} : pw Tryd.prog G h (Instr.loadAt 23 (.pointer (some a))) K = (∃ x, cellIn G h a = some x ∧ K x) := by kernel_rfl
theorem ld24 {G h : Hp} {a : Addr} {K : Value → Hp → Prop} : wpH Tryd.prog G (Instr.loadAt 24 (.pointer (some a))) h K = (∃ x, cellIn G h a = some x ∧ K x h) := by kernel_rfl
theorem ld24p {G h : Hp} {a : Addr} {K : Value → Prop} : pw Tryd.prog G h (Instr.loadAt 24 (.pointer (some a))) K = (∃ x, cellIn G h a = some x ∧ K x) := by kernel_rfl
theorem ld26 {G h : Hp} {a : Addr} {K : Value → Hp → Prop} : wpH Tryd.prog G (Instr.loadAt 26 (.pointer (some a))) h K = (∃ x0, cellIn G h (a.add 0) = some x0 ∧ ∃ x1, cellIn G h (a.add 1) = some x1 ∧ ∃ x2, cellIn G h (a.add 2) = some x2 ∧ ∃ x3, cellIn G h (a.add 3) = some x3 ∧ ∃ x4, cellIn G h (a.add 4) = some x4 ∧ ∃ x5, cellIn G h (a.add 5) = some x5 ∧ ∃ x6, cellIn G h (a.add 6) = some x6 ∧ ∃ x7, cellIn G h (a.add 7) = some x7 ∧ ∃ x8, cellIn G h (a.add 8) = some x8 ∧ ∃ x9, cellIn G h (a.add 9) = some x9 ∧ ∃ x10, cellIn G h (a.add 10) = some x10 ∧ ∃ x11, cellIn G h (a.add 11) = some x11 ∧ ∃ x12, cellIn G h (a.add 12) = some x12 ∧ ∃ x13, cellIn G h (a.add 13) = some x13 ∧ ∃ x14, cellIn G h (a.add 14) = some x14 ∧ ∃ x15, cellIn G h (a.add 15) = some x15 ∧ K (.agg #[x0, x1, x2, x3, x4, x5, x6, x7, x8, x9, x10, x11, x12, x13, x14, x15]) h) := by kernel_rfl
theorem ld26p {G h : Hp} {a : Addr} {K : Value → Prop} : pw Tryd.prog G h (Instr.loadAt 26 (.pointer (some a))) K = (∃ x0, cellIn G h (a.add 0) = some x0 ∧ ∃ x1, cellIn G h (a.add 1) = some x1 ∧ ∃ x2, cellIn G h (a.add 2) = some x2 ∧ ∃ x3, cellIn G h (a.add 3) = some x3 ∧ ∃ x4, cellIn G h (a.add 4) = some x4 ∧ ∃ x5, cellIn G h (a.add 5) = some x5 ∧ ∃ x6, cellIn G h (a.add 6) = some x6 ∧ ∃ x7, cellIn G h (a.add 7) = some x7 ∧ ∃ x8, cellIn G h (a.add 8) = some x8 ∧ ∃ x9, cellIn G h (a.add 9) = some x9 ∧ ∃ x10, cellIn G h (a.add 10) = some x10 ∧ ∃ x11, cellIn G h (a.add 11) = some x11 ∧ ∃ x12, cellIn G h (a.add 12) = some x12 ∧ ∃ x13, cellIn G h (a.add 13) = some x13 ∧ ∃ x14, cellIn G h (a.add 14) = some x14 ∧ ∃ x15, cellIn G h (a.add 15) = some x15 ∧ K (.agg #[x0, x1, x2, x3, x4, x5, x6, x7, x8, x9, x10, x11, x12, x13, x14, x15])) := by kernel_rfl
theorem ld28 {G h : Hp} {a : Addr} {K : Value → Hp → Prop} : wpH Tryd.prog G (Instr.loadAt 28 (.pointer (some a))) h K = (∃ x0, cellIn G h (a.add 0) = some x0 ∧ ∃ x1, cellIn G h (a.add 1) = some x1 ∧ K (.agg #[x0, x1]) h) := by kernel_rfl
theorem ld28p {G h : Hp} {a : Addr} {K : Value → Prop} : pw Tryd.prog G h (Instr.loadAt 28 (.pointer (some a))) K = (∃ x0, cellIn G h (a.add 0) = some x0 ∧ ∃ x1, cellIn G h (a.add 1) = some x1 ∧ K (.agg #[x0, x1])) := by kernel_rfl
theorem ld42 {G h : Hp} {a : Addr} {K : Value → Hp → Prop} : wpH Tryd.prog G (Instr.loadAt 42 (.pointer (some a))) h K = (∃ x, cellIn G h a = some x ∧ K x h) := by kernel_rfl
theorem ld42p {G h : Hp} {a : Addr} {K : Value → Prop} : pw Tryd.prog G h (Instr.loadAt 42 (.pointer (some a))) K = (∃ x, cellIn G h a = some x ∧ K x) := by kernel_rfl
theorem ld45 {G h : Hp} {a : Addr} {K : Value → Hp → Prop} : wpH Tryd.prog G (Instr.loadAt 45 (.pointer (some a))) h K = (∃ x0, cellIn G h (a.add 0) = some x0 ∧ ∃ x1, cellIn G h (a.add 1) = some x1 ∧ ∃ x2, cellIn G h (a.add 2) = some x2 ∧ ∃ x3, cellIn G h (a.add 3) = some x3 ∧ ∃ x4, cellIn G h (a.add 4) = some x4 ∧ ∃ x5, cellIn G h (a.add 5) = some x5 ∧ ∃ x6, cellIn G h (a.add 6) = some x6 ∧ ∃ x7, cellIn G h (a.add 7) = some x7 ∧ ∃ x8, cellIn G h (a.add 8) = some x8 ∧ K (.agg #[x0, x1, x2, x3, x4, x5, x6, x7, x8]) h) := by kernel_rfl
theorem ld45p {G h : Hp} {a : Addr} {K : Value → Prop} : pw Tryd.prog G h (Instr.loadAt 45 (.pointer (some a))) K = (∃ x0, cellIn G h (a.add 0) = some x0 ∧ ∃ x1, cellIn G h (a.add 1) = some x1 ∧ ∃ x2, cellIn G h (a.add 2) = some x2 ∧ ∃ x3, cellIn G h (a.add 3) = some x3 ∧ ∃ x4, cellIn G h (a.add 4) = some x4 ∧ ∃ x5, cellIn G h (a.add 5) = some x5 ∧ ∃ x6, cellIn G h (a.add 6) = some x6 ∧ ∃ x7, cellIn G h (a.add 7) = some x7 ∧ ∃ x8, cellIn G h (a.add 8) = some x8 ∧ K (.agg #[x0, x1, x2, x3, x4, x5, x6, x7, x8])) := by kernel_rfl
theorem ld49 {G h : Hp} {a : Addr} {K : Value → Hp → Prop} : wpH Tryd.prog G (Instr.loadAt 49 (.pointer (some a))) h K = (∃ x0, cellIn G h (a.add 0) = some x0 ∧ ∃ x1, cellIn G h (a.add 1) = some x1 ∧ ∃ x2, cellIn G h (a.add 2) = some x2 ∧ K (.agg #[x0, x1, x2]) h) := by kernel_rfl
theorem ld49p {G h : Hp} {a : Addr} {K : Value → Prop} : pw Tryd.prog G h (Instr.loadAt 49 (.pointer (some a))) K = (∃ x0, cellIn G h (a.add 0) = some x0 ∧ ∃ x1, cellIn G h (a.add 1) = some x1 ∧ ∃ x2, cellIn G h (a.add 2) = some x2 ∧ K (.agg #[x0, x1, x2])) := by kernel_rfl
theorem ld58 {G h : Hp} {a : Addr} {K : Value → Hp → Prop} : wpH Tryd.prog G (Instr.loadAt 58 (.pointer (some a))) h K = (∃ x, cellIn G h a = some x ∧ K x h) := by kernel_rfl
theorem ld58p {G h : Hp} {a : Addr} {K : Value → Prop} : pw Tryd.prog G h (Instr.loadAt 58 (.pointer (some a))) K = (∃ x, cellIn G h a = some x ∧ K x) := by kernel_rfl
theorem ld69 {G h : Hp} {a : Addr} {K : Value → Hp → Prop} : wpH Tryd.prog G (Instr.loadAt 69 (.pointer (some a))) h K = (∃ x, cellIn G h a = some x ∧ K x h) := by kernel_rfl
theorem ld69p {G h : Hp} {a : Addr} {K : Value → Prop} : pw Tryd.prog G h (Instr.loadAt 69 (.pointer (some a))) K = (∃ x, cellIn G h a = some x ∧ K x) := by kernel_rfl
theorem ld72 {G h : Hp} {a : Addr} {K : Value → Hp → Prop} : wpH Tryd.prog G (Instr.loadAt 72 (.pointer (some a))) h K = (∃ x, cellIn G h a = some x ∧ K x h) := by kernel_rfl
theorem ld72p {G h : Hp} {a : Addr} {K : Value → Prop} : pw Tryd.prog G h (Instr.loadAt 72 (.pointer (some a))) K = (∃ x, cellIn G h a = some x ∧ K x) := by kernel_rfl
theorem ld85 {G h : Hp} {a : Addr} {K : Value → Hp → Prop} : wpH Tryd.prog G (Instr.loadAt 85 (.pointer (some a))) h K = (∃ x0, cellIn G h (a.add 0) = some x0 ∧ ∃ x1, cellIn G h (a.add 1) = some x1 ∧ ∃ x2, cellIn G h (a.add 2) = some x2 ∧ K (.agg #[x0, x1, x2]) h) := by kernel_rfl
theorem ld85p {G h : Hp} {a : Addr} {K : Value → Prop} : pw Tryd.prog G h (Instr.loadAt 85 (.pointer (some a))) K = (∃ x0, cellIn G h (a.add 0) = some x0 ∧ ∃ x1, cellIn G h (a.add 1) = some x1 ∧ ∃ x2, cellIn G h (a.add 2) = some x2 ∧ K (.agg #[x0, x1, x2])) := by kernel_rfl
-- 108: array 4 28
theorem sz3 : (Tryd.prog.info? 3).map (·.size) = some 1 := by kernel_rfl
theorem sz4 : (Tryd.prog.info? 4).map (·.size) = some 1 := by kernel_rfl
theorem sz22 : (Tryd.prog.info? 22).map (·.size) = some 1 := by kernel_rfl
theorem sz23 : (Tryd.prog.info? 23).map (·.size) = some 1 := by kernel_rfl
theorem sz24 : (Tryd.prog.info? 24).map (·.size) = some 1 := by kernel_rfl
theorem sz26 : (Tryd.prog.info? 26).map (·.size) = some 16 := by kernel_rfl
theorem sz28 : (Tryd.prog.info? 28).map (·.size) = some 2 := by kernel_rfl
theorem sz42 : (Tryd.prog.info? 42).map (·.size) = some 1 := by kernel_rfl
theorem sz45 : (Tryd.prog.info? 45).map (·.size) = some 9 := by kernel_rfl
theorem sz49 : (Tryd.prog.info? 49).map (·.size) = some 3 := by kernel_rfl
theorem sz85 : (Tryd.prog.info? 85).map (·.size) = some 3 := by kernel_rfl
theorem st3s {G h : Hp} {b i : Nat} {e : TypeId} {l : List Value} {v : Value} {K : Unit → Hp → Prop} (h1 : oneCell v = true) (hl : i < l.length) : wpH Tryd.prog G (Instr.storeAt 3 (.pointer (some ⟨b, i, none⟩)) v) (h.set b (.cells l.toArray e (0, 0))) K = K () (h.set b (.cells (l.set i v).toArray e (0, 0))) := store1_self sz3 h1 hl
theorem st4s {G h : Hp} {b i : Nat} {e : TypeId} {l : List Value} {v : Value} {K : Unit → Hp → Prop} (h1 : oneCell v = true) (hl : i < l.length) : wpH Tryd.prog G (Instr.storeAt 4 (.pointer (some ⟨b, i, none⟩)) v) (h.set b (.cells l.toArray e (0, 0))) K = K () (h.set b (.cells (l.set i v).toArray e (0, 0))) := store1_self sz4 h1 hl
theorem st22s {G h : Hp} {b i : Nat} {e : TypeId} {l : List Value} {v : Value} {K : Unit → Hp → Prop} (h1 : oneCell v = true) (hl : i < l.length) : wpH Tryd.prog G (Instr.storeAt 22 (.pointer (some ⟨b, i, none⟩)) v) (h.set b (.cells l.toArray e (0, 0))) K = K () (h.set b (.cells (l.set i v).toArray e (0, 0))) := store1_self sz22 h1 hl
theorem st23s {G h : Hp} {b i : Nat} {e : TypeId} {l : List Value} {v : Value} {K : Unit → Hp → Prop} (h1 : oneCell v = true) (hl : i < l.length) : wpH Tryd.prog G (Instr.storeAt 23 (.pointer (some ⟨b, i, none⟩)) v) (h.set b (.cells l.toArray e (0, 0))) K = K () (h.set b (.cells (l.set i v).toArray e (0, 0))) := store1_self sz23 h1 hl
theorem st24s {G h : Hp} {b i : Nat} {e : TypeId} {l : List Value} {v : Value} {K : Unit → Hp → Prop} (h1 : oneCell v = true) (hl : i < l.length) : wpH Tryd.prog G (Instr.storeAt 24 (.pointer (some ⟨b, i, none⟩)) v) (h.set b (.cells l.toArray e (0, 0))) K = K () (h.set b (.cells (l.set i v).toArray e (0, 0))) := store1_self sz24 h1 hl
theorem st26w {G h : Hp} {b : Nat} {e : TypeId} {z0 z1 z2 z3 z4 z5 z6 z7 z8 z9 z10 z11 z12 z13 z14 z15 : Value} {k0 : IntKind} {y0 : Int} {k1 : IntKind} {y1 : Int} {k2 : IntKind} {y2 : Int} {y3 : Option Addr} {n3 c3 : Nat} {y4 : Option Addr} {n4 c4 : Nat} {y5 : Option Addr} {n5 c5 : Nat} {y6 : Option Addr} {n6 c6 : Nat} {k7 : IntKind} {y7 : Int} {k8 : IntKind} {y8 : Int} {k9 : IntKind} {y9 : Int} {k10 : IntKind} {y10 : Int} {k11 : IntKind} {y11 : Int} {k12 : IntKind} {y12 : Int} {k13 : IntKind} {y13 : Int} {k14 : IntKind} {y14 : Int} {y15 : Bool} {K : Unit → Hp → Prop} : wpH Tryd.prog G (Instr.storeAt 26 (.pointer (some ⟨b, 0, none⟩)) (.agg #[(.int k0 y0), (.int k1 y1), (.int k2 y2), (.slice y3 n3 c3), (.slice y4 n4 c4), (.slice y5 n5 c5), (.slice y6 n6 c6), (.int k7 y7), (.int k8 y8), (.int k9 y9), (.int k10 y10), (.int k11 y11), (.int k12 y12), (.int k13 y13), (.int k14 y14), (.bool y15)])) (h.set b (.cells #[z0, z1, z2, z3, z4, z5, z6, z7, z8, z9, z10, z11, z12, z13, z14, z15] e (0, 0))) K = K () (h.set b (.cells #[(.int k0 y0), (.int k1 y1), (.int k2 y2), (.slice y3 n3 c3), (.slice y4 n4 c4), (.slice y5 n5 c5), (.slice y6 n6 c6), (.int k7 y7), (.int k8 y8), (.int k9 y9), (.int k10 y10), (.int k11 y11), (.int k12 y12), (.int k13 y13), (.int k14 y14), (.bool y15)] e (0, 0))) := store_whole sz26 rfl rfl (fun x hx => by simp only [List.mem_cons, List.not_mem_nil, or_false] at hx; rcases hx with rfl | rfl | rfl | rfl | rfl | rfl | rfl | rfl | rfl | rfl | rfl | rfl | rfl | rfl | rfl | rfl <;> first | rfl | assumption)
theorem st28w {G h : Hp} {b : Nat} {e : TypeId} {z0 z1 : Value} {k0 : IntKind} {y0 : Int} {k1 : IntKind} {y1 : Int} {K : Unit → Hp → Prop} : wpH Tryd.prog G (Instr.storeAt 28 (.pointer (some ⟨b, 0, none⟩)) (.agg #[(.int k0 y0), (.int k1 y1)])) (h.set b (.cells #[z0, z1] e (0, 0))) K = K () (h.set b (.cells #[(.int k0 y0), (.int k1 y1)] e (0, 0))) := store_whole sz28 rfl rfl (fun x hx => by simp only [List.mem_cons, List.not_mem_nil, or_false] at hx; rcases hx with rfl | rfl <;> first | rfl | assumption)
theorem st42s {G h : Hp} {b i : Nat} {e : TypeId} {l : List Value} {v : Value} {K : Unit → Hp → Prop} (h1 : oneCell v = true) (hl : i < l.length) : wpH Tryd.prog G (Instr.storeAt 42 (.pointer (some ⟨b, i, none⟩)) v) (h.set b (.cells l.toArray e (0, 0))) K = K () (h.set b (.cells (l.set i v).toArray e (0, 0))) := store1_self sz42 h1 hl
theorem st45w {G h : Hp} {b : Nat} {e : TypeId} {z0 z1 z2 z3 z4 z5 z6 z7 z8 : Value} {k0 : IntKind} {y0 : Int} {k1 : IntKind} {y1 : Int} {k2 : IntKind} {y2 : Int} {k3 : IntKind} {y3 : Int} {k4 : IntKind} {y4 : Int} {k5 : IntKind} {y5 : Int} {k6 : IntKind} {y6 : Int} {k7 : IntKind} {y7 : Int} {k8 : IntKind} {y8 : Int} {K : Unit → Hp → Prop} : wpH Tryd.prog G (Instr.storeAt 45 (.pointer (some ⟨b, 0, none⟩)) (.agg #[(.int k0 y0), (.int k1 y1), (.int k2 y2), (.int k3 y3), (.int k4 y4), (.int k5 y5), (.int k6 y6), (.int k7 y7), (.int k8 y8)])) (h.set b (.cells #[z0, z1, z2, z3, z4, z5, z6, z7, z8] e (0, 0))) K = K () (h.set b (.cells #[(.int k0 y0), (.int k1 y1), (.int k2 y2), (.int k3 y3), (.int k4 y4), (.int k5 y5), (.int k6 y6), (.int k7 y7), (.int k8 y8)] e (0, 0))) := store_whole sz45 rfl rfl (fun x hx => by simp only [List.mem_cons, List.not_mem_nil, or_false] at hx; rcases hx with rfl | rfl | rfl | rfl | rfl | rfl | rfl | rfl | rfl <;> first | rfl | assumption)
theorem st49w {G h : Hp} {b : Nat} {e : TypeId} {z0 z1 z2 : Value} {k0 : IntKind} {y0 : Int} {k1 : IntKind} {y1 : Int} {y2 : Option Addr} {n2 c2 : Nat} {K : Unit → Hp → Prop} : wpH Tryd.prog G (Instr.storeAt 49 (.pointer (some ⟨b, 0, none⟩)) (.agg #[(.int k0 y0), (.int k1 y1), (.slice y2 n2 c2)])) (h.set b (.cells #[z0, z1, z2] e (0, 0))) K = K () (h.set b (.cells #[(.int k0 y0), (.int k1 y1), (.slice y2 n2 c2)] e (0, 0))) := store_whole sz49 rfl rfl (fun x hx => by simp only [List.mem_cons, List.not_mem_nil, or_false] at hx; rcases hx with rfl | rfl | rfl <;> first | rfl | assumption)
theorem st85w {G h : Hp} {b : Nat} {e : TypeId} {z0 z1 z2 : Value} {k0 : IntKind} {y0 : Int} {k1 : IntKind} {y1 : Int} {y2 : Bool} {K : Unit → Hp → Prop} : wpH Tryd.prog G (Instr.storeAt 85 (.pointer (some ⟨b, 0, none⟩)) (.agg #[(.int k0 y0), (.int k1 y1), (.bool y2)])) (h.set b (.cells #[z0, z1, z2] e (0, 0))) K = K () (h.set b (.cells #[(.int k0 y0), (.int k1 y1), (.bool y2)] e (0, 0))) := store_whole sz85 rfl rfl (fun x hx => by simp only [List.mem_cons, List.not_mem_nil, or_false] at hx; rcases hx with rfl | rfl | rfl <;> first | rfl | assumption)
theorem un22 : Tryd.prog.underlying 22 = some (.slice 28) := by kernel_rfl
theorem ix22 {G h : Hp} {ad : Addr} {len cap : Nat} {k : IntKind} {i : Int} {K : Value → Hp → Prop} (h1 : 0 ≤ i) (h2 : i < len) : wpH Tryd.prog G (Instr.indexAt 22 (.slice (some ad) len cap) (.int k i)) h K = K (.pointer (some (ad.add (i.toNat * 2)))) h := index_slice un22 sz28 h1 h2
theorem ix22p {G h : Hp} {ad : Addr} {len cap : Nat} {k : IntKind} {i : Int} {K : Value → Prop} (h1 : 0 ≤ i) (h2 : i < len) : pw Tryd.prog G h (Instr.indexAt 22 (.slice (some ad) len cap) (.int k i)) K = K (.pointer (some (ad.add (i.toNat * 2)))) := index_slicep un22 sz28 h1 h2
theorem un23 : Tryd.prog.underlying 23 = some (.slice 85) := by kernel_rfl
theorem ix23 {G h : Hp} {ad : Addr} {len cap : Nat} {k : IntKind} {i : Int} {K : Value → Hp → Prop} (h1 : 0 ≤ i) (h2 : i < len) : wpH Tryd.prog G (Instr.indexAt 23 (.slice (some ad) len cap) (.int k i)) h K = K (.pointer (some (ad.add (i.toNat * 3)))) h := index_slice un23 sz85 h1 h2
theorem ix23p {G h : Hp} {ad : Addr} {len cap : Nat} {k : IntKind} {i : Int} {K : Value → Prop} (h1 : 0 ≤ i) (h2 : i < len) : pw Tryd.prog G h (Instr.indexAt 23 (.slice (some ad) len cap) (.int k i)) K = K (.pointer (some (ad.add (i.toNat * 3)))) := index_slicep un23 sz85 h1 h2
theorem un24 : Tryd.prog.underlying 24 = some (.slice 49) := by kernel_rfl
theorem ix24 {G h : Hp} {ad : Addr} {len cap : Nat} {k : IntKind} {i : Int} {K : Value → Hp → Prop} (h1 : 0 ≤ i) (h2 : i < len) : wpH Tryd.prog G (Instr.indexAt 24 (.slice (some ad) len cap) (.int k i)) h K = K (.pointer (some (ad.add (i.toNat * 3)))) h := index_slice un24 sz49 h1 h2
theorem ix24p {G h : Hp} {ad : Addr} {len cap : Nat} {k : IntKind} {i : Int} {K : Value → Prop} (h1 : 0 ≤ i) (h2 : i < len) : pw Tryd.prog G h (Instr.indexAt 24 (.slice (some ad) len cap) (.int k i)) K = K (.pointer (some (ad.add (i.toNat * 3)))) := index_slicep un24 sz49 h1 h2
theorem un31 : Tryd.prog.underlying 31 = some (.slice 45) := by kernel_rfl
theorem ix31 {G h : Hp} {ad : Addr} {len cap : Nat} {k : IntKind} {i : Int} {K : Value → Hp → Prop} (h1 : 0 ≤ i) (h2 : i < len) : wpH Tryd.prog G (Instr.indexAt 31 (.slice (some ad) len cap) (.int k i)) h K = K (.pointer (some (ad.add (i.toNat * 9)))) h := index_slice un31 sz45 h1 h2
theorem ix31p {G h : Hp} {ad : Addr} {len cap : Nat} {k : IntKind} {i : Int} {K : Value → Prop} (h1 : 0 ≤ i) (h2 : i < len) : pw Tryd.prog G h (Instr.indexAt 31 (.slice (some ad) len cap) (.int k i)) K = K (.pointer (some (ad.add (i.toNat * 9)))) := index_slicep un31 sz45 h1 h2
theorem un42 : Tryd.prog.underlying 42 = some (.slice 3) := by kernel_rfl
theorem ix42 {G h : Hp} {ad : Addr} {len cap : Nat} {k : IntKind} {i : Int} {K : Value → Hp → Prop} (h1 : 0 ≤ i) (h2 : i < len) : wpH Tryd.prog G (Instr.indexAt 42 (.slice (some ad) len cap) (.int k i)) h K = K (.pointer (some (ad.add (i.toNat * 1)))) h := index_slice un42 sz3 h1 h2
theorem ix42p {G h : Hp} {ad : Addr} {len cap : Nat} {k : IntKind} {i : Int} {K : Value → Prop} (h1 : 0 ≤ i) (h2 : i < len) : pw Tryd.prog G h (Instr.indexAt 42 (.slice (some ad) len cap) (.int k i)) K = K (.pointer (some (ad.add (i.toNat * 1)))) := index_slicep un42 sz3 h1 h2
theorem un104 : Tryd.prog.underlying 104 = some (.slice 4) := by kernel_rfl
theorem ix104 {G h : Hp} {ad : Addr} {len cap : Nat} {k : IntKind} {i : Int} {K : Value → Hp → Prop} (h1 : 0 ≤ i) (h2 : i < len) : wpH Tryd.prog G (Instr.indexAt 104 (.slice (some ad) len cap) (.int k i)) h K = K (.pointer (some (ad.add (i.toNat * 1)))) h := index_slice un104 sz4 h1 h2
theorem ix104p {G h : Hp} {ad : Addr} {len cap : Nat} {k : IntKind} {i : Int} {K : Value → Prop} (h1 : 0 ≤ i) (h2 : i < len) : pw Tryd.prog G h (Instr.indexAt 104 (.slice (some ad) len cap) (.int k i)) K = K (.pointer (some (ad.add (i.toNat * 1)))) := index_slicep un104 sz4 h1 h2
theorem ln22 {G h : Hp} {a : Option Addr} {n c : Nat} {K : Value → Hp → Prop} : wpH Tryd.prog G (Builtin.len_ #[22] 3 #[.slice a n c]) h K = K (.int .i64 n) h := by kernel_rfl
theorem ln22p {G h : Hp} {a : Option Addr} {n c : Nat} {K : Value → Prop} : pw Tryd.prog G h (Builtin.len_ #[22] 3 #[.slice a n c]) K = K (.int .i64 n) := by kernel_rfl
theorem ln23 {G h : Hp} {a : Option Addr} {n c : Nat} {K : Value → Hp → Prop} : wpH Tryd.prog G (Builtin.len_ #[23] 3 #[.slice a n c]) h K = K (.int .i64 n) h := by kernel_rfl
theorem ln23p {G h : Hp} {a : Option Addr} {n c : Nat} {K : Value → Prop} : pw Tryd.prog G h (Builtin.len_ #[23] 3 #[.slice a n c]) K = K (.int .i64 n) := by kernel_rfl
theorem ln24 {G h : Hp} {a : Option Addr} {n c : Nat} {K : Value → Hp → Prop} : wpH Tryd.prog G (Builtin.len_ #[24] 3 #[.slice a n c]) h K = K (.int .i64 n) h := by kernel_rfl
theorem ln24p {G h : Hp} {a : Option Addr} {n c : Nat} {K : Value → Prop} : pw Tryd.prog G h (Builtin.len_ #[24] 3 #[.slice a n c]) K = K (.int .i64 n) := by kernel_rfl
theorem ln31 {G h : Hp} {a : Option Addr} {n c : Nat} {K : Value → Hp → Prop} : wpH Tryd.prog G (Builtin.len_ #[31] 3 #[.slice a n c]) h K = K (.int .i64 n) h := by kernel_rfl
theorem ln31p {G h : Hp} {a : Option Addr} {n c : Nat} {K : Value → Prop} : pw Tryd.prog G h (Builtin.len_ #[31] 3 #[.slice a n c]) K = K (.int .i64 n) := by kernel_rfl
theorem ln42 {G h : Hp} {a : Option Addr} {n c : Nat} {K : Value → Hp → Prop} : wpH Tryd.prog G (Builtin.len_ #[42] 3 #[.slice a n c]) h K = K (.int .i64 n) h := by kernel_rfl
theorem ln42p {G h : Hp} {a : Option Addr} {n c : Nat} {K : Value → Prop} : pw Tryd.prog G h (Builtin.len_ #[42] 3 #[.slice a n c]) K = K (.int .i64 n) := by kernel_rfl
-- len 107: map
theorem al4 {G h : Hp} {v : Value} {K : Value → Hp → Prop} : wpH Tryd.prog G (Instr.alloc 4 true v) h K = ∀ x, h x = none → G x = none → K (.pointer (some ⟨x, 0, none⟩)) (h.set x (.cells #[(.bool false)] 4 (0, 0))) := by kernel_rfl
theorem al22 {G h : Hp} {v : Value} {K : Value → Hp → Prop} : wpH Tryd.prog G (Instr.alloc 22 true v) h K = ∀ x, h x = none → G x = none → K (.pointer (some ⟨x, 0, none⟩)) (h.set x (.cells #[(.slice none 0 0)] 22 (0, 0))) := by kernel_rfl
theorem al26 {G h : Hp} {v : Value} {K : Value → Hp → Prop} : wpH Tryd.prog G (Instr.alloc 26 true v) h K = ∀ x, h x = none → G x = none → K (.pointer (some ⟨x, 0, none⟩)) (h.set x (.cells #[(.int .i64 0), (.int .i64 0), (.int .i64 0), (.slice none 0 0), (.slice none 0 0), (.slice none 0 0), (.slice none 0 0), (.int .i64 0), (.int .i64 0), (.int .i64 0), (.int .i64 0), (.int .i64 0), (.int .i64 0), (.int .i64 0), (.int .i64 0), (.bool false)] 26 (0, 0))) := by kernel_rfl
theorem al28 {G h : Hp} {v : Value} {K : Value → Hp → Prop} : wpH Tryd.prog G (Instr.alloc 28 true v) h K = ∀ x, h x = none → G x = none → K (.pointer (some ⟨x, 0, none⟩)) (h.set x (.cells #[(.int .i64 0), (.int .i64 0)] 28 (0, 0))) := by kernel_rfl
theorem al42 {G h : Hp} {v : Value} {K : Value → Hp → Prop} : wpH Tryd.prog G (Instr.alloc 42 true v) h K = ∀ x, h x = none → G x = none → K (.pointer (some ⟨x, 0, none⟩)) (h.set x (.cells #[(.slice none 0 0)] 42 (0, 0))) := by kernel_rfl
theorem al49 {G h : Hp} {v : Value} {K : Value → Hp → Prop} : wpH Tryd.prog G (Instr.alloc 49 true v) h K = ∀ x, h x = none → G x = none → K (.pointer (some ⟨x, 0, none⟩)) (h.set x (.cells #[(.int .i64 0), (.int .i64 0), (.slice none 0 0)] 49 (0, 0))) := by kernel_rfl
theorem al85 {G h : Hp} {v : Value} {K : Value → Hp → Prop} : wpH Tryd.prog G (Instr.alloc 85 true v) h K = ∀ x, h x = none → G x = none → K (.pointer (some ⟨x, 0, none⟩)) (h.set x (.cells #[(.int .i64 0), (.int .i64 0), (.bool false)] 85 (0, 0))) := by kernel_rfl
theorem cf10 {G h : Hp} {args : Array Value} {K : Value → Hp → Prop} : opH Tryd.prog G (callFunc 10 args) h K = HCalls Tryd.prog G 10 args h K := by kernel_rfl
theorem cf11 {G h : Hp} {args : Array Value} {K : Value → Hp → Prop} : opH Tryd.prog G (callFunc 11 args) h K = HCalls Tryd.prog G 11 args h K := by kernel_rfl
theorem cf12 {G h : Hp} {args : Array Value} {K : Value → Hp → Prop} : opH Tryd.prog G (callFunc 12 args) h K = HCalls Tryd.prog G 12 args h K := by kernel_rfl
theorem cf13 {G h : Hp} {args : Array Value} {K : Value → Hp → Prop} : opH Tryd.prog G (callFunc 13 args) h K = HCalls Tryd.prog G 13 args h K := by kernel_rfl
theorem cf14 {G h : Hp} {args : Array Value} {K : Value → Hp → Prop} : opH Tryd.prog G (callFunc 14 args) h K = HCalls Tryd.prog G 14 args h K := by kernel_rfl
theorem cf15 {G h : Hp} {args : Array Value} {K : Value → Hp → Prop} : opH Tryd.prog G (callFunc 15 args) h K = HCalls Tryd.prog G 15 args h K := by kernel_rfl
theorem cf16 {G h : Hp} {args : Array Value} {K : Value → Hp → Prop} : opH Tryd.prog G (callFunc 16 args) h K = HCalls Tryd.prog G 16 args h K := by kernel_rfl
theorem cf17 {G h : Hp} {args : Array Value} {K : Value → Hp → Prop} : opH Tryd.prog G (callFunc 17 args) h K = HCalls Tryd.prog G 17 args h K := by kernel_rfl
theorem cf18 {G h : Hp} {args : Array Value} {K : Value → Hp → Prop} : opH Tryd.prog G (callFunc 18 args) h K = HCalls Tryd.prog G 18 args h K := by kernel_rfl
theorem cf19 {G h : Hp} {args : Array Value} {K : Value → Hp → Prop} : opH Tryd.prog G (callFunc 19 args) h K = HCalls Tryd.prog G 19 args h K := by kernel_rfl
theorem cf20 {G h : Hp} {args : Array Value} {K : Value → Hp → Prop} : opH Tryd.prog G (callFunc 20 args) h K = HCalls Tryd.prog G 20 args h K := by kernel_rfl
theorem cf21 {G h : Hp} {args : Array Value} {K : Value → Hp → Prop} : opH Tryd.prog G (callFunc 21 args) h K = HCalls Tryd.prog G 21 args h K := by kernel_rfl
theorem cf22 {G h : Hp} {args : Array Value} {K : Value → Hp → Prop} : opH Tryd.prog G (callFunc 22 args) h K = HCalls Tryd.prog G 22 args h K := by kernel_rfl
theorem cf23 {G h : Hp} {args : Array Value} {K : Value → Hp → Prop} : opH Tryd.prog G (callFunc 23 args) h K = HCalls Tryd.prog G 23 args h K := by kernel_rfl
theorem cf24 {G h : Hp} {args : Array Value} {K : Value → Hp → Prop} : opH Tryd.prog G (callFunc 24 args) h K = HCalls Tryd.prog G 24 args h K := by kernel_rfl
theorem cf25 {G h : Hp} {args : Array Value} {K : Value → Hp → Prop} : opH Tryd.prog G (callFunc 25 args) h K = HCalls Tryd.prog G 25 args h K := by kernel_rfl
theorem cf26 {G h : Hp} {args : Array Value} {K : Value → Hp → Prop} : opH Tryd.prog G (callFunc 26 args) h K = HCalls Tryd.prog G 26 args h K := by kernel_rfl
theorem cf27 {G h : Hp} {args : Array Value} {K : Value → Hp → Prop} : opH Tryd.prog G (callFunc 27 args) h K = HCalls Tryd.prog G 27 args h K := by kernel_rfl
theorem cf28 {G h : Hp} {args : Array Value} {K : Value → Hp → Prop} : opH Tryd.prog G (callFunc 28 args) h K = HCalls Tryd.prog G 28 args h K := by kernel_rfl
theorem cf29 {G h : Hp} {args : Array Value} {K : Value → Hp → Prop} : opH Tryd.prog G (callFunc 29 args) h K = HCalls Tryd.prog G 29 args h K := by kernel_rfl
theorem cf30 {G h : Hp} {args : Array Value} {K : Value → Hp → Prop} : opH Tryd.prog G (callFunc 30 args) h K = HCalls Tryd.prog G 30 args h K := by kernel_rfl
theorem cf31 {G h : Hp} {args : Array Value} {K : Value → Hp → Prop} : opH Tryd.prog G (callFunc 31 args) h K = HCalls Tryd.prog G 31 args h K := by kernel_rfl
theorem cf32 {G h : Hp} {args : Array Value} {K : Value → Hp → Prop} : opH Tryd.prog G (callFunc 32 args) h K = HCalls Tryd.prog G 32 args h K := by kernel_rfl
theorem cf33 {G h : Hp} {args : Array Value} {K : Value → Hp → Prop} : opH Tryd.prog G (callFunc 33 args) h K = HCalls Tryd.prog G 33 args h K := by kernel_rfl
theorem cf34 {G h : Hp} {args : Array Value} {K : Value → Hp → Prop} : opH Tryd.prog G (callFunc 34 args) h K = HCalls Tryd.prog G 34 args h K := by kernel_rfl
theorem cf35 {G h : Hp} {args : Array Value} {K : Value → Hp → Prop} : opH Tryd.prog G (callFunc 35 args) h K = HCalls Tryd.prog G 35 args h K := by kernel_rfl
theorem cf36 {G h : Hp} {args : Array Value} {K : Value → Hp → Prop} : opH Tryd.prog G (callFunc 36 args) h K = HCalls Tryd.prog G 36 args h K := by kernel_rfl
theorem cf37 {G h : Hp} {args : Array Value} {K : Value → Hp → Prop} : opH Tryd.prog G (callFunc 37 args) h K = HCalls Tryd.prog G 37 args h K := by kernel_rfl
theorem cf38 {G h : Hp} {args : Array Value} {K : Value → Hp → Prop} : opH Tryd.prog G (callFunc 38 args) h K = HCalls Tryd.prog G 38 args h K := by kernel_rfl
theorem cf39 {G h : Hp} {args : Array Value} {K : Value → Hp → Prop} : opH Tryd.prog G (callFunc 39 args) h K = HCalls Tryd.prog G 39 args h K := by kernel_rfl
theorem cf40 {G h : Hp} {args : Array Value} {K : Value → Hp → Prop} : opH Tryd.prog G (callFunc 40 args) h K = HCalls Tryd.prog G 40 args h K := by kernel_rfl
theorem cf41 {G h : Hp} {args : Array Value} {K : Value → Hp → Prop} : opH Tryd.prog G (callFunc 41 args) h K = HCalls Tryd.prog G 41 args h K := by kernel_rfl
theorem cf42 {G h : Hp} {args : Array Value} {K : Value → Hp → Prop} : opH Tryd.prog G (callFunc 42 args) h K = HCalls Tryd.prog G 42 args h K := by kernel_rfl
theorem cf43 {G h : Hp} {args : Array Value} {K : Value → Hp → Prop} : opH Tryd.prog G (callFunc 43 args) h K = HCalls Tryd.prog G 43 args h K := by kernel_rfl
theorem cf44 {G h : Hp} {args : Array Value} {K : Value → Hp → Prop} : opH Tryd.prog G (callFunc 44 args) h K = HCalls Tryd.prog G 44 args h K := by kernel_rfl
theorem cf45 {G h : Hp} {args : Array Value} {K : Value → Hp → Prop} : opH Tryd.prog G (callFunc 45 args) h K = HCalls Tryd.prog G 45 args h K := by kernel_rfl
theorem cf46 {G h : Hp} {args : Array Value} {K : Value → Hp → Prop} : opH Tryd.prog G (callFunc 46 args) h K = HCalls Tryd.prog G 46 args h K := by kernel_rfl
theorem cf47 {G h : Hp} {args : Array Value} {K : Value → Hp → Prop} : opH Tryd.prog G (callFunc 47 args) h K = HCalls Tryd.prog G 47 args h K := by kernel_rfl
theorem cf48 {G h : Hp} {args : Array Value} {K : Value → Hp → Prop} : opH Tryd.prog G (callFunc 48 args) h K = HCalls Tryd.prog G 48 args h K := by kernel_rfl
theorem cf49 {G h : Hp} {args : Array Value} {K : Value → Hp → Prop} : opH Tryd.prog G (callFunc 49 args) h K = HCalls Tryd.prog G 49 args h K := by kernel_rfl
theorem cf50 {G h : Hp} {args : Array Value} {K : Value → Hp → Prop} : opH Tryd.prog G (callFunc 50 args) h K = HCalls Tryd.prog G 50 args h K := by kernel_rfl
theorem cf51 {G h : Hp} {args : Array Value} {K : Value → Hp → Prop} : opH Tryd.prog G (callFunc 51 args) h K = HCalls Tryd.prog G 51 args h K := by kernel_rfl
theorem cf52 {G h : Hp} {args : Array Value} {K : Value → Hp → Prop} : opH Tryd.prog G (callFunc 52 args) h K = HCalls Tryd.prog G 52 args h K := by kernel_rfl
theorem cf53 {G h : Hp} {args : Array Value} {K : Value → Hp → Prop} : opH Tryd.prog G (callFunc 53 args) h K = HCalls Tryd.prog G 53 args h K := by kernel_rfl
theorem cf54 {G h : Hp} {args : Array Value} {K : Value → Hp → Prop} : opH Tryd.prog G (callFunc 54 args) h K = HCalls Tryd.prog G 54 args h K := by kernel_rfl
theorem cf55 {G h : Hp} {args : Array Value} {K : Value → Hp → Prop} : opH Tryd.prog G (callFunc 55 args) h K = HCalls Tryd.prog G 55 args h K := by kernel_rfl
theorem cf56 {G h : Hp} {args : Array Value} {K : Value → Hp → Prop} : opH Tryd.prog G (callFunc 56 args) h K = HCalls Tryd.prog G 56 args h K := by kernel_rfl
theorem cf57 {G h : Hp} {args : Array Value} {K : Value → Hp → Prop} : opH Tryd.prog G (callFunc 57 args) h K = HCalls Tryd.prog G 57 args h K := by kernel_rfl
theorem cf58 {G h : Hp} {args : Array Value} {K : Value → Hp → Prop} : opH Tryd.prog G (callFunc 58 args) h K = HCalls Tryd.prog G 58 args h K := by kernel_rfl
theorem cf59 {G h : Hp} {args : Array Value} {K : Value → Hp → Prop} : opH Tryd.prog G (callFunc 59 args) h K = HCalls Tryd.prog G 59 args h K := by kernel_rfl
theorem cf60 {G h : Hp} {args : Array Value} {K : Value → Hp → Prop} : opH Tryd.prog G (callFunc 60 args) h K = HCalls Tryd.prog G 60 args h K := by kernel_rfl
theorem cf61 {G h : Hp} {args : Array Value} {K : Value → Hp → Prop} : opH Tryd.prog G (callFunc 61 args) h K = HCalls Tryd.prog G 61 args h K := by kernel_rfl
theorem cf62 {G h : Hp} {args : Array Value} {K : Value → Hp → Prop} : opH Tryd.prog G (callFunc 62 args) h K = HCalls Tryd.prog G 62 args h K := by kernel_rfl
theorem cf63 {G h : Hp} {args : Array Value} {K : Value → Hp → Prop} : opH Tryd.prog G (callFunc 63 args) h K = HCalls Tryd.prog G 63 args h K := by kernel_rfl
theorem cf64 {G h : Hp} {args : Array Value} {K : Value → Hp → Prop} : opH Tryd.prog G (callFunc 64 args) h K = HCalls Tryd.prog G 64 args h K := by kernel_rfl
theorem cf65 {G h : Hp} {args : Array Value} {K : Value → Hp → Prop} : opH Tryd.prog G (callFunc 65 args) h K = HCalls Tryd.prog G 65 args h K := by kernel_rfl
theorem cf66 {G h : Hp} {args : Array Value} {K : Value → Hp → Prop} : opH Tryd.prog G (callFunc 66 args) h K = HCalls Tryd.prog G 66 args h K := by kernel_rfl
theorem cf67 {G h : Hp} {args : Array Value} {K : Value → Hp → Prop} : opH Tryd.prog G (callFunc 67 args) h K = HCalls Tryd.prog G 67 args h K := by kernel_rfl
theorem cf68 {G h : Hp} {args : Array Value} {K : Value → Hp → Prop} : opH Tryd.prog G (callFunc 68 args) h K = HCalls Tryd.prog G 68 args h K := by kernel_rfl
theorem cf69 {G h : Hp} {args : Array Value} {K : Value → Hp → Prop} : opH Tryd.prog G (callFunc 69 args) h K = HCalls Tryd.prog G 69 args h K := by kernel_rfl
theorem cf70 {G h : Hp} {args : Array Value} {K : Value → Hp → Prop} : opH Tryd.prog G (callFunc 70 args) h K = HCalls Tryd.prog G 70 args h K := by kernel_rfl
theorem cf71 {G h : Hp} {args : Array Value} {K : Value → Hp → Prop} : opH Tryd.prog G (callFunc 71 args) h K = HCalls Tryd.prog G 71 args h K := by kernel_rfl
theorem cf72 {G h : Hp} {args : Array Value} {K : Value → Hp → Prop} : opH Tryd.prog G (callFunc 72 args) h K = HCalls Tryd.prog G 72 args h K := by kernel_rfl
theorem cf73 {G h : Hp} {args : Array Value} {K : Value → Hp → Prop} : opH Tryd.prog G (callFunc 73 args) h K = HCalls Tryd.prog G 73 args h K := by kernel_rfl
theorem cf74 {G h : Hp} {args : Array Value} {K : Value → Hp → Prop} : opH Tryd.prog G (callFunc 74 args) h K = HCalls Tryd.prog G 74 args h K := by kernel_rfl
theorem cf75 {G h : Hp} {args : Array Value} {K : Value → Hp → Prop} : opH Tryd.prog G (callFunc 75 args) h K = HCalls Tryd.prog G 75 args h K := by kernel_rfl
theorem bd26_0_1_2_7_8_9_10_11_12_13_14_4_15 {G h : Hp} {k0 : IntKind} {y0 : Int} {k1 : IntKind} {y1 : Int} {k2 : IntKind} {y2 : Int} {k7 : IntKind} {y7 : Int} {k8 : IntKind} {y8 : Int} {k9 : IntKind} {y9 : Int} {k10 : IntKind} {y10 : Int} {k11 : IntKind} {y11 : Int} {k12 : IntKind} {y12 : Int} {k13 : IntKind} {y13 : Int} {k14 : IntKind} {y14 : Int} {y4 : Option Addr} {n4 c4 : Nat} {y15 : Bool} {K : Value → Hp → Prop} : wpH Tryd.prog G (Instr.build 26 #[(0, (.int k0 y0)), (1, (.int k1 y1)), (2, (.int k2 y2)), (7, (.int k7 y7)), (8, (.int k8 y8)), (9, (.int k9 y9)), (10, (.int k10 y10)), (11, (.int k11 y11)), (12, (.int k12 y12)), (13, (.int k13 y13)), (14, (.int k14 y14)), (4, (.slice y4 n4 c4)), (15, (.bool y15))]) h K = K (.agg #[(.int k0 y0), (.int k1 y1), (.int k2 y2), (.slice none 0 0), (.slice y4 n4 c4), (.slice none 0 0), (.slice none 0 0), (.int k7 y7), (.int k8 y8), (.int k9 y9), (.int k10 y10), (.int k11 y11), (.int k12 y12), (.int k13 y13), (.int k14 y14), (.bool y15)]) h := by kernel_rfl
theorem bd26_0_1_2_7_8_9_10_11_12_13_14_4_15p {G h : Hp} {k0 : IntKind} {y0 : Int} {k1 : IntKind} {y1 : Int} {k2 : IntKind} {y2 : Int} {k7 : IntKind} {y7 : Int} {k8 : IntKind} {y8 : Int} {k9 : IntKind} {y9 : Int} {k10 : IntKind} {y10 : Int} {k11 : IntKind} {y11 : Int} {k12 : IntKind} {y12 : Int} {k13 : IntKind} {y13 : Int} {k14 : IntKind} {y14 : Int} {y4 : Option Addr} {n4 c4 : Nat} {y15 : Bool} {K : Value → Prop} : pw Tryd.prog G h (Instr.build 26 #[(0, (.int k0 y0)), (1, (.int k1 y1)), (2, (.int k2 y2)), (7, (.int k7 y7)), (8, (.int k8 y8)), (9, (.int k9 y9)), (10, (.int k10 y10)), (11, (.int k11 y11)), (12, (.int k12 y12)), (13, (.int k13 y13)), (14, (.int k14 y14)), (4, (.slice y4 n4 c4)), (15, (.bool y15))]) K = K (.agg #[(.int k0 y0), (.int k1 y1), (.int k2 y2), (.slice none 0 0), (.slice y4 n4 c4), (.slice none 0 0), (.slice none 0 0), (.int k7 y7), (.int k8 y8), (.int k9 y9), (.int k10 y10), (.int k11 y11), (.int k12 y12), (.int k13 y13), (.int k14 y14), (.bool y15)]) := by kernel_rfl
theorem bd28_ {G h : Hp}  {K : Value → Hp → Prop} : wpH Tryd.prog G (Instr.build 28 #[]) h K = K (.agg #[(.int .i64 0), (.int .i64 0)]) h := by kernel_rfl
theorem bd28_p {G h : Hp}  {K : Value → Prop} : pw Tryd.prog G h (Instr.build 28 #[]) K = K (.agg #[(.int .i64 0), (.int .i64 0)]) := by kernel_rfl
theorem bd28_0 {G h : Hp} {k0 : IntKind} {y0 : Int} {K : Value → Hp → Prop} : wpH Tryd.prog G (Instr.build 28 #[(0, (.int k0 y0))]) h K = K (.agg #[(.int k0 y0), (.int .i64 0)]) h := by kernel_rfl
theorem bd28_0p {G h : Hp} {k0 : IntKind} {y0 : Int} {K : Value → Prop} : pw Tryd.prog G h (Instr.build 28 #[(0, (.int k0 y0))]) K = K (.agg #[(.int k0 y0), (.int .i64 0)]) := by kernel_rfl
theorem bd28_0_1 {G h : Hp} {k0 : IntKind} {y0 : Int} {k1 : IntKind} {y1 : Int} {K : Value → Hp → Prop} : wpH Tryd.prog G (Instr.build 28 #[(0, (.int k0 y0)), (1, (.int k1 y1))]) h K = K (.agg #[(.int k0 y0), (.int k1 y1)]) h := by kernel_rfl
theorem bd28_0_1p {G h : Hp} {k0 : IntKind} {y0 : Int} {k1 : IntKind} {y1 : Int} {K : Value → Prop} : pw Tryd.prog G h (Instr.build 28 #[(0, (.int k0 y0)), (1, (.int k1 y1))]) K = K (.agg #[(.int k0 y0), (.int k1 y1)]) := by kernel_rfl
theorem bd45_1_3_4_5_6 {G h : Hp} {k1 : IntKind} {y1 : Int} {k3 : IntKind} {y3 : Int} {y4_0 y4_1 : Value} {y5_0 y5_1 : Value} {k6 : IntKind} {y6 : Int} {K : Value → Hp → Prop} : wpH Tryd.prog G (Instr.build 45 #[(1, (.int k1 y1)), (3, (.int k3 y3)), (4, (.agg #[y4_0, y4_1])), (5, (.agg #[y5_0, y5_1])), (6, (.int k6 y6))]) h K = K (.agg #[(.int .i64 0), (.int k1 y1), (.int .i64 0), (.int k3 y3), y4_0, y4_1, y5_0, y5_1, (.int k6 y6)]) h := by kernel_rfl
theorem bd45_1_3_4_5_6p {G h : Hp} {k1 : IntKind} {y1 : Int} {k3 : IntKind} {y3 : Int} {y4_0 y4_1 : Value} {y5_0 y5_1 : Value} {k6 : IntKind} {y6 : Int} {K : Value → Prop} : pw Tryd.prog G h (Instr.build 45 #[(1, (.int k1 y1)), (3, (.int k3 y3)), (4, (.agg #[y4_0, y4_1])), (5, (.agg #[y5_0, y5_1])), (6, (.int k6 y6))]) K = K (.agg #[(.int .i64 0), (.int k1 y1), (.int .i64 0), (.int k3 y3), y4_0, y4_1, y5_0, y5_1, (.int k6 y6)]) := by kernel_rfl
theorem bd49_0_1 {G h : Hp} {y0_0 y0_1 : Value} {y1 : Option Addr} {n1 c1 : Nat} {K : Value → Hp → Prop} : wpH Tryd.prog G (Instr.build 49 #[(0, (.agg #[y0_0, y0_1])), (1, (.slice y1 n1 c1))]) h K = K (.agg #[y0_0, y0_1, (.slice y1 n1 c1)]) h := by kernel_rfl
theorem bd49_0_1p {G h : Hp} {y0_0 y0_1 : Value} {y1 : Option Addr} {n1 c1 : Nat} {K : Value → Prop} : pw Tryd.prog G h (Instr.build 49 #[(0, (.agg #[y0_0, y0_1])), (1, (.slice y1 n1 c1))]) K = K (.agg #[y0_0, y0_1, (.slice y1 n1 c1)]) := by kernel_rfl
theorem bd49_1 {G h : Hp} {y1 : Option Addr} {n1 c1 : Nat} {K : Value → Hp → Prop} : wpH Tryd.prog G (Instr.build 49 #[(1, (.slice y1 n1 c1))]) h K = K (.agg #[(.int .i64 0), (.int .i64 0), (.slice y1 n1 c1)]) h := by kernel_rfl
theorem bd49_1p {G h : Hp} {y1 : Option Addr} {n1 c1 : Nat} {K : Value → Prop} : pw Tryd.prog G h (Instr.build 49 #[(1, (.slice y1 n1 c1))]) K = K (.agg #[(.int .i64 0), (.int .i64 0), (.slice y1 n1 c1)]) := by kernel_rfl
theorem bd74_0_1_2_3 {G h : Hp} {y0_0 y0_1 y0_2 y0_3 y0_4 y0_5 y0_6 y0_7 y0_8 y0_9 y0_10 y0_11 y0_12 y0_13 y0_14 y0_15 : Value} {y1 : Option Addr} {y2 : Option Nat} {y3 : Option Addr} {n3 c3 : Nat} {K : Value → Hp → Prop} : wpH Tryd.prog G (Instr.build 74 #[(0, (.agg #[y0_0, y0_1, y0_2, y0_3, y0_4, y0_5, y0_6, y0_7, y0_8, y0_9, y0_10, y0_11, y0_12, y0_13, y0_14, y0_15])), (1, (.pointer y1)), (2, (.map y2)), (3, (.slice y3 n3 c3))]) h K = K (.agg #[y0_0, y0_1, y0_2, y0_3, y0_4, y0_5, y0_6, y0_7, y0_8, y0_9, y0_10, y0_11, y0_12, y0_13, y0_14, y0_15, (.pointer y1), (.map y2), (.slice y3 n3 c3)]) h := by kernel_rfl
theorem bd74_0_1_2_3p {G h : Hp} {y0_0 y0_1 y0_2 y0_3 y0_4 y0_5 y0_6 y0_7 y0_8 y0_9 y0_10 y0_11 y0_12 y0_13 y0_14 y0_15 : Value} {y1 : Option Addr} {y2 : Option Nat} {y3 : Option Addr} {n3 c3 : Nat} {K : Value → Prop} : pw Tryd.prog G h (Instr.build 74 #[(0, (.agg #[y0_0, y0_1, y0_2, y0_3, y0_4, y0_5, y0_6, y0_7, y0_8, y0_9, y0_10, y0_11, y0_12, y0_13, y0_14, y0_15])), (1, (.pointer y1)), (2, (.map y2)), (3, (.slice y3 n3 c3))]) K = K (.agg #[y0_0, y0_1, y0_2, y0_3, y0_4, y0_5, y0_6, y0_7, y0_8, y0_9, y0_10, y0_11, y0_12, y0_13, y0_14, y0_15, (.pointer y1), (.map y2), (.slice y3 n3 c3)]) := by kernel_rfl
theorem bd85_0 {G h : Hp} {y0_0 y0_1 : Value} {K : Value → Hp → Prop} : wpH Tryd.prog G (Instr.build 85 #[(0, (.agg #[y0_0, y0_1]))]) h K = K (.agg #[y0_0, y0_1, (.bool false)]) h := by kernel_rfl
theorem bd85_0p {G h : Hp} {y0_0 y0_1 : Value} {K : Value → Prop} : pw Tryd.prog G h (Instr.build 85 #[(0, (.agg #[y0_0, y0_1]))]) K = K (.agg #[y0_0, y0_1, (.bool false)]) := by kernel_rfl
theorem bd85_0_1 {G h : Hp} {y0_0 y0_1 : Value} {y1 : Bool} {K : Value → Hp → Prop} : wpH Tryd.prog G (Instr.build 85 #[(0, (.agg #[y0_0, y0_1])), (1, (.bool y1))]) h K = K (.agg #[y0_0, y0_1, (.bool y1)]) h := by kernel_rfl
theorem bd85_0_1p {G h : Hp} {y0_0 y0_1 : Value} {y1 : Bool} {K : Value → Prop} : pw Tryd.prog G h (Instr.build 85 #[(0, (.agg #[y0_0, y0_1])), (1, (.bool y1))]) K = K (.agg #[y0_0, y0_1, (.bool y1)]) := by kernel_rfl
theorem bd93_0_1_2 {G h : Hp} {k0 : IntKind} {y0 : Int} {k1 : IntKind} {y1 : Int} {y2 : Option Addr} {n2 c2 : Nat} {K : Value → Hp → Prop} : wpH Tryd.prog G (Instr.build 93 #[(0, (.int k0 y0)), (1, (.int k1 y1)), (2, (.slice y2 n2 c2))]) h K = K (.agg #[(.int k0 y0), (.int k1 y1), (.slice y2 n2 c2)]) h := by kernel_rfl
theorem bd93_0_1_2p {G h : Hp} {k0 : IntKind} {y0 : Int} {k1 : IntKind} {y1 : Int} {y2 : Option Addr} {n2 c2 : Nat} {K : Value → Prop} : pw Tryd.prog G h (Instr.build 93 #[(0, (.int k0 y0)), (1, (.int k1 y1)), (2, (.slice y2 n2 c2))]) K = K (.agg #[(.int k0 y0), (.int k1 y1), (.slice y2 n2 c2)]) := by kernel_rfl
theorem bd94_0_1_2_3 {G h : Hp} {k0 : IntKind} {y0 : Int} {k1 : IntKind} {y1 : Int} {k2 : IntKind} {y2 : Int} {k3 : IntKind} {y3 : Int} {K : Value → Hp → Prop} : wpH Tryd.prog G (Instr.build 94 #[(0, (.int k0 y0)), (1, (.int k1 y1)), (2, (.int k2 y2)), (3, (.int k3 y3))]) h K = K (.agg #[(.int k0 y0), (.int k1 y1), (.int k2 y2), (.int k3 y3)]) h := by kernel_rfl
theorem bd94_0_1_2_3p {G h : Hp} {k0 : IntKind} {y0 : Int} {k1 : IntKind} {y1 : Int} {k2 : IntKind} {y2 : Int} {k3 : IntKind} {y3 : Int} {K : Value → Prop} : pw Tryd.prog G h (Instr.build 94 #[(0, (.int k0 y0)), (1, (.int k1 y1)), (2, (.int k2 y2)), (3, (.int k3 y3))]) K = K (.agg #[(.int k0 y0), (.int k1 y1), (.int k2 y2), (.int k3 y3)]) := by kernel_rfl
theorem bs42_1_0 {G h : Hp} {k0 : IntKind} {y0 : Int} {K : Value → Hp → Prop} : wpH Tryd.prog G (Instr.buildSlice 42 1 #[(0, (.int k0 y0))]) h K = ∀ x, h x = none → G x = none → K (.slice (some ⟨x, 0, none⟩) 1 1) (h.set x (.cells #[(.int k0 y0)] 3 (0, 0))) := by kernel_rfl
theorem bs22_1_0 {G h : Hp} {y0_0 y0_1 : Value} {K : Value → Hp → Prop} : wpH Tryd.prog G (Instr.buildSlice 22 1 #[(0, (.agg #[y0_0, y0_1]))]) h K = ∀ x, h x = none → G x = none → K (.slice (some ⟨x, 0, none⟩) 1 1) (h.set x (.cells #[y0_0, y0_1] 28 (0, 0))) := by kernel_rfl
theorem bs24_1_0 {G h : Hp} {y0_0 y0_1 y0_2 : Value} {K : Value → Hp → Prop} : wpH Tryd.prog G (Instr.buildSlice 24 1 #[(0, (.agg #[y0_0, y0_1, y0_2]))]) h K = ∀ x, h x = none → G x = none → K (.slice (some ⟨x, 0, none⟩) 1 1) (h.set x (.cells #[y0_0, y0_1, y0_2] 49 (0, 0))) := by kernel_rfl
theorem bs42_3_0_1_2 {G h : Hp} {k0 : IntKind} {y0 : Int} {k1 : IntKind} {y1 : Int} {k2 : IntKind} {y2 : Int} {K : Value → Hp → Prop} : wpH Tryd.prog G (Instr.buildSlice 42 3 #[(0, (.int k0 y0)), (1, (.int k1 y1)), (2, (.int k2 y2))]) h K = ∀ x, h x = none → G x = none → K (.slice (some ⟨x, 0, none⟩) 3 3) (h.set x (.cells #[(.int k0 y0), (.int k1 y1), (.int k2 y2)] 3 (0, 0))) := by kernel_rfl
theorem bs31_1_0 {G h : Hp} {y0_0 y0_1 y0_2 y0_3 y0_4 y0_5 y0_6 y0_7 y0_8 : Value} {K : Value → Hp → Prop} : wpH Tryd.prog G (Instr.buildSlice 31 1 #[(0, (.agg #[y0_0, y0_1, y0_2, y0_3, y0_4, y0_5, y0_6, y0_7, y0_8]))]) h K = ∀ x, h x = none → G x = none → K (.slice (some ⟨x, 0, none⟩) 1 1) (h.set x (.cells #[y0_0, y0_1, y0_2, y0_3, y0_4, y0_5, y0_6, y0_7, y0_8] 45 (0, 0))) := by kernel_rfl
theorem bs22_2_0_1 {G h : Hp} {y0_0 y0_1 : Value} {y1_0 y1_1 : Value} {K : Value → Hp → Prop} : wpH Tryd.prog G (Instr.buildSlice 22 2 #[(0, (.agg #[y0_0, y0_1])), (1, (.agg #[y1_0, y1_1]))]) h K = ∀ x, h x = none → G x = none → K (.slice (some ⟨x, 0, none⟩) 2 2) (h.set x (.cells #[y0_0, y0_1, y1_0, y1_1] 28 (0, 0))) := by kernel_rfl
theorem bs42_6_0_1_2_3_4_5 {G h : Hp} {k0 : IntKind} {y0 : Int} {k1 : IntKind} {y1 : Int} {k2 : IntKind} {y2 : Int} {k3 : IntKind} {y3 : Int} {k4 : IntKind} {y4 : Int} {k5 : IntKind} {y5 : Int} {K : Value → Hp → Prop} : wpH Tryd.prog G (Instr.buildSlice 42 6 #[(0, (.int k0 y0)), (1, (.int k1 y1)), (2, (.int k2 y2)), (3, (.int k3 y3)), (4, (.int k4 y4)), (5, (.int k5 y5))]) h K = ∀ x, h x = none → G x = none → K (.slice (some ⟨x, 0, none⟩) 6 6) (h.set x (.cells #[(.int k0 y0), (.int k1 y1), (.int k2 y2), (.int k3 y3), (.int k4 y4), (.int k5 y5)] 3 (0, 0))) := by kernel_rfl
theorem bs42_0_ {G h : Hp}  {K : Value → Hp → Prop} : wpH Tryd.prog G (Instr.buildSlice 42 0 #[]) h K = ∀ x, h x = none → G x = none → K (.slice (some ⟨x, 0, none⟩) 0 0) (h.set x (.cells #[] 3 (0, 0))) := by kernel_rfl
theorem eo45 : ElemOk Tryd.prog 45 9 72 := ⟨by kernel_rfl, by kernel_rfl, by kernel_rfl⟩
theorem eq4 {G h : Hp} {cx cy : Operand} {x y : Bool} {K : Value → Hp → Prop} : opH Tryd.prog G (xEq .eql 4 cx cy (.bool x) (.bool y)) h K = K (.bool ((x == y))) h := by kernel_rfl
theorem eq4p {G h h1 : Hp} {cx cy : Operand} {x y : Bool} {K : Value → Hp → Prop} : pureW Tryd.prog G h1 (xEq .eql 4 cx cy (.bool x) (.bool y)) h K = K (.bool ((x == y))) h := by kernel_rfl
theorem deq28 (d : Nat) {x0 y0 : Int} {x1 y1 : Int} : Det Tryd.prog (Op.equalIn (d + 1 + 1) 28 (.agg #[.int .i64 x0, .int .i64 x1]) (.agg #[.int .i64 y0, .int .i64 y1])) ((x0 == y0) && ((x1 == y1) && true)) := by
  refine eqD_struct Tryd.underlying28 (by kernel_rfl) ?_
  refine eqF_cons (by decide) (part_cell Tryd.underlying3 rfl rfl) (part_cell Tryd.underlying3 rfl rfl) (eqD_int (d := d + 0) Tryd.underlying3) ?_
  refine eqF_cons (by decide) (part_cell Tryd.underlying3 rfl rfl) (part_cell Tryd.underlying3 rfl rfl) (eqD_int (d := d + 0) Tryd.underlying3) ?_
  exact eqF_nil
theorem eq28 {G h : Hp} {cx cy : Operand} {x0 y0 : Int} {x1 y1 : Int} {K : Value → Hp → Prop} : opH Tryd.prog G (xEq .eql 28 cx cy (.agg #[.int .i64 x0, .int .i64 x1]) (.agg #[.int .i64 y0, .int .i64 y1])) h K = K (.bool (((x0 == y0) && ((x1 == y1) && true)))) h := eq_agg (by kernel_rfl) (deq28 9998)
theorem eq28p {G h h1 : Hp} {cx cy : Operand} {x0 y0 : Int} {x1 y1 : Int} {K : Value → Hp → Prop} : pureW Tryd.prog G h1 (xEq .eql 28 cx cy (.agg #[.int .i64 x0, .int .i64 x1]) (.agg #[.int .i64 y0, .int .i64 y1])) h K = K (.bool (((x0 == y0) && ((x1 == y1) && true)))) h := eq_aggp (by kernel_rfl) (deq28 9998)
theorem eq42n {G h : Hp} {cx cy : Operand} {n c m d : Nat} {K : Value → Hp → Prop} : opH Tryd.prog G (xEq .eql 42 cx cy (.slice none n c) (.slice none m d)) h K = K (.bool true) h := by kernel_rfl
theorem eq42np {G h h1 : Hp} {cx cy : Operand} {n c m d : Nat} {K : Value → Hp → Prop} : pureW Tryd.prog G h1 (xEq .eql 42 cx cy (.slice none n c) (.slice none m d)) h K = K (.bool true) h := by kernel_rfl
theorem eq42s {G h : Hp} {cx cy : Operand} {a : Addr} {n c m d : Nat} {K : Value → Hp → Prop} : opH Tryd.prog G (xEq .eql 42 cx cy (.slice (some a) n c) (.slice none m d)) h K = K (.bool false) h := by kernel_rfl
theorem eq42sp {G h h1 : Hp} {cx cy : Operand} {a : Addr} {n c m d : Nat} {K : Value → Hp → Prop} : pureW Tryd.prog G h1 (xEq .eql 42 cx cy (.slice (some a) n c) (.slice none m d)) h K = K (.bool false) h := by kernel_rfl
theorem eq58n {G h : Hp} {cx cy : Operand}  {K : Value → Hp → Prop} : opH Tryd.prog G (xEq .eql 58 cx cy (.pointer none) (.pointer none)) h K = K (.bool true) h := by kernel_rfl
theorem eq58np {G h h1 : Hp} {cx cy : Operand}  {K : Value → Hp → Prop} : pureW Tryd.prog G h1 (xEq .eql 58 cx cy (.pointer none) (.pointer none)) h K = K (.bool true) h := by kernel_rfl
theorem eq58s {G h : Hp} {cx cy : Operand} {a : Addr} {K : Value → Hp → Prop} : opH Tryd.prog G (xEq .eql 58 cx cy (.pointer (some a)) (.pointer none)) h K = K (.bool false) h := by kernel_rfl
theorem eq58sp {G h h1 : Hp} {cx cy : Operand} {a : Addr} {K : Value → Hp → Prop} : pureW Tryd.prog G h1 (xEq .eql 58 cx cy (.pointer (some a)) (.pointer none)) h K = K (.bool false) h := by kernel_rfl
theorem eq63n {G h : Hp} {cx cy : Operand}  {K : Value → Hp → Prop} : opH Tryd.prog G (xEq .eql 63 cx cy .nilFunc .nilFunc) h K = K (.bool true) h := by kernel_rfl
theorem eq63np {G h h1 : Hp} {cx cy : Operand}  {K : Value → Hp → Prop} : pureW Tryd.prog G h1 (xEq .eql 63 cx cy .nilFunc .nilFunc) h K = K (.bool true) h := by kernel_rfl
theorem eq63s {G h : Hp} {cx cy : Operand} {f : Fn} {p q : Array Value} {K : Value → Hp → Prop} : opH Tryd.prog G (xEq .eql 63 cx cy (.func f p q) .nilFunc) h K = K (.bool false) h := by kernel_rfl
theorem eq63sp {G h h1 : Hp} {cx cy : Operand} {f : Fn} {p q : Array Value} {K : Value → Hp → Prop} : pureW Tryd.prog G h1 (xEq .eql 63 cx cy (.func f p q) .nilFunc) h K = K (.bool false) h := by kernel_rfl
theorem ne28 {G h : Hp} {cx cy : Operand} {x0 y0 : Int} {x1 y1 : Int} {K : Value → Hp → Prop} : opH Tryd.prog G (xEq .neq 28 cx cy (.agg #[.int .i64 x0, .int .i64 x1]) (.agg #[.int .i64 y0, .int .i64 y1])) h K = K (.bool (!((x0 == y0) && ((x1 == y1) && true)))) h := ne_agg (by kernel_rfl) (deq28 9998)
theorem ne28p {G h h1 : Hp} {cx cy : Operand} {x0 y0 : Int} {x1 y1 : Int} {K : Value → Hp → Prop} : pureW Tryd.prog G h1 (xEq .neq 28 cx cy (.agg #[.int .i64 x0, .int .i64 x1]) (.agg #[.int .i64 y0, .int .i64 y1])) h K = K (.bool (!((x0 == y0) && ((x1 == y1) && true)))) h := ne_aggp (by kernel_rfl) (deq28 9998)
theorem deq45 (d : Nat) {x0 y0 : Int} {x1 y1 : Int} {x2 y2 : Int} {x3 y3 : Int} {x4 y4 : Int} {x5 y5 : Int} {x6 y6 : Int} {x7 y7 : Int} {x8 y8 : Int} : Det Tryd.prog (Op.equalIn (d + 2 + 1) 45 (.agg #[.int .i64 x0, .int .i64 x1, .int .i64 x2, .int .i64 x3, .int .i64 x4, .int .i64 x5, .int .i64 x6, .int .i64 x7, .int .i64 x8]) (.agg #[.int .i64 y0, .int .i64 y1, .int .i64 y2, .int .i64 y3, .int .i64 y4, .int .i64 y5, .int .i64 y6, .int .i64 y7, .int .i64 y8])) ((x0 == y0) && ((x1 == y1) && ((x2 == y2) && ((x3 == y3) && (((x4 == y4) && ((x5 == y5) && true)) && (((x6 == y6) && ((x7 == y7) && true)) && ((x8 == y8) && true))))))) := by
  refine eqD_struct Tryd.underlying45 (by kernel_rfl) ?_
  refine eqF_cons (by decide) (part_cell Tryd.underlying3 rfl rfl) (part_cell Tryd.underlying3 rfl rfl) (eqD_int (d := d + 1) Tryd.underlying3) ?_
  refine eqF_cons (by decide) (part_cell Tryd.underlying3 rfl rfl) (part_cell Tryd.underlying3 rfl rfl) (eqD_int (d := d + 1) Tryd.underlying3) ?_
  refine eqF_cons (by decide) (part_cell Tryd.underlying3 rfl rfl) (part_cell Tryd.underlying3 rfl rfl) (eqD_int (d := d + 1) Tryd.underlying3) ?_
  refine eqF_cons (by decide) (part_cell Tryd.underlying3 rfl rfl) (part_cell Tryd.underlying3 rfl rfl) (eqD_int (d := d + 1) Tryd.underlying3) ?_
  refine eqF_cons (by decide) (part_agg Tryd.underlying28 (n := 2) (by kernel_rfl)) (part_agg Tryd.underlying28 (n := 2) (by kernel_rfl)) (deq28 (d + 0)) ?_
  refine eqF_cons (by decide) (part_agg Tryd.underlying28 (n := 2) (by kernel_rfl)) (part_agg Tryd.underlying28 (n := 2) (by kernel_rfl)) (deq28 (d + 0)) ?_
  refine eqF_cons (by decide) (part_cell Tryd.underlying3 rfl rfl) (part_cell Tryd.underlying3 rfl rfl) (eqD_int (d := d + 1) Tryd.underlying3) ?_
  exact eqF_nil
theorem ne45 {G h : Hp} {cx cy : Operand} {x0 y0 : Int} {x1 y1 : Int} {x2 y2 : Int} {x3 y3 : Int} {x4 y4 : Int} {x5 y5 : Int} {x6 y6 : Int} {x7 y7 : Int} {x8 y8 : Int} {K : Value → Hp → Prop} : opH Tryd.prog G (xEq .neq 45 cx cy (.agg #[.int .i64 x0, .int .i64 x1, .int .i64 x2, .int .i64 x3, .int .i64 x4, .int .i64 x5, .int .i64 x6, .int .i64 x7, .int .i64 x8]) (.agg #[.int .i64 y0, .int .i64 y1, .int .i64 y2, .int .i64 y3, .int .i64 y4, .int .i64 y5, .int .i64 y6, .int .i64 y7, .int .i64 y8])) h K = K (.bool (!((x0 == y0) && ((x1 == y1) && ((x2 == y2) && ((x3 == y3) && (((x4 == y4) && ((x5 == y5) && true)) && (((x6 == y6) && ((x7 == y7) && true)) && ((x8 == y8) && true))))))))) h := ne_agg (by kernel_rfl) (deq45 9997)
theorem ne45p {G h h1 : Hp} {cx cy : Operand} {x0 y0 : Int} {x1 y1 : Int} {x2 y2 : Int} {x3 y3 : Int} {x4 y4 : Int} {x5 y5 : Int} {x6 y6 : Int} {x7 y7 : Int} {x8 y8 : Int} {K : Value → Hp → Prop} : pureW Tryd.prog G h1 (xEq .neq 45 cx cy (.agg #[.int .i64 x0, .int .i64 x1, .int .i64 x2, .int .i64 x3, .int .i64 x4, .int .i64 x5, .int .i64 x6, .int .i64 x7, .int .i64 x8]) (.agg #[.int .i64 y0, .int .i64 y1, .int .i64 y2, .int .i64 y3, .int .i64 y4, .int .i64 y5, .int .i64 y6, .int .i64 y7, .int .i64 y8])) h K = K (.bool (!((x0 == y0) && ((x1 == y1) && ((x2 == y2) && ((x3 == y3) && (((x4 == y4) && ((x5 == y5) && true)) && (((x6 == y6) && ((x7 == y7) && true)) && ((x8 == y8) && true))))))))) h := ne_aggp (by kernel_rfl) (deq45 9997)
end Go.Proofs.YtangejiigopdaaaDoor
end

section
/- A text of the proofs. -/
set_option linter.unusedVariables false
set_option maxRecDepth 100000
namespace Go.Proofs.YtangejiigopdaaaDoor
open Go Go.HL
end Go.Proofs.YtangejiigopdaaaDoor
end

section
/- The hive's config as it lies in memory; the reference's answers on cells. -/
set_option linter.unusedSimpArgs false
set_option linter.unusedVariables false
namespace Go.Proofs.YtangejiigopdaaaDoor
open Go Go.HL

abbrev Cell := Int × Int
structure Pose where
  x : Int
  y : Int
  d : Bool
  deriving DecidableEq
/-- A stack as it lies: its cell, its row of bins. -/
structure Raw where
  x : Int
  y : Int
  a : Option Addr
  n : Nat
  c : Nat
structure Conf where
  w : Int
  h : Int
  ht : Int
  bl : List Cell
  po : List Cell
  ro : List Pose
  st : List (Cell × List Int)
  un : Int
  ac : Int
  sp : Int
  tu : Int
  ho : Int
  qu : Int
  re : Int
  bu : Int
  back : Bool

def cellC : Cod Cell := ⟨2, fun x => [.int .i64 x.1, .int .i64 x.2], fun _ => rfl, fun _ v hv => by simp at hv; rcases hv with rfl | rfl <;> rfl⟩
def poseC : Cod Pose := ⟨3, fun p => [.int .i64 p.x, .int .i64 p.y, .bool p.d], fun _ => rfl, fun _ v hv => by simp at hv; rcases hv with rfl | rfl | rfl <;> rfl⟩
def icC : Cod Int := ⟨1, fun x => [.int .i64 x], fun _ => rfl, fun _ v hv => by simp at hv; rcases hv with rfl; rfl⟩
def bcC : Cod Bool := ⟨1, fun x => [.bool x], fun _ => rfl, fun _ v hv => by simp at hv; rcases hv with rfl; rfl⟩
def rawC : Cod Raw := ⟨3, fun s => [.int .i64 s.x, .int .i64 s.y, .slice s.a s.n s.c], fun _ => rfl, fun _ v hv => by simp at hv; rcases hv with rfl | rfl | rfl <;> rfl⟩

abbrev cellV (c : Cell) : Value := .agg #[.int .i64 c.1, .int .i64 c.2]
abbrev poseV (p : Pose) : Value := .agg #[.int .i64 p.x, .int .i64 p.y, .bool p.d]

/-- The config's lists, seen. -/
structure CA (G h : Hp) (C : Conf) (ab : Option Addr) (cb : Nat) (ap : Option Addr) (cp : Nat) (ar : Option Addr) (cr : Nat) (az : Option Addr) (cs : Nat) : Prop where
  bl : Sees cellC G h (.slice ab C.bl.length cb) C.bl
  po : Sees cellC G h (.slice ap C.po.length cp) C.po
  ro : Sees poseC G h (.slice ar C.ro.length cr) C.ro
  st : ∃ raw : List Raw, Sees rawC G h (.slice az C.st.length cs) raw ∧ ∀ (i : Nat) (r : Raw) (s : Cell × List Int), raw[i]? = some r → C.st[i]? = some s → (r.x, r.y) = s.1 ∧ r.n = s.2.length ∧ Sees icC G h (.slice r.a s.2.length r.c) s.2

abbrev confV (C : Conf) (ab : Option Addr) (cb : Nat) (ap : Option Addr) (cp : Nat) (ar : Option Addr) (cr : Nat) (az : Option Addr) (cs : Nat) : Value :=
  .agg #[.int .i64 C.w, .int .i64 C.h, .int .i64 C.ht, .slice ab C.bl.length cb, .slice ap C.po.length cp, .slice ar C.ro.length cr, .slice az C.st.length cs, .int .i64 C.un, .int .i64 C.ac, .int .i64 C.sp, .int .i64 C.tu, .int .i64 C.ho, .int .i64 C.qu, .int .i64 C.re, .int .i64 C.bu, .bool C.back]

def CV (G h : Hp) (v : Value) (C : Conf) : Prop := ∃ ab cb ap cp ar cr az cs, v = confV C ab cb ap cp ar cr az cs ∧ CA G h C ab cb ap cp ar cr az cs

theorem CA.up {G h h' : Hp} {C : Conf} {ab : Option Addr} {cb : Nat} {ap : Option Addr} {cp : Nat} {ar : Option Addr} {cr : Nat} {az : Option Addr} {cs : Nat} (c : CA G h C ab cb ap cp ar cr az cs) (l : h.le h') (d : Dis G h') : CA G h' C ab cb ap cp ar cr az cs := by
  obtain ⟨c1, c2, c3, raw, c4, c5⟩ := c
  exact ⟨c1.up l d, c2.up l d, c3.up l d, raw, c4.up l d, fun i r s h1 h2 => let ⟨a, b, c⟩ := c5 i r s h1 h2; ⟨a, b, c.up l d⟩⟩
theorem CV.up {G h h' : Hp} {v : Value} {C : Conf} (c : CV G h v C) (l : h.le h') (d : Dis G h') : CV G h' v C := by
  obtain ⟨ab, cb, ap, cp, ar, cr, az, cs, e, c⟩ := c
  exact ⟨ab, cb, ap, cp, ar, cr, az, cs, e, c.up l d⟩
theorem CA.cv {G h : Hp} {C : Conf} {ab : Option Addr} {cb : Nat} {ap : Option Addr} {cp : Nat} {ar : Option Addr} {cr : Nat} {az : Option Addr} {cs : Nat} (c : CA G h C ab cb ap cp ar cr az cs) : CV G h (confV C ab cb ap cp ar cr az cs) C := ⟨ab, cb, ap, cp, ar, cr, az, cs, rfl, c⟩

def withinB (n a b : Int) : Bool := decide (n ≥ a) && decide (n ≤ b)
def inB (C : Conf) (c : Cell) : Bool := decide (c.1 ≥ 0) && (decide (c.2 ≥ 0) && (decide (c.1 < C.w) && decide (c.2 < C.h)))
def openB (C : Conf) (c : Cell) : Bool := inB C c && (C.bl.count c == 0)
def wr (x : Int) : Int := IntKind.i64.wrap x
def east (p : Pose) : Cell := if p.d then (p.x, wr (p.y + 1)) else (wr (p.x + 1), p.y)
def cellsP (p : Pose) : List Cell := [(p.x, p.y), east p]
def fitsB (C : Conf) (p : Pose) : Bool := openB C (p.x, p.y) && openB C (east p)
def besideB (C : Conf) (c : Cell) : Bool := openB C (wr (c.1 + 1), c.2) || openB C (c.1, wr (c.2 + 1))
def homeB (C : Conf) (c : Cell) : Bool := C.ro.any fun p => decide (((cellsP p).count c : Int) > 0)
def portI (C : Conf) (c : Cell) : Int := if c ∈ C.po then (C.po.idxOf c : Int) else -1
def stackedB (C : Conf) (c : Cell) : Bool := openB C c && (decide (portI C c < 0) && (!homeB C c && besideB C c))

theorem cget {G h : Hp} {b o i : Nat} {x : Cell} (e : ∀ j, j < cellC.n → cellIn G h ⟨b, o + i * cellC.n + j, none⟩ = (cellC.enc x)[j]?) :
    cellIn G h ⟨b, o + i * 2, none⟩ = some (.int .i64 x.1) ∧ cellIn G h ⟨b, o + i * 2 + 1, none⟩ = some (.int .i64 x.2) := ⟨e 0 (by decide), e 1 (by decide)⟩
theorem pget {G h : Hp} {b o i : Nat} {x : Pose} (e : ∀ j, j < poseC.n → cellIn G h ⟨b, o + i * poseC.n + j, none⟩ = (poseC.enc x)[j]?) :
    cellIn G h ⟨b, o + i * 3, none⟩ = some (.int .i64 x.x) ∧ cellIn G h ⟨b, o + i * 3 + 1, none⟩ = some (.int .i64 x.y) ∧ cellIn G h ⟨b, o + i * 3 + 2, none⟩ = some (.bool x.d) := ⟨e 0 (by decide), e 1 (by decide), e 2 (by decide)⟩

theorem cell_beq (x y : Cell) : (x.1 == y.1 && x.2 == y.2) = (x == y) := rfl

/-- At an element of a row of cells. -/
theorem Sees.cell {G h : Hp} {sa : Option Addr} {cap : Nat} {L : List Cell} (s : Sees cellC G h (.slice sa L.length cap) L) {i : Nat} {x : Cell} (hx : L[i]? = some x) :
    ∃ b o, sa = some ⟨b, o, none⟩ ∧ cellIn G h ⟨b, o + i * 2, none⟩ = some (.int .i64 x.1) ∧ cellIn G h ⟨b, o + i * 2 + 1, none⟩ = some (.int .i64 x.2) := by
  obtain ⟨b, o, c, e1, e2⟩ := s.get hx
  simp only [Value.slice.injEq] at e1
  exact ⟨b, o, e1.1, cget e2⟩
theorem Sees.pose {G h : Hp} {sa : Option Addr} {cap : Nat} {L : List Pose} (s : Sees poseC G h (.slice sa L.length cap) L) {i : Nat} {x : Pose} (hx : L[i]? = some x) :
    ∃ b o, sa = some ⟨b, o, none⟩ ∧ cellIn G h ⟨b, o + i * 3, none⟩ = some (.int .i64 x.x) ∧ cellIn G h ⟨b, o + i * 3 + 1, none⟩ = some (.int .i64 x.y) ∧ cellIn G h ⟨b, o + i * 3 + 2, none⟩ = some (.bool x.d) := by
  obtain ⟨b, o, c, e1, e2⟩ := s.get hx
  simp only [Value.slice.injEq] at e1
  exact ⟨b, o, e1.1, pget e2⟩

end Go.Proofs.YtangejiigopdaaaDoor
end

section
/- The reference's answers on cells, poses: open, port, home, beside, stacked. -/
set_option linter.unusedSimpArgs false
set_option linter.unusedVariables false
set_option maxRecDepth 100000
namespace Go.Proofs.YtangejiigopdaaaDoor
open Go Go.HL

theorem boxed {G h h1 : Hp} {x : Nat} {o : Obj} (e : h.set x o = h1) (hx : h x = none) (d : Dis G h) (gx : G x = none) : h.le h1 ∧ Dis G h1 ∧ h1 x = some o := by
  subst e
  exact ⟨le_set hx, d.set gx, set_self⟩

end Go.Proofs.YtangejiigopdaaaDoor
end

section
/- The reference: the numbers, the stacks, what may be. -/
set_option linter.unusedSimpArgs false
set_option linter.unusedVariables false
set_option maxRecDepth 100000
namespace Go.Proofs.YtangejiigopdaaaDoor
open Go Go.HL

def numbersB (C : Conf) : Bool := withinB C.w 1 16 && (withinB C.h 1 16 && (withinB C.ht 1 8 && (withinB C.un 1 1000 && (withinB C.ac 1 1000 && (withinB C.sp 1 1000 && (withinB C.tu 1 1000 && (withinB C.ho 1 1000 && (withinB C.re 1 1000 && (withinB C.qu 1 16 && (withinB C.bu 1 1048576))))))))))

theorem icget {G h : Hp} {b o i : Nat} {x : Int} (e : ∀ j, j < icC.n → cellIn G h ⟨b, o + i * icC.n + j, none⟩ = (icC.enc x)[j]?) : cellIn G h ⟨b, o + i * 1, none⟩ = some (.int .i64 x) := e 0 (by decide)
theorem Sees.int {G h : Hp} {sa : Option Addr} {n cap : Nat} {L : List Int} (s : Sees icC G h (.slice sa n cap) L) {i : Nat} {x : Int} (hx : L[i]? = some x) :
    ∃ b o, sa = some ⟨b, o, none⟩ ∧ cellIn G h ⟨b, o + i, none⟩ = some (.int .i64 x) := by
  obtain ⟨b, o, c, e1, e2⟩ := s.get hx
  simp only [Value.slice.injEq] at e1
  have := icget e2
  rw [Nat.mul_one] at this
  exact ⟨b, o, e1.1, this⟩

/-- What the stacks must be. -/
structure BinsOk (C : Conf) : Prop where
  few : C.st.length ≤ 257
  each : ∀ s ∈ C.st, stackedB C s.1 = true ∧ (s.2.length : Int) ≤ C.ht
  apart : (C.st.map Prod.fst).Nodup
  most : (C.st.flatMap Prod.snd).length ≤ 512
  nums : ∀ b ∈ C.st.flatMap Prod.snd, withinB b 1 1000000000 = true
  once : (C.st.flatMap Prod.snd).Nodup

theorem eoint : ElemOk Tryd.prog 3 icC.n 8 := ⟨by kernel_rfl, by kernel_rfl, by kernel_rfl⟩

theorem take_get {α : Type} {L : List α} {i : Nat} {x : α} (hx : L[i]? = some x) : L.take (i + 1) = L.take i ++ [x] := by rw [List.take_add_one, hx]; rfl
theorem nodup_take_succ {α : Type} {L : List α} {i : Nat} {x : α} (hx : L[i]? = some x) (h1 : (L.take i).Nodup) (h2 : x ∉ L.take i) : (L.take (i + 1)).Nodup := by
  rw [take_get hx]
  exact List.nodup_append.2 ⟨h1, by simp, fun a ha b hb => by simp at hb; subst hb; exact fun e => h2 (e ▸ ha)⟩
theorem not_nodup {α : Type} {L : List α} {i : Nat} {x : α} (hx : L[i]? = some x) (h2 : x ∈ L.take i) : ¬ L.Nodup := by
  intro h
  have : (L.take (i + 1)).Nodup := h.sublist (List.take_sublist _ _)
  rw [take_get hx] at this
  exact (List.nodup_append.1 this).2.2 x h2 x (by simp) rfl

end Go.Proofs.YtangejiigopdaaaDoor
end

section
/- The reference: the stacks, and what may be. -/
set_option linter.unusedSimpArgs false
set_option linter.unusedVariables false
set_option maxRecDepth 100000
namespace Go.Proofs.YtangejiigopdaaaDoor
open Go Go.HL

end Go.Proofs.YtangejiigopdaaaDoor
end

section
/- The reference: what may be. -/
set_option linter.unusedSimpArgs false
set_option linter.unusedVariables false
set_option maxRecDepth 100000
namespace Go.Proofs.YtangejiigopdaaaDoor
open Go Go.HL

/-- What may be. -/
structure MayOk (C : Conf) : Prop where
  nums : numbersB C = true
  po8 : C.po.length ≤ 8
  ro8 : C.ro.length ≤ 8
  bl256 : C.bl.length ≤ 256
  blk : ∀ c ∈ C.bl, inB C c = true ∧ C.bl.count c ≤ 1 ∧ C.po.count c = 0
  prt : ∀ c ∈ C.po, inB C c = true ∧ C.po.count c ≤ 1 ∧ homeB C c = false ∧ besideB C c = true
  fit : ∀ p ∈ C.ro, fitsB C p = true
  once : ∀ c ∈ C.ro.flatMap cellsP, (C.ro.flatMap cellsP).count c ≤ 1
  bins : BinsOk C

theorem eocell : ElemOk Tryd.prog 28 cellC.n 16 := ⟨by kernel_rfl, by kernel_rfl, by kernel_rfl⟩

end Go.Proofs.YtangejiigopdaaaDoor
end

section
/- A text of the proofs. -/
set_option linter.unusedVariables false
set_option maxRecDepth 100000
namespace Go.Proofs.YtangejiigopdaaaDoor
open Go Go.HL
def md28 : Nat → Hint
  | _ => ⟨false, [], [], [], [], false⟩
def S28_k1 (G : Hp) (K : Exit → Rg → Hp → Prop) (r : Rg) (h : Hp) : Prop :=
  K .ret (upd (upd (upd r 9 (r 4)) 2 (r 4)) 3 (.int .i64 0)) h
def S28 (G : Hp) (K : Exit → Rg → Hp → Prop) (r : Rg) (h : Hp) : Prop :=
  opH Tryd.prog G (sv (Instr.box 26 (r 0))) h fun v0 h0 =>
  opH Tryd.prog G (sv (Instr.loadAt 26 v0)) h0 fun v1 h1 =>
  opH Tryd.prog G (callFunc 53 #[v1]) h1 fun v2 h2 =>
  opH Tryd.prog G (xEq .eql 58 (.tmp 0) (.const .nilFunc) v2 (.pointer none)) h2 fun v3 h3 =>
  cond v3
  (K .ret (upd (upd (upd (upd (upd (upd (upd (upd (upd (upd r 1 v0) 2 (.pointer none)) 3 (.int .i64 0)) 5 v1) 6 v2) 4 v2) 7 v2) 8 v3) 2 (.pointer none)) 3 (.int .i64 5)) h3)
  (S28_k1 G K (upd (upd (upd (upd (upd (upd (upd (upd r 1 v0) 2 (.pointer none)) 3 (.int .i64 0)) 5 v1) 6 v2) 4 v2) 7 v2) 8 v3) h3)
theorem S28_eq (G : Hp) (K : Exit → Rg → Hp → Prop) (r : Rg) (h : Hp) : wpC Tryd.prog G 10 md28 true (Tryd.f28.body.getD .skip) r h K = S28 G K r h := by kernel_rfl
theorem enter28 {G : Hp} {h : Hp} {args : Array Value} {R : Value → Hp → Prop} (hn : args.size ≤ 10) (H : S28 G (retK Tryd.prog G [.tmp 2, .tmp 3] R) (regs args) h) : HCalls Tryd.prog G 28 args h R :=
  HCalls.enter (md := md28) mixed Tryd.func28 rfl hn (by rw [← S28_eq] at H; exact H)

def md73 : Nat → Hint
  | _ => ⟨false, [], [], [], [], false⟩
def S73_k1 (G : Hp) (K : Exit → Rg → Hp → Prop) (r : Rg) (h : Hp) : Prop :=
  opH Tryd.prog G (sv (Instr.fieldAt 85 (r 3) 0)) h fun v7 h7 =>
  opH Tryd.prog G (sv (Instr.loadAt 28 v7)) h7 fun v8 h8 =>
  opH Tryd.prog G (sv (Instr.fieldAt 85 (r 3) 0)) h8 fun v9 h9 =>
  opH Tryd.prog G (sv (Instr.fieldAt 28 v9 0)) h9 fun v10 h10 =>
  opH Tryd.prog G (sv (Instr.loadAt 3 v10)) h10 fun v11 h11 =>
  opH Tryd.prog G (sv (Instr.fieldAt 28 (r 5) 0)) h11 fun v12 h12 =>
  opH Tryd.prog G (sv (Instr.loadAt 3 v12)) h12 fun v13 h13 =>
  opH Tryd.prog G (sv (binOp .add 3 v11 v13)) h13 fun v14 h14 =>
  opH Tryd.prog G (sv (Instr.fieldAt 85 (r 3) 0)) h14 fun v15 h15 =>
  opH Tryd.prog G (sv (Instr.fieldAt 28 v15 1)) h15 fun v16 h16 =>
  opH Tryd.prog G (sv (Instr.loadAt 3 v16)) h16 fun v17 h17 =>
  opH Tryd.prog G (sv (Instr.fieldAt 28 (r 5) 1)) h17 fun v18 h18 =>
  opH Tryd.prog G (sv (Instr.loadAt 3 v18)) h18 fun v19 h19 =>
  opH Tryd.prog G (sv (binOp .add 3 v17 v19)) h19 fun v20 h20 =>
  opH Tryd.prog G (sv (Instr.build 28 #[(0, v14), (1, v20)])) h20 fun v21 h21 =>
  opH Tryd.prog G (sv (Instr.buildSlice 22 2 #[(0, v8), (1, v21)])) h21 fun v22 h22 =>
  K .ret (upd (upd (upd (upd (upd (upd (upd (upd (upd (upd (upd (upd (upd (upd (upd (upd (upd r 12 v7) 13 v8) 14 v9) 15 v10) 16 v11) 17 v12) 18 v13) 19 v14) 20 v15) 21 v16) 22 v17) 23 v18) 24 v19) 25 v20) 26 v21) 27 v22) 4 v22) h22
def S73 (G : Hp) (K : Exit → Rg → Hp → Prop) (r : Rg) (h : Hp) : Prop :=
  opH Tryd.prog G (sv (Instr.box 85 (r 1))) h fun v0 h0 =>
  opH Tryd.prog G (sv (Instr.indexAt 108 (.pointer (some ⟨0, 0, none⟩)) (.int .i64 1))) h0 fun v1 h1 =>
  opH Tryd.prog G (sv (Instr.loadAt 28 v1)) h1 fun v2 h2 =>
  opH Tryd.prog G (sv (Instr.alloc 28 true (.tuple #[]))) h2 fun v3 h3 =>
  opH Tryd.prog G (su (Instr.storeAt 28 v3 v2)) h3 fun v4 h4 =>
  opH Tryd.prog G (sv (Instr.fieldAt 85 v0 1)) h4 fun v5 h5 =>
  opH Tryd.prog G (sv (Instr.loadAt 4 v5)) h5 fun v6 h6 =>
  cond v6
  (opH Tryd.prog G (sv (Instr.indexAt 108 (.pointer (some ⟨0, 0, none⟩)) (.int .i64 2))) h6 fun v23 h23 =>
  opH Tryd.prog G (sv (Instr.loadAt 28 v23)) h23 fun v24 h24 =>
  opH Tryd.prog G (su (Instr.storeAt 28 v3 v24)) h24 fun v25 h25 =>
  S73_k1 G K (upd (upd (upd (upd (upd (upd (upd (upd (upd r 3 v0) 4 (.slice none 0 0)) 6 v1) 7 v2) 5 v3) 8 v5) 9 v6) 10 v23) 11 v24) h25)
  (S73_k1 G K (upd (upd (upd (upd (upd (upd (upd r 3 v0) 4 (.slice none 0 0)) 6 v1) 7 v2) 5 v3) 8 v5) 9 v6) h6)
theorem S73_eq (G : Hp) (K : Exit → Rg → Hp → Prop) (r : Rg) (h : Hp) : wpC Tryd.prog G 28 md73 true (Tryd.f73.body.getD .skip) r h K = S73 G K r h := by kernel_rfl
theorem enter73 {G : Hp} {h : Hp} {args : Array Value} {R : Value → Hp → Prop} (hn : args.size ≤ 28) (H : S73 G (retK Tryd.prog G [.tmp 4] R) (regs args) h) : HCalls Tryd.prog G 73 args h R :=
  HCalls.enter (md := md73) mixed Tryd.func73 rfl hn (by rw [← S73_eq] at H; exact H)

def md72 : Nat → Hint
  | _ => ⟨false, [], [], [], [], false⟩
def S72 (G : Hp) (K : Exit → Rg → Hp → Prop) (r : Rg) (h : Hp) : Prop :=
  opH Tryd.prog G (sv (Instr.box 85 (r 1))) h fun v0 h0 =>
  opH Tryd.prog G (sv (Instr.loadAt 85 v0)) h0 fun v1 h1 =>
  opH Tryd.prog G (callFunc 73 #[(r 0), v1]) h1 fun v2 h2 =>
  opH Tryd.prog G (sv (Instr.indexAt 22 v2 (.int .i64 0))) h2 fun v3 h3 =>
  opH Tryd.prog G (sv (Instr.loadAt 28 v3)) h3 fun v4 h4 =>
  opH Tryd.prog G (callFunc 75 #[(r 0), v4]) h4 fun v5 h5 =>
  gd (wantB v5 true) (fun K1 => K1 (r 0) h5) h5 fun v6 h6 =>
  gd (wantB v5 true) (fun K1 => K1 v2 h6) h6 fun v7 h7 =>
  gd (wantB v5 true) (opH Tryd.prog G (sv (Instr.indexAt 22 v7 (.int .i64 1))) h7) h7 fun v8 h8 =>
  gd (wantB v5 true) (opH Tryd.prog G (sv (Instr.loadAt 28 v8)) h8) h8 fun v9 h9 =>
  gd (wantB v5 true) (opH Tryd.prog G (callFunc 75 #[v6, v9]) h9) h9 fun v10 h10 =>
  opH Tryd.prog G (xPick v5 v10 (.bool false)) h10 fun v11 h11 =>
  K .ret (upd (upd (upd (upd (upd (upd (upd (upd (upd (upd (upd (upd (upd (upd (upd (upd (upd (upd (upd r 3 v0) 4 (.bool false)) 6 (r 0)) 7 v1) 8 v2) 5 v2) 9 (r 0)) 10 v2) 11 v3) 12 v4) 13 v5) 14 v5) 15 v6) 16 v7) 17 v8) 18 v9) 19 v10) 20 v11) 4 v11) h11
theorem S72_eq (G : Hp) (K : Exit → Rg → Hp → Prop) (r : Rg) (h : Hp) : wpC Tryd.prog G 21 md72 true (Tryd.f72.body.getD .skip) r h K = S72 G K r h := by kernel_rfl
theorem enter72 {G : Hp} {h : Hp} {args : Array Value} {R : Value → Hp → Prop} (hn : args.size ≤ 21) (H : S72 G (retK Tryd.prog G [.tmp 4] R) (regs args) h) : HCalls Tryd.prog G 72 args h R :=
  HCalls.enter (md := md72) mixed Tryd.func72 rfl hn (by rw [← S72_eq] at H; exact H)

def md75 : Nat → Hint
  | _ => ⟨false, [], [], [], [], false⟩
def S75 (G : Hp) (K : Exit → Rg → Hp → Prop) (r : Rg) (h : Hp) : Prop :=
  opH Tryd.prog G (sv (Instr.box 28 (r 1))) h fun v0 h0 =>
  opH Tryd.prog G (sv (Instr.loadAt 28 v0)) h0 fun v1 h1 =>
  opH Tryd.prog G (callFunc 58 #[(r 0), v1]) h1 fun v2 h2 =>
  opH Tryd.prog G (sv (binOp .geq 3 v2 (.int .i64 0))) h2 fun v3 h3 =>
  gd (wantB v3 true) (fun K1 => K1 (r 0) h3) h3 fun v4 h4 =>
  gd (wantB v3 true) (opH Tryd.prog G (xNil v4) h4) h4 fun v5 h5 =>
  gd (wantB v3 true) (opH Tryd.prog G (sv (Instr.fieldAt 93 v5 2)) h5) h5 fun v6 h6 =>
  gd (wantB v3 true) (opH Tryd.prog G (sv (Instr.loadAt 42 v6)) h6) h6 fun v7 h7 =>
  gd (wantB v3 true) (fun K1 => K1 v2 h7) h7 fun v8 h8 =>
  gd (wantB v3 true) (opH Tryd.prog G (sv (Instr.indexAt 42 v7 v8)) h8) h8 fun v9 h9 =>
  gd (wantB v3 true) (opH Tryd.prog G (sv (Instr.loadAt 3 v9)) h9) h9 fun v10 h10 =>
  gd (wantB v3 true) (opH Tryd.prog G (xEq .neq 3 (.tmp 0) (.const .nilFunc) v10 (.int .i64 (-1))) h10) h10 fun v11 h11 =>
  opH Tryd.prog G (xPick v3 v11 (.bool false)) h11 fun v12 h12 =>
  K .ret (upd (upd (upd (upd (upd (upd (upd (upd (upd (upd (upd (upd (upd (upd (upd (upd (upd (upd (upd r 3 v0) 4 (.bool false)) 6 (r 0)) 7 v1) 8 v2) 5 v2) 9 v2) 10 v3) 11 v3) 12 v4) 13 v5) 14 v6) 15 v7) 16 v8) 17 v9) 18 v10) 19 v11) 20 v12) 4 v12) h12
theorem S75_eq (G : Hp) (K : Exit → Rg → Hp → Prop) (r : Rg) (h : Hp) : wpC Tryd.prog G 21 md75 true (Tryd.f75.body.getD .skip) r h K = S75 G K r h := by kernel_rfl
theorem enter75 {G : Hp} {h : Hp} {args : Array Value} {R : Value → Hp → Prop} (hn : args.size ≤ 21) (H : S75 G (retK Tryd.prog G [.tmp 4] R) (regs args) h) : HCalls Tryd.prog G 75 args h R :=
  HCalls.enter (md := md75) mixed Tryd.func75 rfl hn (by rw [← S75_eq] at H; exact H)

def md34 : Nat → Hint
  | _ => ⟨false, [], [], [], [], false⟩
def S34_k1 (G : Hp) (K : Exit → Rg → Hp → Prop) (r : Rg) (h : Hp) : Prop :=
  opH Tryd.prog G (xNil (r 0)) h fun v13 h13 =>
  opH Tryd.prog G (sv (Instr.fieldAt 93 v13 2)) h13 fun v14 h14 =>
  opH Tryd.prog G (sv (Instr.loadAt 42 v14)) h14 fun v15 h15 =>
  opH Tryd.prog G (sv (Instr.indexAt 42 v15 (r 5))) h15 fun v16 h16 =>
  opH Tryd.prog G (sv (Instr.loadAt 3 v16)) h16 fun v17 h17 =>
  opH Tryd.prog G (sv (binOp .sub 3 v17 (.int .i64 1))) h17 fun v18 h18 =>
  K .ret (upd (upd (upd (upd (upd (upd (upd (upd (upd r 21 (r 0)) 22 v13) 23 v14) 24 v15) 25 (r 5)) 26 v16) 27 v17) 28 v18) 4 v18) h18
def S34 (G : Hp) (K : Exit → Rg → Hp → Prop) (r : Rg) (h : Hp) : Prop :=
  opH Tryd.prog G (sv (Instr.box 28 (r 1))) h fun v0 h0 =>
  opH Tryd.prog G (sv (Instr.loadAt 28 v0)) h0 fun v1 h1 =>
  opH Tryd.prog G (callFunc 58 #[(r 0), v1]) h1 fun v2 h2 =>
  opH Tryd.prog G (sv (binOp .lss 3 v2 (.int .i64 0))) h2 fun v3 h3 =>
  gd (wantB v3 false) (fun K1 => K1 (r 0) h3) h3 fun v4 h4 =>
  gd (wantB v3 false) (opH Tryd.prog G (xNil v4) h4) h4 fun v5 h5 =>
  gd (wantB v3 false) (opH Tryd.prog G (sv (Instr.fieldAt 93 v5 2)) h5) h5 fun v6 h6 =>
  gd (wantB v3 false) (opH Tryd.prog G (sv (Instr.loadAt 42 v6)) h6) h6 fun v7 h7 =>
  gd (wantB v3 false) (fun K1 => K1 v2 h7) h7 fun v8 h8 =>
  gd (wantB v3 false) (opH Tryd.prog G (sv (Instr.indexAt 42 v7 v8)) h8) h8 fun v9 h9 =>
  gd (wantB v3 false) (opH Tryd.prog G (sv (Instr.loadAt 3 v9)) h9) h9 fun v10 h10 =>
  gd (wantB v3 false) (opH Tryd.prog G (sv (binOp .lss 3 v10 (.int .i64 1))) h10) h10 fun v11 h11 =>
  opH Tryd.prog G (xPick v3 (.bool true) v11) h11 fun v12 h12 =>
  cond v12
  (K .ret (upd (upd (upd (upd (upd (upd (upd (upd (upd (upd (upd (upd (upd (upd (upd (upd (upd (upd (upd r 3 v0) 4 (.int .i64 0)) 6 (r 0)) 7 v1) 8 v2) 5 v2) 9 v2) 10 v3) 11 v3) 12 v4) 13 v5) 14 v6) 15 v7) 16 v8) 17 v9) 18 v10) 19 v11) 20 v12) 4 (.int .i64 (-1))) h12)
  (S34_k1 G K (upd (upd (upd (upd (upd (upd (upd (upd (upd (upd (upd (upd (upd (upd (upd (upd (upd (upd r 3 v0) 4 (.int .i64 0)) 6 (r 0)) 7 v1) 8 v2) 5 v2) 9 v2) 10 v3) 11 v3) 12 v4) 13 v5) 14 v6) 15 v7) 16 v8) 17 v9) 18 v10) 19 v11) 20 v12) h12)
theorem S34_eq (G : Hp) (K : Exit → Rg → Hp → Prop) (r : Rg) (h : Hp) : wpC Tryd.prog G 29 md34 true (Tryd.f34.body.getD .skip) r h K = S34 G K r h := by kernel_rfl
theorem enter34 {G : Hp} {h : Hp} {args : Array Value} {R : Value → Hp → Prop} (hn : args.size ≤ 29) (H : S34 G (retK Tryd.prog G [.tmp 4] R) (regs args) h) : HCalls Tryd.prog G 34 args h R :=
  HCalls.enter (md := md34) mixed Tryd.func34 rfl hn (by rw [← S34_eq] at H; exact H)

def md74 : Nat → Hint
  | _ => ⟨false, [], [], [], [], false⟩
def S74 (G : Hp) (K : Exit → Rg → Hp → Prop) (r : Rg) (h : Hp) : Prop :=
  opH Tryd.prog G (sv (Instr.box 28 (r 1))) h fun v0 h0 =>
  opH Tryd.prog G (sv (Instr.loadAt 28 v0)) h0 fun v1 h1 =>
  opH Tryd.prog G (callFunc 58 #[(r 0), v1]) h1 fun v2 h2 =>
  opH Tryd.prog G (sv (binOp .geq 3 v2 (.int .i64 0))) h2 fun v3 h3 =>
  gd (wantB v3 true) (fun K1 => K1 (r 0) h3) h3 fun v4 h4 =>
  gd (wantB v3 true) (opH Tryd.prog G (xNil v4) h4) h4 fun v5 h5 =>
  gd (wantB v3 true) (opH Tryd.prog G (sv (Instr.fieldAt 93 v5 2)) h5) h5 fun v6 h6 =>
  gd (wantB v3 true) (opH Tryd.prog G (sv (Instr.loadAt 42 v6)) h6) h6 fun v7 h7 =>
  gd (wantB v3 true) (fun K1 => K1 v2 h7) h7 fun v8 h8 =>
  gd (wantB v3 true) (opH Tryd.prog G (sv (Instr.indexAt 42 v7 v8)) h8) h8 fun v9 h9 =>
  gd (wantB v3 true) (opH Tryd.prog G (sv (Instr.loadAt 3 v9)) h9) h9 fun v10 h10 =>
  gd (wantB v3 true) (opH Tryd.prog G (xEq .eql 3 (.tmp 0) (.const .nilFunc) v10 (.int .i64 0)) h10) h10 fun v11 h11 =>
  opH Tryd.prog G (xPick v3 v11 (.bool false)) h11 fun v12 h12 =>
  K .ret (upd (upd (upd (upd (upd (upd (upd (upd (upd (upd (upd (upd (upd (upd (upd (upd (upd (upd (upd r 3 v0) 4 (.bool false)) 6 (r 0)) 7 v1) 8 v2) 5 v2) 9 v2) 10 v3) 11 v3) 12 v4) 13 v5) 14 v6) 15 v7) 16 v8) 17 v9) 18 v10) 19 v11) 20 v12) 4 v12) h12
theorem S74_eq (G : Hp) (K : Exit → Rg → Hp → Prop) (r : Rg) (h : Hp) : wpC Tryd.prog G 21 md74 true (Tryd.f74.body.getD .skip) r h K = S74 G K r h := by kernel_rfl
theorem enter74 {G : Hp} {h : Hp} {args : Array Value} {R : Value → Hp → Prop} (hn : args.size ≤ 21) (H : S74 G (retK Tryd.prog G [.tmp 4] R) (regs args) h) : HCalls Tryd.prog G 74 args h R :=
  HCalls.enter (md := md74) mixed Tryd.func74 rfl hn (by rw [← S74_eq] at H; exact H)

def md58 : Nat → Hint
  | 1 => ⟨false, [0, 1, 3, 7, 15, 7, 39, 103, 231, 487, 1023, 2047, 4095, 8191, 16383, 32767, 16383, 81919, 212991, 475135, 999423, 2097151, 4194303, 8388607], [.pureN, .pureM, .pureN, .pureN, .pureM, .pureN, .pureN, .pureN, .pureM, .pureN, .eff, .pureN, .pureN, .pureN, .pureN, .pureM, .pureN, .pureN, .pureN, .pureM, .pureN, .eff, .pureN, .pureN], [.pureN, .pureM, .pureN, .pureN, .pureM, .pureN, .pureN, .pureN, .pureM, .pureN, .eff, .pureN, .pureN, .pureN, .pureN, .late, .pureN, .pureN, .pureN, .late, .pureN, .eff, .pureN, .pureN], [false, false, false, false, false, false, false, false, false, false, false, false, false, false, false, false, false, false, false, false, false, false, false, false], false⟩
  | 3 => ⟨false, [0, 1, 0, 4, 12, 28, 63, 0, 128, 511, 1023], [.pureN, .pureM, .pureN, .pureN, .pureN, .pureM, .pureN, .pureN, .pureM, .pureN, .pureN], [.pureN, .pureM, .pureN, .pureN, .pureN, .pureM, .pureN, .pureN, .pureM, .pureN, .pureN], [false, false, false, false, false, false, false, false, false, false, false], false⟩
  | _ => ⟨false, [], [], [], [], false⟩
def S58_k1 (G : Hp) (K : Exit → Rg → Hp → Prop) (r : Rg) (h : Hp) : Prop :=
  pureW Tryd.prog noHp noHp (sv (Instr.fieldAt 28 (r 3) 1)) h fun v22 h22 =>
  pureW Tryd.prog G h (sv (Instr.loadAt 3 v22)) h22 fun v23 h23 =>
  pureW Tryd.prog noHp noHp (xNil (r 0)) h23 fun v24 h24 =>
  pureW Tryd.prog noHp noHp (sv (Instr.fieldAt 93 v24 0)) h24 fun v25 h25 =>
  pureW Tryd.prog G h (sv (Instr.loadAt 3 v25)) h25 fun v26 h26 =>
  pureW Tryd.prog noHp noHp (sv (binOp .mul 3 v23 v26)) h26 fun v27 h27 =>
  pureW Tryd.prog noHp noHp (sv (Instr.fieldAt 28 (r 3) 0)) h27 fun v28 h28 =>
  pureW Tryd.prog G h (sv (Instr.loadAt 3 v28)) h28 fun v29 h29 =>
  pureW Tryd.prog noHp noHp (sv (binOp .add 3 v27 v29)) h29 fun v30 h30 =>
  K .ret (upd (upd (upd (upd (upd (upd (upd (upd (upd (upd (upd r 29 v22) 30 v23) 31 (r 0)) 32 v24) 33 v25) 34 v26) 35 v27) 36 v28) 37 v29) 38 v30) 4 v30) h30
def S58 (G : Hp) (K : Exit → Rg → Hp → Prop) (r : Rg) (h : Hp) : Prop :=
  opH Tryd.prog G (sv (Instr.box 28 (r 1))) h fun v0 h0 =>
  pureW Tryd.prog G h0 (xEq .eql 58 (.tmp 0) (.const .nilFunc) (r 0) (.pointer none)) h0 fun v1 h1 =>
  gd (wantB v1 false) (pureW Tryd.prog noHp noHp (sv (Instr.fieldAt 28 v0 0)) h1) h1 fun v2 h2 =>
  gd (wantB v1 false) (pureW Tryd.prog G h0 (sv (Instr.loadAt 3 v2)) h2) h2 fun v3 h3 =>
  gd (wantB v1 false) (fun K1 => K1 (r 0) h3) h3 fun v4 h4 =>
  gd (wantB v1 false) (pureW Tryd.prog noHp noHp (xNil v4) h4) h4 fun v5 h5 =>
  gd (wantB v1 false) (pureW Tryd.prog noHp noHp (sv (Instr.fieldAt 93 v5 0)) h5) h5 fun v6 h6 =>
  gd (wantB v1 false) (pureW Tryd.prog G h0 (sv (Instr.loadAt 3 v6)) h6) h6 fun v7 h7 =>
  gd (wantB v1 false) (pureW Tryd.prog noHp noHp (sv (binOp .sub 3 v7 (.int .i64 1))) h7) h7 fun v8 h8 =>
  gd (wantB v1 false) (opH Tryd.prog G (callFunc 56 #[v3, (.int .i64 0), v8]) h8) h8 fun v9 h9 =>
  gd (wantB v1 false) (pureW Tryd.prog noHp noHp (sv (Op.unary .not v9)) h9) h9 fun v10 h10 =>
  pureW Tryd.prog noHp noHp (xPick v1 (.bool true) v10) h10 fun v11 h11 =>
  gd (wantB v11 false) (pureW Tryd.prog noHp noHp (sv (Instr.fieldAt 28 v0 1)) h11) h11 fun v12 h12 =>
  gd (wantB v11 false) (pureW Tryd.prog G h12 (sv (Instr.loadAt 3 v12)) h12) h12 fun v13 h13 =>
  gd (wantB v11 false) (fun K1 => K1 (r 0) h13) h13 fun v14 h14 =>
  gd (wantB v11 false) (pureW Tryd.prog noHp noHp (xNil v14) h14) h14 fun v15 h15 =>
  gd (wantB v11 false) (pureW Tryd.prog noHp noHp (sv (Instr.fieldAt 93 v15 1)) h15) h15 fun v16 h16 =>
  gd (wantB v11 false) (pureW Tryd.prog G h16 (sv (Instr.loadAt 3 v16)) h16) h16 fun v17 h17 =>
  gd (wantB v11 false) (pureW Tryd.prog noHp noHp (sv (binOp .sub 3 v17 (.int .i64 1))) h17) h17 fun v18 h18 =>
  gd (wantB v11 false) (opH Tryd.prog G (callFunc 56 #[v13, (.int .i64 0), v18]) h18) h18 fun v19 h19 =>
  gd (wantB v11 false) (pureW Tryd.prog noHp noHp (sv (Op.unary .not v19)) h19) h19 fun v20 h20 =>
  pureW Tryd.prog noHp noHp (xPick v11 (.bool true) v20) h20 fun v21 h21 =>
  cond v21
  (K .ret (upd (upd (upd (upd (upd (upd (upd (upd (upd (upd (upd (upd (upd (upd (upd (upd (upd (upd (upd (upd (upd (upd (upd (upd (upd (upd (upd r 3 v0) 4 (.int .i64 0)) 5 (r 0)) 6 v1) 7 v1) 8 v2) 9 v3) 10 v4) 11 v5) 12 v6) 13 v7) 14 v8) 15 v9) 16 v10) 17 v11) 18 v11) 19 v12) 20 v13) 21 v14) 22 v15) 23 v16) 24 v17) 25 v18) 26 v19) 27 v20) 28 v21) 4 (.int .i64 (-1))) h21)
  (S58_k1 G K (upd (upd (upd (upd (upd (upd (upd (upd (upd (upd (upd (upd (upd (upd (upd (upd (upd (upd (upd (upd (upd (upd (upd (upd (upd (upd r 3 v0) 4 (.int .i64 0)) 5 (r 0)) 6 v1) 7 v1) 8 v2) 9 v3) 10 v4) 11 v5) 12 v6) 13 v7) 14 v8) 15 v9) 16 v10) 17 v11) 18 v11) 19 v12) 20 v13) 21 v14) 22 v15) 23 v16) 24 v17) 25 v18) 26 v19) 27 v20) 28 v21) h21)
theorem S58_eq (G : Hp) (K : Exit → Rg → Hp → Prop) (r : Rg) (h : Hp) : wpC Tryd.prog G 39 md58 true (Tryd.f58.body.getD .skip) r h K = S58 G K r h := by kernel_rfl
theorem enter58 {G : Hp} {h : Hp} {args : Array Value} {R : Value → Hp → Prop} (hn : args.size ≤ 39) (H : S58 G (retK Tryd.prog G [.tmp 4] R) (regs args) h) : HCalls Tryd.prog G 58 args h R :=
  HCalls.enter (md := md58) mixed Tryd.func58 rfl hn (by rw [← S58_eq] at H; exact H)

def md53 : Nat → Hint
  | _ => ⟨false, [], [], [], [], false⟩
def S53_k3 (G : Hp) (K : Exit → Rg → Hp → Prop) (r : Rg) (h : Hp) : Prop :=
  K .ret (upd (upd r 68 (r 5)) 2 (r 5)) h
def S53_k2 (G : Hp) (K : Exit → Rg → Hp → Prop) (r : Rg) (h : Hp) : Prop :=
  opH Tryd.prog G (sv (Instr.loadAt 26 (r 1))) h fun v29 h29 =>
  opH Tryd.prog G (callFunc 67 #[v29]) h29 fun v30 h30 =>
  opH Tryd.prog G (sv (Instr.extract v30 0)) h30 fun v31 h31 =>
  opH Tryd.prog G (sv (Instr.extract v30 1)) h31 fun v32 h32 =>
  opH Tryd.prog G (sv (Op.unary .not v32)) h32 fun v33 h33 =>
  gd (wantB v33 false) (fun K1 => K1 v31 h33) h33 fun v34 h34 =>
  gd (wantB v33 false) (opH Tryd.prog G (sv (Instr.fieldAt 26 (r 1) 5)) h34) h34 fun v35 h35 =>
  gd (wantB v33 false) (opH Tryd.prog G (sv (Instr.loadAt 23 v35)) h35) h35 fun v36 h36 =>
  gd (wantB v33 false) (opH Tryd.prog G (callFunc 68 #[v34, v36]) h36) h36 fun v37 h37 =>
  gd (wantB v33 false) (opH Tryd.prog G (sv (Op.unary .not v37)) h37) h37 fun v38 h38 =>
  opH Tryd.prog G (xPick v33 (.bool true) v38) h38 fun v39 h39 =>
  gd (wantB v39 false) (fun K1 => K1 v31 h39) h39 fun v40 h40 =>
  gd (wantB v39 false) (opH Tryd.prog G (sv (Instr.fieldAt 26 (r 1) 6)) h40) h40 fun v41 h41 =>
  gd (wantB v39 false) (opH Tryd.prog G (sv (Instr.loadAt 24 v41)) h41) h41 fun v42 h42 =>
  gd (wantB v39 false) (opH Tryd.prog G (sv (Instr.fieldAt 26 (r 1) 2)) h42) h42 fun v43 h43 =>
  gd (wantB v39 false) (opH Tryd.prog G (sv (Instr.loadAt 3 v43)) h43) h43 fun v44 h44 =>
  gd (wantB v39 false) (opH Tryd.prog G (callFunc 69 #[v40, v42, v44]) h44) h44 fun v45 h45 =>
  gd (wantB v39 false) (opH Tryd.prog G (sv (Op.unary .not v45)) h45) h45 fun v46 h46 =>
  opH Tryd.prog G (xPick v39 (.bool true) v46) h46 fun v47 h47 =>
  cond v47
  (K .ret (upd (upd (upd (upd (upd (upd (upd (upd (upd (upd (upd (upd (upd (upd (upd (upd (upd (upd (upd (upd (upd (upd (upd (upd (upd (upd r 46 v29) 47 v30) 45 v30) 48 v31) 49 v32) 5 v31) 6 v32) 50 v32) 51 v33) 52 v33) 53 v34) 54 v35) 55 v36) 56 v37) 57 v38) 58 v39) 59 v39) 60 v40) 61 v41) 62 v42) 63 v43) 64 v44) 65 v45) 66 v46) 67 v47) 2 (.pointer none)) h47)
  (S53_k3 G K (upd (upd (upd (upd (upd (upd (upd (upd (upd (upd (upd (upd (upd (upd (upd (upd (upd (upd (upd (upd (upd (upd (upd (upd (upd r 46 v29) 47 v30) 45 v30) 48 v31) 49 v32) 5 v31) 6 v32) 50 v32) 51 v33) 52 v33) 53 v34) 54 v35) 55 v36) 56 v37) 57 v38) 58 v39) 59 v39) 60 v40) 61 v41) 62 v42) 63 v43) 64 v44) 65 v45) 66 v46) 67 v47) h47)
def S53_k1 (G : Hp) (K : Exit → Rg → Hp → Prop) (r : Rg) (h : Hp) : Prop :=
  opH Tryd.prog G (sv (Instr.fieldAt 26 (r 1) 2)) h fun v15 h15 =>
  opH Tryd.prog G (sv (Instr.loadAt 3 v15)) h15 fun v16 h16 =>
  opH Tryd.prog G (callFunc 56 #[v16, (.int .i64 1), (.int .i64 8)]) h16 fun v17 h17 =>
  opH Tryd.prog G (sv (Op.unary .not v17)) h17 fun v18 h18 =>
  gd (wantB v18 false) (opH Tryd.prog G (sv (Instr.fieldAt 26 (r 1) 12)) h18) h18 fun v19 h19 =>
  gd (wantB v18 false) (opH Tryd.prog G (sv (Instr.loadAt 3 v19)) h19) h19 fun v20 h20 =>
  gd (wantB v18 false) (opH Tryd.prog G (callFunc 56 #[v20, (.int .i64 1), (.int .i64 16)]) h20) h20 fun v21 h21 =>
  gd (wantB v18 false) (opH Tryd.prog G (sv (Op.unary .not v21)) h21) h21 fun v22 h22 =>
  opH Tryd.prog G (xPick v18 (.bool true) v22) h22 fun v23 h23 =>
  gd (wantB v23 false) (opH Tryd.prog G (sv (Instr.fieldAt 26 (r 1) 14)) h23) h23 fun v24 h24 =>
  gd (wantB v23 false) (opH Tryd.prog G (sv (Instr.loadAt 3 v24)) h24) h24 fun v25 h25 =>
  gd (wantB v23 false) (opH Tryd.prog G (callFunc 56 #[v25, (.int .i64 1), (.int .i64 1048576)]) h25) h25 fun v26 h26 =>
  gd (wantB v23 false) (opH Tryd.prog G (sv (Op.unary .not v26)) h26) h26 fun v27 h27 =>
  opH Tryd.prog G (xPick v23 (.bool true) v27) h27 fun v28 h28 =>
  cond v28
  (K .ret (upd (upd (upd (upd (upd (upd (upd (upd (upd (upd (upd (upd (upd (upd (upd (upd (upd r 29 v15) 30 v16) 31 v17) 32 v18) 33 v18) 34 v19) 35 v20) 36 v21) 37 v22) 38 v23) 39 v23) 40 v24) 41 v25) 42 v26) 43 v27) 44 v28) 2 (.pointer none)) h28)
  (S53_k2 G K (upd (upd (upd (upd (upd (upd (upd (upd (upd (upd (upd (upd (upd (upd (upd (upd r 29 v15) 30 v16) 31 v17) 32 v18) 33 v18) 34 v19) 35 v20) 36 v21) 37 v22) 38 v23) 39 v23) 40 v24) 41 v25) 42 v26) 43 v27) 44 v28) h28)
def S53_l4_k6 (G : Hp) (K : Exit → Rg → Hp → Prop) (r : Rg) (h : Hp) : Prop :=
  opH Tryd.prog G (sv (binOp .add 3 (r 21) (.int .i64 1))) h fun v49 h49 =>
  K .normal (upd (upd r 28 v49) 21 v49) h49
def S53_l4_k5 (G : Hp) (K : Exit → Rg → Hp → Prop) (r : Rg) (h : Hp) : Prop :=
  opH Tryd.prog G (sv (Instr.indexAt 42 (r 19) (r 21))) h fun v50 h50 =>
  opH Tryd.prog G (sv (Instr.loadAt 3 v50)) h50 fun v51 h51 =>
  opH Tryd.prog G (callFunc 56 #[v51, (.int .i64 1), (.int .i64 1000)]) h51 fun v52 h52 =>
  opH Tryd.prog G (sv (Op.unary .not v52)) h52 fun v53 h53 =>
  cond v53
  (K .ret (upd (upd (upd (upd (upd (upd (upd r 23 v50) 24 v51) 4 v51) 25 v51) 26 v52) 27 v53) 2 (.pointer none)) h53)
  (S53_l4_k6 G K (upd (upd (upd (upd (upd (upd r 23 v50) 24 v51) 4 v51) 25 v51) 26 v52) 27 v53) h53)
def S53_l4 (G : Hp) (r : Rg) (h : Hp) (K : Exit → Rg → Hp → Prop) : Prop :=
  opH Tryd.prog G (sv (binOp .lss 3 (r 21) (r 20))) h fun v48 h48 =>
  cond v48
  (S53_l4_k5 G K (upd r 22 v48) h48)
  (K (.exit 0) (upd r 22 v48) h48)
def S53 (G : Hp) (K : Exit → Rg → Hp → Prop) (r : Rg) (h : Hp) : Prop :=
  opH Tryd.prog G (sv (Instr.box 26 (r 0))) h fun v0 h0 =>
  opH Tryd.prog G (sv (Instr.fieldAt 26 v0 7)) h0 fun v1 h1 =>
  opH Tryd.prog G (sv (Instr.loadAt 3 v1)) h1 fun v2 h2 =>
  opH Tryd.prog G (sv (Instr.fieldAt 26 v0 8)) h2 fun v3 h3 =>
  opH Tryd.prog G (sv (Instr.loadAt 3 v3)) h3 fun v4 h4 =>
  opH Tryd.prog G (sv (Instr.fieldAt 26 v0 9)) h4 fun v5 h5 =>
  opH Tryd.prog G (sv (Instr.loadAt 3 v5)) h5 fun v6 h6 =>
  opH Tryd.prog G (sv (Instr.fieldAt 26 v0 10)) h6 fun v7 h7 =>
  opH Tryd.prog G (sv (Instr.loadAt 3 v7)) h7 fun v8 h8 =>
  opH Tryd.prog G (sv (Instr.fieldAt 26 v0 11)) h8 fun v9 h9 =>
  opH Tryd.prog G (sv (Instr.loadAt 3 v9)) h9 fun v10 h10 =>
  opH Tryd.prog G (sv (Instr.fieldAt 26 v0 13)) h10 fun v11 h11 =>
  opH Tryd.prog G (sv (Instr.loadAt 3 v11)) h11 fun v12 h12 =>
  opH Tryd.prog G (sv (Instr.buildSlice 42 6 #[(0, v2), (1, v4), (2, v6), (3, v8), (4, v10), (5, v12)])) h12 fun v13 h13 =>
  opH Tryd.prog G (sv (Builtin.len_ #[42] 3 #[v13])) h13 fun v14 h14 =>
  loopP (S53_l4 G) (upd (upd (upd (upd (upd (upd (upd (upd (upd (upd (upd (upd (upd (upd (upd (upd (upd r 1 v0) 2 (.pointer none)) 7 v1) 8 v2) 9 v3) 10 v4) 11 v5) 12 v6) 13 v7) 14 v8) 15 v9) 16 v10) 17 v11) 18 v12) 19 v13) 20 v14) 21 (.int .i64 0)) h14 (blockK 0 (thenK (S53_k1 G K) K))
theorem S53_eq (G : Hp) (K : Exit → Rg → Hp → Prop) (r : Rg) (h : Hp) : wpC Tryd.prog G 69 md53 true (Tryd.f53.body.getD .skip) r h K = S53 G K r h := by kernel_rfl
theorem enter53 {G : Hp} {h : Hp} {args : Array Value} {R : Value → Hp → Prop} (hn : args.size ≤ 69) (H : S53 G (retK Tryd.prog G [.tmp 2] R) (regs args) h) : HCalls Tryd.prog G 53 args h R :=
  HCalls.enter (md := md53) mixed Tryd.func53 rfl hn (by rw [← S53_eq] at H; exact H)

def md56 : Nat → Hint
  | _ => ⟨false, [], [], [], [], false⟩
def S56 (G : Hp) (K : Exit → Rg → Hp → Prop) (r : Rg) (h : Hp) : Prop :=
  opH Tryd.prog G (sv (binOp .geq 3 (r 0) (r 1))) h fun v0 h0 =>
  gd (wantB v0 true) (fun K1 => K1 (r 0) h0) h0 fun v1 h1 =>
  gd (wantB v0 true) (fun K1 => K1 (r 2) h1) h1 fun v2 h2 =>
  gd (wantB v0 true) (opH Tryd.prog G (sv (binOp .leq 3 v1 v2)) h2) h2 fun v3 h3 =>
  opH Tryd.prog G (xPick v0 v3 (.bool false)) h3 fun v4 h4 =>
  K .ret (upd (upd (upd (upd (upd (upd (upd (upd (upd (upd r 6 (.bool false)) 7 (r 0)) 8 (r 1)) 9 v0) 10 v0) 11 v1) 12 v2) 13 v3) 14 v4) 6 v4) h4
theorem S56_eq (G : Hp) (K : Exit → Rg → Hp → Prop) (r : Rg) (h : Hp) : wpC Tryd.prog G 15 md56 true (Tryd.f56.body.getD .skip) r h K = S56 G K r h := by kernel_rfl
theorem enter56 {G : Hp} {h : Hp} {args : Array Value} {R : Value → Hp → Prop} (hn : args.size ≤ 15) (H : S56 G (retK Tryd.prog G [.tmp 6] R) (regs args) h) : HCalls Tryd.prog G 56 args h R :=
  HCalls.enter (md := md56) mixed Tryd.func56 rfl hn (by rw [← S56_eq] at H; exact H)

def md67 : Nat → Hint
  | 3 => ⟨false, [0, 1, 0, 4, 0, 16, 0, 64, 240, 496, 1023, 2047, 4095], [.pureN, .pureM, .pureN, .pureM, .pureN, .pureM, .pureN, .pureM, .pureN, .eff, .pureN, .alloc, .pureN], [.pureN, .pureM, .pureN, .pureM, .pureN, .pureM, .pureN, .pureM, .pureN, .eff, .pureN, .alloc, .pureN], [false, false, false, false, false, false, false, false, false, true, false, false, false], true⟩
  | 5 => ⟨false, [0, 1, 3, 0, 8, 31, 63, 0], [.pureN, .pureM, .eff, .pureN, .pureM, .eff, .pureM, .pureN], [.pureN, .pureM, .eff, .pureN, .pureM, .eff, .late, .pureN], [false, false, true, false, false, false, false, false], true⟩
  | 14 => ⟨false, [0, 1, 3, 7, 0, 0, 0, 64, 192, 480, 992, 2047, 4095], [.pureN, .pureN, .pureN, .pureM, .pureN, .pureN, .pureN, .pureM, .pureM, .pureN, .pureN, .pureN, .store], [.pureN, .pureN, .pureN, .pureM, .pureN, .pureN, .pureN, .pureM, .pureM, .pureN, .pureN, .pureN, .store], [false, false, false, false, false, false, false, false, false, false, false, false, false], false⟩
  | _ => ⟨false, [], [], [], [], false⟩
def S67_k2 (G : Hp) (K : Exit → Rg → Hp → Prop) (r : Rg) (h : Hp) : Prop :=
  K .ret (upd (upd (upd r 104 (r 4)) 2 (r 4)) 3 (.bool true)) h
def S67_l3_k5 (G : Hp) (K : Exit → Rg → Hp → Prop) (r : Rg) (h : Hp) : Prop :=
  opH Tryd.prog G (sv (binOp .add 3 (r 61) (.int .i64 1))) h fun v53 h53 =>
  K .normal (upd (upd r 103 v53) 61 v53) h53
def S67_l3_k6 (G : Hp) (K : Exit → Rg → Hp → Prop) (r : Rg) (h : Hp) : Prop :=
  opH Tryd.prog G (sv (Instr.indexAt 104 (r 5) (r 8))) h fun v66 h66 =>
  opH Tryd.prog G (su (Instr.storeAt 4 v66 (.bool true))) h66 fun v67 h67 =>
  opH Tryd.prog G (xNil (r 4)) h67 fun v68 h68 =>
  opH Tryd.prog G (sv (Instr.fieldAt 93 v68 2)) h68 fun v69 h69 =>
  opH Tryd.prog G (sv (Instr.loadAt 42 v69)) h69 fun v70 h70 =>
  opH Tryd.prog G (sv (Instr.indexAt 42 v70 (r 8))) h70 fun v71 h71 =>
  opH Tryd.prog G (su (Instr.storeAt 3 v71 (.int .i64 (-1)))) h71 fun v72 h72 =>
  opH Tryd.prog G (sv (Instr.fieldAt 26 (r 1) 3)) h72 fun v73 h73 =>
  opH Tryd.prog G (sv (Instr.loadAt 22 v73)) h73 fun v74 h74 =>
  opH Tryd.prog G (sv (Builtin.len_ #[22] 3 #[v74])) h74 fun v75 h75 =>
  opH Tryd.prog G (sv (binOp .geq 3 (r 6) v75)) h75 fun v76 h76 =>
  cond v76
  (pureW Tryd.prog noHp noHp (xNil (r 4)) h76 fun v77 h77 =>
  pureW Tryd.prog noHp noHp (sv (Instr.fieldAt 93 v77 2)) h77 fun v78 h78 =>
  pureW Tryd.prog G h76 (sv (Instr.loadAt 42 v78)) h78 fun v79 h79 =>
  pureW Tryd.prog noHp noHp (sv (Instr.fieldAt 26 (r 1) 3)) h79 fun v80 h80 =>
  pureW Tryd.prog G h76 (sv (Instr.loadAt 22 v80)) h80 fun v81 h81 =>
  pureW Tryd.prog G h76 (sv (Builtin.len_ #[22] 3 #[v81])) h81 fun v82 h82 =>
  pureW Tryd.prog noHp noHp (sv (binOp .sub 3 (r 6) v82)) h82 fun v83 h83 =>
  pureW Tryd.prog noHp noHp (sv (binOp .add 3 v83 (.int .i64 1))) h83 fun v84 h84 =>
  pureW Tryd.prog noHp noHp (sv (Instr.indexAt 42 v79 (r 8))) h84 fun v85 h85 =>
  opH Tryd.prog G (su (Instr.storeAt 3 v85 v84)) h85 fun v86 h86 =>
  S67_l3_k5 G K (upd (upd (upd (upd (upd (upd (upd (upd (upd (upd (upd (upd (upd (upd (upd (upd (upd (upd (upd (upd (upd (upd (upd (upd (upd (upd r 77 (r 5)) 78 (r 8)) 79 v66) 80 (r 4)) 81 v68) 82 v69) 83 v70) 84 (r 8)) 85 v71) 86 (r 6)) 87 v73) 88 v74) 89 v75) 90 v76) 91 (r 4)) 92 v77) 93 v78) 94 v79) 95 (r 8)) 96 (r 6)) 97 v80) 98 v81) 99 v82) 100 v83) 101 v84) 102 v85) h86)
  (S67_l3_k5 G K (upd (upd (upd (upd (upd (upd (upd (upd (upd (upd (upd (upd (upd (upd r 77 (r 5)) 78 (r 8)) 79 v66) 80 (r 4)) 81 v68) 82 v69) 83 v70) 84 (r 8)) 85 v71) 86 (r 6)) 87 v73) 88 v74) 89 v75) 90 v76) h76)
def S67_l3_k4 (G : Hp) (K : Exit → Rg → Hp → Prop) (r : Rg) (h : Hp) : Prop :=
  opH Tryd.prog G (sv (Instr.indexAt 22 (r 59) (r 61))) h fun v54 h54 =>
  opH Tryd.prog G (sv (Instr.loadAt 28 v54)) h54 fun v55 h55 =>
  opH Tryd.prog G (sv (Instr.alloc 28 true (.tuple #[]))) h55 fun v56 h56 =>
  opH Tryd.prog G (su (Instr.storeAt 28 v56 v55)) h56 fun v57 h57 =>
  opH Tryd.prog G (sv (Instr.loadAt 28 v56)) h57 fun v58 h58 =>
  opH Tryd.prog G (callFunc 58 #[(r 4), v58]) h58 fun v59 h59 =>
  opH Tryd.prog G (sv (binOp .lss 3 v59 (.int .i64 0))) h59 fun v60 h60 =>
  gd (wantB v60 false) (fun K1 => K1 (r 5) h60) h60 fun v61 h61 =>
  gd (wantB v60 false) (fun K1 => K1 v59 h61) h61 fun v62 h62 =>
  gd (wantB v60 false) (opH Tryd.prog G (sv (Instr.indexAt 104 v61 v62)) h62) h62 fun v63 h63 =>
  gd (wantB v60 false) (opH Tryd.prog G (sv (Instr.loadAt 4 v63)) h63) h63 fun v64 h64 =>
  opH Tryd.prog G (xPick v60 (.bool true) v64) h64 fun v65 h65 =>
  cond v65
  (K .ret (upd (upd (upd (upd (upd (upd (upd (upd (upd (upd (upd (upd (upd (upd (upd (upd (upd (upd (upd r 63 (r 61)) 64 v54) 65 v55) 7 v56) 6 (r 61)) 66 (r 4)) 67 v58) 68 v59) 8 v59) 69 v59) 70 v60) 71 v60) 72 v61) 73 v62) 74 v63) 75 v64) 76 v65) 2 (.pointer none)) 3 (.bool false)) h65)
  (S67_l3_k6 G K (upd (upd (upd (upd (upd (upd (upd (upd (upd (upd (upd (upd (upd (upd (upd (upd (upd r 63 (r 61)) 64 v54) 65 v55) 7 v56) 6 (r 61)) 66 (r 4)) 67 v58) 68 v59) 8 v59) 69 v59) 70 v60) 71 v60) 72 v61) 73 v62) 74 v63) 75 v64) 76 v65) h65)
def S67_l3 (G : Hp) (r : Rg) (h : Hp) (K : Exit → Rg → Hp → Prop) : Prop :=
  opH Tryd.prog G (sv (binOp .lss 3 (r 61) (r 60))) h fun v52 h52 =>
  cond v52
  (S67_l3_k4 G K (upd r 62 v52) h52)
  (K (.exit 0) (upd r 62 v52) h52)
def S67_k1 (G : Hp) (K : Exit → Rg → Hp → Prop) (r : Rg) (h : Hp) : Prop :=
  ∃ q25 : Hp, q25.le h ∧
  pureW Tryd.prog noHp noHp (sv (Instr.fieldAt 26 (r 1) 0)) h fun v26 h26 =>
  pureW Tryd.prog G q25 (sv (Instr.loadAt 3 v26)) h26 fun v27 h27 =>
  pureW Tryd.prog noHp noHp (sv (Instr.fieldAt 26 (r 1) 1)) h27 fun v28 h28 =>
  pureW Tryd.prog G q25 (sv (Instr.loadAt 3 v28)) h28 fun v29 h29 =>
  pureW Tryd.prog noHp noHp (sv (Instr.fieldAt 26 (r 1) 0)) h29 fun v30 h30 =>
  pureW Tryd.prog G q25 (sv (Instr.loadAt 3 v30)) h30 fun v31 h31 =>
  pureW Tryd.prog noHp noHp (sv (Instr.fieldAt 26 (r 1) 1)) h31 fun v32 h32 =>
  pureW Tryd.prog G q25 (sv (Instr.loadAt 3 v32)) h32 fun v33 h33 =>
  pureW Tryd.prog noHp noHp (sv (binOp .mul 3 v31 v33)) h33 fun v34 h34 =>
  opH Tryd.prog G (sv (Instr.makeSlice 42 v34 v34)) h34 fun v35 h35 => q25.le h35 ∧
  pureW Tryd.prog noHp noHp (sv (Instr.build 93 #[(0, v27), (1, v29), (2, v35)])) h35 fun v36 h36 =>
  opH Tryd.prog G (sv (Instr.box 93 v36)) h36 fun v37 h37 =>
  opH Tryd.prog G (sv (Instr.fieldAt 26 (r 1) 0)) h37 fun v38 h38 =>
  opH Tryd.prog G (sv (Instr.loadAt 3 v38)) h38 fun v39 h39 =>
  opH Tryd.prog G (sv (Instr.fieldAt 26 (r 1) 1)) h39 fun v40 h40 =>
  opH Tryd.prog G (sv (Instr.loadAt 3 v40)) h40 fun v41 h41 =>
  opH Tryd.prog G (sv (binOp .mul 3 v39 v41)) h41 fun v42 h42 =>
  opH Tryd.prog G (sv (Instr.makeSlice 104 v42 v42)) h42 fun v43 h43 =>
  ∃ q44 : Hp, q44.le h43 ∧
  pureW Tryd.prog noHp noHp (sv (Instr.fieldAt 26 (r 1) 3)) h43 fun v45 h45 =>
  pureW Tryd.prog G q44 (sv (Instr.loadAt 22 v45)) h45 fun v46 h46 =>
  opH Tryd.prog G (callFunc 71 #[v46]) h46 fun v47 h47 => q44.le h47 ∧
  pureW Tryd.prog noHp noHp (sv (Instr.fieldAt 26 (r 1) 4)) h47 fun v48 h48 =>
  pureW Tryd.prog G q44 (sv (Instr.loadAt 22 v48)) h48 fun v49 h49 =>
  opH Tryd.prog G (sv (Builtin.append_ #[22, 22] 22 #[v47, v49])) h49 fun v50 h50 =>
  pureW Tryd.prog G h50 (sv (Builtin.len_ #[22] 3 #[v50])) h50 fun v51 h51 =>
  loopP (S67_l3 G) (upd (upd (upd (upd (upd (upd (upd (upd (upd (upd (upd (upd (upd (upd (upd (upd (upd (upd (upd (upd (upd (upd (upd (upd (upd (upd (upd (upd r 36 v26) 37 v27) 38 v28) 39 v29) 40 v30) 41 v31) 42 v32) 43 v33) 44 v34) 45 v35) 46 v36) 47 v37) 4 v37) 48 v38) 49 v39) 50 v40) 51 v41) 52 v42) 53 v43) 5 v43) 54 v45) 55 v46) 56 v47) 57 v48) 58 v49) 59 v50) 60 v51) 61 (.int .i64 0)) h51 (blockK 0 (thenK (S67_k2 G K) K))
def S67 (G : Hp) (K : Exit → Rg → Hp → Prop) (r : Rg) (h : Hp) : Prop :=
  opH Tryd.prog G (sv (Instr.box 26 (r 0))) h fun v0 h0 =>
  opH Tryd.prog G (sv (Instr.fieldAt 26 v0 0)) h0 fun v1 h1 =>
  opH Tryd.prog G (sv (Instr.loadAt 3 v1)) h1 fun v2 h2 =>
  opH Tryd.prog G (callFunc 56 #[v2, (.int .i64 1), (.int .i64 16)]) h2 fun v3 h3 =>
  opH Tryd.prog G (sv (Op.unary .not v3)) h3 fun v4 h4 =>
  gd (wantB v4 false) (opH Tryd.prog G (sv (Instr.fieldAt 26 v0 1)) h4) h4 fun v5 h5 =>
  gd (wantB v4 false) (opH Tryd.prog G (sv (Instr.loadAt 3 v5)) h5) h5 fun v6 h6 =>
  gd (wantB v4 false) (opH Tryd.prog G (callFunc 56 #[v6, (.int .i64 1), (.int .i64 16)]) h6) h6 fun v7 h7 =>
  gd (wantB v4 false) (opH Tryd.prog G (sv (Op.unary .not v7)) h7) h7 fun v8 h8 =>
  opH Tryd.prog G (xPick v4 (.bool true) v8) h8 fun v9 h9 =>
  gd (wantB v9 false) (opH Tryd.prog G (sv (Instr.fieldAt 26 v0 4)) h9) h9 fun v10 h10 =>
  gd (wantB v9 false) (opH Tryd.prog G (sv (Instr.loadAt 22 v10)) h10) h10 fun v11 h11 =>
  gd (wantB v9 false) (opH Tryd.prog G (sv (Builtin.len_ #[22] 3 #[v11])) h11) h11 fun v12 h12 =>
  gd (wantB v9 false) (opH Tryd.prog G (sv (binOp .gtr 3 v12 (.int .i64 8))) h12) h12 fun v13 h13 =>
  opH Tryd.prog G (xPick v9 (.bool true) v13) h13 fun v14 h14 =>
  gd (wantB v14 false) (opH Tryd.prog G (sv (Instr.fieldAt 26 v0 3)) h14) h14 fun v15 h15 =>
  gd (wantB v14 false) (opH Tryd.prog G (sv (Instr.loadAt 22 v15)) h15) h15 fun v16 h16 =>
  gd (wantB v14 false) (opH Tryd.prog G (sv (Builtin.len_ #[22] 3 #[v16])) h16) h16 fun v17 h17 =>
  gd (wantB v14 false) (opH Tryd.prog G (sv (Instr.fieldAt 26 v0 0)) h17) h17 fun v18 h18 =>
  gd (wantB v14 false) (opH Tryd.prog G (sv (Instr.loadAt 3 v18)) h18) h18 fun v19 h19 =>
  gd (wantB v14 false) (opH Tryd.prog G (sv (Instr.fieldAt 26 v0 1)) h19) h19 fun v20 h20 =>
  gd (wantB v14 false) (opH Tryd.prog G (sv (Instr.loadAt 3 v20)) h20) h20 fun v21 h21 =>
  gd (wantB v14 false) (opH Tryd.prog G (sv (binOp .mul 3 v19 v21)) h21) h21 fun v22 h22 =>
  gd (wantB v14 false) (opH Tryd.prog G (sv (binOp .gtr 3 v17 v22)) h22) h22 fun v23 h23 =>
  opH Tryd.prog G (xPick v14 (.bool true) v23) h23 fun v24 h24 =>
  cond v24
  (K .ret (upd (upd (upd (upd (upd (upd (upd (upd (upd (upd (upd (upd (upd (upd (upd (upd (upd (upd (upd (upd (upd (upd (upd (upd (upd (upd (upd (upd (upd (upd (upd (upd r 1 v0) 2 (.pointer none)) 3 (.bool false)) 9 v1) 10 v2) 11 v3) 12 v4) 13 v4) 14 v5) 15 v6) 16 v7) 17 v8) 18 v9) 19 v9) 20 v10) 21 v11) 22 v12) 23 v13) 24 v14) 25 v14) 26 v15) 27 v16) 28 v17) 29 v18) 30 v19) 31 v20) 32 v21) 33 v22) 34 v23) 35 v24) 2 (.pointer none)) 3 (.bool false)) h24)
  (S67_k1 G K (upd (upd (upd (upd (upd (upd (upd (upd (upd (upd (upd (upd (upd (upd (upd (upd (upd (upd (upd (upd (upd (upd (upd (upd (upd (upd (upd (upd (upd (upd r 1 v0) 2 (.pointer none)) 3 (.bool false)) 9 v1) 10 v2) 11 v3) 12 v4) 13 v4) 14 v5) 15 v6) 16 v7) 17 v8) 18 v9) 19 v9) 20 v10) 21 v11) 22 v12) 23 v13) 24 v14) 25 v14) 26 v15) 27 v16) 28 v17) 29 v18) 30 v19) 31 v20) 32 v21) 33 v22) 34 v23) 35 v24) h24)
theorem S67_eq (G : Hp) (K : Exit → Rg → Hp → Prop) (r : Rg) (h : Hp) : wpC Tryd.prog G 105 md67 true (Tryd.f67.body.getD .skip) r h K = S67 G K r h := by kernel_rfl
theorem enter67 {G : Hp} {h : Hp} {args : Array Value} {R : Value → Hp → Prop} (hn : args.size ≤ 105) (H : S67 G (retK Tryd.prog G [.tmp 2, .tmp 3] R) (regs args) h) : HCalls Tryd.prog G 67 args h R :=
  HCalls.enter (md := md67) mixed Tryd.func67 rfl hn (by rw [← S67_eq] at H; exact H)

def md68 : Nat → Hint
  | 6 => ⟨false, [0, 0, 2, 6, 14, 31, 0, 0, 128, 384, 896, 1984, 4095, 8191, 0, 32767], [.pureN, .pureN, .pureN, .pureN, .pureM, .pureN, .pureN, .pureN, .pureN, .pureN, .pureM, .pureN, .pureN, .pureN, .alloc, .store], [.pureN, .pureN, .pureN, .pureN, .pureM, .pureN, .pureN, .pureN, .pureN, .pureN, .pureM, .pureN, .pureN, .pureN, .alloc, .store], [false, false, false, false, false, false, false, false, false, false, false, false, false, false, false, false], false⟩
  | _ => ⟨false, [], [], [], [], false⟩
def S68_k3 (G : Hp) (K : Exit → Rg → Hp → Prop) (r : Rg) (h : Hp) : Prop :=
  K .ret (upd r 4 (.bool true)) h
def S68_l4_k6 (G : Hp) (K : Exit → Rg → Hp → Prop) (r : Rg) (h : Hp) : Prop :=
  opH Tryd.prog G (sv (binOp .add 3 (r 81) (.int .i64 1))) h fun v13 h13 =>
  K .normal (upd (upd r 124 v13) 81 v13) h13
def S68_l4_l8_k10 (G : Hp) (K : Exit → Rg → Hp → Prop) (r : Rg) (h : Hp) : Prop :=
  opH Tryd.prog G (sv (binOp .add 3 (r 93) (.int .i64 1))) h fun v25 h25 =>
  K .normal (upd (upd r 123 v25) 93 v25) h25
def S68_l4_l8_k11 (G : Hp) (K : Exit → Rg → Hp → Prop) (r : Rg) (h : Hp) : Prop :=
  opH Tryd.prog G (sv (Instr.indexAt 104 (r 7) (r 12))) h fun v43 h43 =>
  opH Tryd.prog G (su (Instr.storeAt 4 v43 (.bool true))) h43 fun v44 h44 =>
  opH Tryd.prog G (xNil (r 0)) h44 fun v45 h45 =>
  opH Tryd.prog G (sv (Instr.fieldAt 93 v45 2)) h45 fun v46 h46 =>
  opH Tryd.prog G (sv (Instr.loadAt 42 v46)) h46 fun v47 h47 =>
  opH Tryd.prog G (sv (Instr.indexAt 42 v47 (r 12))) h47 fun v48 h48 =>
  opH Tryd.prog G (su (Instr.storeAt 3 v48 (.int .i64 (-2)))) h48 fun v49 h49 =>
  S68_l4_l8_k10 G K (upd (upd (upd (upd (upd (upd (upd (upd (upd r 114 (r 7)) 115 (r 12)) 116 v43) 117 (r 0)) 118 v45) 119 v46) 120 v47) 121 (r 12)) 122 v48) h49
def S68_l4_l8_k9 (G : Hp) (K : Exit → Rg → Hp → Prop) (r : Rg) (h : Hp) : Prop :=
  opH Tryd.prog G (sv (Instr.indexAt 22 (r 91) (r 93))) h fun v26 h26 =>
  opH Tryd.prog G (sv (Instr.loadAt 28 v26)) h26 fun v27 h27 =>
  opH Tryd.prog G (sv (Instr.alloc 28 true (.tuple #[]))) h27 fun v28 h28 =>
  opH Tryd.prog G (su (Instr.storeAt 28 v28 v27)) h28 fun v29 h29 =>
  opH Tryd.prog G (sv (Instr.loadAt 28 v28)) h29 fun v30 h30 =>
  opH Tryd.prog G (callFunc 58 #[(r 0), v30]) h30 fun v31 h31 =>
  opH Tryd.prog G (sv (Instr.indexAt 104 (r 7) v31)) h31 fun v32 h32 =>
  opH Tryd.prog G (sv (Instr.loadAt 4 v32)) h32 fun v33 h33 =>
  gd (wantB v33 false) (fun K1 => K1 (r 0) h33) h33 fun v34 h34 =>
  gd (wantB v33 false) (opH Tryd.prog G (xNil v34) h34) h34 fun v35 h35 =>
  gd (wantB v33 false) (opH Tryd.prog G (sv (Instr.fieldAt 93 v35 2)) h35) h35 fun v36 h36 =>
  gd (wantB v33 false) (opH Tryd.prog G (sv (Instr.loadAt 42 v36)) h36) h36 fun v37 h37 =>
  gd (wantB v33 false) (fun K1 => K1 v31 h37) h37 fun v38 h38 =>
  gd (wantB v33 false) (opH Tryd.prog G (sv (Instr.indexAt 42 v37 v38)) h38) h38 fun v39 h39 =>
  gd (wantB v33 false) (opH Tryd.prog G (sv (Instr.loadAt 3 v39)) h39) h39 fun v40 h40 =>
  gd (wantB v33 false) (opH Tryd.prog G (sv (binOp .gtr 3 v40 (.int .i64 0))) h40) h40 fun v41 h41 =>
  opH Tryd.prog G (xPick v33 (.bool true) v41) h41 fun v42 h42 =>
  cond v42
  (K .ret (upd (upd (upd (upd (upd (upd (upd (upd (upd (upd (upd (upd (upd (upd (upd (upd (upd (upd (upd (upd (upd (upd r 95 v26) 96 v27) 11 v28) 97 (r 0)) 98 v30) 99 v31) 12 v31) 100 (r 7)) 101 v31) 102 v32) 103 v33) 104 v33) 105 v34) 106 v35) 107 v36) 108 v37) 109 v38) 110 v39) 111 v40) 112 v41) 113 v42) 4 (.bool false)) h42)
  (S68_l4_l8_k11 G K (upd (upd (upd (upd (upd (upd (upd (upd (upd (upd (upd (upd (upd (upd (upd (upd (upd (upd (upd (upd (upd r 95 v26) 96 v27) 11 v28) 97 (r 0)) 98 v30) 99 v31) 12 v31) 100 (r 7)) 101 v31) 102 v32) 103 v33) 104 v33) 105 v34) 106 v35) 107 v36) 108 v37) 109 v38) 110 v39) 111 v40) 112 v41) 113 v42) h42)
def S68_l4_l8 (G : Hp) (r : Rg) (h : Hp) (K : Exit → Rg → Hp → Prop) : Prop :=
  opH Tryd.prog G (sv (binOp .lss 3 (r 93) (r 92))) h fun v24 h24 =>
  cond v24
  (S68_l4_l8_k9 G K (upd r 94 v24) h24)
  (K (.exit 4) (upd r 94 v24) h24)
def S68_l4_k7 (G : Hp) (K : Exit → Rg → Hp → Prop) (r : Rg) (h : Hp) : Prop :=
  opH Tryd.prog G (sv (Instr.loadAt 85 (r 9))) h fun v21 h21 =>
  opH Tryd.prog G (callFunc 73 #[(r 0), v21]) h21 fun v22 h22 =>
  opH Tryd.prog G (sv (Builtin.len_ #[22] 3 #[v22])) h22 fun v23 h23 =>
  loopP (S68_l4_l8 G) (upd (upd (upd (upd (upd r 89 (r 0)) 90 v21) 91 v22) 92 v23) 93 (.int .i64 0)) h23 (blockK 4 (blockK 3 (thenK (S68_l4_k6 G K) K)))
def S68_l4_k5 (G : Hp) (K : Exit → Rg → Hp → Prop) (r : Rg) (h : Hp) : Prop :=
  opH Tryd.prog G (sv (Instr.indexAt 23 (r 79) (r 81))) h fun v14 h14 =>
  opH Tryd.prog G (sv (Instr.loadAt 85 v14)) h14 fun v15 h15 =>
  opH Tryd.prog G (sv (Instr.alloc 85 true (.tuple #[]))) h15 fun v16 h16 =>
  opH Tryd.prog G (su (Instr.storeAt 85 v16 v15)) h16 fun v17 h17 =>
  opH Tryd.prog G (sv (Instr.loadAt 85 v16)) h17 fun v18 h18 =>
  opH Tryd.prog G (callFunc 72 #[(r 0), v18]) h18 fun v19 h19 =>
  opH Tryd.prog G (sv (Op.unary .not v19)) h19 fun v20 h20 =>
  cond v20
  (K .ret (upd (upd (upd (upd (upd (upd (upd (upd r 83 v14) 84 v15) 9 v16) 85 (r 0)) 86 v18) 87 v19) 88 v20) 4 (.bool false)) h20)
  (S68_l4_k7 G K (upd (upd (upd (upd (upd (upd (upd r 83 v14) 84 v15) 9 v16) 85 (r 0)) 86 v18) 87 v19) 88 v20) h20)
def S68_l4 (G : Hp) (r : Rg) (h : Hp) (K : Exit → Rg → Hp → Prop) : Prop :=
  opH Tryd.prog G (sv (binOp .lss 3 (r 81) (r 80))) h fun v12 h12 =>
  cond v12
  (S68_l4_k5 G K (upd r 82 v12) h12)
  (K (.exit 2) (upd r 82 v12) h12)
def S68_k2 (G : Hp) (K : Exit → Rg → Hp → Prop) (r : Rg) (h : Hp) : Prop :=
  opH Tryd.prog G (xNil (r 0)) h fun v6 h6 =>
  opH Tryd.prog G (sv (Instr.fieldAt 93 v6 2)) h6 fun v7 h7 =>
  opH Tryd.prog G (sv (Instr.loadAt 42 v7)) h7 fun v8 h8 =>
  opH Tryd.prog G (sv (Builtin.len_ #[42] 3 #[v8])) h8 fun v9 h9 =>
  opH Tryd.prog G (sv (Instr.makeSlice 104 v9 v9)) h9 fun v10 h10 =>
  opH Tryd.prog G (sv (Builtin.len_ #[23] 3 #[(r 1)])) h10 fun v11 h11 =>
  loopP (S68_l4 G) (upd (upd (upd (upd (upd (upd (upd (upd (upd (upd r 73 (r 0)) 74 v6) 75 v7) 76 v8) 77 v9) 78 v10) 7 v10) 79 (r 1)) 80 v11) 81 (.int .i64 0)) h11 (blockK 2 (thenK (S68_k3 G K) K))
def S68_l12_k14 (G : Hp) (K : Exit → Rg → Hp → Prop) (r : Rg) (h : Hp) : Prop :=
  opH Tryd.prog G (sv (binOp .add 3 (r 21) (.int .i64 1))) h fun v51 h51 =>
  K .normal (upd (upd r 72 v51) 21 v51) h51
def S68_l12_k16 (G : Hp) (K : Exit → Rg → Hp → Prop) (r : Rg) (h : Hp) : Prop :=
  opH Tryd.prog G (xNil (r 0)) h fun v86 h86 =>
  opH Tryd.prog G (sv (Instr.fieldAt 93 v86 2)) h86 fun v87 h87 =>
  opH Tryd.prog G (sv (Instr.loadAt 42 v87)) h87 fun v88 h88 =>
  opH Tryd.prog G (sv (Instr.indexAt 42 v88 (r 5))) h88 fun v89 h89 =>
  opH Tryd.prog G (su (Instr.storeAt 3 v89 (.int .i64 (-2)))) h89 fun v90 h90 =>
  S68_l12_k14 G K (upd (upd (upd (upd (upd (upd r 66 (r 0)) 67 v86) 68 v87) 69 v88) 70 (r 5)) 71 v89) h90
def S68_l12_k15 (G : Hp) (K : Exit → Rg → Hp → Prop) (r : Rg) (h : Hp) : Prop :=
  opH Tryd.prog G (xNil (r 0)) h fun v80 h80 =>
  opH Tryd.prog G (sv (Instr.fieldAt 93 v80 2)) h80 fun v81 h81 =>
  opH Tryd.prog G (sv (Instr.loadAt 42 v81)) h81 fun v82 h82 =>
  opH Tryd.prog G (sv (Instr.indexAt 42 v82 (r 5))) h82 fun v83 h83 =>
  opH Tryd.prog G (sv (Instr.loadAt 3 v83)) h83 fun v84 h84 =>
  opH Tryd.prog G (sv (binOp .gtr 3 v84 (.int .i64 0))) h84 fun v85 h85 =>
  cond v85
  (K .ret (upd (upd (upd (upd (upd (upd (upd (upd (upd r 58 (r 0)) 59 v80) 60 v81) 61 v82) 62 (r 5)) 63 v83) 64 v84) 65 v85) 4 (.bool false)) h85)
  (S68_l12_k16 G K (upd (upd (upd (upd (upd (upd (upd (upd r 58 (r 0)) 59 v80) 60 v81) 61 v82) 62 (r 5)) 63 v83) 64 v84) 65 v85) h85)
def S68_l12_k13 (G : Hp) (K : Exit → Rg → Hp → Prop) (r : Rg) (h : Hp) : Prop :=
  pureW Tryd.prog noHp noHp (xNil (r 0)) h fun v52 h52 =>
  pureW Tryd.prog noHp noHp (sv (Instr.fieldAt 93 v52 0)) h52 fun v53 h53 =>
  pureW Tryd.prog G h (sv (Instr.loadAt 3 v53)) h53 fun v54 h54 =>
  pureW Tryd.prog noHp noHp (sv (binOp .rem 3 (r 21) v54)) h54 fun v55 h55 =>
  pureW Tryd.prog noHp noHp (xNil (r 0)) h55 fun v56 h56 =>
  pureW Tryd.prog noHp noHp (sv (Instr.fieldAt 93 v56 0)) h56 fun v57 h57 =>
  pureW Tryd.prog G h (sv (Instr.loadAt 3 v57)) h57 fun v58 h58 =>
  pureW Tryd.prog noHp noHp (sv (binOp .quo 3 (r 21) v58)) h58 fun v59 h59 =>
  pureW Tryd.prog noHp noHp (sv (Instr.build 28 #[(0, v55), (1, v59)])) h59 fun v60 h60 =>
  pureW Tryd.prog noHp noHp (sv (Instr.build 85 #[(0, v60)])) h60 fun v61 h61 =>
  opH Tryd.prog G (sv (Instr.alloc 85 true (.tuple #[]))) h61 fun v62 h62 =>
  opH Tryd.prog G (su (Instr.storeAt 85 v62 v61)) h62 fun v63 h63 =>
  opH Tryd.prog G (xNil (r 0)) h63 fun v64 h64 =>
  opH Tryd.prog G (sv (Instr.fieldAt 93 v64 2)) h64 fun v65 h65 =>
  opH Tryd.prog G (sv (Instr.loadAt 42 v65)) h65 fun v66 h66 =>
  opH Tryd.prog G (sv (Instr.indexAt 42 v66 (r 21))) h66 fun v67 h67 =>
  opH Tryd.prog G (sv (Instr.loadAt 3 v67)) h67 fun v68 h68 =>
  opH Tryd.prog G (xEq .eql 3 (.tmp 0) (.const .nilFunc) v68 (.int .i64 (-1))) h68 fun v69 h69 =>
  gd (wantB v69 false) (fun K1 => K1 (r 0) h69) h69 fun v70 h70 =>
  gd (wantB v69 false) (opH Tryd.prog G (sv (Instr.loadAt 85 v62)) h70) h70 fun v71 h71 =>
  gd (wantB v69 false) (opH Tryd.prog G (callFunc 72 #[v70, v71]) h71) h71 fun v72 h72 =>
  opH Tryd.prog G (xPick v69 (.bool true) v72) h72 fun v73 h73 =>
  gd (wantB v73 false) (fun K1 => K1 (r 0) h73) h73 fun v74 h74 =>
  gd (wantB v73 false) (opH Tryd.prog G (sv (Instr.fieldAt 85 v62 0)) h74) h74 fun v75 h75 =>
  gd (wantB v73 false) (opH Tryd.prog G (sv (Instr.loadAt 28 v75)) h75) h75 fun v76 h76 =>
  gd (wantB v73 false) (opH Tryd.prog G (sv (Instr.build 85 #[(0, v76), (1, (.bool true))])) h76) h76 fun v77 h77 =>
  gd (wantB v73 false) (opH Tryd.prog G (callFunc 72 #[v74, v77]) h77) h77 fun v78 h78 =>
  opH Tryd.prog G (xPick v73 (.bool true) v78) h78 fun v79 h79 =>
  cond v79
  (S68_l12_k14 G K (upd (upd (upd (upd (upd (upd (upd (upd (upd (upd (upd (upd (upd (upd (upd (upd (upd (upd (upd (upd (upd (upd (upd (upd (upd (upd (upd (upd (upd (upd (upd (upd (upd (upd (upd (upd (upd r 23 (r 21)) 5 (r 21)) 24 (r 21)) 25 (r 0)) 26 v52) 27 v53) 28 v54) 29 v55) 30 (r 21)) 31 (r 0)) 32 v56) 33 v57) 34 v58) 35 v59) 36 v60) 37 v61) 6 v62) 38 (r 0)) 39 v64) 40 v65) 41 v66) 42 (r 21)) 43 v67) 44 v68) 45 v69) 46 v69) 47 v70) 48 v71) 49 v72) 50 v73) 51 v73) 52 v74) 53 v75) 54 v76) 55 v77) 56 v78) 57 v79) h79)
  (S68_l12_k15 G K (upd (upd (upd (upd (upd (upd (upd (upd (upd (upd (upd (upd (upd (upd (upd (upd (upd (upd (upd (upd (upd (upd (upd (upd (upd (upd (upd (upd (upd (upd (upd (upd (upd (upd (upd (upd (upd r 23 (r 21)) 5 (r 21)) 24 (r 21)) 25 (r 0)) 26 v52) 27 v53) 28 v54) 29 v55) 30 (r 21)) 31 (r 0)) 32 v56) 33 v57) 34 v58) 35 v59) 36 v60) 37 v61) 6 v62) 38 (r 0)) 39 v64) 40 v65) 41 v66) 42 (r 21)) 43 v67) 44 v68) 45 v69) 46 v69) 47 v70) 48 v71) 49 v72) 50 v73) 51 v73) 52 v74) 53 v75) 54 v76) 55 v77) 56 v78) 57 v79) h79)
def S68_l12 (G : Hp) (r : Rg) (h : Hp) (K : Exit → Rg → Hp → Prop) : Prop :=
  opH Tryd.prog G (sv (binOp .lss 3 (r 21) (r 20))) h fun v50 h50 =>
  cond v50
  (S68_l12_k13 G K (upd r 22 v50) h50)
  (K (.exit 0) (upd r 22 v50) h50)
def S68_k1 (G : Hp) (K : Exit → Rg → Hp → Prop) (r : Rg) (h : Hp) : Prop :=
  opH Tryd.prog G (xNil (r 0)) h fun v2 h2 =>
  opH Tryd.prog G (sv (Instr.fieldAt 93 v2 2)) h2 fun v3 h3 =>
  opH Tryd.prog G (sv (Instr.loadAt 42 v3)) h3 fun v4 h4 =>
  opH Tryd.prog G (sv (Builtin.len_ #[42] 3 #[v4])) h4 fun v5 h5 =>
  loopP (S68_l12 G) (upd (upd (upd (upd (upd (upd r 16 (r 0)) 17 v2) 18 v3) 19 v4) 20 v5) 21 (.int .i64 0)) h5 (blockK 0 (thenK (S68_k2 G K) K))
def S68 (G : Hp) (K : Exit → Rg → Hp → Prop) (r : Rg) (h : Hp) : Prop :=
  opH Tryd.prog G (sv (Builtin.len_ #[23] 3 #[(r 1)])) h fun v0 h0 =>
  opH Tryd.prog G (sv (binOp .gtr 3 v0 (.int .i64 8))) h0 fun v1 h1 =>
  cond v1
  (K .ret (upd (upd (upd (upd (upd r 4 (.bool false)) 13 (r 1)) 14 v0) 15 v1) 4 (.bool false)) h1)
  (S68_k1 G K (upd (upd (upd (upd r 4 (.bool false)) 13 (r 1)) 14 v0) 15 v1) h1)
theorem S68_eq (G : Hp) (K : Exit → Rg → Hp → Prop) (r : Rg) (h : Hp) : wpC Tryd.prog G 125 md68 true (Tryd.f68.body.getD .skip) r h K = S68 G K r h := by kernel_rfl
theorem enter68 {G : Hp} {h : Hp} {args : Array Value} {R : Value → Hp → Prop} (hn : args.size ≤ 125) (H : S68 G (retK Tryd.prog G [.tmp 4] R) (regs args) h) : HCalls Tryd.prog G 68 args h R :=
  HCalls.enter (md := md68) mixed Tryd.func68 rfl hn (by rw [← S68_eq] at H; exact H)

def md69 : Nat → Hint
  | _ => ⟨false, [], [], [], [], false⟩
def S69_k1 (G : Hp) (K : Exit → Rg → Hp → Prop) (r : Rg) (h : Hp) : Prop :=
  K .ret (upd r 6 (.bool true)) h
def S69_l2_k4 (G : Hp) (K : Exit → Rg → Hp → Prop) (r : Rg) (h : Hp) : Prop :=
  opH Tryd.prog G (sv (binOp .add 3 (r 22) (.int .i64 1))) h fun v8 h8 =>
  K .normal (upd (upd r 77 v8) 22 v8) h8
def S69_l2_l6_k8 (G : Hp) (K : Exit → Rg → Hp → Prop) (r : Rg) (h : Hp) : Prop :=
  opH Tryd.prog G (sv (binOp .add 3 (r 56) (.int .i64 1))) h fun v40 h40 =>
  K .normal (upd (upd r 76 v40) 56 v40) h40
def S69_l2_l6_k9 (G : Hp) (K : Exit → Rg → Hp → Prop) (r : Rg) (h : Hp) : Prop :=
  opH Tryd.prog G (su (Instr.mapUpdate 107 (r 8) (r 12) (.int .i64 1))) h fun v54 h54 =>
  S69_l2_l6_k8 G K (upd (upd r 74 (r 8)) 75 (r 12)) h54
def S69_l2_l6_k7 (G : Hp) (K : Exit → Rg → Hp → Prop) (r : Rg) (h : Hp) : Prop :=
  opH Tryd.prog G (sv (Instr.indexAt 42 (r 54) (r 56))) h fun v41 h41 =>
  opH Tryd.prog G (sv (Instr.loadAt 3 v41)) h41 fun v42 h42 =>
  opH Tryd.prog G (callFunc 56 #[v42, (.int .i64 1), (.int .i64 1000000000)]) h42 fun v43 h43 =>
  opH Tryd.prog G (sv (Op.unary .not v43)) h43 fun v44 h44 =>
  gd (wantB v44 false) (fun K1 => K1 (r 8) h44) h44 fun v45 h45 =>
  gd (wantB v44 false) (fun K1 => K1 v42 h45) h45 fun v46 h46 =>
  gd (wantB v44 false) (opH Tryd.prog G (sv (Instr.lookup 107 v45 v46 false)) h46) h46 fun v47 h47 =>
  gd (wantB v44 false) (opH Tryd.prog G (sv (binOp .gtr 3 v47 (.int .i64 0))) h47) h47 fun v48 h48 =>
  opH Tryd.prog G (xPick v44 (.bool true) v48) h48 fun v49 h49 =>
  gd (wantB v49 false) (fun K1 => K1 (r 8) h49) h49 fun v50 h50 =>
  gd (wantB v49 false) (opH Tryd.prog G (sv (Builtin.len_ #[107] 3 #[v50])) h50) h50 fun v51 h51 =>
  gd (wantB v49 false) (opH Tryd.prog G (xEq .eql 3 (.tmp 0) (.const .nilFunc) v51 (.int .i64 512)) h51) h51 fun v52 h52 =>
  opH Tryd.prog G (xPick v49 (.bool true) v52) h52 fun v53 h53 =>
  cond v53
  (K .ret (upd (upd (upd (upd (upd (upd (upd (upd (upd (upd (upd (upd (upd (upd (upd (upd (upd (upd r 58 v41) 59 v42) 12 v42) 60 v42) 61 v43) 62 v44) 63 v44) 64 v45) 65 v46) 66 v47) 67 v48) 68 v49) 69 v49) 70 v50) 71 v51) 72 v52) 73 v53) 6 (.bool false)) h53)
  (S69_l2_l6_k9 G K (upd (upd (upd (upd (upd (upd (upd (upd (upd (upd (upd (upd (upd (upd (upd (upd (upd r 58 v41) 59 v42) 12 v42) 60 v42) 61 v43) 62 v44) 63 v44) 64 v45) 65 v46) 66 v47) 67 v48) 68 v49) 69 v49) 70 v50) 71 v51) 72 v52) 73 v53) h53)
def S69_l2_l6 (G : Hp) (r : Rg) (h : Hp) (K : Exit → Rg → Hp → Prop) : Prop :=
  opH Tryd.prog G (sv (binOp .lss 3 (r 56) (r 55))) h fun v39 h39 =>
  cond v39
  (S69_l2_l6_k7 G K (upd r 57 v39) h39)
  (K (.exit 2) (upd r 57 v39) h39)
def S69_l2_k5 (G : Hp) (K : Exit → Rg → Hp → Prop) (r : Rg) (h : Hp) : Prop :=
  opH Tryd.prog G (sv (Instr.fieldAt 49 (r 10) 0)) h fun v31 h31 =>
  opH Tryd.prog G (sv (Instr.loadAt 28 v31)) h31 fun v32 h32 =>
  opH Tryd.prog G (callFunc 58 #[(r 0), v32]) h32 fun v33 h33 =>
  opH Tryd.prog G (sv (Instr.indexAt 104 (r 7) v33)) h33 fun v34 h34 =>
  opH Tryd.prog G (su (Instr.storeAt 4 v34 (.bool true))) h34 fun v35 h35 =>
  opH Tryd.prog G (sv (Instr.fieldAt 49 (r 10) 1)) h35 fun v36 h36 =>
  opH Tryd.prog G (sv (Instr.loadAt 42 v36)) h36 fun v37 h37 =>
  opH Tryd.prog G (sv (Builtin.len_ #[42] 3 #[v37])) h37 fun v38 h38 =>
  loopP (S69_l2_l6 G) (upd (upd (upd (upd (upd (upd (upd (upd (upd (upd r 47 (r 7)) 48 (r 0)) 49 v31) 50 v32) 51 v33) 52 v34) 53 v36) 54 v37) 55 v38) 56 (.int .i64 0)) h38 (blockK 2 (blockK 1 (thenK (S69_l2_k4 G K) K)))
def S69_l2_k3 (G : Hp) (K : Exit → Rg → Hp → Prop) (r : Rg) (h : Hp) : Prop :=
  opH Tryd.prog G (sv (Instr.indexAt 24 (r 20) (r 22))) h fun v9 h9 =>
  opH Tryd.prog G (sv (Instr.loadAt 49 v9)) h9 fun v10 h10 =>
  opH Tryd.prog G (sv (Instr.alloc 49 true (.tuple #[]))) h10 fun v11 h11 =>
  opH Tryd.prog G (su (Instr.storeAt 49 v11 v10)) h11 fun v12 h12 =>
  opH Tryd.prog G (sv (Instr.fieldAt 49 v11 0)) h12 fun v13 h13 =>
  opH Tryd.prog G (sv (Instr.loadAt 28 v13)) h13 fun v14 h14 =>
  opH Tryd.prog G (callFunc 74 #[(r 0), v14]) h14 fun v15 h15 =>
  opH Tryd.prog G (sv (Op.unary .not v15)) h15 fun v16 h16 =>
  gd (wantB v16 false) (fun K1 => K1 (r 7) h16) h16 fun v17 h17 =>
  gd (wantB v16 false) (fun K1 => K1 (r 0) h17) h17 fun v18 h18 =>
  gd (wantB v16 false) (opH Tryd.prog G (sv (Instr.fieldAt 49 v11 0)) h18) h18 fun v19 h19 =>
  gd (wantB v16 false) (opH Tryd.prog G (sv (Instr.loadAt 28 v19)) h19) h19 fun v20 h20 =>
  gd (wantB v16 false) (opH Tryd.prog G (callFunc 58 #[v18, v20]) h20) h20 fun v21 h21 =>
  gd (wantB v16 false) (opH Tryd.prog G (sv (Instr.indexAt 104 v17 v21)) h21) h21 fun v22 h22 =>
  gd (wantB v16 false) (opH Tryd.prog G (sv (Instr.loadAt 4 v22)) h22) h22 fun v23 h23 =>
  opH Tryd.prog G (xPick v16 (.bool true) v23) h23 fun v24 h24 =>
  gd (wantB v24 false) (opH Tryd.prog G (sv (Instr.fieldAt 49 v11 1)) h24) h24 fun v25 h25 =>
  gd (wantB v24 false) (opH Tryd.prog G (sv (Instr.loadAt 42 v25)) h25) h25 fun v26 h26 =>
  gd (wantB v24 false) (opH Tryd.prog G (sv (Builtin.len_ #[42] 3 #[v26])) h26) h26 fun v27 h27 =>
  gd (wantB v24 false) (fun K1 => K1 (r 2) h27) h27 fun v28 h28 =>
  gd (wantB v24 false) (opH Tryd.prog G (sv (binOp .gtr 3 v27 v28)) h28) h28 fun v29 h29 =>
  opH Tryd.prog G (xPick v24 (.bool true) v29) h29 fun v30 h30 =>
  cond v30
  (K .ret (upd (upd (upd (upd (upd (upd (upd (upd (upd (upd (upd (upd (upd (upd (upd (upd (upd (upd (upd (upd (upd (upd (upd (upd (upd r 24 v9) 25 v10) 10 v11) 26 (r 0)) 27 v13) 28 v14) 29 v15) 30 v16) 31 v16) 32 v17) 33 v18) 34 v19) 35 v20) 36 v21) 37 v22) 38 v23) 39 v24) 40 v24) 41 v25) 42 v26) 43 v27) 44 v28) 45 v29) 46 v30) 6 (.bool false)) h30)
  (S69_l2_k5 G K (upd (upd (upd (upd (upd (upd (upd (upd (upd (upd (upd (upd (upd (upd (upd (upd (upd (upd (upd (upd (upd (upd (upd (upd r 24 v9) 25 v10) 10 v11) 26 (r 0)) 27 v13) 28 v14) 29 v15) 30 v16) 31 v16) 32 v17) 33 v18) 34 v19) 35 v20) 36 v21) 37 v22) 38 v23) 39 v24) 40 v24) 41 v25) 42 v26) 43 v27) 44 v28) 45 v29) 46 v30) h30)
def S69_l2 (G : Hp) (r : Rg) (h : Hp) (K : Exit → Rg → Hp → Prop) : Prop :=
  opH Tryd.prog G (sv (binOp .lss 3 (r 22) (r 21))) h fun v7 h7 =>
  cond v7
  (S69_l2_k3 G K (upd r 23 v7) h7)
  (K (.exit 0) (upd r 23 v7) h7)
def S69 (G : Hp) (K : Exit → Rg → Hp → Prop) (r : Rg) (h : Hp) : Prop :=
  opH Tryd.prog G (xNil (r 0)) h fun v0 h0 =>
  opH Tryd.prog G (sv (Instr.fieldAt 93 v0 2)) h0 fun v1 h1 =>
  opH Tryd.prog G (sv (Instr.loadAt 42 v1)) h1 fun v2 h2 =>
  opH Tryd.prog G (sv (Builtin.len_ #[42] 3 #[v2])) h2 fun v3 h3 =>
  opH Tryd.prog G (sv (Instr.makeSlice 104 v3 v3)) h3 fun v4 h4 =>
  opH Tryd.prog G (sv (Instr.makeMap 107 none)) h4 fun v5 h5 =>
  opH Tryd.prog G (sv (Builtin.len_ #[24] 3 #[(r 1)])) h5 fun v6 h6 =>
  loopP (S69_l2 G) (upd (upd (upd (upd (upd (upd (upd (upd (upd (upd (upd (upd (upd r 6 (.bool false)) 13 (r 0)) 14 v0) 15 v1) 16 v2) 17 v3) 18 v4) 7 v4) 19 v5) 8 v5) 20 (r 1)) 21 v6) 22 (.int .i64 0)) h6 (blockK 0 (thenK (S69_k1 G K) K))
theorem S69_eq (G : Hp) (K : Exit → Rg → Hp → Prop) (r : Rg) (h : Hp) : wpC Tryd.prog G 78 md69 true (Tryd.f69.body.getD .skip) r h K = S69 G K r h := by kernel_rfl
theorem enter69 {G : Hp} {h : Hp} {args : Array Value} {R : Value → Hp → Prop} (hn : args.size ≤ 78) (H : S69 G (retK Tryd.prog G [.tmp 6] R) (regs args) h) : HCalls Tryd.prog G 69 args h R :=
  HCalls.enter (md := md69) mixed Tryd.func69 rfl hn (by rw [← S69_eq] at H; exact H)

def md71 : Nat → Hint
  | _ => ⟨false, [], [], [], [], false⟩
def S71_k1 (G : Hp) (K : Exit → Rg → Hp → Prop) (r : Rg) (h : Hp) : Prop :=
  opH Tryd.prog G (sv (Builtin.len_ #[22] 3 #[(r 0)])) h fun v2 h2 =>
  opH Tryd.prog G (sv (Instr.makeSlice 22 v2 v2)) h2 fun v3 h3 =>
  opH Tryd.prog G (sv (Builtin.copy_ #[22, 22] 3 #[v3, (r 0)])) h3 fun v4 h4 =>
  K .ret (upd (upd (upd (upd (upd (upd (upd (upd (upd r 7 (r 0)) 8 v2) 9 v3) 3 v3) 10 v3) 11 (r 0)) 12 v4) 13 v3) 2 v3) h4
def S71 (G : Hp) (K : Exit → Rg → Hp → Prop) (r : Rg) (h : Hp) : Prop :=
  opH Tryd.prog G (sv (Builtin.len_ #[22] 3 #[(r 0)])) h fun v0 h0 =>
  opH Tryd.prog G (xEq .eql 3 (.tmp 0) (.const .nilFunc) v0 (.int .i64 0)) h0 fun v1 h1 =>
  cond v1
  (K .ret (upd (upd (upd (upd (upd r 2 (.slice none 0 0)) 4 (r 0)) 5 v0) 6 v1) 2 (.slice none 0 0)) h1)
  (S71_k1 G K (upd (upd (upd (upd r 2 (.slice none 0 0)) 4 (r 0)) 5 v0) 6 v1) h1)
theorem S71_eq (G : Hp) (K : Exit → Rg → Hp → Prop) (r : Rg) (h : Hp) : wpC Tryd.prog G 14 md71 true (Tryd.f71.body.getD .skip) r h K = S71 G K r h := by kernel_rfl
theorem enter71 {G : Hp} {h : Hp} {args : Array Value} {R : Value → Hp → Prop} (hn : args.size ≤ 14) (H : S71 G (retK Tryd.prog G [.tmp 2] R) (regs args) h) : HCalls Tryd.prog G 71 args h R :=
  HCalls.enter (md := md71) mixed Tryd.func71 rfl hn (by rw [← S71_eq] at H; exact H)

def md20 : Nat → Hint
  | _ => ⟨false, [], [], [], [], false⟩
def S20_k1 (G : Hp) (K : Exit → Rg → Hp → Prop) (r : Rg) (h : Hp) : Prop :=
  K .ret (upd (upd r 14 (r 5)) 4 (r 5)) h
def S20 (G : Hp) (K : Exit → Rg → Hp → Prop) (r : Rg) (h : Hp) : Prop :=
  opH Tryd.prog G (sv (binOp .rem 3 (r 0) (r 1))) h fun v0 h0 =>
  opH Tryd.prog G (sv (binOp .lss 3 v0 (.int .i64 0))) h0 fun v1 h1 =>
  cond v1
  (opH Tryd.prog G (sv (binOp .add 3 v0 (r 1))) h1 fun v2 h2 =>
  S20_k1 G K (upd (upd (upd (upd (upd (upd (upd (upd (upd (upd (upd r 4 (.int .i64 0)) 6 (r 0)) 7 (r 1)) 8 v0) 5 v0) 9 v0) 10 v1) 11 v0) 12 (r 1)) 13 v2) 5 v2) h2)
  (S20_k1 G K (upd (upd (upd (upd (upd (upd (upd r 4 (.int .i64 0)) 6 (r 0)) 7 (r 1)) 8 v0) 5 v0) 9 v0) 10 v1) h1)
theorem S20_eq (G : Hp) (K : Exit → Rg → Hp → Prop) (r : Rg) (h : Hp) : wpC Tryd.prog G 15 md20 true (Tryd.f20.body.getD .skip) r h K = S20 G K r h := by kernel_rfl
theorem enter20 {G : Hp} {h : Hp} {args : Array Value} {R : Value → Hp → Prop} (hn : args.size ≤ 15) (H : S20 G (retK Tryd.prog G [.tmp 4] R) (regs args) h) : HCalls Tryd.prog G 20 args h R :=
  HCalls.enter (md := md20) mixed Tryd.func20 rfl hn (by rw [← S20_eq] at H; exact H)

def md25 : Nat → Hint
  | _ => ⟨false, [], [], [], [], false⟩
def S25 (G : Hp) (K : Exit → Rg → Hp → Prop) (r : Rg) (h : Hp) : Prop :=
  opH Tryd.prog G (sv (Instr.alloc 26 true (.tuple #[]))) h fun v0 h0 =>
  opH Tryd.prog G (sv (Instr.build 28 #[(0, (.int .i64 2))])) h0 fun v1 h1 =>
  opH Tryd.prog G (sv (Instr.buildSlice 22 1 #[(0, v1)])) h1 fun v2 h2 =>
  opH Tryd.prog G (sv (Instr.build 26 #[(0, (.int .i64 3)), (1, (.int .i64 2)), (2, (.int .i64 3)), (7, (.int .i64 1)), (8, (.int .i64 1)), (9, (.int .i64 1)), (10, (.int .i64 1)), (11, (.int .i64 1)), (12, (.int .i64 1)), (13, (.int .i64 1)), (14, (.int .i64 1)), (4, v2), (15, (.bool true))])) h2 fun v3 h3 =>
  opH Tryd.prog G (su (Instr.storeAt 26 v0 v3)) h3 fun v4 h4 =>
  K .ret (upd (upd (upd (upd r 0 v0) 1 v1) 2 v2) 3 v3) h4
theorem S25_eq (G : Hp) (K : Exit → Rg → Hp → Prop) (r : Rg) (h : Hp) : wpC Tryd.prog G 4 md25 true (Tryd.f25.body.getD .skip) r h K = S25 G K r h := by kernel_rfl
theorem enter25 {G : Hp} {h : Hp} {args : Array Value} {R : Value → Hp → Prop} (hn : args.size ≤ 4) (H : S25 G (retK Tryd.prog G [.cell 0 26] R) (regs args) h) : HCalls Tryd.prog G 25 args h R :=
  HCalls.enter (md := md25) mixed Tryd.func25 rfl hn (by rw [← S25_eq] at H; exact H)

end Go.Proofs.YtangejiigopdaaaDoor
end

section
/- The program's grid as it lies, and its answers on cells. -/
set_option linter.unusedSimpArgs false
set_option linter.unusedVariables false
set_option maxRecDepth 100000
namespace Go.Proofs.YtangejiigopdaaaDoor
open Go Go.HL

theorem un81 : Tryd.prog.underlying 108 = some (.array 4 28) := by kernel_rfl
theorem ix81 {G h : Hp} {a : Addr} {k : IntKind} {i : Int} {K : Value → Hp → Prop} (h1 : 0 ≤ i) (h2 : i < (4 : Nat)) : wpH Tryd.prog G (Instr.indexAt 108 (.pointer (some a)) (.int k i)) h K = K (.pointer (some (a.add (i.toNat * 2)))) h := index_arr un81 sz28 h1 h2
/-- The package's steps, by direction. -/
def stepL : List Value := [.int .i64 0, .int .i64 (-1), .int .i64 1, .int .i64 0, .int .i64 0, .int .i64 1, .int .i64 (-1), .int .i64 0]
def Steps (G : Hp) : Prop := ∃ e f, G 0 = some (.cells stepL.toArray e f)
theorem Steps.cell {G h : Hp} (s : Steps G) (d : Dis G h) (k : Nat) : cellIn G h ⟨0, k, none⟩ = stepL[k]? := by
  obtain ⟨e, f, s⟩ := s
  rw [cell_gnd d s rfl]
  simp [objCell]
theorem Steps.free {G h : Hp} (s : Steps G) (d : Dis G h) : h 0 = none := by
  obtain ⟨e, f, s⟩ := s
  cases q : h 0 with
  | none => rfl
  | some o => rw [d _ _ q] at s; cases s
theorem Steps.under {G h a : Hp} (s : Steps G) (d : Dis G h) (l : a.le h) : Steps (under G h a) := by
  have h0 := s.free d
  obtain ⟨e, f, s⟩ := s
  refine ⟨e, f, ?_⟩
  unfold HL.under HL.look
  rw [l.none h0, h0]
  simpa using s

/-- A hive of w by h, told by a function of its cells, row by row. -/
def gridL {α : Type} (w h : Nat) (f : Nat → Nat → α) : List α := (List.range (w * h)).map fun n => f (n % w) (n / w)
theorem gridL_length {α : Type} {w h : Nat} {f : Nat → Nat → α} : (gridL w h f).length = w * h := by simp [gridL]
theorem gridL_get {α : Type} {w h : Nat} {f : Nat → Nat → α} {x y : Nat} (hx : x < w) (hy : y < h) : (gridL w h f)[y * w + x]? = some (f x y) := by
  have hlt : y * w + x < w * h := by
    have : (y + 1) * w ≤ h * w := Nat.mul_le_mul_right _ hy
    rw [Nat.succ_mul] at this
    rw [Nat.mul_comm w h]; omega
  unfold gridL
  rw [List.getElem?_map, List.getElem?_range hlt, Option.map_some]
  rw [Nat.mul_comm y w, Nat.mul_add_mod, Nat.mod_eq_of_lt hx, Nat.mul_add_div (by omega), Nat.div_eq_of_lt hx, Nat.add_zero]
theorem gridL_at {α : Type} {w h : Nat} {f : Nat → Nat → α} {n : Nat} (hn : n < w * h) : (gridL w h f)[n]? = some (f (n % w) (n / w)) := by
  unfold gridL
  rw [List.getElem?_map, List.getElem?_range hn, Option.map_some]
theorem gridL_set {α : Type} {w h : Nat} {f : Nat → Nat → α} {x y : Nat} {v : α} (hx : x < w) : (gridL w h f).set (y * w + x) v = gridL w h (fun a b => if a = x ∧ b = y then v else f a b) := by
  apply List.ext_getElem?
  intro n
  rw [List.getElem?_set]
  by_cases hn : n < w * h
  · rw [gridL_at hn, gridL_at hn, gridL_length]
    have hw : 0 < w := by omega
    by_cases e : y * w + x = n
    · subst e
      rw [if_pos rfl, if_pos hn, Nat.mul_comm y w, Nat.mul_add_mod, Nat.mod_eq_of_lt hx, Nat.mul_add_div hw, Nat.div_eq_of_lt hx, Nat.add_zero]
      simp
    · rw [if_neg e, if_neg]
      rintro ⟨e1, e2⟩
      apply e
      rw [← e1, ← e2, Nat.mul_comm]
      exact Nat.div_add_mod n w
  · rw [List.getElem?_eq_none (by rw [gridL_length]; omega), List.getElem?_eq_none (by rw [gridL_length]; omega)]
    split
    · rw [if_neg (by rw [gridL_length]; omega)]
    · rfl

/-- The grid, seen. -/
structure GS (G h : Hp) (g : Value) (w k : Nat) (f : Nat → Nat → Int) : Prop where
  ex : ∃ gp kb, g = .pointer (some ⟨gp, 0, none⟩) ∧ (∀ j, j < 3 → cellIn G h ⟨gp, j, none⟩ = [Value.int .i64 w, .int .i64 k, .slice (some ⟨kb, 0, none⟩) (w * k) (w * k)][j]?) ∧ (∀ n x, (gridL w k f)[n]? = some x → cellIn G h ⟨kb, n, none⟩ = some (.int .i64 x))
  w1 : 1 ≤ w
  w2 : w ≤ 16
  k1 : 1 ≤ k
  k2 : k ≤ 16

theorem GS.up {G h h' : Hp} {g : Value} {w k : Nat} {f : Nat → Nat → Int} (s : GS G h g w k f) (l : h.le h') (d : Dis G h') : GS G h' g w k f := by
  obtain ⟨⟨gp, kb, e, h1, h2⟩, a, b, c, e2⟩ := s
  refine ⟨⟨gp, kb, e, fun j hj => ?_, fun n x hx => cell_up l d (h2 n x hx)⟩, a, b, c, e2⟩
  have := h1 j hj
  rw [List.getElem?_eq_getElem (by simpa using hj)] at this ⊢
  exact cell_up l d this
theorem GS.under {G h a : Hp} {g : Value} {w k : Nat} {f : Nat → Nat → Int} (s : GS G h g w k f) (l : a.le h) : GS (HL.under G h a) a g w k f := by
  obtain ⟨⟨gp, kb, e, h1, h2⟩, x1, x2, x3, x4⟩ := s
  exact ⟨⟨gp, kb, e, fun j hj => by rw [under_cell l]; exact h1 j hj, fun n x hx => by rw [under_cell l]; exact h2 n x hx⟩, x1, x2, x3, x4⟩

/-- In the hive of w by k? -/
def inW (w k : Nat) (c : Cell) : Bool := withinB c.1 0 (w - 1) && withinB c.2 0 (k - 1)
def numI (w k : Nat) (c : Cell) : Int := if inW w k c = true then c.2 * w + c.1 else -1
def fAt (f : Nat → Nat → Int) (c : Cell) : Int := f c.1.toNat c.2.toNat
def openW (w k : Nat) (f : Nat → Nat → Int) (c : Cell) : Bool := inW w k c && !(fAt f c == -1)

theorem inW_iff {w k : Nat} {c : Cell} : inW w k c = true ↔ 0 ≤ c.1 ∧ c.1 < w ∧ 0 ≤ c.2 ∧ c.2 < k := by
  unfold inW withinB
  simp only [Bool.and_eq_true, decide_eq_true_eq]
  omega

theorem within_spec {G h : Hp} {n a b : Int} : HCalls Tryd.prog G 56 #[.int .i64 n, .int .i64 a, .int .i64 b] h (fun u h' => u = .bool (withinB n a b) ∧ h' = h) := by
  refine quietly (enter56 (by simp) ?_)
  unfold S56
  simp -implicitDefEqProofs only [regs0, regs1, regs2, retK_ret, resL_tmp, upd_eq, resL_nil1, opH_sv, bin_geq]
  unfold withinB
  cases hc : decide (n ≥ a) with
  | false => simp -implicitDefEqProofs only [pick_f, gd_ft]; exact ⟨rfl, Hp.le.refl h⟩
  | true => simp -implicitDefEqProofs only [Bool.true_and, pick_t, gd_tt, opH_sv, bin_leq, true_and]; exact Hp.le.refl h

theorem num_spec {G h : Hp} {g : Value} {w k : Nat} {f : Nat → Nat → Int} {c : Cell} (s : GS G h g w k f) : HCalls Tryd.prog G 58 #[g, cellV c] h (fun u h' => u = .int .i64 (numI w k c) ∧ h' = h) := by
  have s0 := s
  obtain ⟨⟨gp, kb, rfl, g1, g2⟩, w1, w2, k1, k2⟩ := s
  refine HCalls.assume fun d => quietly (enter58 (by simp) ?_)
  unfold S58
  simp -implicitDefEqProofs only [regs1, regs0, retK_ret, resL_tmp, upd_eq, resL_nil1, eq58sp, pick_fp, gd_ff, pureW_sv, cf56, pureW_nil, fa93_0p, add_mk, Nat.add_zero, ld3p, opH_sv, box_new, cells_agg, fa28_0p, cell_set_self, List.getElem?_cons_zero, Option.some.injEq, exists_eq_left']
  intro x hx gx
  generalize e1 : Hp.set h x _ = h1
  obtain ⟨l1, d1, b1⟩ := boxed e1 hx d gx
  have cx : ∀ j, cellIn G h1 ⟨x, j, none⟩ = _ := fun j => cell_of (look_own b1)
  have y0 : cellIn G h1 ⟨gp, 0, none⟩ = some (.int .i64 w) := cell_up l1 d1 (g1 0 (by decide))
  have y1 : cellIn G h1 ⟨gp, 1, none⟩ = some (.int .i64 k) := cell_up l1 d1 (g1 1 (by decide))
  try simp -implicitDefEqProofs only [y0, Option.some.injEq, exists_eq_left', bin_subp, wrap_in]
  try rw [wrap_in (by omega) (by omega)]
  refine (within_spec (n := c.1) (a := 0) (b := (w : Int) - 1)).mono ?_
  rintro _ _ ⟨rfl, rfl⟩
  unfold numI inW
  cases h1 : withinB c.1 0 ((w : Int) - 1) with
  | false => try simp -implicitDefEqProofs only [un_notp, Bool.not_false, pick_tp, HL.cond_true, gd_tf]; exact ⟨by simp, l1⟩
  | true =>
  try simp -implicitDefEqProofs only [Bool.true_and, un_notp, Bool.not_true, pick_fp, gd_ff, pureW_sv, cf56, pureW_nil, fa93_1p, add_mk, Nat.zero_add, ld3p, y1, Option.some.injEq, exists_eq_left', bin_subp, wrap_in, fa28_1p, cx, List.getElem?_cons_succ, List.getElem?_cons_zero]
  try rw [wrap_in (by omega) (by omega)]
  refine (within_spec (n := c.2) (a := 0) (b := (k : Int) - 1)).mono ?_
  rintro _ _ ⟨rfl, rfl⟩
  cases h2 : withinB c.2 0 ((k : Int) - 1) with
  | false => try simp -implicitDefEqProofs only [un_notp, Bool.not_false, HL.cond_true]; exact ⟨by simp, l1⟩
  | true =>
  unfold withinB at h1 h2
  simp only [Bool.and_eq_true, decide_eq_true_eq] at h1 h2
  have hm : 0 ≤ c.2 * (w : Int) ∧ c.2 * (w : Int) ≤ 15 * 16 := ⟨Int.mul_nonneg (by omega) (by omega), Int.mul_le_mul (by omega) (by omega) (by omega) (by omega)⟩
  try simp -implicitDefEqProofs only [if_true, un_notp, Bool.not_true, HL.cond_false]
  unfold S58_k1
  try simp -implicitDefEqProofs (disch := first | with_reducible exact Nat.ne_of_beq_eq_false rfl | omega) only [upd_ne, upd_eq, regs0, retK_ret, resL_tmp, resL_nil1, pureW_sv, fa28_0p, add_mk, Nat.add_zero, ld3p, cx, List.getElem?_cons_zero, Option.some.injEq, exists_eq_left', pureW_nil, fa93_0p, y0, fa28_1p, Nat.zero_add, List.getElem?_cons_succ, bin_mulp, wrap_in, bin_addp, true_and]
  try rw [wrap_in (x := c.2 * (w : Int)) (by omega) (by omega)]
  try rw [wrap_in (by omega) (by omega)]
  first | exact l1 | exact ⟨by simp, l1⟩

/-- A cell's kind, read. -/
theorem GS.kind {G h : Hp} {g : Value} {w k : Nat} {f : Nat → Nat → Int} (s : GS G h g w k f) {c : Cell} (hc : inW w k c = true) :
    ∃ gp kb, g = .pointer (some ⟨gp, 0, none⟩) ∧ cellIn G h ⟨gp, 2, none⟩ = some (.slice (some ⟨kb, 0, none⟩) (w * k) (w * k)) ∧ cellIn G h ⟨kb, (numI w k c).toNat, none⟩ = some (.int .i64 (fAt f c)) ∧ 0 ≤ numI w k c ∧ numI w k c < ((w * k : Nat) : Int) := by
  obtain ⟨⟨gp, kb, rfl, g1, g2⟩, w1, w2, k1, k2⟩ := s
  obtain ⟨a1, a2, a3, a4⟩ := inW_iff.1 hc
  have hn : numI w k c = ((c.2.toNat * w + c.1.toNat : Nat) : Int) := by
    unfold numI
    rw [if_pos hc]
    rw [Int.natCast_add, Int.natCast_mul, Int.toNat_of_nonneg a1, Int.toNat_of_nonneg a3]
  refine ⟨gp, kb, rfl, g1 2 (by decide), ?_, by omega, ?_⟩
  · rw [hn, Int.toNat_natCast]
    exact g2 _ _ (gridL_get (by omega) (by omega))
  · rw [hn]
    have : (c.2.toNat + 1) * w ≤ k * w := Nat.mul_le_mul_right _ (by omega)
    rw [Nat.succ_mul] at this
    rw [Nat.mul_comm w k]
    omega

theorem numI_out {w k : Nat} {c : Cell} (h : inW w k c = false) : numI w k c = -1 := by unfold numI; rw [h]; rfl

theorem ix57k {G h : Hp} {kb n : Nat} {i : Int} {K : Value → Hp → Prop} (h1 : 0 ≤ i) (h2 : i < (n : Int)) : wpH Tryd.prog G (Instr.indexAt 42 (.slice (some ⟨kb, 0, none⟩) n n) (.int .i64 i)) h K = K (.pointer (some ⟨kb, i.toNat, none⟩)) h := by
  rw [ix42 h1 h2]; simp only [add_mk, Nat.zero_add, Nat.mul_one]

theorem open_spec {G h : Hp} {g : Value} {w k : Nat} {f : Nat → Nat → Int} {c : Cell} (s : GS G h g w k f) : HCalls Tryd.prog G 75 #[g, cellV c] h (fun u h' => u = .bool (openW w k f c) ∧ h' = h) := by
  refine HCalls.assume fun d => quietly (enter75 (by simp) ?_)
  unfold S75
  simp -implicitDefEqProofs only [regs1, regs0, retK_ret, resL_tmp, upd_eq, resL_nil1, opH_sv, cf58, box_new, cells_agg, ld28, add_mk, Nat.add_zero, cell_set_self, List.getElem?_cons_zero, Option.some.injEq, Nat.zero_add, List.getElem?_cons_succ, exists_eq_left']
  intro x hx gx
  generalize e1 : Hp.set h x _ = h1
  obtain ⟨l1, d1, b1⟩ := boxed e1 hx d gx
  have cx : ∀ j, cellIn G h1 ⟨x, j, none⟩ = _ := fun j => cell_of (look_own b1)
  try simp -implicitDefEqProofs only [opH_sv, opH_su, pureW_sv, opH_nil, pureW_nil, pick_t, pick_f, pick_tp, pick_fp, gd_tt, gd_ft, gd_tf, gd_ff, box_new, regs0, regs1, regs2, regs3, regs4, regs5, regs6, cells_agg, cells_int, cells_bool, cells_ptr, cells_slice, cells_string, cells_func, cells_nilFunc, cells_map, retK_ret, retK_normal, resL_tmp, resL_cell, resL_nil0, resL_nil1, resL_nil2, resL_nil3, resC_ptr, ex0, ex1, ex2, ex0p, ex1p, ex2p, HL.cond_true, HL.cond_false, thenK_normal, thenK_ret, thenK_exit, blockK_normal, blockK_ret, blockK_exit, scopeK_normal, scopeK_ret, scopeK_exit, wpH_pure, bin_add, bin_sub, bin_mul, bin_lss, bin_leq, bin_gtr, bin_geq, bin_quo, bin_rem, bin_quop, bin_remp, wrap_in, bin_addp, bin_subp, bin_mulp, bin_lssp, bin_leqp, bin_gtrp, bin_geqp, un_not, un_notp, un_neg, eq_int, ne_int, eq_intp, ne_intp, callV_fn, add_mk, upd_eq, upd_ne, cell_set_self, Nat.zero_add, Nat.add_zero, Option.some.injEq, exists_eq_left', List.getElem?_cons_succ, List.getElem?_cons_zero, true_and, and_true, bne_self_eq_false, beq_self_eq_true, Bool.not_true, Bool.not_false, Bool.and_true, Bool.and_self, Bool.and_false, Bool.true_and, List.length_cons, List.length_nil, ne_eq, not_false_eq_true, Nat.reduceAdd, Nat.reduceMul, if_true, if_false, oneCell_int, oneCell_bool, oneCell_ptr, oneCell_slice, oneCell_string, oneCell_func, oneCell_map, Int.toNat_natCast, List.set_cons_zero, List.set_cons_succ, Nat.lt_irrefl, Nat.zero_lt_succ, Nat.succ_lt_succ_iff, fa26_0, fa26_0p, fa26_1, fa26_1p, fa26_10, fa26_10p, fa26_11, fa26_11p, fa26_12, fa26_12p, fa26_13, fa26_13p, fa26_14, fa26_14p, fa26_15, fa26_15p, fa26_2, fa26_2p, fa26_3, fa26_3p, fa26_4, fa26_4p, fa26_5, fa26_5p, fa26_6, fa26_6p, fa26_7, fa26_7p, fa26_8, fa26_8p, fa26_9, fa26_9p, fa28_0, fa28_0p, fa28_1, fa28_1p, fa45_0, fa45_0p, fa45_1, fa45_1p, fa45_2, fa45_2p, fa45_3, fa45_3p, fa45_4, fa45_4p, fa45_5, fa45_5p, fa45_6, fa45_6p, fa49_0, fa49_0p, fa49_1, fa49_1p, fa74_0, fa74_0p, fa74_1, fa74_1p, fa74_2, fa74_2p, fa74_3, fa74_3p, fa85_0, fa85_0p, fa85_1, fa85_1p, fa93_0, fa93_0p, fa93_1, fa93_1p, fa93_2, fa93_2p, ld3, ld3p, ld4, ld4p, ld22, ld22p, ld23, ld23p, ld24, ld24p, ld26, ld26p, ld28, ld28p, ld42, ld42p, ld45, ld45p, ld49, ld49p, ld58, ld58p, ld69, ld69p, ld72, ld72p, ld85, ld85p, st3s, st4s, st22s, st23s, st24s, st26w, st28w, st42s, st45w, st49w, st85w, ix22, ix22p, ix23, ix23p, ix24, ix24p, ix31, ix31p, ix42, ix42p, ix104, ix104p, ln22, ln22p, ln23, ln23p, ln24, ln24p, ln31, ln31p, ln42, ln42p, al4, al22, al26, al28, al42, al49, al85, cf10, cf11, cf12, cf13, cf14, cf15, cf16, cf17, cf18, cf19, cf20, cf21, cf22, cf23, cf24, cf25, cf26, cf27, cf28, cf29, cf30, cf31, cf32, cf33, cf34, cf35, cf36, cf37, cf38, cf39, cf40, cf41, cf42, cf43, cf44, cf45, cf46, cf47, cf48, cf49, cf50, cf51, cf52, cf53, cf54, cf55, cf56, cf57, cf58, cf59, cf60, cf61, cf62, cf63, cf64, cf65, cf66, cf67, cf68, cf69, cf70, cf71, cf72, cf73, cf74, cf75, bd26_0_1_2_7_8_9_10_11_12_13_14_4_15, bd26_0_1_2_7_8_9_10_11_12_13_14_4_15p, bd28_, bd28_p, bd28_0, bd28_0p, bd28_0_1, bd28_0_1p, bd45_1_3_4_5_6, bd45_1_3_4_5_6p, bd49_0_1, bd49_0_1p, bd49_1, bd49_1p, bd74_0_1_2_3, bd74_0_1_2_3p, bd85_0, bd85_0p, bd85_0_1, bd85_0_1p, bd93_0_1_2, bd93_0_1_2p, bd94_0_1_2_3, bd94_0_1_2_3p, bs42_1_0, bs22_1_0, bs24_1_0, bs42_3_0_1_2, bs31_1_0, bs22_2_0_1, bs42_6_0_1_2_3_4_5, bs42_0_, eq4, eq4p, eq28, eq28p, eq42n, eq42np, eq42s, eq42sp, eq58n, eq58np, eq58s, eq58sp, eq63n, eq63np, eq63s, eq63sp, ne28, ne28p, ne45, ne45p, cx]
  refine (num_spec (c := c) (s.up l1 d1)).mono ?_
  rintro _ _ ⟨rfl, rfl⟩
  unfold openW
  cases hc : inW w k c with
  | false =>
    try simp -implicitDefEqProofs only [numI_out hc, bin_geq, show decide ((-1 : Int) ≥ 0) = false from rfl, pick_f, gd_ft]
    first | exact l1 | exact ⟨by simp, l1⟩
  | true =>
    obtain ⟨gp, kb, rfl, z2, zk, n0, n1⟩ := (s.up l1 d1).kind hc
    try simp -implicitDefEqProofs only [Bool.true_and, bin_geq, show decide (numI w k c ≥ 0) = true from decide_eq_true n0, pick_t, gd_tt, opH_sv, opH_nil, fa93_2, add_mk, Nat.zero_add, ld42, z2, Option.some.injEq, exists_eq_left', ix57k n0 n1, ld3, zk, ne_int]
    first | exact l1 | exact ⟨by simp [bne], l1⟩

theorem stacked_spec {G h : Hp} {g : Value} {w k : Nat} {f : Nat → Nat → Int} {c : Cell} (s : GS G h g w k f) : HCalls Tryd.prog G 74 #[g, cellV c] h (fun u h' => u = .bool (inW w k c && (fAt f c == 0)) ∧ h' = h) := by
  refine HCalls.assume fun d => quietly (enter74 (by simp) ?_)
  unfold S74
  simp -implicitDefEqProofs only [regs1, regs0, retK_ret, resL_tmp, upd_eq, resL_nil1, opH_sv, cf58, box_new, cells_agg, ld28, add_mk, Nat.add_zero, cell_set_self, List.getElem?_cons_zero, Option.some.injEq, Nat.zero_add, List.getElem?_cons_succ, exists_eq_left']
  intro x hx gx
  generalize e1 : Hp.set h x _ = h1
  obtain ⟨l1, d1, b1⟩ := boxed e1 hx d gx
  have cx : ∀ j, cellIn G h1 ⟨x, j, none⟩ = _ := fun j => cell_of (look_own b1)
  try simp -implicitDefEqProofs only [opH_sv, opH_su, pureW_sv, opH_nil, pureW_nil, pick_t, pick_f, pick_tp, pick_fp, gd_tt, gd_ft, gd_tf, gd_ff, box_new, regs0, regs1, regs2, regs3, regs4, regs5, regs6, cells_agg, cells_int, cells_bool, cells_ptr, cells_slice, cells_string, cells_func, cells_nilFunc, cells_map, retK_ret, retK_normal, resL_tmp, resL_cell, resL_nil0, resL_nil1, resL_nil2, resL_nil3, resC_ptr, ex0, ex1, ex2, ex0p, ex1p, ex2p, HL.cond_true, HL.cond_false, thenK_normal, thenK_ret, thenK_exit, blockK_normal, blockK_ret, blockK_exit, scopeK_normal, scopeK_ret, scopeK_exit, wpH_pure, bin_add, bin_sub, bin_mul, bin_lss, bin_leq, bin_gtr, bin_geq, bin_quo, bin_rem, bin_quop, bin_remp, wrap_in, bin_addp, bin_subp, bin_mulp, bin_lssp, bin_leqp, bin_gtrp, bin_geqp, un_not, un_notp, un_neg, eq_int, ne_int, eq_intp, ne_intp, callV_fn, add_mk, upd_eq, upd_ne, cell_set_self, Nat.zero_add, Nat.add_zero, Option.some.injEq, exists_eq_left', List.getElem?_cons_succ, List.getElem?_cons_zero, true_and, and_true, bne_self_eq_false, beq_self_eq_true, Bool.not_true, Bool.not_false, Bool.and_true, Bool.and_self, Bool.and_false, Bool.true_and, List.length_cons, List.length_nil, ne_eq, not_false_eq_true, Nat.reduceAdd, Nat.reduceMul, if_true, if_false, oneCell_int, oneCell_bool, oneCell_ptr, oneCell_slice, oneCell_string, oneCell_func, oneCell_map, Int.toNat_natCast, List.set_cons_zero, List.set_cons_succ, Nat.lt_irrefl, Nat.zero_lt_succ, Nat.succ_lt_succ_iff, fa26_0, fa26_0p, fa26_1, fa26_1p, fa26_10, fa26_10p, fa26_11, fa26_11p, fa26_12, fa26_12p, fa26_13, fa26_13p, fa26_14, fa26_14p, fa26_15, fa26_15p, fa26_2, fa26_2p, fa26_3, fa26_3p, fa26_4, fa26_4p, fa26_5, fa26_5p, fa26_6, fa26_6p, fa26_7, fa26_7p, fa26_8, fa26_8p, fa26_9, fa26_9p, fa28_0, fa28_0p, fa28_1, fa28_1p, fa45_0, fa45_0p, fa45_1, fa45_1p, fa45_2, fa45_2p, fa45_3, fa45_3p, fa45_4, fa45_4p, fa45_5, fa45_5p, fa45_6, fa45_6p, fa49_0, fa49_0p, fa49_1, fa49_1p, fa74_0, fa74_0p, fa74_1, fa74_1p, fa74_2, fa74_2p, fa74_3, fa74_3p, fa85_0, fa85_0p, fa85_1, fa85_1p, fa93_0, fa93_0p, fa93_1, fa93_1p, fa93_2, fa93_2p, ld3, ld3p, ld4, ld4p, ld22, ld22p, ld23, ld23p, ld24, ld24p, ld26, ld26p, ld28, ld28p, ld42, ld42p, ld45, ld45p, ld49, ld49p, ld58, ld58p, ld69, ld69p, ld72, ld72p, ld85, ld85p, st3s, st4s, st22s, st23s, st24s, st26w, st28w, st42s, st45w, st49w, st85w, ix22, ix22p, ix23, ix23p, ix24, ix24p, ix31, ix31p, ix42, ix42p, ix104, ix104p, ln22, ln22p, ln23, ln23p, ln24, ln24p, ln31, ln31p, ln42, ln42p, al4, al22, al26, al28, al42, al49, al85, cf10, cf11, cf12, cf13, cf14, cf15, cf16, cf17, cf18, cf19, cf20, cf21, cf22, cf23, cf24, cf25, cf26, cf27, cf28, cf29, cf30, cf31, cf32, cf33, cf34, cf35, cf36, cf37, cf38, cf39, cf40, cf41, cf42, cf43, cf44, cf45, cf46, cf47, cf48, cf49, cf50, cf51, cf52, cf53, cf54, cf55, cf56, cf57, cf58, cf59, cf60, cf61, cf62, cf63, cf64, cf65, cf66, cf67, cf68, cf69, cf70, cf71, cf72, cf73, cf74, cf75, bd26_0_1_2_7_8_9_10_11_12_13_14_4_15, bd26_0_1_2_7_8_9_10_11_12_13_14_4_15p, bd28_, bd28_p, bd28_0, bd28_0p, bd28_0_1, bd28_0_1p, bd45_1_3_4_5_6, bd45_1_3_4_5_6p, bd49_0_1, bd49_0_1p, bd49_1, bd49_1p, bd74_0_1_2_3, bd74_0_1_2_3p, bd85_0, bd85_0p, bd85_0_1, bd85_0_1p, bd93_0_1_2, bd93_0_1_2p, bd94_0_1_2_3, bd94_0_1_2_3p, bs42_1_0, bs22_1_0, bs24_1_0, bs42_3_0_1_2, bs31_1_0, bs22_2_0_1, bs42_6_0_1_2_3_4_5, bs42_0_, eq4, eq4p, eq28, eq28p, eq42n, eq42np, eq42s, eq42sp, eq58n, eq58np, eq58s, eq58sp, eq63n, eq63np, eq63s, eq63sp, ne28, ne28p, ne45, ne45p, cx]
  refine (num_spec (c := c) (s.up l1 d1)).mono ?_
  rintro _ _ ⟨rfl, rfl⟩
  cases hc : inW w k c with
  | false =>
    try simp -implicitDefEqProofs only [numI_out hc, bin_geq, show decide ((-1 : Int) ≥ 0) = false from rfl, pick_f, gd_ft]
    first | exact l1 | exact ⟨by simp, l1⟩
  | true =>
    obtain ⟨gp, kb, rfl, z2, zk, n0, n1⟩ := (s.up l1 d1).kind hc
    try simp -implicitDefEqProofs only [Bool.true_and, bin_geq, show decide (numI w k c ≥ 0) = true from decide_eq_true n0, pick_t, gd_tt, opH_sv, opH_nil, fa93_2, add_mk, Nat.zero_add, ld42, z2, Option.some.injEq, exists_eq_left', ix57k n0 n1, ld3, zk, eq_int, true_and]
    first | exact l1 | exact ⟨by simp, l1⟩

theorem port_spec {G h : Hp} {g : Value} {w k : Nat} {f : Nat → Nat → Int} {c : Cell} (s : GS G h g w k f) (hf : ∀ x y, -10 ≤ f x y ∧ f x y ≤ 1000) : HCalls Tryd.prog G 34 #[g, cellV c] h (fun u h' => u = .int .i64 (if inW w k c = true ∧ 1 ≤ fAt f c then fAt f c - 1 else -1) ∧ h' = h) := by
  refine HCalls.assume fun d => quietly (enter34 (by simp) ?_)
  unfold S34
  simp -implicitDefEqProofs only [regs1, regs0, retK_ret, resL_tmp, upd_eq, resL_nil1, opH_sv, cf58, box_new, cells_agg, ld28, add_mk, Nat.add_zero, cell_set_self, List.getElem?_cons_zero, Option.some.injEq, Nat.zero_add, List.getElem?_cons_succ, exists_eq_left']
  intro x hx gx
  generalize e1 : Hp.set h x _ = h1
  obtain ⟨l1, d1, b1⟩ := boxed e1 hx d gx
  have cx : ∀ j, cellIn G h1 ⟨x, j, none⟩ = _ := fun j => cell_of (look_own b1)
  try simp -implicitDefEqProofs only [opH_sv, opH_su, pureW_sv, opH_nil, pureW_nil, pick_t, pick_f, pick_tp, pick_fp, gd_tt, gd_ft, gd_tf, gd_ff, box_new, regs0, regs1, regs2, regs3, regs4, regs5, regs6, cells_agg, cells_int, cells_bool, cells_ptr, cells_slice, cells_string, cells_func, cells_nilFunc, cells_map, retK_ret, retK_normal, resL_tmp, resL_cell, resL_nil0, resL_nil1, resL_nil2, resL_nil3, resC_ptr, ex0, ex1, ex2, ex0p, ex1p, ex2p, HL.cond_true, HL.cond_false, thenK_normal, thenK_ret, thenK_exit, blockK_normal, blockK_ret, blockK_exit, scopeK_normal, scopeK_ret, scopeK_exit, wpH_pure, bin_add, bin_sub, bin_mul, bin_lss, bin_leq, bin_gtr, bin_geq, bin_quo, bin_rem, bin_quop, bin_remp, wrap_in, bin_addp, bin_subp, bin_mulp, bin_lssp, bin_leqp, bin_gtrp, bin_geqp, un_not, un_notp, un_neg, eq_int, ne_int, eq_intp, ne_intp, callV_fn, add_mk, upd_eq, upd_ne, cell_set_self, Nat.zero_add, Nat.add_zero, Option.some.injEq, exists_eq_left', List.getElem?_cons_succ, List.getElem?_cons_zero, true_and, and_true, bne_self_eq_false, beq_self_eq_true, Bool.not_true, Bool.not_false, Bool.and_true, Bool.and_self, Bool.and_false, Bool.true_and, List.length_cons, List.length_nil, ne_eq, not_false_eq_true, Nat.reduceAdd, Nat.reduceMul, if_true, if_false, oneCell_int, oneCell_bool, oneCell_ptr, oneCell_slice, oneCell_string, oneCell_func, oneCell_map, Int.toNat_natCast, List.set_cons_zero, List.set_cons_succ, Nat.lt_irrefl, Nat.zero_lt_succ, Nat.succ_lt_succ_iff, fa26_0, fa26_0p, fa26_1, fa26_1p, fa26_10, fa26_10p, fa26_11, fa26_11p, fa26_12, fa26_12p, fa26_13, fa26_13p, fa26_14, fa26_14p, fa26_15, fa26_15p, fa26_2, fa26_2p, fa26_3, fa26_3p, fa26_4, fa26_4p, fa26_5, fa26_5p, fa26_6, fa26_6p, fa26_7, fa26_7p, fa26_8, fa26_8p, fa26_9, fa26_9p, fa28_0, fa28_0p, fa28_1, fa28_1p, fa45_0, fa45_0p, fa45_1, fa45_1p, fa45_2, fa45_2p, fa45_3, fa45_3p, fa45_4, fa45_4p, fa45_5, fa45_5p, fa45_6, fa45_6p, fa49_0, fa49_0p, fa49_1, fa49_1p, fa74_0, fa74_0p, fa74_1, fa74_1p, fa74_2, fa74_2p, fa74_3, fa74_3p, fa85_0, fa85_0p, fa85_1, fa85_1p, fa93_0, fa93_0p, fa93_1, fa93_1p, fa93_2, fa93_2p, ld3, ld3p, ld4, ld4p, ld22, ld22p, ld23, ld23p, ld24, ld24p, ld26, ld26p, ld28, ld28p, ld42, ld42p, ld45, ld45p, ld49, ld49p, ld58, ld58p, ld69, ld69p, ld72, ld72p, ld85, ld85p, st3s, st4s, st22s, st23s, st24s, st26w, st28w, st42s, st45w, st49w, st85w, ix22, ix22p, ix23, ix23p, ix24, ix24p, ix31, ix31p, ix42, ix42p, ix104, ix104p, ln22, ln22p, ln23, ln23p, ln24, ln24p, ln31, ln31p, ln42, ln42p, al4, al22, al26, al28, al42, al49, al85, cf10, cf11, cf12, cf13, cf14, cf15, cf16, cf17, cf18, cf19, cf20, cf21, cf22, cf23, cf24, cf25, cf26, cf27, cf28, cf29, cf30, cf31, cf32, cf33, cf34, cf35, cf36, cf37, cf38, cf39, cf40, cf41, cf42, cf43, cf44, cf45, cf46, cf47, cf48, cf49, cf50, cf51, cf52, cf53, cf54, cf55, cf56, cf57, cf58, cf59, cf60, cf61, cf62, cf63, cf64, cf65, cf66, cf67, cf68, cf69, cf70, cf71, cf72, cf73, cf74, cf75, bd26_0_1_2_7_8_9_10_11_12_13_14_4_15, bd26_0_1_2_7_8_9_10_11_12_13_14_4_15p, bd28_, bd28_p, bd28_0, bd28_0p, bd28_0_1, bd28_0_1p, bd45_1_3_4_5_6, bd45_1_3_4_5_6p, bd49_0_1, bd49_0_1p, bd49_1, bd49_1p, bd74_0_1_2_3, bd74_0_1_2_3p, bd85_0, bd85_0p, bd85_0_1, bd85_0_1p, bd93_0_1_2, bd93_0_1_2p, bd94_0_1_2_3, bd94_0_1_2_3p, bs42_1_0, bs22_1_0, bs24_1_0, bs42_3_0_1_2, bs31_1_0, bs22_2_0_1, bs42_6_0_1_2_3_4_5, bs42_0_, eq4, eq4p, eq28, eq28p, eq42n, eq42np, eq42s, eq42sp, eq58n, eq58np, eq58s, eq58sp, eq63n, eq63np, eq63s, eq63sp, ne28, ne28p, ne45, ne45p, cx]
  refine (num_spec (c := c) (s.up l1 d1)).mono ?_
  rintro _ _ ⟨rfl, rfl⟩
  cases hc : inW w k c with
  | false =>
    try simp -implicitDefEqProofs only [numI_out hc, bin_lss, show decide ((-1 : Int) < 0) = true from rfl, pick_t, HL.cond_true, gd_tf]
    first | exact l1 | exact ⟨by simp, l1⟩
  | true =>
    obtain ⟨gp, kb, rfl, z2, zk, n0, n1⟩ := (s.up l1 d1).kind hc
    try simp -implicitDefEqProofs only [true_and, bin_lss, show decide (numI w k c < 0) = false from decide_eq_false (by omega), pick_f, gd_ff, opH_sv, opH_nil, fa93_2, add_mk, Nat.zero_add, ld42, z2, Option.some.injEq, exists_eq_left', ix57k n0 n1, ld3, zk]
    have hb : -10 ≤ fAt f c ∧ fAt f c ≤ 1000 := hf _ _
    by_cases h2 : fAt f c < 1
    · try simp -implicitDefEqProofs only [decide_eq_true h2, HL.cond_true]
      exact ⟨by rw [if_neg (by omega)], l1⟩
    · try simp -implicitDefEqProofs only [decide_eq_false h2, HL.cond_false]
      unfold S34_k1
      try simp -implicitDefEqProofs (disch := first | with_reducible exact Nat.ne_of_beq_eq_false rfl | omega) only [upd_ne, regs0, upd_eq, retK_ret, resL_tmp, resL_nil1, opH_sv, opH_nil, fa93_2, add_mk, Nat.zero_add, ld42, z2, Option.some.injEq, exists_eq_left', ix57k n0 n1, ld3, zk, bin_sub, wrap_in]
      exact ⟨by rw [if_pos (by omega)], l1⟩

def Bd (x : Int) : Prop := -9223372036854775808 ≤ x ∧ x ≤ 9223372036854775807
def PB (p : Pose) : Prop := Bd p.x ∧ Bd p.y

theorem cells_spec {G h : Hp} {g : Value} {p : Pose} (st : Steps G) (hp : PB p) : HCalls Tryd.prog G 73 #[g, poseV p] h (fun u h' => ∃ b, u = .slice (some ⟨b, 0, none⟩) 2 2 ∧ h b = none ∧ G b = none ∧ h' = h.set b (.cells #[.int .i64 p.x, .int .i64 p.y, .int .i64 (east p).1, .int .i64 (east p).2] 28 (0, 0))) := by
  obtain ⟨⟨p1, p2⟩, p3, p4⟩ := hp
  refine HCalls.assume fun d => HCalls.less (enter73 (by simp) (R := fun u h' => ∃ b, u = .slice (some ⟨b, 0, none⟩) 2 2 ∧ h b = none ∧ G b = none ∧ (h.set b (.cells #[.int .i64 p.x, .int .i64 p.y, .int .i64 (east p).1, .int .i64 (east p).2] 28 (0, 0))).le h') ?_) ?_
  rotate_left
  · rintro v h' ⟨b, e, h1, h2, h3⟩
    exact ⟨_, h3, b, e, h1, h2, rfl⟩
  unfold S73
  simp -implicitDefEqProofs only [regs1, opH_su, opH_sv, al28, box_new, cells_agg, fa85_1, add_mk, Nat.zero_add, ld4]
  intro x hx gx
  generalize e1 : Hp.set h x _ = h1
  obtain ⟨l1, d1, b1⟩ := boxed e1 hx d gx
  have c0 := fun j => st.cell d1 j
  try simp -implicitDefEqProofs only [ix81 (by decide : (0 : Int) ≤ 1) (by decide : (1 : Int) < (4 : Nat)), Int.toNat_one, Nat.one_mul, add_mk, Nat.zero_add, ld28, Nat.add_zero, c0, stepL, List.getElem?_cons_succ, List.getElem?_cons_zero, Option.some.injEq, Nat.reduceAdd, exists_eq_left', st28w]
  intro y hy gy
  generalize e2 : Hp.set h1 y _ = h2
  obtain ⟨l2, d2, b2⟩ := boxed e2 hy d1 gy
  have cx : ∀ j, cellIn G h2 ⟨x, j, none⟩ = _ := fun j => cell_of (look_own (l2 _ _ b1))
  have cy : ∀ j, cellIn G h2 ⟨y, j, none⟩ = _ := fun j => cell_of (look_own b2)
  have L := l1.trans l2
  try simp -implicitDefEqProofs only [cx, List.getElem?_cons_succ, List.getElem?_cons_zero, Option.some.injEq, exists_eq_left']
  unfold east wr
  cases hd : p.d with
  | false =>
    try simp -implicitDefEqProofs only [HL.cond_false]
    unfold S73_k1
    try simp -implicitDefEqProofs (disch := first | with_reducible exact Nat.ne_of_beq_eq_false rfl | omega) only [upd_ne, upd_eq, retK_ret, resL_tmp, resL_nil1, opH_sv, fa28_1, add_mk, Nat.zero_add, ld3, fa85_0, Nat.add_zero, fa28_0, ld28, cx, List.getElem?_cons_zero, Option.some.injEq, List.getElem?_cons_succ, cy, exists_eq_left', bin_add, wrap_in, bd28_0_1, bs22_2_0_1]
    rw [show (p.y + 0 : Int) = p.y by omega]
    intro b hb gb
    exact ⟨b, rfl, L.none hb, gb, L.both⟩
  | true =>
    have c2 := fun j => st.cell d2 j
    try simp -implicitDefEqProofs only [if_true, ix81 (by decide : (0 : Int) ≤ 2) (by decide : (2 : Int) < (4 : Nat)), show Int.toNat 2 = 2 from rfl, Nat.reduceMul, add_mk, Nat.zero_add, ld28, Nat.add_zero, c2, stepL, List.getElem?_cons_succ, List.getElem?_cons_zero, Option.some.injEq, Nat.reduceAdd, exists_eq_left', HL.cond_true]
    rw [store_eq sz28 b2 (by simp [cells_agg]) (by simp) (by simp [cells_agg, oneCell])]
    have nxy : x ≠ y := ne_of_new b1 hy
    generalize e3 : Hp.set h2 y _ = h3
    have cx3 : ∀ j, cellIn G h3 ⟨x, j, none⟩ = [Value.int .i64 p.x, .int .i64 p.y, .bool p.d][j]? := fun j => by rw [← e3, cell_set_other nxy]; exact cx j
    have cy3 : ∀ j, cellIn G h3 ⟨y, j, none⟩ = [Value.int .i64 0, .int .i64 1][j]? := fun j => by rw [← e3, cell_of (look_own set_self)]; first | rfl | simp [putL, cells_agg]
    have L3 : h.le h3 := by
      rw [← e3]
      exact L.set (l1.none hy)
    unfold S73_k1
    try simp -implicitDefEqProofs (disch := first | with_reducible exact Nat.ne_of_beq_eq_false rfl | omega) only [upd_ne, upd_eq, retK_ret, resL_tmp, resL_nil1, opH_sv, fa28_1, add_mk, Nat.zero_add, ld3, fa85_0, Nat.add_zero, fa28_0, ld28, cx3, List.getElem?_cons_zero, Option.some.injEq, List.getElem?_cons_succ, cy3, exists_eq_left', bin_add, wrap_in, bd28_0_1, bs22_2_0_1]
    rw [show (p.x + 0 : Int) = p.x by omega]
    intro b hb gb
    exact ⟨b, rfl, L3.none hb, gb, L3.both⟩

end Go.Proofs.YtangejiigopdaaaDoor
end

section
/- The program's grid is laid: blocked cells and ports. -/
set_option linter.unusedSimpArgs false
set_option linter.unusedVariables false
set_option maxRecDepth 100000
namespace Go.Proofs.YtangejiigopdaaaDoor
open Go Go.HL

def fitsW (w k : Nat) (f : Nat → Nat → Int) (p : Pose) : Bool := openW w k f (p.x, p.y) && openW w k f (east p)

theorem fits_spec {G h : Hp} {g : Value} {w k : Nat} {f : Nat → Nat → Int} {p : Pose} (s : GS G h g w k f) (st : Steps G) (hp : PB p) : HCalls Tryd.prog G 72 #[g, poseV p] h (fun u h' => u = .bool (fitsW w k f p) ∧ h' = h) := by
  refine HCalls.assume fun d => quietly (enter72 (by simp) ?_)
  unfold S72
  simp -implicitDefEqProofs only [regs1, regs0, retK_ret, resL_tmp, upd_eq, resL_nil1, cf75, opH_sv, cf73, box_new, cells_agg, ld85, add_mk, Nat.add_zero, cell_set_self, List.getElem?_cons_zero, Option.some.injEq, Nat.zero_add, List.getElem?_cons_succ, exists_eq_left']
  intro x hx gx
  generalize e1 : Hp.set h x _ = h1
  obtain ⟨l1, d1, b1⟩ := boxed e1 hx d gx
  have cx : ∀ j, cellIn G h1 ⟨x, j, none⟩ = _ := fun j => cell_of (look_own b1)
  try simp -implicitDefEqProofs only [opH_sv, opH_su, pureW_sv, opH_nil, pureW_nil, pick_t, pick_f, pick_tp, pick_fp, gd_tt, gd_ft, gd_tf, gd_ff, box_new, regs0, regs1, regs2, regs3, regs4, regs5, regs6, cells_agg, cells_int, cells_bool, cells_ptr, cells_slice, cells_string, cells_func, cells_nilFunc, cells_map, retK_ret, retK_normal, resL_tmp, resL_cell, resL_nil0, resL_nil1, resL_nil2, resL_nil3, resC_ptr, ex0, ex1, ex2, ex0p, ex1p, ex2p, HL.cond_true, HL.cond_false, thenK_normal, thenK_ret, thenK_exit, blockK_normal, blockK_ret, blockK_exit, scopeK_normal, scopeK_ret, scopeK_exit, wpH_pure, bin_add, bin_sub, bin_mul, bin_lss, bin_leq, bin_gtr, bin_geq, bin_quo, bin_rem, bin_quop, bin_remp, wrap_in, bin_addp, bin_subp, bin_mulp, bin_lssp, bin_leqp, bin_gtrp, bin_geqp, un_not, un_notp, un_neg, eq_int, ne_int, eq_intp, ne_intp, callV_fn, add_mk, upd_eq, upd_ne, cell_set_self, Nat.zero_add, Nat.add_zero, Option.some.injEq, exists_eq_left', List.getElem?_cons_succ, List.getElem?_cons_zero, true_and, and_true, bne_self_eq_false, beq_self_eq_true, Bool.not_true, Bool.not_false, Bool.and_true, Bool.and_self, Bool.and_false, Bool.true_and, List.length_cons, List.length_nil, ne_eq, not_false_eq_true, Nat.reduceAdd, Nat.reduceMul, if_true, if_false, oneCell_int, oneCell_bool, oneCell_ptr, oneCell_slice, oneCell_string, oneCell_func, oneCell_map, Int.toNat_natCast, List.set_cons_zero, List.set_cons_succ, Nat.lt_irrefl, Nat.zero_lt_succ, Nat.succ_lt_succ_iff, fa26_0, fa26_0p, fa26_1, fa26_1p, fa26_10, fa26_10p, fa26_11, fa26_11p, fa26_12, fa26_12p, fa26_13, fa26_13p, fa26_14, fa26_14p, fa26_15, fa26_15p, fa26_2, fa26_2p, fa26_3, fa26_3p, fa26_4, fa26_4p, fa26_5, fa26_5p, fa26_6, fa26_6p, fa26_7, fa26_7p, fa26_8, fa26_8p, fa26_9, fa26_9p, fa28_0, fa28_0p, fa28_1, fa28_1p, fa45_0, fa45_0p, fa45_1, fa45_1p, fa45_2, fa45_2p, fa45_3, fa45_3p, fa45_4, fa45_4p, fa45_5, fa45_5p, fa45_6, fa45_6p, fa49_0, fa49_0p, fa49_1, fa49_1p, fa74_0, fa74_0p, fa74_1, fa74_1p, fa74_2, fa74_2p, fa74_3, fa74_3p, fa85_0, fa85_0p, fa85_1, fa85_1p, fa93_0, fa93_0p, fa93_1, fa93_1p, fa93_2, fa93_2p, ld3, ld3p, ld4, ld4p, ld22, ld22p, ld23, ld23p, ld24, ld24p, ld26, ld26p, ld28, ld28p, ld42, ld42p, ld45, ld45p, ld49, ld49p, ld58, ld58p, ld69, ld69p, ld72, ld72p, ld85, ld85p, st3s, st4s, st22s, st23s, st24s, st26w, st28w, st42s, st45w, st49w, st85w, ix22, ix22p, ix23, ix23p, ix24, ix24p, ix31, ix31p, ix42, ix42p, ix104, ix104p, ln22, ln22p, ln23, ln23p, ln24, ln24p, ln31, ln31p, ln42, ln42p, al4, al22, al26, al28, al42, al49, al85, cf10, cf11, cf12, cf13, cf14, cf15, cf16, cf17, cf18, cf19, cf20, cf21, cf22, cf23, cf24, cf25, cf26, cf27, cf28, cf29, cf30, cf31, cf32, cf33, cf34, cf35, cf36, cf37, cf38, cf39, cf40, cf41, cf42, cf43, cf44, cf45, cf46, cf47, cf48, cf49, cf50, cf51, cf52, cf53, cf54, cf55, cf56, cf57, cf58, cf59, cf60, cf61, cf62, cf63, cf64, cf65, cf66, cf67, cf68, cf69, cf70, cf71, cf72, cf73, cf74, cf75, bd26_0_1_2_7_8_9_10_11_12_13_14_4_15, bd26_0_1_2_7_8_9_10_11_12_13_14_4_15p, bd28_, bd28_p, bd28_0, bd28_0p, bd28_0_1, bd28_0_1p, bd45_1_3_4_5_6, bd45_1_3_4_5_6p, bd49_0_1, bd49_0_1p, bd49_1, bd49_1p, bd74_0_1_2_3, bd74_0_1_2_3p, bd85_0, bd85_0p, bd85_0_1, bd85_0_1p, bd93_0_1_2, bd93_0_1_2p, bd94_0_1_2_3, bd94_0_1_2_3p, bs42_1_0, bs22_1_0, bs24_1_0, bs42_3_0_1_2, bs31_1_0, bs22_2_0_1, bs42_6_0_1_2_3_4_5, bs42_0_, eq4, eq4p, eq28, eq28p, eq42n, eq42np, eq42s, eq42sp, eq58n, eq58np, eq58s, eq58sp, eq63n, eq63np, eq63s, eq63sp, ne28, ne28p, ne45, ne45p, cx]
  refine (cells_spec (g := g) (p := p) st hp).mono ?_
  rintro _ _ ⟨b, rfl, hb, gb, rfl⟩
  generalize e3 : Hp.set h1 b _ = h3
  obtain ⟨l3, d3, b3⟩ := boxed e3 hb d1 gb
  have L := l1.trans l3
  have cb3 : ∀ k, cellIn G h3 ⟨b, k, none⟩ = _ := fun k => cell_of (look_own b3)
  try simp -implicitDefEqProofs only [ix22 (by decide : (0 : Int) ≤ 0) (by decide : (0 : Int) < (2 : Nat)), Int.toNat_zero, Nat.zero_mul, add_mk, Nat.add_zero, ld28, cb3, List.getElem?_cons_zero, Option.some.injEq, Nat.zero_add, List.getElem?_cons_succ, exists_eq_left']
  refine (open_spec (c := (p.x, p.y)) (s.up L d3)).mono ?_
  rintro _ _ ⟨rfl, rfl⟩
  unfold fitsW
  cases hc : openW w k f (p.x, p.y) with
  | false => simp -implicitDefEqProofs only [pick_f, gd_ft]; exact ⟨rfl, L⟩
  | true =>
  try simp -implicitDefEqProofs only [Bool.true_and, pick_t, gd_tt, cf75, opH_sv, ix22 (by decide : (0 : Int) ≤ 1) (by decide : (1 : Int) < (2 : Nat)), Int.toNat_one, Nat.one_mul, add_mk, Nat.zero_add, ld28, Nat.add_zero, Nat.reduceAdd, cb3, List.getElem?_cons_succ, List.getElem?_cons_zero, Option.some.injEq, exists_eq_left']
  refine (open_spec (c := east p) (s.up L d3)).mono ?_
  rintro _ _ ⟨rfl, rfl⟩
  try simp -implicitDefEqProofs only [true_and]
  first | exact L | exact ⟨by simp, L⟩

/-- A row with one element turned. -/
theorem rows_set {α : Type} (c : Cod α) (hn : c.n = 1) {L : List α} {i : Nat} {x : α} {v : Value} (hv : c.enc x = [v]) (hi : i < L.length) : (c.rows L).set i v = c.rows (L.set i x) := by
  have h := c.rows_put (t := []) (x := x) hi
  rw [List.append_nil, List.append_nil, hn, Nat.mul_one, hv] at h
  rw [← h, putL_eq _ _ _ (by rw [c.rows_length, hn]; simp; omega)]
  rw [List.set_eq_take_append_cons_drop, if_pos (by rw [c.rows_length, hn]; omega)]
  simp

theorem rows_one_get {α : Type} (c : Cod α) (hn : c.n = 1) {L : List α} {i : Nat} {x : α} {v : Value} (hv : c.enc x = [v]) (hx : L[i]? = some x) : (c.rows L)[i]? = some v := by
  have h := c.rows_get (t := []) (j := 0) hx (by omega)
  rw [List.append_nil, hn, Nat.mul_one, Nat.add_zero, hv] at h
  exact h

/-- The grid in a piece of one's own: its head at gp, its kinds at kb. -/
structure GO (a : Hp) (gp kb : Nat) (w k : Nat) (f : Nat → Nat → Int) : Prop where
  hd : a gp = some (.cells #[.int .i64 w, .int .i64 k, .slice (some ⟨kb, 0, none⟩) (w * k) (w * k)] 93 (0, 0))
  row : a kb = some (.cells (icC.rows (gridL w k f)).toArray 3 (0, 0))
  w1 : 1 ≤ w
  w2 : w ≤ 16
  k1 : 1 ≤ k
  k2 : k ≤ 16

theorem GO.ne {a : Hp} {gp kb w k : Nat} {f : Nat → Nat → Int} (g : GO a gp kb w k f) : gp ≠ kb := fun e => by
  have h1 := g.hd
  have h2 := g.row
  rw [e, h2] at h1
  simp at h1
theorem GO.le {a h : Hp} {gp kb w k : Nat} {f : Nat → Nat → Int} (g : GO a gp kb w k f) (l : a.le h) : GO h gp kb w k f := ⟨l _ _ g.hd, l _ _ g.row, g.w1, g.w2, g.k1, g.k2⟩
theorem GO.gs {G a : Hp} {gp kb w k : Nat} {f : Nat → Nat → Int} (g : GO a gp kb w k f) : GS G a (.pointer (some ⟨gp, 0, none⟩)) w k f :=
  ⟨⟨gp, kb, rfl, fun j hj => cell_of (look_own g.hd), fun n x hx => by rw [cell_of (look_own g.row)]; exact rows_one_get icC rfl rfl hx⟩, g.w1, g.w2, g.k1, g.k2⟩
/-- One cell's kind turned. -/
theorem GO.put {a : Hp} {gp kb w k : Nat} {f : Nat → Nat → Int} (g : GO a gp kb w k f) {x y : Nat} {v : Int} (hx : x < w) (hy : y < k) :
    GO (a.set kb (.cells ((icC.rows (gridL w k f)).set (y * w + x) (.int .i64 v)).toArray 3 (0, 0))) gp kb w k (fun p q => if p = x ∧ q = y then v else f p q) := by
  refine ⟨by rw [set_other g.ne]; exact g.hd, ?_, g.w1, g.w2, g.k1, g.k2⟩
  rw [set_self, rows_set icC rfl (x := v) rfl, gridL_set hx]
  rw [gridL_length]
  have : (y + 1) * w ≤ k * w := Nat.mul_le_mul_right _ hy
  rw [Nat.succ_mul] at this
  rw [Nat.mul_comm w k]; omega

/-- A row of marks. -/
def MK (a : Hp) (mb w k : Nat) (f : Nat → Nat → Bool) : Prop := a mb = some (.cells (bcC.rows (gridL w k f)).toArray 4 (0, 0))
theorem MK.put {a : Hp} {mb w k : Nat} {f : Nat → Nat → Bool} (g : MK a mb w k f) {x y : Nat} {v : Bool} (hx : x < w) (hy : y < k) :
    MK (a.set mb (.cells ((bcC.rows (gridL w k f)).set (y * w + x) (.bool v)).toArray 4 (0, 0))) mb w k (fun p q => if p = x ∧ q = y then v else f p q) := by
  unfold MK
  rw [set_self, rows_set bcC rfl (x := v) rfl, gridL_set hx]
  rw [gridL_length]
  have : (y + 1) * w ≤ k * w := Nat.mul_le_mul_right _ hy
  rw [Nat.succ_mul] at this
  rw [Nat.mul_comm w k]; omega

theorem numI_nat {w k : Nat} {c : Cell} (hc : inW w k c = true) : numI w k c = ((c.2.toNat * w + c.1.toNat : Nat) : Int) ∧ c.1.toNat < w ∧ c.2.toNat < k ∧ c.2.toNat * w + c.1.toNat < w * k := by
  obtain ⟨a1, a2, a3, a4⟩ := inW_iff.1 hc
  refine ⟨?_, by omega, by omega, ?_⟩
  · unfold numI
    rw [if_pos hc]
    rw [Int.natCast_add, Int.natCast_mul, Int.toNat_of_nonneg a1, Int.toNat_of_nonneg a3]
  · have : (c.2.toNat + 1) * w ≤ k * w := Nat.mul_le_mul_right _ (by omega)
    rw [Nat.succ_mul] at this
    rw [Nat.mul_comm w k]; omega

/-- What lies at a cell when those of T were put down, the first nb of them blocked. -/
def kd (T : List Cell) (nb : Nat) (x y : Nat) : Int := if ((x : Int), (y : Int)) ∈ T then (if T.idxOf ((x : Int), (y : Int)) < nb then -1 else (T.idxOf ((x : Int), (y : Int)) : Int) - nb + 1) else 0
def seenT (T : List Cell) (x y : Nat) : Bool := decide (((x : Int), (y : Int)) ∈ T)

theorem kd_snoc {T : List Cell} {nb : Nat} {c : Cell} (hc : c ∉ T) (h1 : 0 ≤ c.1) (h2 : 0 ≤ c.2) : kd (T ++ [c]) nb = fun p q => if p = c.1.toNat ∧ q = c.2.toNat then (if T.length < nb then -1 else (T.length : Int) - nb + 1) else kd T nb p q := by
  funext p q
  unfold kd
  by_cases hpq : p = c.1.toNat ∧ q = c.2.toNat
  · have e : ((p : Int), (q : Int)) = c := by rw [hpq.1, hpq.2, Int.toNat_of_nonneg h1, Int.toNat_of_nonneg h2]
    rw [if_pos hpq, e, if_pos (by simp), List.idxOf_append, if_neg hc, List.idxOf_cons_self, Nat.zero_add]
  · have e : ((p : Int), (q : Int)) ≠ c := fun e => hpq (by rw [← e]; simp)
    rw [if_neg hpq]
    by_cases hm : ((p : Int), (q : Int)) ∈ T
    · rw [if_pos (by simp [hm]), if_pos hm, List.idxOf_append, if_pos hm]
    · rw [if_neg (by simp [hm, e]), if_neg hm]
theorem seen_snoc {T : List Cell} {c : Cell} (h1 : 0 ≤ c.1) (h2 : 0 ≤ c.2) : seenT (T ++ [c]) = fun p q => if p = c.1.toNat ∧ q = c.2.toNat then true else seenT T p q := by
  funext p q
  unfold seenT
  by_cases hpq : p = c.1.toNat ∧ q = c.2.toNat
  · have e : ((p : Int), (q : Int)) = c := by rw [hpq.1, hpq.2, Int.toNat_of_nonneg h1, Int.toNat_of_nonneg h2]
    rw [if_pos hpq, e]; simp
  · have e : ((p : Int), (q : Int)) ≠ c := fun e => hpq (by rw [← e]; simp)
    rw [if_neg hpq]
    simp [e]

end Go.Proofs.YtangejiigopdaaaDoor
end

section
/- The program's grid is laid: the walk. -/
set_option linter.unusedSimpArgs false
set_option linter.unusedVariables false
set_option maxRecDepth 100000
namespace Go.Proofs.YtangejiigopdaaaDoor
open Go Go.HL

theorem list_spec {G h : Hp} {v : Value} {L : List Cell} (sv : Sees cellC G h v L) (hL : L.length ≤ 1000) : HCalls Tryd.prog G 71 #[v] h (fun u h' => ∃ b, Slc cellC 28 b u L ∧ Sep [b, h] h' ∧ Dis G h') := by
  obtain ⟨sa, cap, rfl⟩ := sv.len
  refine HCalls.assume fun d => enter71 (by simp) ?_
  unfold S71
  simp -implicitDefEqProofs only [regs0, retK_ret, resL_tmp, upd_eq, resL_nil1, opH_sv, ln22, eq_int]
  by_cases hL0 : L = []
  · subst hL0
    try simp -implicitDefEqProofs only [List.length_nil, show (((0 : Nat) : Int) == 0) = true from rfl, HL.cond_true]
    exact ⟨noHp, Slc.nil, Sep.one.none, d⟩
  · have hpos := List.length_pos_iff.2 hL0
    have e : ((L.length : Int) == 0) = false := by
      have : (L.length : Int) ≠ 0 := by omega
      simpa using this
    try simp -implicitDefEqProofs only [e, HL.cond_false]
    unfold S71_k1
    try simp -implicitDefEqProofs (disch := first | with_reducible exact Nat.ne_of_beq_eq_false rfl | omega) only [upd_ne, regs0, retK_ret, resL_tmp, upd_eq, resL_nil1, opH_sv, ln22]
    rw [make_eq cellC (0, 0) (by decide) un22 eocell (by kernel_rfl) (by omega) (by omega)]
    intro x hx gx
    have d1 := d.set (o := .cells (cellC.rows (List.replicate L.length (0, 0))).toArray 28 (0, 0)) gx
    rw [copy_row cellC (by decide) un22 eocell (L := L) set_self (by simp) (sv.up (le_set hx) d1) hL0 rfl, set_set]
    try simp -implicitDefEqProofs only [opH_sv, opH_su, pureW_sv, opH_nil, pureW_nil, pick_t, pick_f, pick_tp, pick_fp, gd_tt, gd_ft, gd_tf, gd_ff, box_new, regs0, regs1, regs2, regs3, regs4, regs5, regs6, cells_agg, cells_int, cells_bool, cells_ptr, cells_slice, cells_string, cells_func, cells_nilFunc, cells_map, retK_ret, retK_normal, resL_tmp, resL_cell, resL_nil0, resL_nil1, resL_nil2, resL_nil3, resC_ptr, ex0, ex1, ex2, ex0p, ex1p, ex2p, HL.cond_true, HL.cond_false, thenK_normal, thenK_ret, thenK_exit, blockK_normal, blockK_ret, blockK_exit, scopeK_normal, scopeK_ret, scopeK_exit, wpH_pure, bin_add, bin_sub, bin_mul, bin_lss, bin_leq, bin_gtr, bin_geq, bin_quo, bin_rem, bin_quop, bin_remp, wrap_in, bin_addp, bin_subp, bin_mulp, bin_lssp, bin_leqp, bin_gtrp, bin_geqp, un_not, un_notp, un_neg, eq_int, ne_int, eq_intp, ne_intp, callV_fn, add_mk, upd_eq, upd_ne, cell_set_self, Nat.zero_add, Nat.add_zero, Option.some.injEq, exists_eq_left', List.getElem?_cons_succ, List.getElem?_cons_zero, true_and, and_true, bne_self_eq_false, beq_self_eq_true, Bool.not_true, Bool.not_false, Bool.and_true, Bool.and_self, Bool.and_false, Bool.true_and, List.length_cons, List.length_nil, ne_eq, not_false_eq_true, Nat.reduceAdd, Nat.reduceMul, if_true, if_false, oneCell_int, oneCell_bool, oneCell_ptr, oneCell_slice, oneCell_string, oneCell_func, oneCell_map, Int.toNat_natCast, List.set_cons_zero, List.set_cons_succ, Nat.lt_irrefl, Nat.zero_lt_succ, Nat.succ_lt_succ_iff, fa26_0, fa26_0p, fa26_1, fa26_1p, fa26_10, fa26_10p, fa26_11, fa26_11p, fa26_12, fa26_12p, fa26_13, fa26_13p, fa26_14, fa26_14p, fa26_15, fa26_15p, fa26_2, fa26_2p, fa26_3, fa26_3p, fa26_4, fa26_4p, fa26_5, fa26_5p, fa26_6, fa26_6p, fa26_7, fa26_7p, fa26_8, fa26_8p, fa26_9, fa26_9p, fa28_0, fa28_0p, fa28_1, fa28_1p, fa45_0, fa45_0p, fa45_1, fa45_1p, fa45_2, fa45_2p, fa45_3, fa45_3p, fa45_4, fa45_4p, fa45_5, fa45_5p, fa45_6, fa45_6p, fa49_0, fa49_0p, fa49_1, fa49_1p, fa74_0, fa74_0p, fa74_1, fa74_1p, fa74_2, fa74_2p, fa74_3, fa74_3p, fa85_0, fa85_0p, fa85_1, fa85_1p, fa93_0, fa93_0p, fa93_1, fa93_1p, fa93_2, fa93_2p, ld3, ld3p, ld4, ld4p, ld22, ld22p, ld23, ld23p, ld24, ld24p, ld26, ld26p, ld28, ld28p, ld42, ld42p, ld45, ld45p, ld49, ld49p, ld58, ld58p, ld69, ld69p, ld72, ld72p, ld85, ld85p, st3s, st4s, st22s, st23s, st24s, st26w, st28w, st42s, st45w, st49w, st85w, ix22, ix22p, ix23, ix23p, ix24, ix24p, ix31, ix31p, ix42, ix42p, ix104, ix104p, ln22, ln22p, ln23, ln23p, ln24, ln24p, ln31, ln31p, ln42, ln42p, al4, al22, al26, al28, al42, al49, al85, cf10, cf11, cf12, cf13, cf14, cf15, cf16, cf17, cf18, cf19, cf20, cf21, cf22, cf23, cf24, cf25, cf26, cf27, cf28, cf29, cf30, cf31, cf32, cf33, cf34, cf35, cf36, cf37, cf38, cf39, cf40, cf41, cf42, cf43, cf44, cf45, cf46, cf47, cf48, cf49, cf50, cf51, cf52, cf53, cf54, cf55, cf56, cf57, cf58, cf59, cf60, cf61, cf62, cf63, cf64, cf65, cf66, cf67, cf68, cf69, cf70, cf71, cf72, cf73, cf74, cf75, bd26_0_1_2_7_8_9_10_11_12_13_14_4_15, bd26_0_1_2_7_8_9_10_11_12_13_14_4_15p, bd28_, bd28_p, bd28_0, bd28_0p, bd28_0_1, bd28_0_1p, bd45_1_3_4_5_6, bd45_1_3_4_5_6p, bd49_0_1, bd49_0_1p, bd49_1, bd49_1p, bd74_0_1_2_3, bd74_0_1_2_3p, bd85_0, bd85_0p, bd85_0_1, bd85_0_1p, bd93_0_1_2, bd93_0_1_2p, bd94_0_1_2_3, bd94_0_1_2_3p, bs42_1_0, bs22_1_0, bs24_1_0, bs42_3_0_1_2, bs31_1_0, bs22_2_0_1, bs42_6_0_1_2_3_4_5, bs42_0_, eq4, eq4p, eq28, eq28p, eq42n, eq42np, eq42s, eq42sp, eq58n, eq58np, eq58s, eq58sp, eq63n, eq63np, eq63s, eq63sp, ne28, ne28p, ne45, ne45p]
    exact ⟨noHp.set x _, ⟨some x, _, [], rfl, by rw [set_self, List.append_nil], by rw [List.append_nil, cellC.rows_length]⟩, Sep.one.new hx, d.set gx⟩

structure LaidOk (C : Conf) : Prop where
  w : withinB C.w 1 16 = true
  h : withinB C.h 1 16 = true
  po8 : C.po.length ≤ 8
  few : (C.bl.length : Int) ≤ C.w * C.h
  all : ∀ c ∈ C.bl ++ C.po, inW C.w.toNat C.h.toNat c = true
  once : (C.bl ++ C.po).Nodup

theorem ix101n {G h : Hp} {mb n : Nat} {i : Nat} {K : Value → Hp → Prop} (h2 : i < n) : wpH Tryd.prog G (Instr.indexAt 104 (.slice (some ⟨mb, 0, none⟩) n n) (.int .i64 (i : Int))) h K = K (.pointer (some ⟨mb, i, none⟩)) h := by
  rw [ix104 (by omega) (by omega)]; simp only [add_mk, Nat.zero_add, Nat.mul_one, Int.toNat_natCast]
theorem ix57n {G h : Hp} {kb n : Nat} {i : Nat} {K : Value → Hp → Prop} (h2 : i < n) : wpH Tryd.prog G (Instr.indexAt 42 (.slice (some ⟨kb, 0, none⟩) n n) (.int .i64 (i : Int))) h K = K (.pointer (some ⟨kb, i, none⟩)) h := by
  rw [ix42 (by omega) (by omega)]; simp only [add_mk, Nat.zero_add, Nat.mul_one, Int.toNat_natCast]
theorem ix57np {G h : Hp} {kb n : Nat} {i : Nat} {K : Value → Prop} (h2 : i < n) : pw Tryd.prog G h (Instr.indexAt 42 (.slice (some ⟨kb, 0, none⟩) n n) (.int .i64 (i : Int))) K = K (.pointer (some ⟨kb, i, none⟩)) := by
  rw [ix42p (by omega) (by omega)]; simp only [add_mk, Nat.zero_add, Nat.mul_one, Int.toNat_natCast]

theorem mk_get {G a h : Hp} {mb w k : Nat} {f : Nat → Nat → Bool} (m : MK a mb w k f) (l : a.le h) {x y : Nat} (hx : x < w) (hy : y < k) : cellIn G h ⟨mb, y * w + x, none⟩ = some (.bool (f x y)) := by
  rw [cell_of (look_own (l _ _ m))]
  exact rows_one_get bcC rfl rfl (gridL_get hx hy)

set_option maxHeartbeats 2000000 in
theorem laid_loop {G h1 : Hp} {C : Conf} {ab : Option Addr} {cb : Nat} {x gp kb mb w k : Nat} {ip : Hp} {iv : Value} {T : List Cell} {KK : Exit → Rg → Hp → Prop}
    (cx0 : ∀ h3, h1.le h3 → Dis G h3 → cellIn G h3 ⟨x, 3, none⟩ = some (.slice ab C.bl.length cb)) (hT : T.length ≤ 1000) (hB : C.bl.length ≤ 1000) (o : Slc cellC 28 ip iv T) (hk : 1 ≤ w ∧ w ≤ 16 ∧ 1 ≤ k ∧ k ≤ 16)
    (r : Rg) (h : Hp) (ga ma : Hp) (g1 : r 1 = .pointer (some ⟨x, 0, none⟩)) (g4 : r 4 = .pointer (some ⟨gp, 0, none⟩)) (g5 : r 5 = .slice (some ⟨mb, 0, none⟩) (w * k) (w * k)) (g59 : r 59 = iv) (g60 : r 60 = .int .i64 T.length) (g61 : r 61 = .int .i64 0)
    (go : GO ga gp kb w k (kd [] C.bl.length)) (mk : MK ma mb w k (seenT [])) (s : Sep [ga, ma, ip, h1] h) (d : Dis G h)
    (H1 : (∀ c ∈ T, inW w k c = true) → T.Nodup → ∀ (r' : Rg) h' ga', r' 4 = r 4 → GO ga' gp kb w k (kd T C.bl.length) → Sep [ga', h1] h' → Dis G h' → KK (.exit 0) r' h')
    (H2 : ¬ ((∀ c ∈ T, inW w k c = true) ∧ T.Nodup) → ∀ (r' : Rg) h', r' 2 = .pointer none → r' 3 = .bool false → h1.le h' → Dis G h' → KK .ret r' h') : loopP (S67_l3 G) r h KK := by
  obtain ⟨sa, cap, rfl, hcap⟩ := o.len (by decide)
  refine loop_I (fun m r2 h3 => ∃ (i : Nat) (ga ma : Hp), m = T.length - i ∧ i ≤ T.length ∧ r2 1 = r 1 ∧ r2 4 = r 4 ∧ r2 5 = r 5 ∧ r2 59 = r 59 ∧ r2 60 = r 60 ∧ r2 61 = .int .i64 i ∧ (∀ c ∈ T.take i, inW w k c = true) ∧ (T.take i).Nodup ∧
     GO ga gp kb w k (kd (T.take i) C.bl.length) ∧ MK ma mb w k (seenT (T.take i)) ∧ Sep [ga, ma, ip, h1] h3 ∧ Dis G h3) ?_
    (m := T.length) ⟨0, ga, ma, rfl, Nat.zero_le _, rfl, rfl, rfl, rfl, rfl, by rw [g61]; rfl, by simp, by simp, by simpa using go, by simpa using mk, s, d⟩
  rintro m r2 h3 ⟨i, ga, ma, rfl, hi, q1, q4, q5, q59, q60, q61, hin, hnd, go, mk, s3, d3⟩ X HX
  rw [g1] at q1
  rw [g4] at q4
  rw [g5] at q5
  rw [g59] at q59
  rw [g60] at q60
  unfold S67_l3
  simp -implicitDefEqProofs only [q61, q60, thenK_exit, opH_sv, bin_lss]
  refine cond_dec (fun hlt => ?_) (fun hge => ?_)
  rotate_left
  · obtain rfl : i = T.length := by omega
    rw [List.take_of_length_le (Nat.le_refl _)] at hin hnd go
    exact H1 hin hnd _ _ ga (by simp -implicitDefEqProofs (disch := first | with_reducible exact Nat.ne_of_beq_eq_false rfl | omega) only [upd_ne, q4, g4]) go ((s3.pick 3 rfl rfl).swap.take 2 rfl) d3
  have hlt' : i < T.length := by omega
  obtain ⟨y, hy⟩ : ∃ x, T[i]? = some x := ⟨_, List.getElem?_eq_getElem hlt'⟩
  obtain ⟨b, ofs, rfl, z0, z1⟩ := Sees.cell (G := G) (o.sees (by decide) (s3.in 2 rfl)) hy
  unfold S67_l3_k4
  simp -implicitDefEqProofs (disch := first | with_reducible exact Nat.ne_of_beq_eq_false rfl | omega) only [upd_ne, q59, q61, thenK_ret, opH_sv, cf58, opH_su, al28, ld28, add_mk, Nat.add_zero, Nat.zero_add, ix22 (Int.natCast_nonneg i) hlt, Int.toNat_natCast, z0, Option.some.injEq, z1, exists_eq_left', st28w, cell_set_self, List.getElem?_cons_zero, List.getElem?_cons_succ]
  intro t ht gt
  have s4 := s3.past (o := .cells #[.int .i64 y.1, .int .i64 y.2] 28 (0, 0)) ht
  have d4 := d3.set (o := .cells #[.int .i64 y.1, .int .i64 y.2] 28 (0, 0)) gt
  try simp -implicitDefEqProofs only [q4]
  generalize Hp.set h3 t _ = h4 at s4 d4 ⊢
  refine (num_spec (c := y) ((go.gs (G := G)).up s4.hd d4)).mono ?_
  rintro _ h4 ⟨rfl, rfl⟩
  have hyT : y ∈ T := List.mem_of_getElem? hy
  cases hc : inW w k y with
  | false =>
    try simp -implicitDefEqProofs (disch := first | with_reducible exact Nat.ne_of_beq_eq_false rfl | omega) only [numI_out hc, bin_lss, show decide ((-1 : Int) < 0) = true from rfl, pick_t, HL.cond_true, gd_tf]
    refine H2 (fun q => ?_) _ _ (by simp -implicitDefEqProofs (disch := first | with_reducible exact Nat.ne_of_beq_eq_false rfl | omega) only [upd_ne, upd_eq]) (by simp -implicitDefEqProofs only [upd_eq]) (s4.in 3 rfl) d4
    have := q.1 y hyT
    rw [hc] at this; cases this
  | true =>
  obtain ⟨hn, hx, hyk, hlt2⟩ := numI_nat hc
  have hxy : ((y.1.toNat : Int), (y.2.toNat : Int)) = y := by
    obtain ⟨a1, a2, a3, a4⟩ := inW_iff.1 hc
    rw [Int.toNat_of_nonneg a1, Int.toNat_of_nonneg a3]
  obtain ⟨a1, a2, a3, a4⟩ := inW_iff.1 hc
  have mg := mk_get (G := G) mk (s4.in 1 rfl) hx hyk
  rw [show seenT (T.take i) y.1.toNat y.2.toNat = decide (y ∈ T.take i) by unfold seenT; rw [hxy]] at mg
  rw [hn]
  generalize hnn : y.2.toNat * w + y.1.toNat = n at hn hlt2 mg
  try simp -implicitDefEqProofs only [q5, bin_lss, show decide ((n : Int) < 0) = false from decide_eq_false (by omega), pick_f, gd_ff, opH_sv, ix101n hlt2, ld4, mg, Option.some.injEq, exists_eq_left']
  by_cases hmem : y ∈ T.take i
  · try simp -implicitDefEqProofs (disch := first | with_reducible exact Nat.ne_of_beq_eq_false rfl | omega) only [decide_eq_true hmem, HL.cond_true]
    exact H2 (fun q => not_nodup hy hmem q.2) _ _ (by simp -implicitDefEqProofs (disch := first | with_reducible exact Nat.ne_of_beq_eq_false rfl | omega) only [upd_ne, upd_eq]) (by simp -implicitDefEqProofs only [upd_eq]) (s4.in 3 rfl) d4
  try simp -implicitDefEqProofs (disch := first | with_reducible exact Nat.ne_of_beq_eq_false rfl | omega) only [decide_eq_false hmem, HL.cond_false]
  unfold S67_l3_k6
  have mb4 := s4.at 1 rfl mk
  try simp -implicitDefEqProofs (disch := first | with_reducible exact Nat.ne_of_beq_eq_false rfl | omega) only [upd_ne, q5, upd_eq, opH_su, pureW_sv, opH_sv, ix101n hlt2]
  rw [store1_eq sz4 rfl mb4 (by rw [bcC.rows_length, gridL_length]; simp [bcC]; exact hlt2)]
  have s5 := (s4.pick 1 rfl rfl).put (o := .cells ((bcC.rows (gridL w k (seenT (T.take i)))).set n (.bool true)).toArray 4 (0, 0)) mk
  have d5 : Dis G (h4.set mb (.cells ((bcC.rows (gridL w k (seenT (T.take i)))).set n (.bool true)).toArray 4 (0, 0))) := d4.set (d4 _ _ mb4)
  generalize Hp.set h4 mb _ = h5 at s5 d5 ⊢
  have g5h := s5.at 1 rfl go.hd
  have cg5 : ∀ j, cellIn G h5 ⟨gp, j, none⟩ = _ := fun j => cell_of (look_own g5h)
  try simp -implicitDefEqProofs (disch := first | with_reducible exact Nat.ne_of_beq_eq_false rfl | omega) only [q4, pureW_nil, fa93_2p, add_mk, Nat.zero_add, ld42p, opH_nil, fa93_2, ld42, cg5, List.getElem?_cons_succ, List.getElem?_cons_zero, Option.some.injEq, exists_eq_left', ix57n hlt2]
  have kb5 := s5.at 1 rfl go.row
  rw [store1_eq sz3 rfl kb5 (by rw [icC.rows_length, gridL_length]; simp [icC]; exact hlt2)]
  have go6 := go.put (v := -1) hx hyk
  rw [hnn] at go6
  have s6 := (s5.pick 1 rfl rfl).put (o := .cells ((icC.rows (gridL w k (kd (T.take i) C.bl.length))).set n (.int .i64 (-1))).toArray 3 (0, 0)) go.row
  have d6 : Dis G (h5.set kb (.cells ((icC.rows (gridL w k (kd (T.take i) C.bl.length))).set n (.int .i64 (-1))).toArray 3 (0, 0))) := d5.set (d5 _ _ kb5)
  generalize Hp.set h5 kb _ = h6 at s6 d6 ⊢
  have c3 := cx0 h6 (s6.in 3 rfl) d6
  have mk6 := mk.put (v := true) hx hyk
  rw [hnn] at mk6
  have htl : (T.take i).length = i := by rw [List.length_take]; omega
  have next : ∀ (r3 : Rg) h7 ga7, r3 1 = r2 1 → r3 4 = r2 4 → r3 5 = r2 5 → r3 59 = r2 59 → r3 60 = r2 60 → r3 61 = r2 61 → GO ga7 gp kb w k (kd (T.take (i + 1)) C.bl.length) → Sep [ga7, ma.set mb (.cells ((bcC.rows (gridL w k (seenT (T.take i)))).set n (.bool true)).toArray 4 (0, 0)), ip, h1] h7 → Dis G h7 → S67_l3_k5 G (thenK X KK) r3 h7 := by
    intro r3 h7 ga7 w1 w4 w5 w59 w60 w61 go7 s7 d7
    unfold S67_l3_k5
    have w61' := w61.trans q61
    simp -implicitDefEqProofs (disch := first | with_reducible exact Nat.ne_of_beq_eq_false rfl | omega) only [w61', thenK_normal, opH_sv, bin_add, wrap_in]
    refine HX (T.length - (i + 1)) _ _ (by omega) ⟨i + 1, ga7, _, rfl, hlt', by simp -implicitDefEqProofs (disch := first | with_reducible exact Nat.ne_of_beq_eq_false rfl | omega) only [upd_ne, w1, q1, g1], by simp -implicitDefEqProofs (disch := first | with_reducible exact Nat.ne_of_beq_eq_false rfl | omega) only [upd_ne, w4, q4, g4], by simp -implicitDefEqProofs (disch := first | with_reducible exact Nat.ne_of_beq_eq_false rfl | omega) only [upd_ne, w5, q5, g5], by simp -implicitDefEqProofs (disch := first | with_reducible exact Nat.ne_of_beq_eq_false rfl | omega) only [upd_ne, w59, q59, g59], by simp -implicitDefEqProofs (disch := first | with_reducible exact Nat.ne_of_beq_eq_false rfl | omega) only [upd_ne, w60, q60, g60], by simp -implicitDefEqProofs (disch := first | with_reducible exact Nat.ne_of_beq_eq_false rfl | omega) only [upd_eq] <;> rfl, ?_, nodup_take_succ hy hnd hmem, go7, ?_, s7, d7⟩
    · rw [take_get hy]
      intro c hc'
      rcases List.mem_append.1 hc' with q | q
      · exact hin c q
      · simp at q; rw [q]; exact hc
    · rw [take_get hy, seen_snoc a1 a3]
      exact mk6
  have kds := kd_snoc (nb := C.bl.length) hmem a1 a3
  rw [← take_get hy, htl] at kds
  try simp -implicitDefEqProofs (disch := first | with_reducible exact Nat.ne_of_beq_eq_false rfl | omega) only [q1, fa26_3p, add_mk, Nat.zero_add, ld22p, fa26_3, ld22, c3, Option.some.injEq, exists_eq_left', ln22, bin_geq, ln22p, bin_subp, wrap_in, bin_addp]
  by_cases hib : i < C.bl.length
  · have e : decide ((i : Int) ≥ (C.bl.length : Int)) = false := decide_eq_false (by omega)
    try simp -implicitDefEqProofs (disch := first | with_reducible exact Nat.ne_of_beq_eq_false rfl | omega) only [e, HL.cond_false]
    refine next _ _ _ (by simp -implicitDefEqProofs (disch := first | with_reducible exact Nat.ne_of_beq_eq_false rfl | omega) only [upd_ne, q1]) (by simp -implicitDefEqProofs (disch := first | with_reducible exact Nat.ne_of_beq_eq_false rfl | omega) only [upd_ne, q4]) (by simp -implicitDefEqProofs (disch := first | with_reducible exact Nat.ne_of_beq_eq_false rfl | omega) only [upd_ne, q5]) (by simp -implicitDefEqProofs (disch := first | with_reducible exact Nat.ne_of_beq_eq_false rfl | omega) only [upd_ne, q59]) (by simp -implicitDefEqProofs (disch := first | with_reducible exact Nat.ne_of_beq_eq_false rfl | omega) only [upd_ne, q60]) (by simp -implicitDefEqProofs (disch := first | with_reducible exact Nat.ne_of_beq_eq_false rfl | omega) only [upd_ne, q61]) ?_ (s6.swap.swap) d6
    rw [kds, if_pos hib]
    exact go6
  · have e : decide ((i : Int) ≥ (C.bl.length : Int)) = true := decide_eq_true (by omega)
    have g6h := s6.at 0 rfl go6.hd
    have cg6 : ∀ j, cellIn G h6 ⟨gp, j, none⟩ = _ := fun j => cell_of (look_own g6h)
    try simp -implicitDefEqProofs (disch := first | with_reducible exact Nat.ne_of_beq_eq_false rfl | omega) only [e, cg6, List.getElem?_cons_succ, List.getElem?_cons_zero, Option.some.injEq, exists_eq_left', ix57np hlt2, HL.cond_true]
    have kb6 := s6.at 0 rfl go6.row
    rw [store1_eq sz3 rfl kb6 (by rw [icC.rows_length, gridL_length]; simp [icC]; exact hlt2)]
    have go7 := go6.put (v := (i : Int) - C.bl.length + 1) hx hyk
    rw [hnn] at go7
    have s7 := s6.put (o := .cells ((icC.rows (gridL w k fun p q => if p = y.1.toNat ∧ q = y.2.toNat then -1 else kd (T.take i) C.bl.length p q)).set n (.int .i64 ((i : Int) - C.bl.length + 1))).toArray 3 (0, 0)) go6.row
    refine next _ _ _ (by simp -implicitDefEqProofs (disch := first | with_reducible exact Nat.ne_of_beq_eq_false rfl | omega) only [upd_ne, q1]) (by simp -implicitDefEqProofs (disch := first | with_reducible exact Nat.ne_of_beq_eq_false rfl | omega) only [upd_ne, q4]) (by simp -implicitDefEqProofs (disch := first | with_reducible exact Nat.ne_of_beq_eq_false rfl | omega) only [upd_ne, q5]) (by simp -implicitDefEqProofs (disch := first | with_reducible exact Nat.ne_of_beq_eq_false rfl | omega) only [upd_ne, q59]) (by simp -implicitDefEqProofs (disch := first | with_reducible exact Nat.ne_of_beq_eq_false rfl | omega) only [upd_ne, q60]) (by simp -implicitDefEqProofs (disch := first | with_reducible exact Nat.ne_of_beq_eq_false rfl | omega) only [upd_ne, q61]) ?_ s7 (d6.set (d6 _ _ kb6))
    rw [kds, if_neg hib]
    have e2 : (fun p q => if p = y.1.toNat ∧ q = y.2.toNat then (i : Int) - C.bl.length + 1 else if p = y.1.toNat ∧ q = y.2.toNat then -1 else kd (T.take i) C.bl.length p q) = fun p q => if p = y.1.toNat ∧ q = y.2.toNat then (i : Int) - C.bl.length + 1 else kd (T.take i) C.bl.length p q := by
      funext p q
      by_cases h : p = y.1.toNat ∧ q = y.2.toNat <;> simp [h]
    rw [← e2]
    exact go7

end Go.Proofs.YtangejiigopdaaaDoor
end
