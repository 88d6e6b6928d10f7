/- A text of the proofs. -/
import Derived.Test.YtbloobepmgmbgaaH2
import Derived.Test.YtbloobepmgmbgaaProg
namespace Go.Proofs.Ytbloobepmgmbgaa
open Go Go.HL
theorem mixed : Try.prog.follows .mixedOrders = true := by kernel_rfl
theorem fa30_0 {G h : Hp} {a : Addr} {K : Value → Hp → Prop} : wpH Try.prog G (Instr.fieldAt 30 (.pointer (some a)) 0) h K = K (.pointer (some (a.add 0))) h := by kernel_rfl
theorem fa30_0p {G h : Hp} {a : Addr} {K : Value → Prop} : pw Try.prog G h (Instr.fieldAt 30 (.pointer (some a)) 0) K = K (.pointer (some (a.add 0))) := by kernel_rfl
theorem fa30_1 {G h : Hp} {a : Addr} {K : Value → Hp → Prop} : wpH Try.prog G (Instr.fieldAt 30 (.pointer (some a)) 1) h K = K (.pointer (some (a.add 1))) h := by kernel_rfl
theorem fa30_1p {G h : Hp} {a : Addr} {K : Value → Prop} : pw Try.prog G h (Instr.fieldAt 30 (.pointer (some a)) 1) K = K (.pointer (some (a.add 1))) := by kernel_rfl
theorem fa30_2 {G h : Hp} {a : Addr} {K : Value → Hp → Prop} : wpH Try.prog G (Instr.fieldAt 30 (.pointer (some a)) 2) h K = K (.pointer (some (a.add 2))) h := by kernel_rfl
theorem fa30_2p {G h : Hp} {a : Addr} {K : Value → Prop} : pw Try.prog G h (Instr.fieldAt 30 (.pointer (some a)) 2) K = K (.pointer (some (a.add 2))) := by kernel_rfl
theorem fa35_0 {G h : Hp} {a : Addr} {K : Value → Hp → Prop} : wpH Try.prog G (Instr.fieldAt 35 (.pointer (some a)) 0) h K = K (.pointer (some (a.add 0))) h := by kernel_rfl
theorem fa35_0p {G h : Hp} {a : Addr} {K : Value → Prop} : pw Try.prog G h (Instr.fieldAt 35 (.pointer (some a)) 0) K = K (.pointer (some (a.add 0))) := by kernel_rfl
theorem fa35_1 {G h : Hp} {a : Addr} {K : Value → Hp → Prop} : wpH Try.prog G (Instr.fieldAt 35 (.pointer (some a)) 1) h K = K (.pointer (some (a.add 1))) h := by kernel_rfl
theorem fa35_1p {G h : Hp} {a : Addr} {K : Value → Prop} : pw Try.prog G h (Instr.fieldAt 35 (.pointer (some a)) 1) K = K (.pointer (some (a.add 1))) := by kernel_rfl
theorem fa35_2 {G h : Hp} {a : Addr} {K : Value → Hp → Prop} : wpH Try.prog G (Instr.fieldAt 35 (.pointer (some a)) 2) h K = K (.pointer (some (a.add 2))) h := by kernel_rfl
theorem fa35_2p {G h : Hp} {a : Addr} {K : Value → Prop} : pw Try.prog G h (Instr.fieldAt 35 (.pointer (some a)) 2) K = K (.pointer (some (a.add 2))) := by kernel_rfl
theorem fa51_0 {G h : Hp} {a : Addr} {K : Value → Hp → Prop} : wpH Try.prog G (Instr.fieldAt 51 (.pointer (some a)) 0) h K = K (.pointer (some (a.add 0))) h := by kernel_rfl
theorem fa51_0p {G h : Hp} {a : Addr} {K : Value → Prop} : pw Try.prog G h (Instr.fieldAt 51 (.pointer (some a)) 0) K = K (.pointer (some (a.add 0))) := by kernel_rfl
theorem fa51_1 {G h : Hp} {a : Addr} {K : Value → Hp → Prop} : wpH Try.prog G (Instr.fieldAt 51 (.pointer (some a)) 1) h K = K (.pointer (some (a.add 1))) h := by kernel_rfl
theorem fa51_1p {G h : Hp} {a : Addr} {K : Value → Prop} : pw Try.prog G h (Instr.fieldAt 51 (.pointer (some a)) 1) K = K (.pointer (some (a.add 1))) := by kernel_rfl
theorem fa51_2 {G h : Hp} {a : Addr} {K : Value → Hp → Prop} : wpH Try.prog G (Instr.fieldAt 51 (.pointer (some a)) 2) h K = K (.pointer (some (a.add 2))) h := by kernel_rfl
theorem fa51_2p {G h : Hp} {a : Addr} {K : Value → Prop} : pw Try.prog G h (Instr.fieldAt 51 (.pointer (some a)) 2) K = K (.pointer (some (a.add 2))) := by kernel_rfl
theorem fa51_3 {G h : Hp} {a : Addr} {K : Value → Hp → Prop} : wpH Try.prog G (Instr.fieldAt 51 (.pointer (some a)) 3) h K = K (.pointer (some (a.add 3))) h := by kernel_rfl
theorem fa51_3p {G h : Hp} {a : Addr} {K : Value → Prop} : pw Try.prog G h (Instr.fieldAt 51 (.pointer (some a)) 3) K = K (.pointer (some (a.add 3))) := by kernel_rfl
theorem fa51_4 {G h : Hp} {a : Addr} {K : Value → Hp → Prop} : wpH Try.prog G (Instr.fieldAt 51 (.pointer (some a)) 4) h K = K (.pointer (some (a.add 4))) h := by kernel_rfl
theorem fa51_4p {G h : Hp} {a : Addr} {K : Value → Prop} : pw Try.prog G h (Instr.fieldAt 51 (.pointer (some a)) 4) K = K (.pointer (some (a.add 4))) := by kernel_rfl
theorem fa51_5 {G h : Hp} {a : Addr} {K : Value → Hp → Prop} : wpH Try.prog G (Instr.fieldAt 51 (.pointer (some a)) 5) h K = K (.pointer (some (a.add 5))) h := by kernel_rfl
theorem fa51_5p {G h : Hp} {a : Addr} {K : Value → Prop} : pw Try.prog G h (Instr.fieldAt 51 (.pointer (some a)) 5) K = K (.pointer (some (a.add 5))) := by kernel_rfl
theorem fa68_0 {G h : Hp} {a : Addr} {K : Value → Hp → Prop} : wpH Try.prog G (Instr.fieldAt 68 (.pointer (some a)) 0) h K = K (.pointer (some (a.add 0))) h := by kernel_rfl
theorem fa68_0p {G h : Hp} {a : Addr} {K : Value → Prop} : pw Try.prog G h (Instr.fieldAt 68 (.pointer (some a)) 0) K = K (.pointer (some (a.add 0))) := by kernel_rfl
theorem fa76_0 {G h : Hp} {a : Addr} {K : Value → Hp → Prop} : wpH Try.prog G (Instr.fieldAt 76 (.pointer (some a)) 0) h K = K (.pointer (some (a.add 0))) h := by kernel_rfl
theorem fa76_0p {G h : Hp} {a : Addr} {K : Value → Prop} : pw Try.prog G h (Instr.fieldAt 76 (.pointer (some a)) 0) K = K (.pointer (some (a.add 0))) := by kernel_rfl
theorem fa88_0 {G h : Hp} {a : Addr} {K : Value → Hp → Prop} : wpH Try.prog G (Instr.fieldAt 88 (.pointer (some a)) 0) h K = K (.pointer (some (a.add 0))) h := by kernel_rfl
theorem fa88_0p {G h : Hp} {a : Addr} {K : Value → Prop} : pw Try.prog G h (Instr.fieldAt 88 (.pointer (some a)) 0) K = K (.pointer (some (a.add 0))) := by kernel_rfl
theorem fa88_1 {G h : Hp} {a : Addr} {K : Value → Hp → Prop} : wpH Try.prog G (Instr.fieldAt 88 (.pointer (some a)) 1) h K = K (.pointer (some (a.add 1))) h := by kernel_rfl
theorem fa88_1p {G h : Hp} {a : Addr} {K : Value → Prop} : pw Try.prog G h (Instr.fieldAt 88 (.pointer (some a)) 1) K = K (.pointer (some (a.add 1))) := by kernel_rfl
theorem fa88_2 {G h : Hp} {a : Addr} {K : Value → Hp → Prop} : wpH Try.prog G (Instr.fieldAt 88 (.pointer (some a)) 2) h K = K (.pointer (some (a.add 2))) h := by kernel_rfl
theorem fa88_2p {G h : Hp} {a : Addr} {K : Value → Prop} : pw Try.prog G h (Instr.fieldAt 88 (.pointer (some a)) 2) K = K (.pointer (some (a.add 2))) := by kernel_rfl
theorem fa90_0 {G h : Hp} {a : Addr} {K : Value → Hp → Prop} : wpH Try.prog G (Instr.fieldAt 90 (.pointer (some a)) 0) h K = K (.pointer (some (a.add 0))) h := by kernel_rfl
theorem fa90_0p {G h : Hp} {a : Addr} {K : Value → Prop} : pw Try.prog G h (Instr.fieldAt 90 (.pointer (some a)) 0) K = K (.pointer (some (a.add 0))) := by kernel_rfl
theorem fa90_1 {G h : Hp} {a : Addr} {K : Value → Hp → Prop} : wpH Try.prog G (Instr.fieldAt 90 (.pointer (some a)) 1) h K = K (.pointer (some (a.add 1))) h := by kernel_rfl
theorem fa90_1p {G h : Hp} {a : Addr} {K : Value → Prop} : pw Try.prog G h (Instr.fieldAt 90 (.pointer (some a)) 1) K = K (.pointer (some (a.add 1))) := by kernel_rfl
theorem ld3 {G h : Hp} {a : Addr} {K : Value → Hp → Prop} : wpH Try.prog G (Instr.loadAt 3 (.pointer (some a))) h K = (∃ x, cellIn G h a = some x ∧ K x h) := by kernel_rfl
theorem ld3p {G h : Hp} {a : Addr} {K : Value → Prop} : pw Try.prog G h (Instr.loadAt 3 (.pointer (some a))) K = (∃ x, cellIn G h a = some x ∧ K x) := by kernel_rfl
theorem ld22 {G h : Hp} {a : Addr} {K : Value → Hp → Prop} : wpH Try.prog G (Instr.loadAt 22 (.pointer (some a))) h K = (∃ x, cellIn G h a = some x ∧ K x h) := by kernel_rfl
theorem ld22p {G h : Hp} {a : Addr} {K : Value → Prop} : pw Try.prog G h (Instr.loadAt 22 (.pointer (some a))) K = (∃ x, cellIn G h a = some x ∧ K x) := by kernel_rfl
theorem ld23 {G h : Hp} {a : Addr} {K : Value → Hp → Prop} : wpH Try.prog G (Instr.loadAt 23 (.pointer (some a))) h K = (∃ x, cellIn G h a = some x ∧ K x h) := by kernel_rfl
theorem ld23p {G h : Hp} {a : Addr} {K : Value → Prop} : pw Try.prog G h (Instr.loadAt 23 (.pointer (some a))) K = (∃ x, cellIn G h a = some x ∧ K x) := by kernel_rfl
theorem ld30 {G h : Hp} {a : Addr} {K : Value → Hp → Prop} : wpH Try.prog G (Instr.loadAt 30 (.pointer (some a))) h K = (∃ x0, cellIn G h (a.add 0) = some x0 ∧ ∃ x1, cellIn G h (a.add 1) = some x1 ∧ ∃ x2, cellIn G h (a.add 2) = some x2 ∧ K (.agg #[x0, x1, x2]) h) := by kernel_rfl
theorem ld30p {G h : Hp} {a : Addr} {K : Value → Prop} : pw Try.prog G h (Instr.loadAt 30 (.pointer (some a))) K = (∃ x0, cellIn G h (a.add 0) = some x0 ∧ ∃ x1, cellIn G h (a.add 1) = some x1 ∧ ∃ x2, cellIn G h (a.add 2) = some x2 ∧ K (.agg #[x0, x1, x2])) := by kernel_rfl
theorem ld32 {G h : Hp} {a : Addr} {K : Value → Hp → Prop} : wpH Try.prog G (Instr.loadAt 32 (.pointer (some a))) h K = (∃ x, cellIn G h a = some x ∧ K x h) := by kernel_rfl
theorem ld32p {G h : Hp} {a : Addr} {K : Value → Prop} : pw Try.prog G h (Instr.loadAt 32 (.pointer (some a))) K = (∃ x, cellIn G h a = some x ∧ K x) := by kernel_rfl
theorem ld35 {G h : Hp} {a : Addr} {K : Value → Hp → Prop} : wpH Try.prog G (Instr.loadAt 35 (.pointer (some a))) h K = (∃ x0, cellIn G h (a.add 0) = some x0 ∧ ∃ x1, cellIn G h (a.add 1) = some x1 ∧ ∃ x2, cellIn G h (a.add 2) = some x2 ∧ K (.agg #[x0, x1, x2]) h) := by kernel_rfl
theorem ld35p {G h : Hp} {a : Addr} {K : Value → Prop} : pw Try.prog G h (Instr.loadAt 35 (.pointer (some a))) K = (∃ x0, cellIn G h (a.add 0) = some x0 ∧ ∃ x1, cellIn G h (a.add 1) = some x1 ∧ ∃ x2, cellIn G h (a.add 2) = some x2 ∧ K (.agg #[x0, x1, x2])) := by kernel_rfl
theorem ld39 {G h : Hp} {a : Addr} {K : Value → Hp → Prop} : wpH Try.prog G (Instr.loadAt 39 (.pointer (some a))) h K = (∃ x, cellIn G h a = some x ∧ K x h) := by kernel_rfl
theorem ld39p {G h : Hp} {a : Addr} {K : Value → Prop} : pw Try.prog G h (Instr.loadAt 39 (.pointer (some a))) K = (∃ x, cellIn G h a = some x ∧ K x) := by kernel_rfl
theorem ld51 {G h : Hp} {a : Addr} {K : Value → Hp → Prop} : wpH Try.prog G (Instr.loadAt 51 (.pointer (some a))) h K = (∃ x0, cellIn G h (a.add 0) = some x0 ∧ ∃ x1, cellIn G h (a.add 1) = some x1 ∧ ∃ x2, cellIn G h (a.add 2) = some x2 ∧ ∃ x3, cellIn G h (a.add 3) = some x3 ∧ ∃ x4, cellIn G h (a.add 4) = some x4 ∧ ∃ x5, cellIn G h (a.add 5) = some x5 ∧ K (.agg #[x0, x1, x2, x3, x4, x5]) h) := by kernel_rfl
theorem ld51p {G h : Hp} {a : Addr} {K : Value → Prop} : pw Try.prog G h (Instr.loadAt 51 (.pointer (some a))) K = (∃ x0, cellIn G h (a.add 0) = some x0 ∧ ∃ x1, cellIn G h (a.add 1) = some x1 ∧ ∃ x2, cellIn G h (a.add 2) = some x2 ∧ ∃ x3, cellIn G h (a.add 3) = some x3 ∧ ∃ x4, cellIn G h (a.add 4) = some x4 ∧ ∃ x5, cellIn G h (a.add 5) = some x5 ∧ K (.agg #[x0, x1, x2, x3, x4, x5])) := by kernel_rfl
theorem ld58 {G h : Hp} {a : Addr} {K : Value → Hp → Prop} : wpH Try.prog G (Instr.loadAt 58 (.pointer (some a))) h K = (∃ x0, cellIn G h (a.add 0) = some x0 ∧ ∃ x1, cellIn G h (a.add 1) = some x1 ∧ K (.agg #[x0, x1]) h) := by kernel_rfl
theorem ld58p {G h : Hp} {a : Addr} {K : Value → Prop} : pw Try.prog G h (Instr.loadAt 58 (.pointer (some a))) K = (∃ x0, cellIn G h (a.add 0) = some x0 ∧ ∃ x1, cellIn G h (a.add 1) = some x1 ∧ K (.agg #[x0, x1])) := by kernel_rfl
theorem ld66 {G h : Hp} {a : Addr} {K : Value → Hp → Prop} : wpH Try.prog G (Instr.loadAt 66 (.pointer (some a))) h K = (∃ x, cellIn G h a = some x ∧ K x h) := by kernel_rfl
theorem ld66p {G h : Hp} {a : Addr} {K : Value → Prop} : pw Try.prog G h (Instr.loadAt 66 (.pointer (some a))) K = (∃ x, cellIn G h a = some x ∧ K x) := by kernel_rfl
-- 56: array 6 32
-- 58: array 2 3
theorem sz3 : (Try.prog.info? 3).map (·.size) = some 1 := by kernel_rfl
theorem sz30 : (Try.prog.info? 30).map (·.size) = some 3 := by kernel_rfl
theorem sz32 : (Try.prog.info? 32).map (·.size) = some 1 := by kernel_rfl
theorem sz35 : (Try.prog.info? 35).map (·.size) = some 3 := by kernel_rfl
theorem sz39 : (Try.prog.info? 39).map (·.size) = some 1 := by kernel_rfl
theorem sz51 : (Try.prog.info? 51).map (·.size) = some 6 := by kernel_rfl
theorem sz58 : (Try.prog.info? 58).map (·.size) = some 2 := by kernel_rfl
theorem sz88 : (Try.prog.info? 88).map (·.size) = some 3 := by kernel_rfl
theorem sz90 : (Try.prog.info? 90).map (·.size) = some 2 := by kernel_rfl
theorem st3s {G h : Hp} {b i : Nat} {e : TypeId} {l : List Value} {v : Value} {K : Unit → Hp → Prop} (h1 : oneCell v = true) (hl : i < l.length) : wpH Try.prog G (Instr.storeAt 3 (.pointer (some ⟨b, i, none⟩)) v) (h.set b (.cells l.toArray e (0, 0))) K = K () (h.set b (.cells (l.set i v).toArray e (0, 0))) := store1_self sz3 h1 hl
theorem st30w {G h : Hp} {b : Nat} {e : TypeId} {z0 z1 z2 : Value} {k0 : IntKind} {y0 : Int} {k1 : IntKind} {y1 : Int} {k2 : IntKind} {y2 : Int} {K : Unit → Hp → Prop} : wpH Try.prog G (Instr.storeAt 30 (.pointer (some ⟨b, 0, none⟩)) (.agg #[(.int k0 y0), (.int k1 y1), (.int k2 y2)])) (h.set b (.cells #[z0, z1, z2] e (0, 0))) K = K () (h.set b (.cells #[(.int k0 y0), (.int k1 y1), (.int k2 y2)] e (0, 0))) := store_whole sz30 rfl rfl (fun x hx => by simp only [List.mem_cons, List.not_mem_nil, or_false] at hx; rcases hx with rfl | rfl | rfl <;> first | rfl | assumption)
theorem st32s {G h : Hp} {b i : Nat} {e : TypeId} {l : List Value} {v : Value} {K : Unit → Hp → Prop} (h1 : oneCell v = true) (hl : i < l.length) : wpH Try.prog G (Instr.storeAt 32 (.pointer (some ⟨b, i, none⟩)) v) (h.set b (.cells l.toArray e (0, 0))) K = K () (h.set b (.cells (l.set i v).toArray e (0, 0))) := store1_self sz32 h1 hl
theorem st35w {G h : Hp} {b : Nat} {e : TypeId} {z0 z1 z2 : Value} {k0 : IntKind} {y0 : Int} {k1 : IntKind} {y1 : Int} {k2 : IntKind} {y2 : Int} {K : Unit → Hp → Prop} : wpH Try.prog G (Instr.storeAt 35 (.pointer (some ⟨b, 0, none⟩)) (.agg #[(.int k0 y0), (.int k1 y1), (.int k2 y2)])) (h.set b (.cells #[z0, z1, z2] e (0, 0))) K = K () (h.set b (.cells #[(.int k0 y0), (.int k1 y1), (.int k2 y2)] e (0, 0))) := store_whole sz35 rfl rfl (fun x hx => by simp only [List.mem_cons, List.not_mem_nil, or_false] at hx; rcases hx with rfl | rfl | rfl <;> first | rfl | assumption)
theorem st39s {G h : Hp} {b i : Nat} {e : TypeId} {l : List Value} {v : Value} {K : Unit → Hp → Prop} (h1 : oneCell v = true) (hl : i < l.length) : wpH Try.prog G (Instr.storeAt 39 (.pointer (some ⟨b, i, none⟩)) v) (h.set b (.cells l.toArray e (0, 0))) K = K () (h.set b (.cells (l.set i v).toArray e (0, 0))) := store1_self sz39 h1 hl
theorem st51w {G h : Hp} {b : Nat} {e : TypeId} {z0 z1 z2 z3 z4 z5 : Value} {k0 : IntKind} {y0 : Int} {k1 : IntKind} {y1 : Int} {k2 : IntKind} {y2 : Int} {k3 : IntKind} {y3 : Int} {k4 : IntKind} {y4 : Int} {y5 : Option Addr} {n5 c5 : Nat} {K : Unit → Hp → Prop} : wpH Try.prog G (Instr.storeAt 51 (.pointer (some ⟨b, 0, none⟩)) (.agg #[(.int k0 y0), (.int k1 y1), (.int k2 y2), (.int k3 y3), (.int k4 y4), (.slice y5 n5 c5)])) (h.set b (.cells #[z0, z1, z2, z3, z4, z5] e (0, 0))) K = K () (h.set b (.cells #[(.int k0 y0), (.int k1 y1), (.int k2 y2), (.int k3 y3), (.int k4 y4), (.slice y5 n5 c5)] e (0, 0))) := store_whole sz51 rfl rfl (fun x hx => by simp only [List.mem_cons, List.not_mem_nil, or_false] at hx; rcases hx with rfl | rfl | rfl | rfl | rfl | rfl <;> first | rfl | assumption)
theorem st58w {G h : Hp} {b : Nat} {e : TypeId} {z0 z1 : Value} {k0 : IntKind} {y0 : Int} {k1 : IntKind} {y1 : Int} {K : Unit → Hp → Prop} : wpH Try.prog G (Instr.storeAt 58 (.pointer (some ⟨b, 0, none⟩)) (.agg #[(.int k0 y0), (.int k1 y1)])) (h.set b (.cells #[z0, z1] e (0, 0))) K = K () (h.set b (.cells #[(.int k0 y0), (.int k1 y1)] e (0, 0))) := store_whole sz58 rfl rfl (fun x hx => by simp only [List.mem_cons, List.not_mem_nil, or_false] at hx; rcases hx with rfl | rfl <;> first | rfl | assumption)
theorem st88w {G h : Hp} {b : Nat} {e : TypeId} {z0 z1 z2 : Value} {k0 : IntKind} {y0 : Int} {k1 : IntKind} {y1 : Int} {k2 : IntKind} {y2 : Int} {K : Unit → Hp → Prop} : wpH Try.prog G (Instr.storeAt 88 (.pointer (some ⟨b, 0, none⟩)) (.agg #[(.int k0 y0), (.int k1 y1), (.int k2 y2)])) (h.set b (.cells #[z0, z1, z2] e (0, 0))) K = K () (h.set b (.cells #[(.int k0 y0), (.int k1 y1), (.int k2 y2)] e (0, 0))) := store_whole sz88 rfl rfl (fun x hx => by simp only [List.mem_cons, List.not_mem_nil, or_false] at hx; rcases hx with rfl | rfl | rfl <;> first | rfl | assumption)
theorem st90w {G h : Hp} {b : Nat} {e : TypeId} {z0 z1 : Value} {k0 : IntKind} {y0 : Int} {k1 : IntKind} {y1 : Int} {K : Unit → Hp → Prop} : wpH Try.prog G (Instr.storeAt 90 (.pointer (some ⟨b, 0, none⟩)) (.agg #[(.int k0 y0), (.int k1 y1)])) (h.set b (.cells #[z0, z1] e (0, 0))) K = K () (h.set b (.cells #[(.int k0 y0), (.int k1 y1)] e (0, 0))) := store_whole sz90 rfl rfl (fun x hx => by simp only [List.mem_cons, List.not_mem_nil, or_false] at hx; rcases hx with rfl | rfl <;> first | rfl | assumption)
theorem un22 : Try.prog.underlying 22 = some (.slice 30) := by kernel_rfl
theorem ix22 {G h : Hp} {ad : Addr} {len cap : Nat} {k : IntKind} {i : Int} {K : Value → Hp → Prop} (h1 : 0 ≤ i) (h2 : i < len) : wpH Try.prog G (Instr.indexAt 22 (.slice (some ad) len cap) (.int k i)) h K = K (.pointer (some (ad.add (i.toNat * 3)))) h := index_slice un22 sz30 h1 h2
theorem ix22p {G h : Hp} {ad : Addr} {len cap : Nat} {k : IntKind} {i : Int} {K : Value → Prop} (h1 : 0 ≤ i) (h2 : i < len) : pw Try.prog G h (Instr.indexAt 22 (.slice (some ad) len cap) (.int k i)) K = K (.pointer (some (ad.add (i.toNat * 3)))) := index_slicep un22 sz30 h1 h2
theorem un32 : Try.prog.underlying 32 = some (.slice 35) := by kernel_rfl
theorem ix32 {G h : Hp} {ad : Addr} {len cap : Nat} {k : IntKind} {i : Int} {K : Value → Hp → Prop} (h1 : 0 ≤ i) (h2 : i < len) : wpH Try.prog G (Instr.indexAt 32 (.slice (some ad) len cap) (.int k i)) h K = K (.pointer (some (ad.add (i.toNat * 3)))) h := index_slice un32 sz35 h1 h2
theorem ix32p {G h : Hp} {ad : Addr} {len cap : Nat} {k : IntKind} {i : Int} {K : Value → Prop} (h1 : 0 ≤ i) (h2 : i < len) : pw Try.prog G h (Instr.indexAt 32 (.slice (some ad) len cap) (.int k i)) K = K (.pointer (some (ad.add (i.toNat * 3)))) := index_slicep un32 sz35 h1 h2
theorem un39 : Try.prog.underlying 39 = some (.slice 58) := by kernel_rfl
theorem ix39 {G h : Hp} {ad : Addr} {len cap : Nat} {k : IntKind} {i : Int} {K : Value → Hp → Prop} (h1 : 0 ≤ i) (h2 : i < len) : wpH Try.prog G (Instr.indexAt 39 (.slice (some ad) len cap) (.int k i)) h K = K (.pointer (some (ad.add (i.toNat * 2)))) h := index_slice un39 sz58 h1 h2
theorem ix39p {G h : Hp} {ad : Addr} {len cap : Nat} {k : IntKind} {i : Int} {K : Value → Prop} (h1 : 0 ≤ i) (h2 : i < len) : pw Try.prog G h (Instr.indexAt 39 (.slice (some ad) len cap) (.int k i)) K = K (.pointer (some (ad.add (i.toNat * 2)))) := index_slicep un39 sz58 h1 h2
theorem un46 : Try.prog.underlying 46 = some (.slice 51) := by kernel_rfl
theorem ix46 {G h : Hp} {ad : Addr} {len cap : Nat} {k : IntKind} {i : Int} {K : Value → Hp → Prop} (h1 : 0 ≤ i) (h2 : i < len) : wpH Try.prog G (Instr.indexAt 46 (.slice (some ad) len cap) (.int k i)) h K = K (.pointer (some (ad.add (i.toNat * 6)))) h := index_slice un46 sz51 h1 h2
theorem ix46p {G h : Hp} {ad : Addr} {len cap : Nat} {k : IntKind} {i : Int} {K : Value → Prop} (h1 : 0 ≤ i) (h2 : i < len) : pw Try.prog G h (Instr.indexAt 46 (.slice (some ad) len cap) (.int k i)) K = K (.pointer (some (ad.add (i.toNat * 6)))) := index_slicep un46 sz51 h1 h2
theorem un64 : Try.prog.underlying 64 = some (.slice 3) := by kernel_rfl
theorem ix64 {G h : Hp} {ad : Addr} {len cap : Nat} {k : IntKind} {i : Int} {K : Value → Hp → Prop} (h1 : 0 ≤ i) (h2 : i < len) : wpH Try.prog G (Instr.indexAt 64 (.slice (some ad) len cap) (.int k i)) h K = K (.pointer (some (ad.add (i.toNat * 1)))) h := index_slice un64 sz3 h1 h2
theorem ix64p {G h : Hp} {ad : Addr} {len cap : Nat} {k : IntKind} {i : Int} {K : Value → Prop} (h1 : 0 ≤ i) (h2 : i < len) : pw Try.prog G h (Instr.indexAt 64 (.slice (some ad) len cap) (.int k i)) K = K (.pointer (some (ad.add (i.toNat * 1)))) := index_slicep un64 sz3 h1 h2
theorem un66 : Try.prog.underlying 66 = some (.slice 32) := by kernel_rfl
theorem ix66 {G h : Hp} {ad : Addr} {len cap : Nat} {k : IntKind} {i : Int} {K : Value → Hp → Prop} (h1 : 0 ≤ i) (h2 : i < len) : wpH Try.prog G (Instr.indexAt 66 (.slice (some ad) len cap) (.int k i)) h K = K (.pointer (some (ad.add (i.toNat * 1)))) h := index_slice un66 sz32 h1 h2
theorem ix66p {G h : Hp} {ad : Addr} {len cap : Nat} {k : IntKind} {i : Int} {K : Value → Prop} (h1 : 0 ≤ i) (h2 : i < len) : pw Try.prog G h (Instr.indexAt 66 (.slice (some ad) len cap) (.int k i)) K = K (.pointer (some (ad.add (i.toNat * 1)))) := index_slicep un66 sz32 h1 h2
theorem un78 : Try.prog.underlying 78 = some (.slice 88) := by kernel_rfl
theorem ix78 {G h : Hp} {ad : Addr} {len cap : Nat} {k : IntKind} {i : Int} {K : Value → Hp → Prop} (h1 : 0 ≤ i) (h2 : i < len) : wpH Try.prog G (Instr.indexAt 78 (.slice (some ad) len cap) (.int k i)) h K = K (.pointer (some (ad.add (i.toNat * 3)))) h := index_slice un78 sz88 h1 h2
theorem ix78p {G h : Hp} {ad : Addr} {len cap : Nat} {k : IntKind} {i : Int} {K : Value → Prop} (h1 : 0 ≤ i) (h2 : i < len) : pw Try.prog G h (Instr.indexAt 78 (.slice (some ad) len cap) (.int k i)) K = K (.pointer (some (ad.add (i.toNat * 3)))) := index_slicep un78 sz88 h1 h2
theorem un81 : Try.prog.underlying 81 = some (.slice 90) := by kernel_rfl
theorem ix81 {G h : Hp} {ad : Addr} {len cap : Nat} {k : IntKind} {i : Int} {K : Value → Hp → Prop} (h1 : 0 ≤ i) (h2 : i < len) : wpH Try.prog G (Instr.indexAt 81 (.slice (some ad) len cap) (.int k i)) h K = K (.pointer (some (ad.add (i.toNat * 2)))) h := index_slice un81 sz90 h1 h2
theorem ix81p {G h : Hp} {ad : Addr} {len cap : Nat} {k : IntKind} {i : Int} {K : Value → Prop} (h1 : 0 ≤ i) (h2 : i < len) : pw Try.prog G h (Instr.indexAt 81 (.slice (some ad) len cap) (.int k i)) K = K (.pointer (some (ad.add (i.toNat * 2)))) := index_slicep un81 sz90 h1 h2
theorem ln22 {G h : Hp} {a : Option Addr} {n c : Nat} {K : Value → Hp → Prop} : wpH Try.prog G (Builtin.len_ #[22] 3 #[.slice a n c]) h K = K (.int .i64 n) h := by kernel_rfl
theorem ln22p {G h : Hp} {a : Option Addr} {n c : Nat} {K : Value → Prop} : pw Try.prog G h (Builtin.len_ #[22] 3 #[.slice a n c]) K = K (.int .i64 n) := by kernel_rfl
theorem ln32 {G h : Hp} {a : Option Addr} {n c : Nat} {K : Value → Hp → Prop} : wpH Try.prog G (Builtin.len_ #[32] 3 #[.slice a n c]) h K = K (.int .i64 n) h := by kernel_rfl
theorem ln32p {G h : Hp} {a : Option Addr} {n c : Nat} {K : Value → Prop} : pw Try.prog G h (Builtin.len_ #[32] 3 #[.slice a n c]) K = K (.int .i64 n) := by kernel_rfl
theorem ln39 {G h : Hp} {a : Option Addr} {n c : Nat} {K : Value → Hp → Prop} : wpH Try.prog G (Builtin.len_ #[39] 3 #[.slice a n c]) h K = K (.int .i64 n) h := by kernel_rfl
theorem ln39p {G h : Hp} {a : Option Addr} {n c : Nat} {K : Value → Prop} : pw Try.prog G h (Builtin.len_ #[39] 3 #[.slice a n c]) K = K (.int .i64 n) := by kernel_rfl
theorem ln46 {G h : Hp} {a : Option Addr} {n c : Nat} {K : Value → Hp → Prop} : wpH Try.prog G (Builtin.len_ #[46] 3 #[.slice a n c]) h K = K (.int .i64 n) h := by kernel_rfl
theorem ln46p {G h : Hp} {a : Option Addr} {n c : Nat} {K : Value → Prop} : pw Try.prog G h (Builtin.len_ #[46] 3 #[.slice a n c]) K = K (.int .i64 n) := by kernel_rfl
theorem ln64 {G h : Hp} {a : Option Addr} {n c : Nat} {K : Value → Hp → Prop} : wpH Try.prog G (Builtin.len_ #[64] 3 #[.slice a n c]) h K = K (.int .i64 n) h := by kernel_rfl
theorem ln64p {G h : Hp} {a : Option Addr} {n c : Nat} {K : Value → Prop} : pw Try.prog G h (Builtin.len_ #[64] 3 #[.slice a n c]) K = K (.int .i64 n) := by kernel_rfl
theorem ln66 {G h : Hp} {a : Option Addr} {n c : Nat} {K : Value → Hp → Prop} : wpH Try.prog G (Builtin.len_ #[66] 3 #[.slice a n c]) h K = K (.int .i64 n) h := by kernel_rfl
theorem ln66p {G h : Hp} {a : Option Addr} {n c : Nat} {K : Value → Prop} : pw Try.prog G h (Builtin.len_ #[66] 3 #[.slice a n c]) K = K (.int .i64 n) := by kernel_rfl
theorem ln78 {G h : Hp} {a : Option Addr} {n c : Nat} {K : Value → Hp → Prop} : wpH Try.prog G (Builtin.len_ #[78] 3 #[.slice a n c]) h K = K (.int .i64 n) h := by kernel_rfl
theorem ln78p {G h : Hp} {a : Option Addr} {n c : Nat} {K : Value → Prop} : pw Try.prog G h (Builtin.len_ #[78] 3 #[.slice a n c]) K = K (.int .i64 n) := by kernel_rfl
theorem ln81 {G h : Hp} {a : Option Addr} {n c : Nat} {K : Value → Hp → Prop} : wpH Try.prog G (Builtin.len_ #[81] 3 #[.slice a n c]) h K = K (.int .i64 n) h := by kernel_rfl
theorem ln81p {G h : Hp} {a : Option Addr} {n c : Nat} {K : Value → Prop} : pw Try.prog G h (Builtin.len_ #[81] 3 #[.slice a n c]) K = K (.int .i64 n) := by kernel_rfl
theorem al30 {G h : Hp} {v : Value} {K : Value → Hp → Prop} : wpH Try.prog G (Instr.alloc 30 true v) h K = ∀ x, h x = none → G x = none → K (.pointer (some ⟨x, 0, none⟩)) (h.set x (.cells #[(.int .i64 0), (.int .i64 0), (.int .i64 0)] 30 (0, 0))) := by kernel_rfl
theorem al35 {G h : Hp} {v : Value} {K : Value → Hp → Prop} : wpH Try.prog G (Instr.alloc 35 true v) h K = ∀ x, h x = none → G x = none → K (.pointer (some ⟨x, 0, none⟩)) (h.set x (.cells #[(.int .i64 0), (.int .i64 0), (.int .i64 0)] 35 (0, 0))) := by kernel_rfl
theorem al39 {G h : Hp} {v : Value} {K : Value → Hp → Prop} : wpH Try.prog G (Instr.alloc 39 true v) h K = ∀ x, h x = none → G x = none → K (.pointer (some ⟨x, 0, none⟩)) (h.set x (.cells #[(.slice none 0 0)] 39 (0, 0))) := by kernel_rfl
theorem al56 {G h : Hp} {v : Value} {K : Value → Hp → Prop} : wpH Try.prog G (Instr.alloc 56 true v) h K = ∀ x, h x = none → G x = none → K (.pointer (some ⟨x, 0, none⟩)) (h.set x (.cells #[(.slice none 0 0), (.slice none 0 0), (.slice none 0 0), (.slice none 0 0), (.slice none 0 0), (.slice none 0 0)] 56 (0, 0))) := by kernel_rfl
theorem al58 {G h : Hp} {v : Value} {K : Value → Hp → Prop} : wpH Try.prog G (Instr.alloc 58 true v) h K = ∀ x, h x = none → G x = none → K (.pointer (some ⟨x, 0, none⟩)) (h.set x (.cells #[(.int .i64 0), (.int .i64 0)] 58 (0, 0))) := by kernel_rfl
theorem cf12 {G h : Hp} {args : Array Value} {K : Value → Hp → Prop} : opH Try.prog G (callFunc 12 args) h K = HCalls Try.prog G 12 args h K := by kernel_rfl
theorem cf13 {G h : Hp} {args : Array Value} {K : Value → Hp → Prop} : opH Try.prog G (callFunc 13 args) h K = HCalls Try.prog G 13 args h K := by kernel_rfl
theorem cf14 {G h : Hp} {args : Array Value} {K : Value → Hp → Prop} : opH Try.prog G (callFunc 14 args) h K = HCalls Try.prog G 14 args h K := by kernel_rfl
theorem cf15 {G h : Hp} {args : Array Value} {K : Value → Hp → Prop} : opH Try.prog G (callFunc 15 args) h K = HCalls Try.prog G 15 args h K := by kernel_rfl
theorem cf16 {G h : Hp} {args : Array Value} {K : Value → Hp → Prop} : opH Try.prog G (callFunc 16 args) h K = HCalls Try.prog G 16 args h K := by kernel_rfl
theorem cf17 {G h : Hp} {args : Array Value} {K : Value → Hp → Prop} : opH Try.prog G (callFunc 17 args) h K = HCalls Try.prog G 17 args h K := by kernel_rfl
theorem cf18 {G h : Hp} {args : Array Value} {K : Value → Hp → Prop} : opH Try.prog G (callFunc 18 args) h K = HCalls Try.prog G 18 args h K := by kernel_rfl
theorem cf19 {G h : Hp} {args : Array Value} {K : Value → Hp → Prop} : opH Try.prog G (callFunc 19 args) h K = HCalls Try.prog G 19 args h K := by kernel_rfl
theorem cf20 {G h : Hp} {args : Array Value} {K : Value → Hp → Prop} : opH Try.prog G (callFunc 20 args) h K = HCalls Try.prog G 20 args h K := by kernel_rfl
theorem cf21 {G h : Hp} {args : Array Value} {K : Value → Hp → Prop} : opH Try.prog G (callFunc 21 args) h K = HCalls Try.prog G 21 args h K := by kernel_rfl
theorem cf22 {G h : Hp} {args : Array Value} {K : Value → Hp → Prop} : opH Try.prog G (callFunc 22 args) h K = HCalls Try.prog G 22 args h K := by kernel_rfl
theorem cf23 {G h : Hp} {args : Array Value} {K : Value → Hp → Prop} : opH Try.prog G (callFunc 23 args) h K = HCalls Try.prog G 23 args h K := by kernel_rfl
theorem cf24 {G h : Hp} {args : Array Value} {K : Value → Hp → Prop} : opH Try.prog G (callFunc 24 args) h K = HCalls Try.prog G 24 args h K := by kernel_rfl
theorem cf25 {G h : Hp} {args : Array Value} {K : Value → Hp → Prop} : opH Try.prog G (callFunc 25 args) h K = HCalls Try.prog G 25 args h K := by kernel_rfl
theorem cf26 {G h : Hp} {args : Array Value} {K : Value → Hp → Prop} : opH Try.prog G (callFunc 26 args) h K = HCalls Try.prog G 26 args h K := by kernel_rfl
theorem cf27 {G h : Hp} {args : Array Value} {K : Value → Hp → Prop} : opH Try.prog G (callFunc 27 args) h K = HCalls Try.prog G 27 args h K := by kernel_rfl
theorem cf28 {G h : Hp} {args : Array Value} {K : Value → Hp → Prop} : opH Try.prog G (callFunc 28 args) h K = HCalls Try.prog G 28 args h K := by kernel_rfl
theorem cf29 {G h : Hp} {args : Array Value} {K : Value → Hp → Prop} : opH Try.prog G (callFunc 29 args) h K = HCalls Try.prog G 29 args h K := by kernel_rfl
theorem cf30 {G h : Hp} {args : Array Value} {K : Value → Hp → Prop} : opH Try.prog G (callFunc 30 args) h K = HCalls Try.prog G 30 args h K := by kernel_rfl
theorem cf31 {G h : Hp} {args : Array Value} {K : Value → Hp → Prop} : opH Try.prog G (callFunc 31 args) h K = HCalls Try.prog G 31 args h K := by kernel_rfl
theorem cf32 {G h : Hp} {args : Array Value} {K : Value → Hp → Prop} : opH Try.prog G (callFunc 32 args) h K = HCalls Try.prog G 32 args h K := by kernel_rfl
theorem cf33 {G h : Hp} {args : Array Value} {K : Value → Hp → Prop} : opH Try.prog G (callFunc 33 args) h K = HCalls Try.prog G 33 args h K := by kernel_rfl
theorem cf34 {G h : Hp} {args : Array Value} {K : Value → Hp → Prop} : opH Try.prog G (callFunc 34 args) h K = HCalls Try.prog G 34 args h K := by kernel_rfl
theorem cf35 {G h : Hp} {args : Array Value} {K : Value → Hp → Prop} : opH Try.prog G (callFunc 35 args) h K = HCalls Try.prog G 35 args h K := by kernel_rfl
theorem cf36 {G h : Hp} {args : Array Value} {K : Value → Hp → Prop} : opH Try.prog G (callFunc 36 args) h K = HCalls Try.prog G 36 args h K := by kernel_rfl
theorem cf37 {G h : Hp} {args : Array Value} {K : Value → Hp → Prop} : opH Try.prog G (callFunc 37 args) h K = HCalls Try.prog G 37 args h K := by kernel_rfl
theorem cf38 {G h : Hp} {args : Array Value} {K : Value → Hp → Prop} : opH Try.prog G (callFunc 38 args) h K = HCalls Try.prog G 38 args h K := by kernel_rfl
theorem cf39 {G h : Hp} {args : Array Value} {K : Value → Hp → Prop} : opH Try.prog G (callFunc 39 args) h K = HCalls Try.prog G 39 args h K := by kernel_rfl
theorem cf40 {G h : Hp} {args : Array Value} {K : Value → Hp → Prop} : opH Try.prog G (callFunc 40 args) h K = HCalls Try.prog G 40 args h K := by kernel_rfl
theorem cf41 {G h : Hp} {args : Array Value} {K : Value → Hp → Prop} : opH Try.prog G (callFunc 41 args) h K = HCalls Try.prog G 41 args h K := by kernel_rfl
theorem cf42 {G h : Hp} {args : Array Value} {K : Value → Hp → Prop} : opH Try.prog G (callFunc 42 args) h K = HCalls Try.prog G 42 args h K := by kernel_rfl
theorem cf43 {G h : Hp} {args : Array Value} {K : Value → Hp → Prop} : opH Try.prog G (callFunc 43 args) h K = HCalls Try.prog G 43 args h K := by kernel_rfl
theorem cf44 {G h : Hp} {args : Array Value} {K : Value → Hp → Prop} : opH Try.prog G (callFunc 44 args) h K = HCalls Try.prog G 44 args h K := by kernel_rfl
theorem cf45 {G h : Hp} {args : Array Value} {K : Value → Hp → Prop} : opH Try.prog G (callFunc 45 args) h K = HCalls Try.prog G 45 args h K := by kernel_rfl
theorem cf46 {G h : Hp} {args : Array Value} {K : Value → Hp → Prop} : opH Try.prog G (callFunc 46 args) h K = HCalls Try.prog G 46 args h K := by kernel_rfl
theorem cf47 {G h : Hp} {args : Array Value} {K : Value → Hp → Prop} : opH Try.prog G (callFunc 47 args) h K = HCalls Try.prog G 47 args h K := by kernel_rfl
theorem cf48 {G h : Hp} {args : Array Value} {K : Value → Hp → Prop} : opH Try.prog G (callFunc 48 args) h K = HCalls Try.prog G 48 args h K := by kernel_rfl
theorem cf49 {G h : Hp} {args : Array Value} {K : Value → Hp → Prop} : opH Try.prog G (callFunc 49 args) h K = HCalls Try.prog G 49 args h K := by kernel_rfl
theorem cf50 {G h : Hp} {args : Array Value} {K : Value → Hp → Prop} : opH Try.prog G (callFunc 50 args) h K = HCalls Try.prog G 50 args h K := by kernel_rfl
theorem cf51 {G h : Hp} {args : Array Value} {K : Value → Hp → Prop} : opH Try.prog G (callFunc 51 args) h K = HCalls Try.prog G 51 args h K := by kernel_rfl
theorem cf52 {G h : Hp} {args : Array Value} {K : Value → Hp → Prop} : opH Try.prog G (callFunc 52 args) h K = HCalls Try.prog G 52 args h K := by kernel_rfl
theorem cf53 {G h : Hp} {args : Array Value} {K : Value → Hp → Prop} : opH Try.prog G (callFunc 53 args) h K = HCalls Try.prog G 53 args h K := by kernel_rfl
theorem cf54 {G h : Hp} {args : Array Value} {K : Value → Hp → Prop} : opH Try.prog G (callFunc 54 args) h K = HCalls Try.prog G 54 args h K := by kernel_rfl
theorem cf55 {G h : Hp} {args : Array Value} {K : Value → Hp → Prop} : opH Try.prog G (callFunc 55 args) h K = HCalls Try.prog G 55 args h K := by kernel_rfl
theorem cf56 {G h : Hp} {args : Array Value} {K : Value → Hp → Prop} : opH Try.prog G (callFunc 56 args) h K = HCalls Try.prog G 56 args h K := by kernel_rfl
theorem cf57 {G h : Hp} {args : Array Value} {K : Value → Hp → Prop} : opH Try.prog G (callFunc 57 args) h K = HCalls Try.prog G 57 args h K := by kernel_rfl
theorem cf58 {G h : Hp} {args : Array Value} {K : Value → Hp → Prop} : opH Try.prog G (callFunc 58 args) h K = HCalls Try.prog G 58 args h K := by kernel_rfl
theorem cf60 {G h : Hp} {args : Array Value} {K : Value → Hp → Prop} : opH Try.prog G (callFunc 60 args) h K = HCalls Try.prog G 60 args h K := by kernel_rfl
theorem cf61 {G h : Hp} {args : Array Value} {K : Value → Hp → Prop} : opH Try.prog G (callFunc 61 args) h K = HCalls Try.prog G 61 args h K := by kernel_rfl
theorem cf62 {G h : Hp} {args : Array Value} {K : Value → Hp → Prop} : opH Try.prog G (callFunc 62 args) h K = HCalls Try.prog G 62 args h K := by kernel_rfl
theorem cf63 {G h : Hp} {args : Array Value} {K : Value → Hp → Prop} : opH Try.prog G (callFunc 63 args) h K = HCalls Try.prog G 63 args h K := by kernel_rfl
theorem cf64 {G h : Hp} {args : Array Value} {K : Value → Hp → Prop} : opH Try.prog G (callFunc 64 args) h K = HCalls Try.prog G 64 args h K := by kernel_rfl
theorem bd30_0_1_2 {G h : Hp} {k0 : IntKind} {y0 : Int} {k1 : IntKind} {y1 : Int} {k2 : IntKind} {y2 : Int} {K : Value → Hp → Prop} : wpH Try.prog G (Instr.build 30 #[(0, (.int k0 y0)), (1, (.int k1 y1)), (2, (.int k2 y2))]) h K = K (.agg #[(.int k0 y0), (.int k1 y1), (.int k2 y2)]) h := by kernel_rfl
theorem bd30_0_1_2p {G h : Hp} {k0 : IntKind} {y0 : Int} {k1 : IntKind} {y1 : Int} {k2 : IntKind} {y2 : Int} {K : Value → Prop} : pw Try.prog G h (Instr.build 30 #[(0, (.int k0 y0)), (1, (.int k1 y1)), (2, (.int k2 y2))]) K = K (.agg #[(.int k0 y0), (.int k1 y1), (.int k2 y2)]) := by kernel_rfl
theorem bd30_1 {G h : Hp} {k1 : IntKind} {y1 : Int} {K : Value → Hp → Prop} : wpH Try.prog G (Instr.build 30 #[(1, (.int k1 y1))]) h K = K (.agg #[(.int .i64 0), (.int k1 y1), (.int .i64 0)]) h := by kernel_rfl
theorem bd30_1p {G h : Hp} {k1 : IntKind} {y1 : Int} {K : Value → Prop} : pw Try.prog G h (Instr.build 30 #[(1, (.int k1 y1))]) K = K (.agg #[(.int .i64 0), (.int k1 y1), (.int .i64 0)]) := by kernel_rfl
theorem bd30_1_2 {G h : Hp} {k1 : IntKind} {y1 : Int} {k2 : IntKind} {y2 : Int} {K : Value → Hp → Prop} : wpH Try.prog G (Instr.build 30 #[(1, (.int k1 y1)), (2, (.int k2 y2))]) h K = K (.agg #[(.int .i64 0), (.int k1 y1), (.int k2 y2)]) h := by kernel_rfl
theorem bd30_1_2p {G h : Hp} {k1 : IntKind} {y1 : Int} {k2 : IntKind} {y2 : Int} {K : Value → Prop} : pw Try.prog G h (Instr.build 30 #[(1, (.int k1 y1)), (2, (.int k2 y2))]) K = K (.agg #[(.int .i64 0), (.int k1 y1), (.int k2 y2)]) := by kernel_rfl
theorem bd35_0 {G h : Hp} {k0 : IntKind} {y0 : Int} {K : Value → Hp → Prop} : wpH Try.prog G (Instr.build 35 #[(0, (.int k0 y0))]) h K = K (.agg #[(.int k0 y0), (.int .i64 0), (.int .i64 0)]) h := by kernel_rfl
theorem bd35_0p {G h : Hp} {k0 : IntKind} {y0 : Int} {K : Value → Prop} : pw Try.prog G h (Instr.build 35 #[(0, (.int k0 y0))]) K = K (.agg #[(.int k0 y0), (.int .i64 0), (.int .i64 0)]) := by kernel_rfl
theorem bd35_0_1_2 {G h : Hp} {k0 : IntKind} {y0 : Int} {k1 : IntKind} {y1 : Int} {k2 : IntKind} {y2 : Int} {K : Value → Hp → Prop} : wpH Try.prog G (Instr.build 35 #[(0, (.int k0 y0)), (1, (.int k1 y1)), (2, (.int k2 y2))]) h K = K (.agg #[(.int k0 y0), (.int k1 y1), (.int k2 y2)]) h := by kernel_rfl
theorem bd35_0_1_2p {G h : Hp} {k0 : IntKind} {y0 : Int} {k1 : IntKind} {y1 : Int} {k2 : IntKind} {y2 : Int} {K : Value → Prop} : pw Try.prog G h (Instr.build 35 #[(0, (.int k0 y0)), (1, (.int k1 y1)), (2, (.int k2 y2))]) K = K (.agg #[(.int k0 y0), (.int k1 y1), (.int k2 y2)]) := by kernel_rfl
theorem bd58_0_1 {G h : Hp} {k0 : IntKind} {y0 : Int} {k1 : IntKind} {y1 : Int} {K : Value → Hp → Prop} : wpH Try.prog G (Instr.build 58 #[(0, (.int k0 y0)), (1, (.int k1 y1))]) h K = K (.agg #[(.int k0 y0), (.int k1 y1)]) h := by kernel_rfl
theorem bd58_0_1p {G h : Hp} {k0 : IntKind} {y0 : Int} {k1 : IntKind} {y1 : Int} {K : Value → Prop} : pw Try.prog G h (Instr.build 58 #[(0, (.int k0 y0)), (1, (.int k1 y1))]) K = K (.agg #[(.int k0 y0), (.int k1 y1)]) := by kernel_rfl
theorem bd68_0 {G h : Hp} {y0 : Option Addr} {n0 c0 : Nat} {K : Value → Hp → Prop} : wpH Try.prog G (Instr.build 68 #[(0, (.slice y0 n0 c0))]) h K = K (.agg #[(.slice y0 n0 c0)]) h := by kernel_rfl
theorem bd68_0p {G h : Hp} {y0 : Option Addr} {n0 c0 : Nat} {K : Value → Prop} : pw Try.prog G h (Instr.build 68 #[(0, (.slice y0 n0 c0))]) K = K (.agg #[(.slice y0 n0 c0)]) := by kernel_rfl
theorem bd76_0 {G h : Hp} {y0 : Option Addr} {n0 c0 : Nat} {K : Value → Hp → Prop} : wpH Try.prog G (Instr.build 76 #[(0, (.slice y0 n0 c0))]) h K = K (.agg #[(.slice y0 n0 c0)]) h := by kernel_rfl
theorem bd76_0p {G h : Hp} {y0 : Option Addr} {n0 c0 : Nat} {K : Value → Prop} : pw Try.prog G h (Instr.build 76 #[(0, (.slice y0 n0 c0))]) K = K (.agg #[(.slice y0 n0 c0)]) := by kernel_rfl
theorem bd88_0_1_2 {G h : Hp} {k0 : IntKind} {y0 : Int} {k1 : IntKind} {y1 : Int} {k2 : IntKind} {y2 : Int} {K : Value → Hp → Prop} : wpH Try.prog G (Instr.build 88 #[(0, (.int k0 y0)), (1, (.int k1 y1)), (2, (.int k2 y2))]) h K = K (.agg #[(.int k0 y0), (.int k1 y1), (.int k2 y2)]) h := by kernel_rfl
theorem bd88_0_1_2p {G h : Hp} {k0 : IntKind} {y0 : Int} {k1 : IntKind} {y1 : Int} {k2 : IntKind} {y2 : Int} {K : Value → Prop} : pw Try.prog G h (Instr.build 88 #[(0, (.int k0 y0)), (1, (.int k1 y1)), (2, (.int k2 y2))]) K = K (.agg #[(.int k0 y0), (.int k1 y1), (.int k2 y2)]) := by kernel_rfl
theorem bd90_0_1 {G h : Hp} {k0 : IntKind} {y0 : Int} {k1 : IntKind} {y1 : Int} {K : Value → Hp → Prop} : wpH Try.prog G (Instr.build 90 #[(0, (.int k0 y0)), (1, (.int k1 y1))]) h K = K (.agg #[(.int k0 y0), (.int k1 y1)]) h := by kernel_rfl
theorem bd90_0_1p {G h : Hp} {k0 : IntKind} {y0 : Int} {k1 : IntKind} {y1 : Int} {K : Value → Prop} : pw Try.prog G h (Instr.build 90 #[(0, (.int k0 y0)), (1, (.int k1 y1))]) K = K (.agg #[(.int k0 y0), (.int k1 y1)]) := by kernel_rfl
theorem bs22_1_0 {G h : Hp} {y0_0 y0_1 y0_2 : Value} {K : Value → Hp → Prop} : wpH Try.prog G (Instr.buildSlice 22 1 #[(0, (.agg #[y0_0, y0_1, y0_2]))]) h K = ∀ x, h x = none → G x = none → K (.slice (some ⟨x, 0, none⟩) 1 1) (h.set x (.cells #[y0_0, y0_1, y0_2] 30 (0, 0))) := by kernel_rfl
theorem bs32_1_0 {G h : Hp} {y0_0 y0_1 y0_2 : Value} {K : Value → Hp → Prop} : wpH Try.prog G (Instr.buildSlice 32 1 #[(0, (.agg #[y0_0, y0_1, y0_2]))]) h K = ∀ x, h x = none → G x = none → K (.slice (some ⟨x, 0, none⟩) 1 1) (h.set x (.cells #[y0_0, y0_1, y0_2] 35 (0, 0))) := by kernel_rfl
theorem bs39_1_0 {G h : Hp} {y0_0 y0_1 : Value} {K : Value → Hp → Prop} : wpH Try.prog G (Instr.buildSlice 39 1 #[(0, (.agg #[y0_0, y0_1]))]) h K = ∀ x, h x = none → G x = none → K (.slice (some ⟨x, 0, none⟩) 1 1) (h.set x (.cells #[y0_0, y0_1] 58 (0, 0))) := by kernel_rfl
theorem bs78_1_0 {G h : Hp} {y0_0 y0_1 y0_2 : Value} {K : Value → Hp → Prop} : wpH Try.prog G (Instr.buildSlice 78 1 #[(0, (.agg #[y0_0, y0_1, y0_2]))]) h K = ∀ x, h x = none → G x = none → K (.slice (some ⟨x, 0, none⟩) 1 1) (h.set x (.cells #[y0_0, y0_1, y0_2] 88 (0, 0))) := by kernel_rfl
theorem bs81_1_0 {G h : Hp} {y0_0 y0_1 : Value} {K : Value → Hp → Prop} : wpH Try.prog G (Instr.buildSlice 81 1 #[(0, (.agg #[y0_0, y0_1]))]) h K = ∀ x, h x = none → G x = none → K (.slice (some ⟨x, 0, none⟩) 1 1) (h.set x (.cells #[y0_0, y0_1] 90 (0, 0))) := by kernel_rfl
theorem eo30 : ElemOk Try.prog 30 3 24 := ⟨by kernel_rfl, by kernel_rfl, by kernel_rfl⟩
theorem eo35 : ElemOk Try.prog 35 3 24 := ⟨by kernel_rfl, by kernel_rfl, by kernel_rfl⟩
theorem eo58 : ElemOk Try.prog 58 2 16 := ⟨by kernel_rfl, by kernel_rfl, by kernel_rfl⟩
theorem eo88 : ElemOk Try.prog 88 3 24 := ⟨by kernel_rfl, by kernel_rfl, by kernel_rfl⟩
theorem eq4 {G h : Hp} {cx cy : Operand} {x y : Bool} {K : Value → Hp → Prop} : opH Try.prog G (xEq .eql 4 cx cy (.bool x) (.bool y)) h K = K (.bool ((x == y))) h := by kernel_rfl
theorem eq4p {G h h1 : Hp} {cx cy : Operand} {x y : Bool} {K : Value → Hp → Prop} : pureW Try.prog G h1 (xEq .eql 4 cx cy (.bool x) (.bool y)) h K = K (.bool ((x == y))) h := by kernel_rfl
theorem eq23n {G h : Hp} {cx cy : Operand}  {K : Value → Hp → Prop} : opH Try.prog G (xEq .eql 23 cx cy (.pointer none) (.pointer none)) h K = K (.bool true) h := by kernel_rfl
theorem eq23np {G h h1 : Hp} {cx cy : Operand}  {K : Value → Hp → Prop} : pureW Try.prog G h1 (xEq .eql 23 cx cy (.pointer none) (.pointer none)) h K = K (.bool true) h := by kernel_rfl
theorem eq23s {G h : Hp} {cx cy : Operand} {a : Addr} {K : Value → Hp → Prop} : opH Try.prog G (xEq .eql 23 cx cy (.pointer (some a)) (.pointer none)) h K = K (.bool false) h := by kernel_rfl
theorem eq23sp {G h h1 : Hp} {cx cy : Operand} {a : Addr} {K : Value → Hp → Prop} : pureW Try.prog G h1 (xEq .eql 23 cx cy (.pointer (some a)) (.pointer none)) h K = K (.bool false) h := by kernel_rfl
theorem eq37n {G h : Hp} {cx cy : Operand}  {K : Value → Hp → Prop} : opH Try.prog G (xEq .eql 37 cx cy .nilFunc .nilFunc) h K = K (.bool true) h := by kernel_rfl
theorem eq37np {G h h1 : Hp} {cx cy : Operand}  {K : Value → Hp → Prop} : pureW Try.prog G h1 (xEq .eql 37 cx cy .nilFunc .nilFunc) h K = K (.bool true) h := by kernel_rfl
theorem eq37s {G h : Hp} {cx cy : Operand} {f : Fn} {p q : Array Value} {K : Value → Hp → Prop} : opH Try.prog G (xEq .eql 37 cx cy (.func f p q) .nilFunc) h K = K (.bool false) h := by kernel_rfl
theorem eq37sp {G h h1 : Hp} {cx cy : Operand} {f : Fn} {p q : Array Value} {K : Value → Hp → Prop} : pureW Try.prog G h1 (xEq .eql 37 cx cy (.func f p q) .nilFunc) h K = K (.bool false) h := by kernel_rfl
-- eq 58: array 2 3
theorem ne4 {G h : Hp} {cx cy : Operand} {x y : Bool} {K : Value → Hp → Prop} : opH Try.prog G (xEq .neq 4 cx cy (.bool x) (.bool y)) h K = K (.bool (!(x == y))) h := by kernel_rfl
theorem ne4p {G h h1 : Hp} {cx cy : Operand} {x y : Bool} {K : Value → Hp → Prop} : pureW Try.prog G h1 (xEq .neq 4 cx cy (.bool x) (.bool y)) h K = K (.bool (!(x == y))) h := by kernel_rfl
theorem ne23n {G h : Hp} {cx cy : Operand}  {K : Value → Hp → Prop} : opH Try.prog G (xEq .neq 23 cx cy (.pointer none) (.pointer none)) h K = K (.bool false) h := by kernel_rfl
theorem ne23np {G h h1 : Hp} {cx cy : Operand}  {K : Value → Hp → Prop} : pureW Try.prog G h1 (xEq .neq 23 cx cy (.pointer none) (.pointer none)) h K = K (.bool false) h := by kernel_rfl
theorem ne23s {G h : Hp} {cx cy : Operand} {a : Addr} {K : Value → Hp → Prop} : opH Try.prog G (xEq .neq 23 cx cy (.pointer (some a)) (.pointer none)) h K = K (.bool true) h := by kernel_rfl
theorem ne23sp {G h h1 : Hp} {cx cy : Operand} {a : Addr} {K : Value → Hp → Prop} : pureW Try.prog G h1 (xEq .neq 23 cx cy (.pointer (some a)) (.pointer none)) h K = K (.bool true) h := by kernel_rfl
theorem deq35 (d : Nat) {x0 y0 : Int} {x1 y1 : Int} {x2 y2 : Int} : Det Try.prog (Op.equalIn (d + 1 + 1) 35 (.agg #[.int .i64 x0, .int .i64 x1, .int .i64 x2]) (.agg #[.int .i64 y0, .int .i64 y1, .int .i64 y2])) ((x0 == y0) && ((x1 == y1) && ((x2 == y2) && true))) := by
  refine eqD_struct Try.underlying35 (by kernel_rfl) ?_
  refine eqF_cons (by decide) (part_cell Try.underlying3 rfl rfl) (part_cell Try.underlying3 rfl rfl) (eqD_int (d := d + 0) Try.underlying3) ?_
  refine eqF_cons (by decide) (part_cell Try.underlying3 rfl rfl) (part_cell Try.underlying3 rfl rfl) (eqD_int (d := d + 0) Try.underlying3) ?_
  refine eqF_cons (by decide) (part_cell Try.underlying3 rfl rfl) (part_cell Try.underlying3 rfl rfl) (eqD_int (d := d + 0) Try.underlying3) ?_
  exact eqF_nil
theorem ne35 {G h : Hp} {cx cy : Operand} {x0 y0 : Int} {x1 y1 : Int} {x2 y2 : Int} {K : Value → Hp → Prop} : opH Try.prog G (xEq .neq 35 cx cy (.agg #[.int .i64 x0, .int .i64 x1, .int .i64 x2]) (.agg #[.int .i64 y0, .int .i64 y1, .int .i64 y2])) h K = K (.bool (!((x0 == y0) && ((x1 == y1) && ((x2 == y2) && true))))) h := ne_agg (by kernel_rfl) (deq35 9998)
theorem ne35p {G h h1 : Hp} {cx cy : Operand} {x0 y0 : Int} {x1 y1 : Int} {x2 y2 : Int} {K : Value → Hp → Prop} : pureW Try.prog G h1 (xEq .neq 35 cx cy (.agg #[.int .i64 x0, .int .i64 x1, .int .i64 x2]) (.agg #[.int .i64 y0, .int .i64 y1, .int .i64 y2])) h K = K (.bool (!((x0 == y0) && ((x1 == y1) && ((x2 == y2) && true))))) h := ne_aggp (by kernel_rfl) (deq35 9998)
-- eq 58: array 2 3
end Go.Proofs.Ytbloobepmgmbgaa
