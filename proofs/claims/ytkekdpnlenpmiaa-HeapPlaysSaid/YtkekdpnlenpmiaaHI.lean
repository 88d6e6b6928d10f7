/- A text of the proofs. -/
import Derived.Test.YtkekdpnlenpmiaaHLk
import Derived.Test.YtkekdpnlenpmiaaProg
namespace Go.Proofs.Ytkekdpnlenpmiaa
open Go Go.HL
theorem mixed : Try.prog.follows .mixedOrders = true := by kernel_rfl
theorem fa27_0 {G h : Hp} {a : Addr} {K : Value → Hp → Prop} : wpH Try.prog G (Instr.fieldAt 27 (.pointer (some a)) 0) h K = K (.pointer (some (a.add 0))) h := by kernel_rfl
theorem fa27_0p {G h : Hp} {a : Addr} {K : Value → Prop} : pw Try.prog G h (Instr.fieldAt 27 (.pointer (some a)) 0) K = K (.pointer (some (a.add 0))) := by kernel_rfl
theorem fa27_1 {G h : Hp} {a : Addr} {K : Value → Hp → Prop} : wpH Try.prog G (Instr.fieldAt 27 (.pointer (some a)) 1) h K = K (.pointer (some (a.add 1))) h := by kernel_rfl
theorem fa27_1p {G h : Hp} {a : Addr} {K : Value → Prop} : pw Try.prog G h (Instr.fieldAt 27 (.pointer (some a)) 1) K = K (.pointer (some (a.add 1))) := by kernel_rfl
theorem fa53_0 {G h : Hp} {a : Addr} {K : Value → Hp → Prop} : wpH Try.prog G (Instr.fieldAt 53 (.pointer (some a)) 0) h K = K (.pointer (some (a.add 0))) h := by kernel_rfl
theorem fa53_0p {G h : Hp} {a : Addr} {K : Value → Prop} : pw Try.prog G h (Instr.fieldAt 53 (.pointer (some a)) 0) K = K (.pointer (some (a.add 0))) := by kernel_rfl
theorem fa55_0 {G h : Hp} {a : Addr} {K : Value → Hp → Prop} : wpH Try.prog G (Instr.fieldAt 55 (.pointer (some a)) 0) h K = K (.pointer (some (a.add 0))) h := by kernel_rfl
theorem fa55_0p {G h : Hp} {a : Addr} {K : Value → Prop} : pw Try.prog G h (Instr.fieldAt 55 (.pointer (some a)) 0) K = K (.pointer (some (a.add 0))) := by kernel_rfl
theorem fa55_1 {G h : Hp} {a : Addr} {K : Value → Hp → Prop} : wpH Try.prog G (Instr.fieldAt 55 (.pointer (some a)) 1) h K = K (.pointer (some (a.add 1))) h := by kernel_rfl
theorem fa55_1p {G h : Hp} {a : Addr} {K : Value → Prop} : pw Try.prog G h (Instr.fieldAt 55 (.pointer (some a)) 1) K = K (.pointer (some (a.add 1))) := by kernel_rfl
theorem fa63_0 {G h : Hp} {a : Addr} {K : Value → Hp → Prop} : wpH Try.prog G (Instr.fieldAt 63 (.pointer (some a)) 0) h K = K (.pointer (some (a.add 0))) h := by kernel_rfl
theorem fa63_0p {G h : Hp} {a : Addr} {K : Value → Prop} : pw Try.prog G h (Instr.fieldAt 63 (.pointer (some a)) 0) K = K (.pointer (some (a.add 0))) := by kernel_rfl
theorem fa63_1 {G h : Hp} {a : Addr} {K : Value → Hp → Prop} : wpH Try.prog G (Instr.fieldAt 63 (.pointer (some a)) 1) h K = K (.pointer (some (a.add 1))) h := by kernel_rfl
theorem fa63_1p {G h : Hp} {a : Addr} {K : Value → Prop} : pw Try.prog G h (Instr.fieldAt 63 (.pointer (some a)) 1) K = K (.pointer (some (a.add 1))) := by kernel_rfl
theorem fa63_2 {G h : Hp} {a : Addr} {K : Value → Hp → Prop} : wpH Try.prog G (Instr.fieldAt 63 (.pointer (some a)) 2) h K = K (.pointer (some (a.add 2))) h := by kernel_rfl
theorem fa63_2p {G h : Hp} {a : Addr} {K : Value → Prop} : pw Try.prog G h (Instr.fieldAt 63 (.pointer (some a)) 2) K = K (.pointer (some (a.add 2))) := by kernel_rfl
theorem fa65_0 {G h : Hp} {a : Addr} {K : Value → Hp → Prop} : wpH Try.prog G (Instr.fieldAt 65 (.pointer (some a)) 0) h K = K (.pointer (some (a.add 0))) h := by kernel_rfl
theorem fa65_0p {G h : Hp} {a : Addr} {K : Value → Prop} : pw Try.prog G h (Instr.fieldAt 65 (.pointer (some a)) 0) K = K (.pointer (some (a.add 0))) := by kernel_rfl
theorem fa65_1 {G h : Hp} {a : Addr} {K : Value → Hp → Prop} : wpH Try.prog G (Instr.fieldAt 65 (.pointer (some a)) 1) h K = K (.pointer (some (a.add 2))) h := by kernel_rfl
theorem fa65_1p {G h : Hp} {a : Addr} {K : Value → Prop} : pw Try.prog G h (Instr.fieldAt 65 (.pointer (some a)) 1) K = K (.pointer (some (a.add 2))) := by kernel_rfl
theorem fa70_0 {G h : Hp} {a : Addr} {K : Value → Hp → Prop} : wpH Try.prog G (Instr.fieldAt 70 (.pointer (some a)) 0) h K = K (.pointer (some (a.add 0))) h := by kernel_rfl
theorem fa70_0p {G h : Hp} {a : Addr} {K : Value → Prop} : pw Try.prog G h (Instr.fieldAt 70 (.pointer (some a)) 0) K = K (.pointer (some (a.add 0))) := by kernel_rfl
theorem fa70_1 {G h : Hp} {a : Addr} {K : Value → Hp → Prop} : wpH Try.prog G (Instr.fieldAt 70 (.pointer (some a)) 1) h K = K (.pointer (some (a.add 1))) h := by kernel_rfl
theorem fa70_1p {G h : Hp} {a : Addr} {K : Value → Prop} : pw Try.prog G h (Instr.fieldAt 70 (.pointer (some a)) 1) K = K (.pointer (some (a.add 1))) := by kernel_rfl
theorem fa70_2 {G h : Hp} {a : Addr} {K : Value → Hp → Prop} : wpH Try.prog G (Instr.fieldAt 70 (.pointer (some a)) 2) h K = K (.pointer (some (a.add 2))) h := by kernel_rfl
theorem fa70_2p {G h : Hp} {a : Addr} {K : Value → Prop} : pw Try.prog G h (Instr.fieldAt 70 (.pointer (some a)) 2) K = K (.pointer (some (a.add 2))) := by kernel_rfl
theorem fa72_0 {G h : Hp} {a : Addr} {K : Value → Hp → Prop} : wpH Try.prog G (Instr.fieldAt 72 (.pointer (some a)) 0) h K = K (.pointer (some (a.add 0))) h := by kernel_rfl
theorem fa72_0p {G h : Hp} {a : Addr} {K : Value → Prop} : pw Try.prog G h (Instr.fieldAt 72 (.pointer (some a)) 0) K = K (.pointer (some (a.add 0))) := by kernel_rfl
theorem fa72_1 {G h : Hp} {a : Addr} {K : Value → Hp → Prop} : wpH Try.prog G (Instr.fieldAt 72 (.pointer (some a)) 1) h K = K (.pointer (some (a.add 1))) h := by kernel_rfl
theorem fa72_1p {G h : Hp} {a : Addr} {K : Value → Prop} : pw Try.prog G h (Instr.fieldAt 72 (.pointer (some a)) 1) K = K (.pointer (some (a.add 1))) := by kernel_rfl
theorem ld3 {G h : Hp} {a : Addr} {K : Value → Hp → Prop} : wpH Try.prog G (Instr.loadAt 3 (.pointer (some a))) h K = (∃ x, cellIn G h a = some x ∧ K x h) := by kernel_rfl
theorem ld3p {G h : Hp} {a : Addr} {K : Value → Prop} : pw Try.prog G h (Instr.loadAt 3 (.pointer (some a))) K = (∃ x, cellIn G h a = some x ∧ K x) := by kernel_rfl
theorem ld4 {G h : Hp} {a : Addr} {K : Value → Hp → Prop} : wpH Try.prog G (Instr.loadAt 4 (.pointer (some a))) h K = (∃ x, cellIn G h a = some x ∧ K x h) := by kernel_rfl
theorem ld4p {G h : Hp} {a : Addr} {K : Value → Prop} : pw Try.prog G h (Instr.loadAt 4 (.pointer (some a))) K = (∃ x, cellIn G h a = some x ∧ K x) := by kernel_rfl
theorem ld9 {G h : Hp} {a : Addr} {K : Value → Hp → Prop} : wpH Try.prog G (Instr.loadAt 9 (.pointer (some a))) h K = (∃ x, cellIn G h a = some x ∧ K x h) := by kernel_rfl
theorem ld9p {G h : Hp} {a : Addr} {K : Value → Prop} : pw Try.prog G h (Instr.loadAt 9 (.pointer (some a))) K = (∃ x, cellIn G h a = some x ∧ K x) := by kernel_rfl
theorem ld24 {G h : Hp} {a : Addr} {K : Value → Hp → Prop} : wpH Try.prog G (Instr.loadAt 24 (.pointer (some a))) h K = (∃ x, cellIn G h a = some x ∧ K x h) := by kernel_rfl
theorem ld24p {G h : Hp} {a : Addr} {K : Value → Prop} : pw Try.prog G h (Instr.loadAt 24 (.pointer (some a))) K = (∃ x, cellIn G h a = some x ∧ K x) := by kernel_rfl
theorem ld27 {G h : Hp} {a : Addr} {K : Value → Hp → Prop} : wpH Try.prog G (Instr.loadAt 27 (.pointer (some a))) h K = (∃ x0, cellIn G h (a.add 0) = some x0 ∧ ∃ x1, cellIn G h (a.add 1) = some x1 ∧ K (.agg #[x0, x1]) h) := by kernel_rfl
theorem ld27p {G h : Hp} {a : Addr} {K : Value → Prop} : pw Try.prog G h (Instr.loadAt 27 (.pointer (some a))) K = (∃ x0, cellIn G h (a.add 0) = some x0 ∧ ∃ x1, cellIn G h (a.add 1) = some x1 ∧ K (.agg #[x0, x1])) := by kernel_rfl
theorem ld28 {G h : Hp} {a : Addr} {K : Value → Hp → Prop} : wpH Try.prog G (Instr.loadAt 28 (.pointer (some a))) h K = (∃ x, cellIn G h a = some x ∧ K x h) := by kernel_rfl
theorem ld28p {G h : Hp} {a : Addr} {K : Value → Prop} : pw Try.prog G h (Instr.loadAt 28 (.pointer (some a))) K = (∃ x, cellIn G h a = some x ∧ K x) := by kernel_rfl
theorem ld39 {G h : Hp} {a : Addr} {K : Value → Hp → Prop} : wpH Try.prog G (Instr.loadAt 39 (.pointer (some a))) h K = (∃ x, cellIn G h a = some x ∧ K x h) := by kernel_rfl
theorem ld39p {G h : Hp} {a : Addr} {K : Value → Prop} : pw Try.prog G h (Instr.loadAt 39 (.pointer (some a))) K = (∃ x, cellIn G h a = some x ∧ K x) := by kernel_rfl
theorem ld44 {G h : Hp} {a : Addr} {K : Value → Hp → Prop} : wpH Try.prog G (Instr.loadAt 44 (.pointer (some a))) h K = (∃ x, cellIn G h a = some x ∧ K x h) := by kernel_rfl
theorem ld44p {G h : Hp} {a : Addr} {K : Value → Prop} : pw Try.prog G h (Instr.loadAt 44 (.pointer (some a))) K = (∃ x, cellIn G h a = some x ∧ K x) := by kernel_rfl
theorem ld55 {G h : Hp} {a : Addr} {K : Value → Hp → Prop} : wpH Try.prog G (Instr.loadAt 55 (.pointer (some a))) h K = (∃ x0, cellIn G h (a.add 0) = some x0 ∧ ∃ x1, cellIn G h (a.add 1) = some x1 ∧ ∃ x2, cellIn G h (a.add 2) = some x2 ∧ K (.agg #[x0, x1, x2]) h) := by kernel_rfl
theorem ld55p {G h : Hp} {a : Addr} {K : Value → Prop} : pw Try.prog G h (Instr.loadAt 55 (.pointer (some a))) K = (∃ x0, cellIn G h (a.add 0) = some x0 ∧ ∃ x1, cellIn G h (a.add 1) = some x1 ∧ ∃ x2, cellIn G h (a.add 2) = some x2 ∧ K (.agg #[x0, x1, x2])) := by kernel_rfl
theorem ld61 {G h : Hp} {a : Addr} {K : Value → Hp → Prop} : wpH Try.prog G (Instr.loadAt 61 (.pointer (some a))) h K = (∃ x, cellIn G h a = some x ∧ K x h) := by kernel_rfl
theorem ld61p {G h : Hp} {a : Addr} {K : Value → Prop} : pw Try.prog G h (Instr.loadAt 61 (.pointer (some a))) K = (∃ x, cellIn G h a = some x ∧ K x) := by kernel_rfl
theorem ld65 {G h : Hp} {a : Addr} {K : Value → Hp → Prop} : wpH Try.prog G (Instr.loadAt 65 (.pointer (some a))) h K = (∃ x0, cellIn G h (a.add 0) = some x0 ∧ ∃ x1, cellIn G h (a.add 1) = some x1 ∧ ∃ x2, cellIn G h (a.add 2) = some x2 ∧ K (.agg #[x0, x1, x2]) h) := by kernel_rfl
theorem ld65p {G h : Hp} {a : Addr} {K : Value → Prop} : pw Try.prog G h (Instr.loadAt 65 (.pointer (some a))) K = (∃ x0, cellIn G h (a.add 0) = some x0 ∧ ∃ x1, cellIn G h (a.add 1) = some x1 ∧ ∃ x2, cellIn G h (a.add 2) = some x2 ∧ K (.agg #[x0, x1, x2])) := by kernel_rfl
theorem ld68 {G h : Hp} {a : Addr} {K : Value → Hp → Prop} : wpH Try.prog G (Instr.loadAt 68 (.pointer (some a))) h K = (∃ x, cellIn G h a = some x ∧ K x h) := by kernel_rfl
theorem ld68p {G h : Hp} {a : Addr} {K : Value → Prop} : pw Try.prog G h (Instr.loadAt 68 (.pointer (some a))) K = (∃ x, cellIn G h a = some x ∧ K x) := by kernel_rfl
theorem ld72 {G h : Hp} {a : Addr} {K : Value → Hp → Prop} : wpH Try.prog G (Instr.loadAt 72 (.pointer (some a))) h K = (∃ x0, cellIn G h (a.add 0) = some x0 ∧ ∃ x1, cellIn G h (a.add 1) = some x1 ∧ K (.agg #[x0, x1]) h) := by kernel_rfl
theorem ld72p {G h : Hp} {a : Addr} {K : Value → Prop} : pw Try.prog G h (Instr.loadAt 72 (.pointer (some a))) K = (∃ x0, cellIn G h (a.add 0) = some x0 ∧ ∃ x1, cellIn G h (a.add 1) = some x1 ∧ K (.agg #[x0, x1])) := by kernel_rfl
theorem sz3 : (Try.prog.info? 3).map (·.size) = some 1 := by kernel_rfl
theorem sz4 : (Try.prog.info? 4).map (·.size) = some 1 := by kernel_rfl
theorem sz9 : (Try.prog.info? 9).map (·.size) = some 1 := by kernel_rfl
theorem sz27 : (Try.prog.info? 27).map (·.size) = some 2 := by kernel_rfl
theorem sz44 : (Try.prog.info? 44).map (·.size) = some 1 := by kernel_rfl
theorem sz55 : (Try.prog.info? 55).map (·.size) = some 3 := by kernel_rfl
theorem sz61 : (Try.prog.info? 61).map (·.size) = some 1 := by kernel_rfl
theorem sz65 : (Try.prog.info? 65).map (·.size) = some 3 := by kernel_rfl
theorem sz68 : (Try.prog.info? 68).map (·.size) = some 1 := by kernel_rfl
theorem sz72 : (Try.prog.info? 72).map (·.size) = some 2 := by kernel_rfl
theorem st3s {G h : Hp} {b i : Nat} {e : TypeId} {l : List Value} {v : Value} {K : Unit → Hp → Prop} (h1 : oneCell v = true) (hl : i < l.length) : wpH Try.prog G (Instr.storeAt 3 (.pointer (some ⟨b, i, none⟩)) v) (h.set b (.cells l.toArray e (0, 0))) K = K () (h.set b (.cells (l.set i v).toArray e (0, 0))) := store1_self sz3 h1 hl
theorem st4s {G h : Hp} {b i : Nat} {e : TypeId} {l : List Value} {v : Value} {K : Unit → Hp → Prop} (h1 : oneCell v = true) (hl : i < l.length) : wpH Try.prog G (Instr.storeAt 4 (.pointer (some ⟨b, i, none⟩)) v) (h.set b (.cells l.toArray e (0, 0))) K = K () (h.set b (.cells (l.set i v).toArray e (0, 0))) := store1_self sz4 h1 hl
theorem st9s {G h : Hp} {b i : Nat} {e : TypeId} {l : List Value} {v : Value} {K : Unit → Hp → Prop} (h1 : oneCell v = true) (hl : i < l.length) : wpH Try.prog G (Instr.storeAt 9 (.pointer (some ⟨b, i, none⟩)) v) (h.set b (.cells l.toArray e (0, 0))) K = K () (h.set b (.cells (l.set i v).toArray e (0, 0))) := store1_self sz9 h1 hl
theorem st27w {G h : Hp} {b : Nat} {e : TypeId} {z0 z1 : Value} {k0 : IntKind} {y0 : Int} {k1 : IntKind} {y1 : Int} {K : Unit → Hp → Prop} : wpH Try.prog G (Instr.storeAt 27 (.pointer (some ⟨b, 0, none⟩)) (.agg #[(.int k0 y0), (.int k1 y1)])) (h.set b (.cells #[z0, z1] e (0, 0))) K = K () (h.set b (.cells #[(.int k0 y0), (.int k1 y1)] e (0, 0))) := store_whole sz27 rfl rfl (fun x hx => by simp only [List.mem_cons, List.not_mem_nil, or_false] at hx; rcases hx with rfl | rfl <;> first | rfl | assumption)
theorem st44s {G h : Hp} {b i : Nat} {e : TypeId} {l : List Value} {v : Value} {K : Unit → Hp → Prop} (h1 : oneCell v = true) (hl : i < l.length) : wpH Try.prog G (Instr.storeAt 44 (.pointer (some ⟨b, i, none⟩)) v) (h.set b (.cells l.toArray e (0, 0))) K = K () (h.set b (.cells (l.set i v).toArray e (0, 0))) := store1_self sz44 h1 hl
theorem st55w {G h : Hp} {b : Nat} {e : TypeId} {z0 z1 z2 : Value} {k0 : IntKind} {y0 : Int} {k1 : IntKind} {y1 : Int} {k2 : IntKind} {y2 : Int} {K : Unit → Hp → Prop} : wpH Try.prog G (Instr.storeAt 55 (.pointer (some ⟨b, 0, none⟩)) (.agg #[(.int k0 y0), (.int k1 y1), (.int k2 y2)])) (h.set b (.cells #[z0, z1, z2] e (0, 0))) K = K () (h.set b (.cells #[(.int k0 y0), (.int k1 y1), (.int k2 y2)] e (0, 0))) := store_whole sz55 rfl rfl (fun x hx => by simp only [List.mem_cons, List.not_mem_nil, or_false] at hx; rcases hx with rfl | rfl | rfl <;> first | rfl | assumption)
theorem st61s {G h : Hp} {b i : Nat} {e : TypeId} {l : List Value} {v : Value} {K : Unit → Hp → Prop} (h1 : oneCell v = true) (hl : i < l.length) : wpH Try.prog G (Instr.storeAt 61 (.pointer (some ⟨b, i, none⟩)) v) (h.set b (.cells l.toArray e (0, 0))) K = K () (h.set b (.cells (l.set i v).toArray e (0, 0))) := store1_self sz61 h1 hl
theorem st65w {G h : Hp} {b : Nat} {e : TypeId} {z0 z1 z2 : Value} {k0 : IntKind} {y0 : Int} {k1 : IntKind} {y1 : Int} {k2 : IntKind} {y2 : Int} {K : Unit → Hp → Prop} : wpH Try.prog G (Instr.storeAt 65 (.pointer (some ⟨b, 0, none⟩)) (.agg #[(.int k0 y0), (.int k1 y1), (.int k2 y2)])) (h.set b (.cells #[z0, z1, z2] e (0, 0))) K = K () (h.set b (.cells #[(.int k0 y0), (.int k1 y1), (.int k2 y2)] e (0, 0))) := store_whole sz65 rfl rfl (fun x hx => by simp only [List.mem_cons, List.not_mem_nil, or_false] at hx; rcases hx with rfl | rfl | rfl <;> first | rfl | assumption)
theorem st68s {G h : Hp} {b i : Nat} {e : TypeId} {l : List Value} {v : Value} {K : Unit → Hp → Prop} (h1 : oneCell v = true) (hl : i < l.length) : wpH Try.prog G (Instr.storeAt 68 (.pointer (some ⟨b, i, none⟩)) v) (h.set b (.cells l.toArray e (0, 0))) K = K () (h.set b (.cells (l.set i v).toArray e (0, 0))) := store1_self sz68 h1 hl
theorem st72w {G h : Hp} {b : Nat} {e : TypeId} {z0 z1 : Value} {y0 : ByteArray} {k1 : IntKind} {y1 : Int} {K : Unit → Hp → Prop} : wpH Try.prog G (Instr.storeAt 72 (.pointer (some ⟨b, 0, none⟩)) (.agg #[(.string y0), (.int k1 y1)])) (h.set b (.cells #[z0, z1] e (0, 0))) K = K () (h.set b (.cells #[(.string y0), (.int k1 y1)] e (0, 0))) := store_whole sz72 rfl rfl (fun x hx => by simp only [List.mem_cons, List.not_mem_nil, or_false] at hx; rcases hx with rfl | rfl <;> first | rfl | assumption)
theorem un22 : Try.prog.underlying 22 = some (.slice 3) := by kernel_rfl
theorem ix22 {G h : Hp} {ad : Addr} {len cap : Nat} {k : IntKind} {i : Int} {K : Value → Hp → Prop} (h1 : 0 ≤ i) (h2 : i < len) : wpH Try.prog G (Instr.indexAt 22 (.slice (some ad) len cap) (.int k i)) h K = K (.pointer (some (ad.add (i.toNat * 1)))) h := index_slice un22 sz3 h1 h2
theorem ix22p {G h : Hp} {ad : Addr} {len cap : Nat} {k : IntKind} {i : Int} {K : Value → Prop} (h1 : 0 ≤ i) (h2 : i < len) : pw Try.prog G h (Instr.indexAt 22 (.slice (some ad) len cap) (.int k i)) K = K (.pointer (some (ad.add (i.toNat * 1)))) := index_slicep un22 sz3 h1 h2
theorem un31 : Try.prog.underlying 31 = some (.slice 4) := by kernel_rfl
theorem ix31 {G h : Hp} {ad : Addr} {len cap : Nat} {k : IntKind} {i : Int} {K : Value → Hp → Prop} (h1 : 0 ≤ i) (h2 : i < len) : wpH Try.prog G (Instr.indexAt 31 (.slice (some ad) len cap) (.int k i)) h K = K (.pointer (some (ad.add (i.toNat * 1)))) h := index_slice un31 sz4 h1 h2
theorem ix31p {G h : Hp} {ad : Addr} {len cap : Nat} {k : IntKind} {i : Int} {K : Value → Prop} (h1 : 0 ≤ i) (h2 : i < len) : pw Try.prog G h (Instr.indexAt 31 (.slice (some ad) len cap) (.int k i)) K = K (.pointer (some (ad.add (i.toNat * 1)))) := index_slicep un31 sz4 h1 h2
theorem un36 : Try.prog.underlying 36 = some (.slice 9) := by kernel_rfl
theorem ix36 {G h : Hp} {ad : Addr} {len cap : Nat} {k : IntKind} {i : Int} {K : Value → Hp → Prop} (h1 : 0 ≤ i) (h2 : i < len) : wpH Try.prog G (Instr.indexAt 36 (.slice (some ad) len cap) (.int k i)) h K = K (.pointer (some (ad.add (i.toNat * 1)))) h := index_slice un36 sz9 h1 h2
theorem ix36p {G h : Hp} {ad : Addr} {len cap : Nat} {k : IntKind} {i : Int} {K : Value → Prop} (h1 : 0 ≤ i) (h2 : i < len) : pw Try.prog G h (Instr.indexAt 36 (.slice (some ad) len cap) (.int k i)) K = K (.pointer (some (ad.add (i.toNat * 1)))) := index_slicep un36 sz9 h1 h2
theorem un44 : Try.prog.underlying 44 = some (.slice 27) := by kernel_rfl
theorem ix44 {G h : Hp} {ad : Addr} {len cap : Nat} {k : IntKind} {i : Int} {K : Value → Hp → Prop} (h1 : 0 ≤ i) (h2 : i < len) : wpH Try.prog G (Instr.indexAt 44 (.slice (some ad) len cap) (.int k i)) h K = K (.pointer (some (ad.add (i.toNat * 2)))) h := index_slice un44 sz27 h1 h2
theorem ix44p {G h : Hp} {ad : Addr} {len cap : Nat} {k : IntKind} {i : Int} {K : Value → Prop} (h1 : 0 ≤ i) (h2 : i < len) : pw Try.prog G h (Instr.indexAt 44 (.slice (some ad) len cap) (.int k i)) K = K (.pointer (some (ad.add (i.toNat * 2)))) := index_slicep un44 sz27 h1 h2
theorem un50 : Try.prog.underlying 50 = some (.slice 55) := by kernel_rfl
theorem ix50 {G h : Hp} {ad : Addr} {len cap : Nat} {k : IntKind} {i : Int} {K : Value → Hp → Prop} (h1 : 0 ≤ i) (h2 : i < len) : wpH Try.prog G (Instr.indexAt 50 (.slice (some ad) len cap) (.int k i)) h K = K (.pointer (some (ad.add (i.toNat * 3)))) h := index_slice un50 sz55 h1 h2
theorem ix50p {G h : Hp} {ad : Addr} {len cap : Nat} {k : IntKind} {i : Int} {K : Value → Prop} (h1 : 0 ≤ i) (h2 : i < len) : pw Try.prog G h (Instr.indexAt 50 (.slice (some ad) len cap) (.int k i)) K = K (.pointer (some (ad.add (i.toNat * 3)))) := index_slicep un50 sz55 h1 h2
theorem un61 : Try.prog.underlying 61 = some (.slice 65) := by kernel_rfl
theorem ix61 {G h : Hp} {ad : Addr} {len cap : Nat} {k : IntKind} {i : Int} {K : Value → Hp → Prop} (h1 : 0 ≤ i) (h2 : i < len) : wpH Try.prog G (Instr.indexAt 61 (.slice (some ad) len cap) (.int k i)) h K = K (.pointer (some (ad.add (i.toNat * 3)))) h := index_slice un61 sz65 h1 h2
theorem ix61p {G h : Hp} {ad : Addr} {len cap : Nat} {k : IntKind} {i : Int} {K : Value → Prop} (h1 : 0 ≤ i) (h2 : i < len) : pw Try.prog G h (Instr.indexAt 61 (.slice (some ad) len cap) (.int k i)) K = K (.pointer (some (ad.add (i.toNat * 3)))) := index_slicep un61 sz65 h1 h2
theorem un68 : Try.prog.underlying 68 = some (.slice 72) := by kernel_rfl
theorem ix68 {G h : Hp} {ad : Addr} {len cap : Nat} {k : IntKind} {i : Int} {K : Value → Hp → Prop} (h1 : 0 ≤ i) (h2 : i < len) : wpH Try.prog G (Instr.indexAt 68 (.slice (some ad) len cap) (.int k i)) h K = K (.pointer (some (ad.add (i.toNat * 2)))) h := index_slice un68 sz72 h1 h2
theorem ix68p {G h : Hp} {ad : Addr} {len cap : Nat} {k : IntKind} {i : Int} {K : Value → Prop} (h1 : 0 ≤ i) (h2 : i < len) : pw Try.prog G h (Instr.indexAt 68 (.slice (some ad) len cap) (.int k i)) K = K (.pointer (some (ad.add (i.toNat * 2)))) := index_slicep un68 sz72 h1 h2
theorem ln9 {G h : Hp} {s : ByteArray} {K : Value → Hp → Prop} : wpH Try.prog G (Builtin.len_ #[9] 3 #[.string s]) h K = K (.int .i64 s.size) h := by kernel_rfl
theorem ln9p {G h : Hp} {s : ByteArray} {K : Value → Prop} : pw Try.prog G h (Builtin.len_ #[9] 3 #[.string s]) K = K (.int .i64 s.size) := by kernel_rfl
theorem ln22 {G h : Hp} {a : Option Addr} {n c : Nat} {K : Value → Hp → Prop} : wpH Try.prog G (Builtin.len_ #[22] 3 #[.slice a n c]) h K = K (.int .i64 n) h := by kernel_rfl
theorem ln22p {G h : Hp} {a : Option Addr} {n c : Nat} {K : Value → Prop} : pw Try.prog G h (Builtin.len_ #[22] 3 #[.slice a n c]) K = K (.int .i64 n) := by kernel_rfl
theorem ln31 {G h : Hp} {a : Option Addr} {n c : Nat} {K : Value → Hp → Prop} : wpH Try.prog G (Builtin.len_ #[31] 3 #[.slice a n c]) h K = K (.int .i64 n) h := by kernel_rfl
theorem ln31p {G h : Hp} {a : Option Addr} {n c : Nat} {K : Value → Prop} : pw Try.prog G h (Builtin.len_ #[31] 3 #[.slice a n c]) K = K (.int .i64 n) := by kernel_rfl
theorem ln36 {G h : Hp} {a : Option Addr} {n c : Nat} {K : Value → Hp → Prop} : wpH Try.prog G (Builtin.len_ #[36] 3 #[.slice a n c]) h K = K (.int .i64 n) h := by kernel_rfl
theorem ln36p {G h : Hp} {a : Option Addr} {n c : Nat} {K : Value → Prop} : pw Try.prog G h (Builtin.len_ #[36] 3 #[.slice a n c]) K = K (.int .i64 n) := by kernel_rfl
theorem ln44 {G h : Hp} {a : Option Addr} {n c : Nat} {K : Value → Hp → Prop} : wpH Try.prog G (Builtin.len_ #[44] 3 #[.slice a n c]) h K = K (.int .i64 n) h := by kernel_rfl
theorem ln44p {G h : Hp} {a : Option Addr} {n c : Nat} {K : Value → Prop} : pw Try.prog G h (Builtin.len_ #[44] 3 #[.slice a n c]) K = K (.int .i64 n) := by kernel_rfl
theorem ln50 {G h : Hp} {a : Option Addr} {n c : Nat} {K : Value → Hp → Prop} : wpH Try.prog G (Builtin.len_ #[50] 3 #[.slice a n c]) h K = K (.int .i64 n) h := by kernel_rfl
theorem ln50p {G h : Hp} {a : Option Addr} {n c : Nat} {K : Value → Prop} : pw Try.prog G h (Builtin.len_ #[50] 3 #[.slice a n c]) K = K (.int .i64 n) := by kernel_rfl
theorem ln61 {G h : Hp} {a : Option Addr} {n c : Nat} {K : Value → Hp → Prop} : wpH Try.prog G (Builtin.len_ #[61] 3 #[.slice a n c]) h K = K (.int .i64 n) h := by kernel_rfl
theorem ln61p {G h : Hp} {a : Option Addr} {n c : Nat} {K : Value → Prop} : pw Try.prog G h (Builtin.len_ #[61] 3 #[.slice a n c]) K = K (.int .i64 n) := by kernel_rfl
theorem ln68 {G h : Hp} {a : Option Addr} {n c : Nat} {K : Value → Hp → Prop} : wpH Try.prog G (Builtin.len_ #[68] 3 #[.slice a n c]) h K = K (.int .i64 n) h := by kernel_rfl
theorem ln68p {G h : Hp} {a : Option Addr} {n c : Nat} {K : Value → Prop} : pw Try.prog G h (Builtin.len_ #[68] 3 #[.slice a n c]) K = K (.int .i64 n) := by kernel_rfl
theorem al3 {G h : Hp} {v : Value} {K : Value → Hp → Prop} : wpH Try.prog G (Instr.alloc 3 true v) h K = ∀ x, h x = none → G x = none → K (.pointer (some ⟨x, 0, none⟩)) (h.set x (.cells #[(.int .i64 0)] 3 (0, 0))) := by kernel_rfl
theorem al27 {G h : Hp} {v : Value} {K : Value → Hp → Prop} : wpH Try.prog G (Instr.alloc 27 true v) h K = ∀ x, h x = none → G x = none → K (.pointer (some ⟨x, 0, none⟩)) (h.set x (.cells #[(.int .i64 0), (.int .i64 0)] 27 (0, 0))) := by kernel_rfl
theorem al44 {G h : Hp} {v : Value} {K : Value → Hp → Prop} : wpH Try.prog G (Instr.alloc 44 true v) h K = ∀ x, h x = none → G x = none → K (.pointer (some ⟨x, 0, none⟩)) (h.set x (.cells #[(.slice none 0 0)] 44 (0, 0))) := by kernel_rfl
theorem al55 {G h : Hp} {v : Value} {K : Value → Hp → Prop} : wpH Try.prog G (Instr.alloc 55 true v) h K = ∀ x, h x = none → G x = none → K (.pointer (some ⟨x, 0, none⟩)) (h.set x (.cells #[(.int .i64 0), (.int .i64 0), (.int .i64 0)] 55 (0, 0))) := by kernel_rfl
theorem al65 {G h : Hp} {v : Value} {K : Value → Hp → Prop} : wpH Try.prog G (Instr.alloc 65 true v) h K = ∀ x, h x = none → G x = none → K (.pointer (some ⟨x, 0, none⟩)) (h.set x (.cells #[(.int .i64 0), (.int .i64 0), (.int .i64 0)] 65 (0, 0))) := by kernel_rfl
theorem al72 {G h : Hp} {v : Value} {K : Value → Hp → Prop} : wpH Try.prog G (Instr.alloc 72 true v) h K = ∀ x, h x = none → G x = none → K (.pointer (some ⟨x, 0, none⟩)) (h.set x (.cells #[(.string ⟨#[]⟩), (.int .i64 0)] 72 (0, 0))) := by kernel_rfl
theorem cf10 {G h : Hp} {args : Array Value} {K : Value → Hp → Prop} : opH Try.prog G (callFunc 10 args) h K = HCalls Try.prog G 10 args h K := by kernel_rfl
theorem cf11 {G h : Hp} {args : Array Value} {K : Value → Hp → Prop} : opH Try.prog G (callFunc 11 args) h K = HCalls Try.prog G 11 args h K := by kernel_rfl
theorem cf12 {G h : Hp} {args : Array Value} {K : Value → Hp → Prop} : opH Try.prog G (callFunc 12 args) h K = HCalls Try.prog G 12 args h K := by kernel_rfl
theorem cf13 {G h : Hp} {args : Array Value} {K : Value → Hp → Prop} : opH Try.prog G (callFunc 13 args) h K = HCalls Try.prog G 13 args h K := by kernel_rfl
theorem cf14 {G h : Hp} {args : Array Value} {K : Value → Hp → Prop} : opH Try.prog G (callFunc 14 args) h K = HCalls Try.prog G 14 args h K := by kernel_rfl
theorem cf15 {G h : Hp} {args : Array Value} {K : Value → Hp → Prop} : opH Try.prog G (callFunc 15 args) h K = HCalls Try.prog G 15 args h K := by kernel_rfl
theorem cf16 {G h : Hp} {args : Array Value} {K : Value → Hp → Prop} : opH Try.prog G (callFunc 16 args) h K = HCalls Try.prog G 16 args h K := by kernel_rfl
theorem cf17 {G h : Hp} {args : Array Value} {K : Value → Hp → Prop} : opH Try.prog G (callFunc 17 args) h K = HCalls Try.prog G 17 args h K := by kernel_rfl
theorem cf18 {G h : Hp} {args : Array Value} {K : Value → Hp → Prop} : opH Try.prog G (callFunc 18 args) h K = HCalls Try.prog G 18 args h K := by kernel_rfl
theorem cf19 {G h : Hp} {args : Array Value} {K : Value → Hp → Prop} : opH Try.prog G (callFunc 19 args) h K = HCalls Try.prog G 19 args h K := by kernel_rfl
theorem cf20 {G h : Hp} {args : Array Value} {K : Value → Hp → Prop} : opH Try.prog G (callFunc 20 args) h K = HCalls Try.prog G 20 args h K := by kernel_rfl
theorem cf21 {G h : Hp} {args : Array Value} {K : Value → Hp → Prop} : opH Try.prog G (callFunc 21 args) h K = HCalls Try.prog G 21 args h K := by kernel_rfl
theorem cf22 {G h : Hp} {args : Array Value} {K : Value → Hp → Prop} : opH Try.prog G (callFunc 22 args) h K = HCalls Try.prog G 22 args h K := by kernel_rfl
theorem cf23 {G h : Hp} {args : Array Value} {K : Value → Hp → Prop} : opH Try.prog G (callFunc 23 args) h K = HCalls Try.prog G 23 args h K := by kernel_rfl
theorem cf24 {G h : Hp} {args : Array Value} {K : Value → Hp → Prop} : opH Try.prog G (callFunc 24 args) h K = HCalls Try.prog G 24 args h K := by kernel_rfl
theorem cf25 {G h : Hp} {args : Array Value} {K : Value → Hp → Prop} : opH Try.prog G (callFunc 25 args) h K = HCalls Try.prog G 25 args h K := by kernel_rfl
theorem cf26 {G h : Hp} {args : Array Value} {K : Value → Hp → Prop} : opH Try.prog G (callFunc 26 args) h K = HCalls Try.prog G 26 args h K := by kernel_rfl
theorem cf27 {G h : Hp} {args : Array Value} {K : Value → Hp → Prop} : opH Try.prog G (callFunc 27 args) h K = HCalls Try.prog G 27 args h K := by kernel_rfl
theorem cf28 {G h : Hp} {args : Array Value} {K : Value → Hp → Prop} : opH Try.prog G (callFunc 28 args) h K = HCalls Try.prog G 28 args h K := by kernel_rfl
theorem cf29 {G h : Hp} {args : Array Value} {K : Value → Hp → Prop} : opH Try.prog G (callFunc 29 args) h K = HCalls Try.prog G 29 args h K := by kernel_rfl
theorem cf30 {G h : Hp} {args : Array Value} {K : Value → Hp → Prop} : opH Try.prog G (callFunc 30 args) h K = HCalls Try.prog G 30 args h K := by kernel_rfl
theorem cf31 {G h : Hp} {args : Array Value} {K : Value → Hp → Prop} : opH Try.prog G (callFunc 31 args) h K = HCalls Try.prog G 31 args h K := by kernel_rfl
theorem cf32 {G h : Hp} {args : Array Value} {K : Value → Hp → Prop} : opH Try.prog G (callFunc 32 args) h K = HCalls Try.prog G 32 args h K := by kernel_rfl
theorem cf33 {G h : Hp} {args : Array Value} {K : Value → Hp → Prop} : opH Try.prog G (callFunc 33 args) h K = HCalls Try.prog G 33 args h K := by kernel_rfl
theorem cf34 {G h : Hp} {args : Array Value} {K : Value → Hp → Prop} : opH Try.prog G (callFunc 34 args) h K = HCalls Try.prog G 34 args h K := by kernel_rfl
theorem cf35 {G h : Hp} {args : Array Value} {K : Value → Hp → Prop} : opH Try.prog G (callFunc 35 args) h K = HCalls Try.prog G 35 args h K := by kernel_rfl
theorem cf36 {G h : Hp} {args : Array Value} {K : Value → Hp → Prop} : opH Try.prog G (callFunc 36 args) h K = HCalls Try.prog G 36 args h K := by kernel_rfl
theorem cf37 {G h : Hp} {args : Array Value} {K : Value → Hp → Prop} : opH Try.prog G (callFunc 37 args) h K = HCalls Try.prog G 37 args h K := by kernel_rfl
theorem cf38 {G h : Hp} {args : Array Value} {K : Value → Hp → Prop} : opH Try.prog G (callFunc 38 args) h K = HCalls Try.prog G 38 args h K := by kernel_rfl
theorem cf39 {G h : Hp} {args : Array Value} {K : Value → Hp → Prop} : opH Try.prog G (callFunc 39 args) h K = HCalls Try.prog G 39 args h K := by kernel_rfl
theorem cf40 {G h : Hp} {args : Array Value} {K : Value → Hp → Prop} : opH Try.prog G (callFunc 40 args) h K = HCalls Try.prog G 40 args h K := by kernel_rfl
theorem cf41 {G h : Hp} {args : Array Value} {K : Value → Hp → Prop} : opH Try.prog G (callFunc 41 args) h K = HCalls Try.prog G 41 args h K := by kernel_rfl
theorem cf42 {G h : Hp} {args : Array Value} {K : Value → Hp → Prop} : opH Try.prog G (callFunc 42 args) h K = HCalls Try.prog G 42 args h K := by kernel_rfl
theorem cf43 {G h : Hp} {args : Array Value} {K : Value → Hp → Prop} : opH Try.prog G (callFunc 43 args) h K = HCalls Try.prog G 43 args h K := by kernel_rfl
theorem cf44 {G h : Hp} {args : Array Value} {K : Value → Hp → Prop} : opH Try.prog G (callFunc 44 args) h K = HCalls Try.prog G 44 args h K := by kernel_rfl
theorem cf45 {G h : Hp} {args : Array Value} {K : Value → Hp → Prop} : opH Try.prog G (callFunc 45 args) h K = HCalls Try.prog G 45 args h K := by kernel_rfl
theorem cf46 {G h : Hp} {args : Array Value} {K : Value → Hp → Prop} : opH Try.prog G (callFunc 46 args) h K = HCalls Try.prog G 46 args h K := by kernel_rfl
theorem cf47 {G h : Hp} {args : Array Value} {K : Value → Hp → Prop} : opH Try.prog G (callFunc 47 args) h K = HCalls Try.prog G 47 args h K := by kernel_rfl
theorem bd27_ {G h : Hp}  {K : Value → Hp → Prop} : wpH Try.prog G (Instr.build 27 #[]) h K = K (.agg #[(.int .i64 0), (.int .i64 0)]) h := by kernel_rfl
theorem bd27_p {G h : Hp}  {K : Value → Prop} : pw Try.prog G h (Instr.build 27 #[]) K = K (.agg #[(.int .i64 0), (.int .i64 0)]) := by kernel_rfl
theorem bd27_0_1 {G h : Hp} {k0 : IntKind} {y0 : Int} {k1 : IntKind} {y1 : Int} {K : Value → Hp → Prop} : wpH Try.prog G (Instr.build 27 #[(0, (.int k0 y0)), (1, (.int k1 y1))]) h K = K (.agg #[(.int k0 y0), (.int k1 y1)]) h := by kernel_rfl
theorem bd27_0_1p {G h : Hp} {k0 : IntKind} {y0 : Int} {k1 : IntKind} {y1 : Int} {K : Value → Prop} : pw Try.prog G h (Instr.build 27 #[(0, (.int k0 y0)), (1, (.int k1 y1))]) K = K (.agg #[(.int k0 y0), (.int k1 y1)]) := by kernel_rfl
theorem bd53_ {G h : Hp}  {K : Value → Hp → Prop} : wpH Try.prog G (Instr.build 53 #[]) h K = K (.agg #[(.slice none 0 0)]) h := by kernel_rfl
theorem bd53_p {G h : Hp}  {K : Value → Prop} : pw Try.prog G h (Instr.build 53 #[]) K = K (.agg #[(.slice none 0 0)]) := by kernel_rfl
theorem bd53_0 {G h : Hp} {y0 : Option Addr} {n0 c0 : Nat} {K : Value → Hp → Prop} : wpH Try.prog G (Instr.build 53 #[(0, (.slice y0 n0 c0))]) h K = K (.agg #[(.slice y0 n0 c0)]) h := by kernel_rfl
theorem bd53_0p {G h : Hp} {y0 : Option Addr} {n0 c0 : Nat} {K : Value → Prop} : pw Try.prog G h (Instr.build 53 #[(0, (.slice y0 n0 c0))]) K = K (.agg #[(.slice y0 n0 c0)]) := by kernel_rfl
theorem bd63_0 {G h : Hp} {y0 : Fn} {p0 q0 : Array Value} {K : Value → Hp → Prop} : wpH Try.prog G (Instr.build 63 #[(0, (.func y0 p0 q0))]) h K = K (.agg #[(.func y0 p0 q0), (.slice none 0 0), (.int .i64 0)]) h := by kernel_rfl
theorem bd63_0p {G h : Hp} {y0 : Fn} {p0 q0 : Array Value} {K : Value → Prop} : pw Try.prog G h (Instr.build 63 #[(0, (.func y0 p0 q0))]) K = K (.agg #[(.func y0 p0 q0), (.slice none 0 0), (.int .i64 0)]) := by kernel_rfl
theorem bd63_0_1_2 {G h : Hp} {y0 : Fn} {p0 q0 : Array Value} {y1 : Option Addr} {n1 c1 : Nat} {k2 : IntKind} {y2 : Int} {K : Value → Hp → Prop} : wpH Try.prog G (Instr.build 63 #[(0, (.func y0 p0 q0)), (1, (.slice y1 n1 c1)), (2, (.int k2 y2))]) h K = K (.agg #[(.func y0 p0 q0), (.slice y1 n1 c1), (.int k2 y2)]) h := by kernel_rfl
theorem bd63_0_1_2p {G h : Hp} {y0 : Fn} {p0 q0 : Array Value} {y1 : Option Addr} {n1 c1 : Nat} {k2 : IntKind} {y2 : Int} {K : Value → Prop} : pw Try.prog G h (Instr.build 63 #[(0, (.func y0 p0 q0)), (1, (.slice y1 n1 c1)), (2, (.int k2 y2))]) K = K (.agg #[(.func y0 p0 q0), (.slice y1 n1 c1), (.int k2 y2)]) := by kernel_rfl
theorem bd65_ {G h : Hp}  {K : Value → Hp → Prop} : wpH Try.prog G (Instr.build 65 #[]) h K = K (.agg #[(.int .i64 0), (.int .i64 0), (.int .i64 0)]) h := by kernel_rfl
theorem bd65_p {G h : Hp}  {K : Value → Prop} : pw Try.prog G h (Instr.build 65 #[]) K = K (.agg #[(.int .i64 0), (.int .i64 0), (.int .i64 0)]) := by kernel_rfl
theorem bd65_0_1 {G h : Hp} {y0_0 y0_1 : Value} {k1 : IntKind} {y1 : Int} {K : Value → Hp → Prop} : wpH Try.prog G (Instr.build 65 #[(0, (.agg #[y0_0, y0_1])), (1, (.int k1 y1))]) h K = K (.agg #[y0_0, y0_1, (.int k1 y1)]) h := by kernel_rfl
theorem bd65_0_1p {G h : Hp} {y0_0 y0_1 : Value} {k1 : IntKind} {y1 : Int} {K : Value → Prop} : pw Try.prog G h (Instr.build 65 #[(0, (.agg #[y0_0, y0_1])), (1, (.int k1 y1))]) K = K (.agg #[y0_0, y0_1, (.int k1 y1)]) := by kernel_rfl
theorem bd70_0 {G h : Hp} {y0 : Fn} {p0 q0 : Array Value} {K : Value → Hp → Prop} : wpH Try.prog G (Instr.build 70 #[(0, (.func y0 p0 q0))]) h K = K (.agg #[(.func y0 p0 q0), (.slice none 0 0), (.int .i64 0)]) h := by kernel_rfl
theorem bd70_0p {G h : Hp} {y0 : Fn} {p0 q0 : Array Value} {K : Value → Prop} : pw Try.prog G h (Instr.build 70 #[(0, (.func y0 p0 q0))]) K = K (.agg #[(.func y0 p0 q0), (.slice none 0 0), (.int .i64 0)]) := by kernel_rfl
theorem bd72_ {G h : Hp}  {K : Value → Hp → Prop} : wpH Try.prog G (Instr.build 72 #[]) h K = K (.agg #[(.string ⟨#[]⟩), (.int .i64 0)]) h := by kernel_rfl
theorem bd72_p {G h : Hp}  {K : Value → Prop} : pw Try.prog G h (Instr.build 72 #[]) K = K (.agg #[(.string ⟨#[]⟩), (.int .i64 0)]) := by kernel_rfl
theorem bd72_0_1 {G h : Hp} {y0 : ByteArray} {k1 : IntKind} {y1 : Int} {K : Value → Hp → Prop} : wpH Try.prog G (Instr.build 72 #[(0, (.string y0)), (1, (.int k1 y1))]) h K = K (.agg #[(.string y0), (.int k1 y1)]) h := by kernel_rfl
theorem bd72_0_1p {G h : Hp} {y0 : ByteArray} {k1 : IntKind} {y1 : Int} {K : Value → Prop} : pw Try.prog G h (Instr.build 72 #[(0, (.string y0)), (1, (.int k1 y1))]) K = K (.agg #[(.string y0), (.int k1 y1)]) := by kernel_rfl
theorem bd77_0_1 {G h : Hp} {k0 : IntKind} {y0 : Int} {k1 : IntKind} {y1 : Int} {K : Value → Hp → Prop} : wpH Try.prog G (Instr.build 77 #[(0, (.int k0 y0)), (1, (.int k1 y1))]) h K = K (.agg #[(.int k0 y0), (.int k1 y1)]) h := by kernel_rfl
theorem bd77_0_1p {G h : Hp} {k0 : IntKind} {y0 : Int} {k1 : IntKind} {y1 : Int} {K : Value → Prop} : pw Try.prog G h (Instr.build 77 #[(0, (.int k0 y0)), (1, (.int k1 y1))]) K = K (.agg #[(.int k0 y0), (.int k1 y1)]) := by kernel_rfl
theorem bs61_1_0 {G h : Hp} {y0_0 y0_1 y0_2 : Value} {K : Value → Hp → Prop} : wpH Try.prog G (Instr.buildSlice 61 1 #[(0, (.agg #[y0_0, y0_1, y0_2]))]) h K = ∀ x, h x = none → G x = none → K (.slice (some ⟨x, 0, none⟩) 1 1) (h.set x (.cells #[y0_0, y0_1, y0_2] 65 (0, 0))) := by kernel_rfl
theorem bs68_1_0 {G h : Hp} {y0_0 y0_1 : Value} {K : Value → Hp → Prop} : wpH Try.prog G (Instr.buildSlice 68 1 #[(0, (.agg #[y0_0, y0_1]))]) h K = ∀ x, h x = none → G x = none → K (.slice (some ⟨x, 0, none⟩) 1 1) (h.set x (.cells #[y0_0, y0_1] 72 (0, 0))) := by kernel_rfl
theorem bs44_1_0 {G h : Hp} {y0_0 y0_1 : Value} {K : Value → Hp → Prop} : wpH Try.prog G (Instr.buildSlice 44 1 #[(0, (.agg #[y0_0, y0_1]))]) h K = ∀ x, h x = none → G x = none → K (.slice (some ⟨x, 0, none⟩) 1 1) (h.set x (.cells #[y0_0, y0_1] 27 (0, 0))) := by kernel_rfl
theorem bs61_0_ {G h : Hp}  {K : Value → Hp → Prop} : wpH Try.prog G (Instr.buildSlice 61 0 #[]) h K = ∀ x, h x = none → G x = none → K (.slice (some ⟨x, 0, none⟩) 0 0) (h.set x (.cells #[] 65 (0, 0))) := by kernel_rfl
theorem eo27 : ElemOk Try.prog 27 2 16 := ⟨by kernel_rfl, by kernel_rfl, by kernel_rfl⟩
theorem eo65 : ElemOk Try.prog 65 3 24 := ⟨by kernel_rfl, by kernel_rfl, by kernel_rfl⟩
theorem eo72 : ElemOk Try.prog 72 2 24 := ⟨by kernel_rfl, by kernel_rfl, by kernel_rfl⟩
theorem eq9 {G h : Hp} {cx cy : Operand} {x y : ByteArray} {K : Value → Hp → Prop} : opH Try.prog G (xEq .eql 9 cx cy (.string x) (.string y)) h K = K (.bool (x.toList == y.toList)) h := by kernel_rfl
theorem eq9p {G h h1 : Hp} {cx cy : Operand} {x y : ByteArray} {K : Value → Hp → Prop} : pureW Try.prog G h1 (xEq .eql 9 cx cy (.string x) (.string y)) h K = K (.bool (x.toList == y.toList)) h := by kernel_rfl
theorem eq24n {G h : Hp} {cx cy : Operand}  {K : Value → Hp → Prop} : opH Try.prog G (xEq .eql 24 cx cy (.pointer none) (.pointer none)) h K = K (.bool true) h := by kernel_rfl
theorem eq24np {G h h1 : Hp} {cx cy : Operand}  {K : Value → Hp → Prop} : pureW Try.prog G h1 (xEq .eql 24 cx cy (.pointer none) (.pointer none)) h K = K (.bool true) h := by kernel_rfl
theorem eq24s {G h : Hp} {cx cy : Operand} {a : Addr} {K : Value → Hp → Prop} : opH Try.prog G (xEq .eql 24 cx cy (.pointer (some a)) (.pointer none)) h K = K (.bool false) h := by kernel_rfl
theorem eq24sp {G h h1 : Hp} {cx cy : Operand} {a : Addr} {K : Value → Hp → Prop} : pureW Try.prog G h1 (xEq .eql 24 cx cy (.pointer (some a)) (.pointer none)) h K = K (.bool false) h := by kernel_rfl
theorem deq27 (d : Nat) {x0 y0 : Int} {x1 y1 : Int} : Det Try.prog (Op.equalIn (d + 1 + 1) 27 (.agg #[.int .i64 x0, .int .i64 x1]) (.agg #[.int .i64 y0, .int .i64 y1])) ((x0 == y0) && ((x1 == y1) && true)) := by
  refine eqD_struct Try.underlying27 (by kernel_rfl) ?_
  refine eqF_cons (by decide) (part_cell Try.underlying3 rfl rfl) (part_cell Try.underlying3 rfl rfl) (eqD_int (d := d + 0) Try.underlying3) ?_
  refine eqF_cons (by decide) (part_cell Try.underlying3 rfl rfl) (part_cell Try.underlying3 rfl rfl) (eqD_int (d := d + 0) Try.underlying3) ?_
  exact eqF_nil
theorem eq27 {G h : Hp} {cx cy : Operand} {x0 y0 : Int} {x1 y1 : Int} {K : Value → Hp → Prop} : opH Try.prog G (xEq .eql 27 cx cy (.agg #[.int .i64 x0, .int .i64 x1]) (.agg #[.int .i64 y0, .int .i64 y1])) h K = K (.bool (((x0 == y0) && ((x1 == y1) && true)))) h := eq_agg (by kernel_rfl) (deq27 9998)
theorem eq27p {G h h1 : Hp} {cx cy : Operand} {x0 y0 : Int} {x1 y1 : Int} {K : Value → Hp → Prop} : pureW Try.prog G h1 (xEq .eql 27 cx cy (.agg #[.int .i64 x0, .int .i64 x1]) (.agg #[.int .i64 y0, .int .i64 y1])) h K = K (.bool (((x0 == y0) && ((x1 == y1) && true)))) h := eq_aggp (by kernel_rfl) (deq27 9998)
theorem eq28n {G h : Hp} {cx cy : Operand}  {K : Value → Hp → Prop} : opH Try.prog G (xEq .eql 28 cx cy .nilFunc .nilFunc) h K = K (.bool true) h := by kernel_rfl
theorem eq28np {G h h1 : Hp} {cx cy : Operand}  {K : Value → Hp → Prop} : pureW Try.prog G h1 (xEq .eql 28 cx cy .nilFunc .nilFunc) h K = K (.bool true) h := by kernel_rfl
theorem eq28s {G h : Hp} {cx cy : Operand} {f : Fn} {p q : Array Value} {K : Value → Hp → Prop} : opH Try.prog G (xEq .eql 28 cx cy (.func f p q) .nilFunc) h K = K (.bool false) h := by kernel_rfl
theorem eq28sp {G h h1 : Hp} {cx cy : Operand} {f : Fn} {p q : Array Value} {K : Value → Hp → Prop} : pureW Try.prog G h1 (xEq .eql 28 cx cy (.func f p q) .nilFunc) h K = K (.bool false) h := by kernel_rfl
theorem eq37n {G h : Hp} {cx cy : Operand}  {K : Value → Hp → Prop} : opH Try.prog G (xEq .eql 37 cx cy (.pointer none) (.pointer none)) h K = K (.bool true) h := by kernel_rfl
theorem eq37np {G h h1 : Hp} {cx cy : Operand}  {K : Value → Hp → Prop} : pureW Try.prog G h1 (xEq .eql 37 cx cy (.pointer none) (.pointer none)) h K = K (.bool true) h := by kernel_rfl
theorem eq37s {G h : Hp} {cx cy : Operand} {a : Addr} {K : Value → Hp → Prop} : opH Try.prog G (xEq .eql 37 cx cy (.pointer (some a)) (.pointer none)) h K = K (.bool false) h := by kernel_rfl
theorem eq37sp {G h h1 : Hp} {cx cy : Operand} {a : Addr} {K : Value → Hp → Prop} : pureW Try.prog G h1 (xEq .eql 37 cx cy (.pointer (some a)) (.pointer none)) h K = K (.bool false) h := by kernel_rfl
theorem eq39n {G h : Hp} {cx cy : Operand}  {K : Value → Hp → Prop} : opH Try.prog G (xEq .eql 39 cx cy .nilFunc .nilFunc) h K = K (.bool true) h := by kernel_rfl
theorem eq39np {G h h1 : Hp} {cx cy : Operand}  {K : Value → Hp → Prop} : pureW Try.prog G h1 (xEq .eql 39 cx cy .nilFunc .nilFunc) h K = K (.bool true) h := by kernel_rfl
theorem eq39s {G h : Hp} {cx cy : Operand} {f : Fn} {p q : Array Value} {K : Value → Hp → Prop} : opH Try.prog G (xEq .eql 39 cx cy (.func f p q) .nilFunc) h K = K (.bool false) h := by kernel_rfl
theorem eq39sp {G h h1 : Hp} {cx cy : Operand} {f : Fn} {p q : Array Value} {K : Value → Hp → Prop} : pureW Try.prog G h1 (xEq .eql 39 cx cy (.func f p q) .nilFunc) h K = K (.bool false) h := by kernel_rfl
theorem eq74n {G h : Hp} {cx cy : Operand}  {K : Value → Hp → Prop} : opH Try.prog G (xEq .eql 74 cx cy .nilFunc .nilFunc) h K = K (.bool true) h := by kernel_rfl
theorem eq74np {G h h1 : Hp} {cx cy : Operand}  {K : Value → Hp → Prop} : pureW Try.prog G h1 (xEq .eql 74 cx cy .nilFunc .nilFunc) h K = K (.bool true) h := by kernel_rfl
theorem eq74s {G h : Hp} {cx cy : Operand} {f : Fn} {p q : Array Value} {K : Value → Hp → Prop} : opH Try.prog G (xEq .eql 74 cx cy (.func f p q) .nilFunc) h K = K (.bool false) h := by kernel_rfl
theorem eq74sp {G h h1 : Hp} {cx cy : Operand} {f : Fn} {p q : Array Value} {K : Value → Hp → Prop} : pureW Try.prog G h1 (xEq .eql 74 cx cy (.func f p q) .nilFunc) h K = K (.bool false) h := by kernel_rfl
theorem ne4 {G h : Hp} {cx cy : Operand} {x y : Bool} {K : Value → Hp → Prop} : opH Try.prog G (xEq .neq 4 cx cy (.bool x) (.bool y)) h K = K (.bool (!(x == y))) h := by kernel_rfl
theorem ne4p {G h h1 : Hp} {cx cy : Operand} {x y : Bool} {K : Value → Hp → Prop} : pureW Try.prog G h1 (xEq .neq 4 cx cy (.bool x) (.bool y)) h K = K (.bool (!(x == y))) h := by kernel_rfl
theorem ne27 {G h : Hp} {cx cy : Operand} {x0 y0 : Int} {x1 y1 : Int} {K : Value → Hp → Prop} : opH Try.prog G (xEq .neq 27 cx cy (.agg #[.int .i64 x0, .int .i64 x1]) (.agg #[.int .i64 y0, .int .i64 y1])) h K = K (.bool (!((x0 == y0) && ((x1 == y1) && true)))) h := ne_agg (by kernel_rfl) (deq27 9998)
theorem ne27p {G h h1 : Hp} {cx cy : Operand} {x0 y0 : Int} {x1 y1 : Int} {K : Value → Hp → Prop} : pureW Try.prog G h1 (xEq .neq 27 cx cy (.agg #[.int .i64 x0, .int .i64 x1]) (.agg #[.int .i64 y0, .int .i64 y1])) h K = K (.bool (!((x0 == y0) && ((x1 == y1) && true)))) h := ne_aggp (by kernel_rfl) (deq27 9998)
end Go.Proofs.Ytkekdpnlenpmiaa
