/- What is claimed in parts is as if it were claimed at once. -/
import Derived.Test.YtbloobepmgmbgaaRRi
set_option linter.unusedSimpArgs false
set_option linter.unusedVariables false
set_option maxRecDepth 100000
namespace Go.Proofs.Ytbloobepmgmbgaa
open Go Go.HL Go.Proofs.Resv

/-- Parts that lie side by side. -/
structure Tiled (l : List Want) (ce f t : Int) : Prop where
  cell : ∀ w ∈ l, w.c = ce
  ok : ∀ w ∈ l, f ≤ w.f ∧ w.f < w.t ∧ w.t ≤ t
  all : ∀ x, f ≤ x → x < t → ∃ w ∈ l, w.f ≤ x ∧ x < w.t

theorem Tiled.nil {ce f : Int} : Tiled [] ce f f := ⟨(fun _ h => by cases h), (fun _ h => by cases h), fun x h1 h2 => by omega⟩
theorem Tiled.right {l : List Want} {ce f t n : Int} (h : Tiled l ce f t) (hft : f ≤ t) (hn : 0 < n) : Tiled (l ++ [⟨ce, t, t + n⟩]) ce f (t + n) := by
  refine ⟨fun w hw => ?_, fun w hw => ?_, fun x h1 h2 => ?_⟩
  · rcases List.mem_append.1 hw with hw | hw
    · exact h.cell w hw
    · simp at hw; subst hw; rfl
  · rcases List.mem_append.1 hw with hw | hw
    · have := h.ok w hw; omega
    · simp at hw; subst hw; exact ⟨hft, by show t < t + n; omega, by show t + n ≤ t + n; omega⟩
  · by_cases hx : x < t
    · obtain ⟨w, hw, h3⟩ := h.all x h1 hx
      exact ⟨w, List.mem_append_left _ hw, h3⟩
    · exact ⟨_, List.mem_append_right _ (List.mem_singleton.2 rfl), by show t ≤ x; omega, h2⟩
theorem Tiled.left {l : List Want} {ce f t n : Int} (h : Tiled l ce f t) (hft : f ≤ t) (hn : 0 < n) : Tiled (l ++ [⟨ce, f - n, f⟩]) ce (f - n) t := by
  refine ⟨fun w hw => ?_, fun w hw => ?_, fun x h1 h2 => ?_⟩
  · rcases List.mem_append.1 hw with hw | hw
    · exact h.cell w hw
    · simp at hw; subst hw; rfl
  · rcases List.mem_append.1 hw with hw | hw
    · have := h.ok w hw; omega
    · simp at hw; subst hw; exact ⟨by show f - n ≤ f - n; omega, by show f - n < f; omega, hft⟩
  · by_cases hx : f ≤ x
    · obtain ⟨w, hw, h3⟩ := h.all x hx h2
      exact ⟨w, List.mem_append_left _ hw, h3⟩
    · exact ⟨_, List.mem_append_right _ (List.mem_singleton.2 rfl), h1, by show x < f; omega⟩

theorem Tiled.valid {l : List Want} {ce f t : Int} {n : Nat} (h : Tiled l ce f t) (c0 : 0 ≤ ce) (c1 : ce < n) (h0 : 0 ≤ f) (h1 : t ≤ FV) : l.all (validW n) = true := List.all_eq_true.2 fun w hw => by
  have := h.ok w hw
  have := h.cell w hw
  exact valid_iff.2 ⟨⟨by omega, by omega⟩, by omega, by omega, by omega⟩

theorem Tiled.free {T : Tb} {l : List Want} {ce f t r : Int} (h : Tiled l ce f t) (g : GoodT T) (hft : f < t) : freeW T r ⟨ce, f, t⟩ = l.all (freeW T r) := by
  rw [Bool.eq_iff_iff, List.all_eq_true]
  unfold freeW
  rw [free_iff]
  constructor
  · intro hf w hw
    obtain ⟨o1, o2, o3⟩ := h.ok w hw
    rw [h.cell w hw, free_iff]
    intro s hs hr
    have := hf s hs hr
    simp only at this
    omega
  · intro hf s hs hr
    show t ≤ s.f ∨ s.t ≤ f
    have hs' : s ∈ rowT T ce := hs
    have ok := ((rowT_good g ce).ok s hs').2.1
    by_cases k : t ≤ s.f ∨ s.t ≤ f
    · exact k
    · exfalso
      obtain ⟨w, hw, w1, w2⟩ := h.all (max s.f f) (by omega) (by omega)
      have := hf w hw
      rw [h.cell w hw, free_iff] at this
      have := this s hs' hr
      omega

theorem parts_law {T : Tb} {l : List Want} {ce f t r : Int} (h : Tiled l ce f t) (g : GoodT T) (hft : f < t) (hr : 0 ≤ r) (c0 : 0 ≤ ce) (c1 : ce < T.length) (h0 : 0 ≤ f) (h1 : t ≤ FV) (hf : l.all (freeW T r) = true) : rowT (putW r T ⟨ce, f, t⟩) ce = rowT (putsT r T l) ce := by
  have hv := h.valid (n := T.length) c0 c1 h0 h1
  have hv1 : validW T.length ⟨ce, f, t⟩ = true := valid_iff.2 ⟨⟨c0, c1⟩, h0, hft, h1⟩
  have hf1 : freeW T r ⟨ce, f, t⟩ = true := by rw [h.free g hft]; exact hf
  obtain ⟨b, fb⟩ := some_few T
  obtain ⟨g1, _, _⟩ := putW_inv hr g fb hv1 hf1
  obtain ⟨g2, _, _, _⟩ := puts_inv hr g fb hv hf
  refine good_ext (rowT_good g1 ce) (rowT_good g2 ce) fun r' x => ?_
  rw [put_has hr g hv1 hf1, puts_has hr g hv hf]
  constructor
  · rintro (k | ⟨k1, _, k2, k3⟩)
    · exact .inl k
    · obtain ⟨w, hw, w1, w2⟩ := h.all x k2 k3
      exact .inr ⟨k1, w, hw, (h.cell w hw).symm, w1, w2⟩
  · rintro (k | ⟨k1, w, hw, _, w1, w2⟩)
    · exact .inl k
    · have := h.ok w hw
      exact .inr ⟨k1, rfl, by show f ≤ x; omega, by show x < t; omega⟩

/-- One part claimed. -/
theorem claim_one {T : Tb} {r : Int} {w : Want} (hr : 0 ≤ r) (hv : validW T.length w = true) : claimT T r [w] = if freeW T r w = true then (0, putW r T w) else (18, T) := by
  unfold claimT
  rw [if_neg (by omega), if_pos (by simp [hv])]
  by_cases h : freeW T r w = true
  · rw [if_pos h, if_pos (by simp [h])]
    rfl
  · rw [if_neg h, if_neg (by simp [h])]

/-- The table behind the first parts. -/
structure PartAt (T Ti : Tb) (r : Int) (l : List Want) (b : Nat) (e : Int) : Prop where
  good : GoodT Ti
  few : Few Ti (b + l.length)
  len : Ti.length = T.length
  free : ∀ u, freeW Ti r u = freeW T r u
  ans : e = 0 ∧ l.all (freeW T r) = true ∧ Ti = putsT r T l ∨ e = 18 ∧ l.all (freeW T r) = false

theorem PartAt.nil {T : Tb} {r : Int} {b : Nat} (g : GoodT T) (f : Few T b) : PartAt T T r [] b 0 := ⟨g, f, rfl, fun _ => rfl, .inl ⟨rfl, rfl, rfl⟩⟩
theorem PartAt.next {T Ti : Tb} {r e : Int} {l : List Want} {w : Want} {b : Nat} (p : PartAt T Ti r l b e) (hr : 0 ≤ r) (hv : validW T.length w = true) : PartAt T (claimT Ti r [w]).2 r (l ++ [w]) b (if (claimT Ti r [w]).1 = 0 then e else (claimT Ti r [w]).1) ∧ ((claimT Ti r [w]).1 = 0 ∨ (claimT Ti r [w]).1 = 18) := by
  have hv' : validW Ti.length w = true := by rw [p.len]; exact hv
  rw [claim_one hr hv']
  by_cases h : freeW Ti r w = true
  · rw [if_pos h]
    obtain ⟨g1, f1, k1⟩ := putW_inv hr p.good p.few hv' h
    refine ⟨⟨g1, few_le f1 (by simp; omega), putW_len.trans p.len, fun u => (k1 u).trans (p.free u), ?_⟩, .inl rfl⟩
    rw [if_pos rfl]
    have hw : freeW T r w = true := by rw [← p.free]; exact h
    rcases p.ans with ⟨e1, e2, e3⟩ | ⟨e1, e2⟩
    · refine .inl ⟨e1, by rw [List.all_append, e2]; simp [hw], ?_⟩
      unfold putsT at e3 ⊢
      rw [List.foldl_append, ← e3]
      rfl
    · exact .inr ⟨e1, by rw [List.all_append, e2]; rfl⟩
  · rw [if_neg h]
    have hw : freeW T r w = false := by rw [← p.free]; simpa using h
    refine ⟨⟨p.good, few_le p.few (by simp), p.len, p.free, ?_⟩, .inr rfl⟩
    exact .inr ⟨rfl, by rw [List.all_append]; simp [hw]⟩

theorem slice_mid {P : Program} {G : Hp} {T e : TypeId} {n : Nat} (hu : P.underlying T = some (.slice e)) (hs : (P.info? e).map (·.size) = some n) {a : Addr} {len cap : Nat} {i j : Int} {h : Hp} {K : Value → Hp → Prop} (h1 : 0 ≤ i) (h2 : i ≤ j) (h3 : j ≤ cap) :
    wpH P G (Instr.sliceAt T (.slice (some a) len cap) (some (.int .i64 i)) (some (.int .i64 j)) none) h K = K (.slice (some (if cap = i.toNat then a else a.add (i.toNat * n))) (j.toNat - i.toNat) (cap - i.toNat)) h := by
  cases hi : P.info? e with
  | none => rw [hi] at hs; cases hs
  | some x =>
    rw [hi] at hs; simp at hs; subst hs
    have h4 : (0 : Int) ≤ j := by omega
    have h5 : i ≤ max j 0 := by omega
    simp [Instr.sliceAt, Instr.slice, Instr.sliceBounds, Instr.sliceBound, asIntOf, underlying, program, bind, Sem.bind, pure, wpH, wpH_bind, hu, sizeOf, typeInfo, hi, h1, h2, h3, h4, h5]
    by_cases hc : cap = i.toNat <;> simp [hc]

theorem sees_one {G h h1 : Hp} {sa : Option Addr} {cap i : Nat} {l : List Want} {x : Want} {K : Value → Hp → Prop} (s : Sees wantC G h1 (.slice sa l.length cap) l) (hx : l[i]? = some x) (H : ∀ v, Sees wantC G h1 v [x] → K v h) :
    wpH Try.prog G (Instr.sliceAt 22 (.slice sa l.length cap) (some (.int .i64 i)) (some (.int .i64 ((i : Int) + 1))) none) h K := by
  have hlt := (List.getElem?_eq_some_iff.1 hx).1
  obtain ⟨b, o, c, e1, _⟩ := s.get hx
  simp only [Value.slice.injEq] at e1
  obtain ⟨rfl, -, rfl⟩ := e1
  obtain ⟨a', c', e2, hc, st⟩ := s.take (k := i + 1) (by omega)
  simp only [Value.slice.injEq, true_and] at e2
  obtain ⟨rfl, rfl⟩ := e2
  rw [slice_mid un22 sz30 (Int.natCast_nonneg i) (by omega) (by omega)]
  have e3 : (l.take (i + 1)).length = i + 1 := by rw [List.length_take]; omega
  have st' : Sees wantC G h1 (.slice (some ⟨b, o, none⟩) (l.take (i + 1)).length cap) (l.take (i + 1)) := by rw [e3]; exact st
  have sd := st'.drop (k := i) (by omega)
  have e4 : (l.take (i + 1)).drop i = [x] := by
    rw [List.take_add_one, hx, List.drop_left' (by rw [List.length_take]; omega)]
    rfl
  rw [e4, e3] at sd
  have e5 : ((i : Int) + 1).toNat - (i : Int).toNat = i + 1 - i := by omega
  rw [e5, Int.toNat_natCast]
  exact H _ sd

end Go.Proofs.Ytbloobepmgmbgaa
