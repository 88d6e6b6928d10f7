/- Rows of things in memory: lists of plain data as cells. -/
import Derived.Test.YtkekdpnlenpmiaaHLi
namespace Go.HL
open Go

structure Cod (α : Type) where
  n : Nat
  enc : α → List Value
  len : ∀ x, (enc x).length = n
  one : ∀ x, ∀ v ∈ enc x, oneCell v = true

namespace Cod
variable {α : Type} (c : Cod α)

def rows (L : List α) : List Value := L.flatMap c.enc

theorem rows_nil : c.rows [] = [] := rfl
theorem rows_cons (x : α) (L : List α) : c.rows (x :: L) = c.enc x ++ c.rows L := rfl
theorem rows_append (L M : List α) : c.rows (L ++ M) = c.rows L ++ c.rows M := by simp [rows]
theorem rows_single (x : α) : c.rows [x] = c.enc x := by simp [rows]

theorem rows_length (L : List α) : (c.rows L).length = L.length * c.n := by
  induction L with
  | nil => simp [rows]
  | cons x L ih => rw [rows_cons, List.length_append, ih, c.len, List.length_cons, Nat.succ_mul, Nat.add_comm]

theorem rows_one (L : List α) : ∀ v ∈ c.rows L, oneCell v = true := by
  intro v hv
  obtain ⟨x, _, hx⟩ := List.mem_flatMap.1 hv
  exact c.one x v hx

theorem rows_get {L : List α} {t : List Value} {i j : Nat} {x : α} (hi : L[i]? = some x) (hj : j < c.n) : (c.rows L ++ t)[i * c.n + j]? = (c.enc x)[j]? := by
  induction L generalizing i with
  | nil => simp at hi
  | cons y L ih =>
    rw [rows_cons, List.append_assoc]
    cases i with
    | zero =>
      simp at hi
      subst hi
      rw [Nat.zero_mul, Nat.zero_add, List.getElem?_append_left (by rw [c.len]; exact hj)]
    | succ i =>
      rw [List.getElem?_append_right (by rw [c.len, Nat.succ_mul]; omega), c.len, show (i + 1) * c.n + j - c.n = i * c.n + j by rw [Nat.succ_mul]; omega]
      exact ih (by simpa using hi)

theorem rows_put {L : List α} {t : List Value} {i : Nat} {x : α} (hi : i < L.length) : putL (c.rows L ++ t) (i * c.n) (c.enc x) = c.rows (L.set i x) ++ t := by
  have hle : (i + 1) * c.n ≤ L.length * c.n := Nat.mul_le_mul_right _ hi
  rw [Nat.succ_mul] at hle
  rw [putL_eq _ _ _ (by rw [c.len, List.length_append, rows_length]; omega), c.len]
  have h1 : L = L.take i ++ L[i] :: L.drop (i + 1) := by simp
  have h2 : L.set i x = L.take i ++ x :: L.drop (i + 1) := by rw [List.set_eq_take_append_cons_drop, if_pos hi]
  have e1 : c.rows L = c.rows (L.take i) ++ (c.enc L[i] ++ c.rows (L.drop (i + 1))) := by
    conv => lhs; rw [h1]
    rw [rows_append, rows_cons]
  have l1 : (c.rows (L.take i)).length = i * c.n := by rw [rows_length, List.length_take, Nat.min_eq_left (by omega)]
  rw [h2, rows_append, rows_cons, e1]
  rw [List.append_assoc (c.rows (L.take i)), List.take_append_of_le_length (by omega), List.take_of_length_le (by omega)]
  rw [List.drop_append, List.drop_of_length_le (by omega), l1, show i * c.n + c.n - i * c.n = c.n by omega, List.append_assoc (c.enc L[i])]
  rw [List.drop_append, List.drop_of_length_le (by rw [c.len]; omega), c.len, Nat.sub_self, List.drop_zero]
  simp

/-- What lies behind the first ones. -/
theorem rows_split (L : List α) (k : Nat) : c.rows L = c.rows (L.take k) ++ c.rows (L.drop k) := by
  rw [← rows_append, List.take_append_drop]

theorem rows_take {L : List α} {t : List Value} {k : Nat} (hk : k ≤ L.length) : (c.rows L ++ t).take (k * c.n) = c.rows (L.take k) := by
  have l1 : (c.rows (L.take k)).length = k * c.n := by rw [rows_length, List.length_take, Nat.min_eq_left hk]
  rw [c.rows_split L k, List.append_assoc, List.take_append_of_le_length (by omega), List.take_of_length_le (by omega)]

theorem rows_drop {L : List α} {t : List Value} {k : Nat} (hk : k ≤ L.length) : (c.rows L ++ t).drop (k * c.n) = c.rows (L.drop k) ++ t := by
  have l1 : (c.rows (L.take k)).length = k * c.n := by rw [rows_length, List.length_take, Nat.min_eq_left hk]
  rw [c.rows_split L k, List.append_assoc, List.drop_append, List.drop_of_length_le (by omega), l1, Nat.sub_self]
  simp

end Cod

/-- Whole numbers. -/
def intC : Cod Int := ⟨1, fun n => [.int .i64 n], fun _ => rfl, fun _ v hv => by simp at hv; subst hv; rfl⟩
def boolC : Cod Bool := ⟨1, fun n => [.bool n], fun _ => rfl, fun _ v hv => by simp at hv; subst hv; rfl⟩

end Go.HL
namespace Go.HL
open Go
section
variable {P : Program} {G : Hp} {α : Type}

theorem store_elem (c : Cod α) {x : α} {T : TypeId} (hi : (P.info? T).map (·.size) = some c.n) {b i : Nat} {L : List α} {t : List Value} {e : TypeId} {h : Hp} {K : Unit → Hp → Prop}
    (hb : h b = some (.cells (c.rows L ++ t).toArray e (0, 0))) (hil : i < L.length) :
    wpH P G (Instr.storeAt T (.pointer (some ⟨b, i * c.n, none⟩)) (.agg (c.enc x).toArray)) h K = K () (h.set b (.cells (c.rows (L.set i x) ++ t).toArray e (0, 0))) := by
  have hle : (i + 1) * c.n ≤ L.length * c.n := Nat.mul_le_mul_right _ hil
  rw [Nat.succ_mul] at hle
  rw [store_eq hi hb (by simp [cells_agg, c.len]) (by rw [List.length_append, c.rows_length]; omega) (by simpa [cells_agg] using c.one x)]
  simp only [cells_agg, c.rows_put hil]

theorem store_elem1 (c : Cod α) (hn : c.n = 1) {x : α} {v : Value} (hv : c.enc x = [v]) {T : TypeId} (hi : (P.info? T).map (·.size) = some 1) {b i : Nat} {L : List α} {t : List Value} {e : TypeId} {h : Hp} {K : Unit → Hp → Prop}
    (hb : h b = some (.cells (c.rows L ++ t).toArray e (0, 0))) (hil : i < L.length) :
    wpH P G (Instr.storeAt T (.pointer (some ⟨b, i, none⟩)) v) h K = K () (h.set b (.cells (c.rows (L.set i x) ++ t).toArray e (0, 0))) := by
  have h1 : oneCell v = true := c.one x v (by rw [hv]; exact .head _)
  rw [store1_eq hi h1 hb (by rw [List.length_append, c.rows_length, hn]; omega)]
  have := c.rows_put (t := t) (x := x) hil
  rw [hv, hn, Nat.mul_one] at this
  simp only [putL] at this
  rw [this]
end
end Go.HL
