/- Numbers put one behind the other: their bytes, and the numbers that are read out of them. -/
import Derived.Test.YtbeagokbhlaeeaaNum
namespace Go.Proofs.Ytbeagokbhlaeeaa.Oct
/-- How many bytes the first i numbers have. -/
def tot (kf : Nat → Nat) : Nat → Nat
  | 0 => 0
  | i + 1 => tot kf i + kf i
/-- The bytes of the first i numbers. -/
def acc (lf : Nat → Int) (kf : Nat → Nat) : Nat → List Int
  | 0 => []
  | i + 1 => acc lf kf i ++ bytesOf (lf i) (kf i)
theorem acc_length (lf : Nat → Int) (kf : Nat → Nat) : ∀ i, (acc lf kf i).length = tot kf i
  | 0 => rfl
  | i + 1 => by
    show (acc lf kf i ++ bytesOf (lf i) (kf i)).length = tot kf i + kf i
    rw [List.length_append, acc_length lf kf i, bytesOf_length]
theorem acc_ok (lf : Nat → Int) (kf : Nat → Nat) : ∀ i, ∀ x ∈ acc lf kf i, 0 ≤ x ∧ x ≤ 255
  | 0, x, h => by cases h
  | i + 1, x, h => by
    rcases List.mem_append.1 (show x ∈ acc lf kf i ++ bytesOf (lf i) (kf i) from h) with h | h
    · exact acc_ok lf kf i x h
    · exact bytesOf_ok _ _ x h
theorem tot_le (kf : Nat → Nat) (i : Nat) : ∀ m, i ≤ m → tot kf i ≤ tot kf m
  | 0, h => by
    obtain rfl : i = 0 := by omega
    exact Nat.le_refl _
  | m + 1, h => by
    by_cases e : i = m + 1
    · rw [e]
      exact Nat.le_refl _
    · have := tot_le kf i m (by omega)
      show tot kf i ≤ tot kf m + kf m
      omega
theorem tot_most (kf : Nat → Nat) (h : ∀ i, kf i ≤ 8) : ∀ m, tot kf m ≤ 8 * m
  | 0 => Nat.le_refl _
  | m + 1 => by
    have h1 := tot_most kf h m
    have h2 := h m
    show tot kf m + kf m ≤ _
    omega
theorem acc_get (lf : Nat → Int) (kf : Nat → Nat) (i j : Nat) (hj : j < kf i) : ∀ m, i < m → (acc lf kf m)[tot kf i + j]? = some (byteAt (lf i) (kf i) j)
  | 0, h => by omega
  | m + 1, h => by
    show (acc lf kf m ++ bytesOf (lf m) (kf m))[tot kf i + j]? = _
    by_cases e : i = m
    · subst e
      rw [List.getElem?_append_right (by rw [acc_length]; omega), acc_length, Nat.add_sub_cancel_left]
      unfold bytesOf
      rw [List.getElem?_map, List.getElem?_range hj]
      rfl
    · have h1 := tot_le kf (i + 1) m (by omega)
      have h2 : tot kf i + kf i ≤ tot kf m := h1
      rw [List.getElem?_append_left (by rw [acc_length]; omega)]
      exact acc_get lf kf i j hj m (by omega)
theorem num_congr (f g : Nat → Int) : ∀ j, (∀ i, i < j → f i = g i) → num f j = num g j
  | 0, _ => rfl
  | j + 1, h => by
    show num f j * 256 + f j = num g j * 256 + g j
    rw [num_congr f g j (fun i hi => h i (by omega)), h j (by omega)]
/-- All bytes, by their places. -/
def byteOf (lf : Nat → Int) (kf : Nat → Nat) (m q : Nat) : Int := ((acc lf kf m)[q]?).getD 0
theorem byteOf_ok (lf : Nat → Int) (kf : Nat → Nat) (m q : Nat) : 0 ≤ byteOf lf kf m q ∧ byteOf lf kf m q ≤ 255 := by
  unfold byteOf
  cases h : (acc lf kf m)[q]? with
  | none => simp
  | some x => exact acc_ok lf kf m x (List.mem_of_getElem? h)
/-- What is taken at the place of number i is number i, as far as there is room. -/
theorem back_law (lf : Nat → Int) (kf : Nat → Nat) (i m : Nat) (h : i < m) : num (fun j => byteOf lf kf m (tot kf i + j)) (kf i) = lf i % 256 ^ kf i := by
  rw [num_congr _ (byteAt (lf i) (kf i)) (kf i) (fun j hj => by unfold byteOf; rw [acc_get lf kf i j hj m h]; rfl), num_bytes _ _ _ (Nat.le_refl _)]
  simp
theorem shift_back (x : Int) (k : Nat) (hk : 1 ≤ k ∧ k ≤ 8) : x % 256 ^ k = (x * 2 ^ (64 - 8 * k) % 18446744073709551616) / 2 ^ (64 - 8 * k) := by
  rcases (show k = 1 ∨ k = 2 ∨ k = 3 ∨ k = 4 ∨ k = 5 ∨ k = 6 ∨ k = 7 ∨ k = 8 by omega) with rfl | rfl | rfl | rfl | rfl | rfl | rfl | rfl <;> simp <;> omega
end Go.Proofs.Ytbeagokbhlaeeaa.Oct
