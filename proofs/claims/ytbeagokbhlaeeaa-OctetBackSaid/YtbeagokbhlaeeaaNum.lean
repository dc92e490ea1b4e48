/- The number that a number's bytes are. -/
import Derived.Test.YtbeagokbhlaeeaaLess
namespace Go.Proofs.Ytbeagokbhlaeeaa.Oct
theorem emod_mul' (y c : Int) (hc : 0 < c) : y % (256 * c) = (y / 256 % c) * 256 + y % 256 := by
  have h1 := Int.emod_add_mul_ediv y 256
  have h2 := Int.emod_add_mul_ediv (y / 256) c
  have h3 := Int.emod_nonneg (y / 256) (show c ≠ 0 by omega)
  have h4 := Int.emod_lt_of_pos (y / 256) hc
  have e : y = (y / 256 % c) * 256 + y % 256 + (256 * c) * (y / 256 / c) := by
    rw [Int.mul_assoc]
    omega
  have hb : 0 ≤ (y / 256 % c) * 256 + y % 256 := by omega
  have hb2 : (y / 256 % c) * 256 + y % 256 < 256 * c := by omega
  conv => lhs; rw [e]
  rw [Int.add_mul_emod_self_left, Int.emod_eq_of_lt hb hb2]
theorem num_bytes (x : Int) (k : Nat) : ∀ j, j ≤ k → num (byteAt x k) j = x / 256 ^ (k - j) % 256 ^ j
  | 0, _ => by simp [num]
  | j + 1, h => by
    have ih := num_bytes x k j (by omega)
    have hp : (0 : Int) < 256 ^ j := Int.pow_pos (by decide)
    show num (byteAt x k) j * 256 + byteAt x k j = _
    rw [ih, Int.pow_succ, Int.mul_comm ((256 : Int) ^ j) 256, emod_mul' _ _ hp]
    unfold byteAt
    rw [show k - 1 - j = k - (j + 1) by omega, show k - j = (k - (j + 1)) + 1 by omega, Int.pow_succ, ← Int.ediv_ediv_of_nonneg (Int.le_of_lt (Int.pow_pos (by decide)))]
end Go.Proofs.Ytbeagokbhlaeeaa.Oct
