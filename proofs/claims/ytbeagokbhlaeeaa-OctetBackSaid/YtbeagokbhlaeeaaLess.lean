/- Of two numbers in as many bytes the greater one's bytes are the greater ones, held against each other from the first one on: the plain law. -/
import Derived.Test.YtbeagokbhlaeeaaRefPut
set_option linter.unusedSimpArgs false
namespace Go.Proofs.Ytbeagokbhlaeeaa.Oct
open Go.RowKit
theorem less_snoc (p q : UInt8) : ∀ (a b : List UInt8), a.length = b.length → Op.bytesLess (a ++ [p]) (b ++ [q]) = (Op.bytesLess a b || (a == b && decide (p < q)))
  | [], [], _ => by simp [Op.bytesLess]
  | [], _ :: _, h => by simp at h
  | _ :: _, [], h => by simp at h
  | x :: a, y :: b, h => by
    have ih := less_snoc p q a b (by simpa using h)
    simp only [List.cons_append, Op.bytesLess, ih, List.cons_beq_cons]
    cases decide (x < y) <;> cases (x == y) <;> simp
/-- Bytes as Go's bytes. -/
def u8s (l : List Int) : List UInt8 := l.map fun x => UInt8.ofNat x.toNat
theorem u8_lt {x y : Int} (hx : 0 ≤ x ∧ x ≤ 255) (hy : 0 ≤ y ∧ y ≤ 255) : decide (UInt8.ofNat x.toNat < UInt8.ofNat y.toNat) = decide (x < y) := by
  rw [decide_eq_decide, UInt8.lt_iff_toNat_lt, UInt8.toNat_ofNat', UInt8.toNat_ofNat']
  omega
theorem u8_inj {x y : Int} (hx : 0 ≤ x ∧ x ≤ 255) (hy : 0 ≤ y ∧ y ≤ 255) (h : UInt8.ofNat x.toNat = UInt8.ofNat y.toNat) : x = y := by
  have h := congrArg UInt8.toNat h
  rw [UInt8.toNat_ofNat', UInt8.toNat_ofNat'] at h
  omega
theorem bytes_law : ∀ (k : Nat) (x y : Int), 0 ≤ x ∧ x < 256 ^ k → 0 ≤ y ∧ y < 256 ^ k → Op.bytesLess (u8s (bytesOf x k)) (u8s (bytesOf y k)) = decide (x < y) ∧ (u8s (bytesOf x k) = u8s (bytesOf y k) ↔ x = y)
  | 0, x, y, hx, hy => by
    simp only [Int.pow_zero] at hx hy
    obtain rfl : x = 0 := by omega
    obtain rfl : y = 0 := by omega
    simp [bytesOf, u8s, Op.bytesLess]
  | k + 1, x, y, hx, hy => by
    rw [Int.pow_succ] at hx hy
    have ih := bytes_law k (x / 256) (y / 256) (by omega) (by omega)
    have ex : u8s (bytesOf x (k + 1)) = u8s (bytesOf (x / 256) k) ++ [UInt8.ofNat (x % 256).toNat] := by rw [bytesOf_succ]; simp [u8s]
    have ey : u8s (bytesOf y (k + 1)) = u8s (bytesOf (y / 256) k) ++ [UInt8.ofNat (y % 256).toNat] := by rw [bytesOf_succ]; simp [u8s]
    have hl : (u8s (bytesOf (x / 256) k)).length = (u8s (bytesOf (y / 256) k)).length := by simp [u8s, bytesOf]
    rw [ex, ey, less_snoc _ _ _ _ hl, ih.1, u8_lt (by omega) (by omega)]
    refine ⟨?_, ?_⟩
    · have e : (u8s (bytesOf (x / 256) k) == u8s (bytesOf (y / 256) k)) = decide (x / 256 = y / 256) := by
        rw [Bool.eq_iff_iff, beq_iff_eq, decide_eq_true_iff]
        exact ih.2
      rw [e, Bool.eq_iff_iff]
      simp only [Bool.or_eq_true, Bool.and_eq_true, decide_eq_true_iff]
      omega
    · constructor
      · intro h
        obtain ⟨h1, h2⟩ := List.append_inj h hl
        have h3 := ih.2.1 h1
        have h4 := u8_inj (by omega) (by omega) (List.head_eq_of_cons_eq h2)
        omega
      · rintro rfl
        rfl
end Go.Proofs.Ytbeagokbhlaeeaa.Oct
