/- Whole numbers below 2 to the 53rd as floats: their words; sums and comparisons of them are exact. -/
import Derived.Laws.ComplexArith
import Derived.Laws.Cover3
namespace Go.Proofs.Ytfoenfhfohaoaaa.Rea
open Ieee
/-- The word of a whole number. -/
def flt (n : Nat) : Nat := double.nearest false n 0
theorem cut_0 (n : Nat) : Toward.even.cut false n 0 = n := by
  simp [Toward.cut, Nat.shiftLeft_eq, Nat.mod_one]
theorem cut_mul (c d m : Nat) (hd : d ≤ (c * 2 ^ d).log2 + 2) (hm : m = c * 2 ^ d) : Toward.even.cut false m d = c := by
  subst hm
  have hp : 0 < 2 ^ d := Nat.two_pow_pos d
  unfold Toward.cut
  rw [Nat.min_eq_left hd]
  simp only [Nat.shiftLeft_eq, Nat.one_mul, Nat.mul_mod_left, Nat.mul_div_cancel _ hp, Nat.mul_zero]
  have h0 : ¬ 2 ^ d < 0 := Nat.not_lt_zero _
  have h1 : (2 ^ d == 0) = false := by simp
  simp [h1]
theorem log2_mul (c s : Nat) (hc : c ≠ 0) : (c * 2 ^ s).log2 = c.log2 + s := by
  induction s with
  | zero => simp
  | succ s ih =>
    rw [Nat.pow_succ, ← Nat.mul_assoc, Nat.mul_comm _ 2, Nat.log2_two_mul, ih]
    · omega
    · exact Nat.mul_ne_zero hc (Nat.ne_of_gt (Nat.two_pow_pos s))
theorem log2_le (c : Nat) (h : c < 2 ^ 53) : c.log2 ≤ 52 := by
  by_cases hc : c = 0
  · subst hc
    decide
  · have := (Nat.log2_lt hc).2 h
    omega
/-- The rung of a whole number. -/
def rung (c : Nat) : Nat := (c.log2 + 1022) * 2 ^ 52 + c * 2 ^ (52 - c.log2)
theorem kept_lt (c : Nat) (hc : c ≠ 0) (h : c < 2 ^ 53) : 2 ^ 52 ≤ c * 2 ^ (52 - c.log2) ∧ c * 2 ^ (52 - c.log2) < 2 ^ 53 := by
  have hl := log2_le c h
  have h1 := Nat.log2_self_le hc
  have h2 := Nat.lt_log2_self (n := c)
  have e1 : 2 ^ c.log2 * 2 ^ (52 - c.log2) = 2 ^ 52 := by rw [← Nat.pow_add]; congr 1; omega
  have e2 : 2 ^ (c.log2 + 1) * 2 ^ (52 - c.log2) = 2 ^ 53 := by rw [← Nat.pow_add]; congr 1; omega
  refine ⟨?_, ?_⟩
  · rw [← e1]
    exact Nat.mul_le_mul_right _ h1
  · rw [← e2]
    exact Nat.mul_lt_mul_of_pos_right h2 (Nat.two_pow_pos _)
theorem nearest_of (c s : Nat) (hc : c ≠ 0) (h : c < 2 ^ 53) : double.nearest false (c * 2 ^ s) (-(s : Int)) = rung c := by
  have hl := log2_le c h
  have hk := kept_lt c hc h
  have hne : c * 2 ^ s ≠ 0 := Nat.mul_ne_zero hc (Nat.ne_of_gt (Nat.two_pow_pos s))
  have eL : double.leastPlace = -1074 := by decide
  have eI : double.infRung = 2047 * 2 ^ 52 := by decide
  have eB : double.binade = 2 ^ 52 := rfl
  have eF : double.fractionBits = 52 := rfl
  unfold Format.nearest
  rw [if_neg hne]
  simp only [log2_mul c s hc, eL, eI, eB, eF]
  have eM : max (-(s : Int) + ((c.log2 + s : Nat) : Int) - (52 : Nat)) (-1074) = (c.log2 : Int) - 52 := by omega
  rw [eM]
  have eK : Toward.even.cut false ((c * 2 ^ s) <<< (-(s : Int) - ((c.log2 : Int) - 52)).toNat) (((c.log2 : Int) - 52) - -(s : Int)).toNat = c * 2 ^ (52 - c.log2) := by
    by_cases hs : s + c.log2 ≤ 52
    · have e1 : (-(s : Int) - ((c.log2 : Int) - 52)).toNat = 52 - c.log2 - s := by omega
      have e2 : (((c.log2 : Int) - 52) - -(s : Int)).toNat = 0 := by omega
      rw [e1, e2, cut_0, Nat.shiftLeft_eq, Nat.mul_assoc, ← Nat.pow_add]
      congr 2
      omega
    · have e1 : (-(s : Int) - ((c.log2 : Int) - 52)).toNat = 0 := by omega
      have e2 : (((c.log2 : Int) - 52) - -(s : Int)).toNat = c.log2 + s - 52 := by omega
      rw [e1, e2, Nat.shiftLeft_eq, Nat.pow_zero, Nat.mul_one]
      have e3 : c * 2 ^ s = c * 2 ^ (52 - c.log2) * 2 ^ (c.log2 + s - 52) := by
        rw [Nat.mul_assoc, ← Nat.pow_add]
        congr 2
        omega
      refine cut_mul _ _ _ ?_ e3
      rw [← e3, log2_mul c s hc]
      omega
  rw [eK]
  have e4 : (((c.log2 : Int) - 52) - -1074).toNat = c.log2 + 1022 := by omega
  rw [e4]
  unfold Format.word
  rw [if_neg (by simp), Nat.min_eq_left]
  · rfl
  · omega
theorem flt_of (c : Nat) (hc : c ≠ 0) (h : c < 2 ^ 53) : flt c = rung c := by
  have := nearest_of c 0 hc h
  simpa [flt] using this
theorem flt_0 : flt 0 = 0 := by decide
/-- The word x stands for the whole number n. -/
def Stands (x n : Nat) : Prop := ∃ s : Nat, double.read x = .number false (n * 2 ^ s) (-(s : Int))
theorem stands (c : Nat) (h : c < 2 ^ 53) : Stands (flt c) c := by
  by_cases hc : c = 0
  · subst hc
    have e : ∀ s, double.read 0 = .number false (0 * 2 ^ s) (-((1074 : Nat) : Int)) := fun s => by
      rw [Nat.zero_mul]
      rfl
    rw [flt_0]
    exact ⟨_, e _⟩
  · have hl := log2_le c h
    have hk := kept_lt c hc h
    refine ⟨52 - c.log2, ?_⟩
    rw [flt_of c hc h]
    have eS : double.signWeight = 2 ^ 63 := by decide
    have eL : double.leastPlace = -1074 := by decide
    have eI : double.infRung = 2047 * 2 ^ 52 := by decide
    have eB : double.binade = 2 ^ 52 := rfl
    unfold Format.read
    simp only [eS, eL, eI, eB]
    have hr : rung c = (c.log2 + 1023) * 2 ^ 52 + (c * 2 ^ (52 - c.log2) - 2 ^ 52) := by unfold rung; omega
    have h1 : rung c < 2 ^ 63 := by omega
    rw [Nat.mod_eq_of_lt h1, Nat.div_eq_of_lt h1]
    have h2 : rung c / 2 ^ 52 = c.log2 + 1023 := by omega
    have h3 : rung c % 2 ^ 52 = c * 2 ^ (52 - c.log2) - 2 ^ 52 := by omega
    rw [if_neg (by omega), if_pos (by omega), h2, h3]
    have e1 : 2 ^ 52 + (c * 2 ^ (52 - c.log2) - 2 ^ 52) = c * 2 ^ (52 - c.log2) := by omega
    have e2 : (-1074 : Int) + ((c.log2 + 1023 - 1 : Nat) : Int) = -((52 - c.log2 : Nat) : Int) := by omega
    rw [e1, e2]
    rfl
theorem signed_shift (n s k : Nat) : signed false (n * 2 ^ s) k = ((n * 2 ^ (s + k) : Nat) : Int) := by
  simp [signed, Nat.shiftLeft_eq, Nat.pow_add, Nat.mul_assoc]
theorem add_flt {x y a b : Nat} (hx : Stands x a) (hy : Stands y b) (h : a + b < 2 ^ 53) : double.add x y = some (flt (a + b)) := by
  obtain ⟨s, hs⟩ := hx
  obtain ⟨t, ht⟩ := hy
  unfold Format.add
  rw [hs, ht]
  simp only [Datum.sum, signed_shift]
  have e1 : min (-(s : Int)) (-(t : Int)) = -((max s t : Nat) : Int) := by omega
  rw [e1]
  have e2 : s + (-(s : Int) - -((max s t : Nat) : Int)).toNat = max s t := by omega
  have e3 : t + (-(t : Int) - -((max s t : Nat) : Int)).toNat = max s t := by omega
  rw [e2, e3]
  obtain ⟨m, hm⟩ : ∃ m, m = max s t := ⟨_, rfl⟩
  rw [← hm]
  have e4 : ((a * 2 ^ m : Nat) : Int) + ((b * 2 ^ m : Nat) : Int) = (((a + b) * 2 ^ m : Nat) : Int) := by
    rw [Nat.add_mul]
    omega
  rw [e4]
  have e5 : (if (((a + b) * 2 ^ m : Nat) : Int) = 0 then false && false else decide ((((a + b) * 2 ^ m : Nat) : Int) < 0)) = false := by
    split
    · rfl
    · exact decide_eq_false (by omega)
  rw [e5]
  simp only [Option.map_some, Format.write, Int.natAbs_natCast]
  congr 1
  by_cases hz : a + b = 0
  · rw [hz, Nat.zero_mul, flt_0]
    unfold Format.nearest
    rw [if_pos rfl]
    rfl
  · rw [nearest_of _ _ hz h, flt_of _ hz h]
theorem compare_mul (a b : Int) (c : Nat) (hc : 0 < c) : compare (a * c) (b * c) = compare a b := by
  have hc' : (0 : Int) < c := by omega
  rw [Int.compare_eq_ite_lt, Int.compare_eq_ite_lt]
  have h1 : (a * c < b * c) ↔ a < b := Int.mul_lt_mul_right hc'
  have h2 : (b * c < a * c) ↔ b < a := Int.mul_lt_mul_right hc'
  simp only [h1, h2]
theorem order_flt {x y a b : Nat} (hx : Stands x a) (hy : Stands y b) : double.order x y = some (compare (a : Int) (b : Int)) := by
  obtain ⟨s, hs⟩ := hx
  obtain ⟨t, ht⟩ := hy
  unfold Format.order
  rw [hs, ht]
  simp only [Datum.order, signed_shift]
  have e1 : min (-(s : Int)) (-(t : Int)) = -((max s t : Nat) : Int) := by omega
  rw [e1]
  have e2 : s + (-(s : Int) - -((max s t : Nat) : Int)).toNat = max s t := by omega
  have e3 : t + (-(t : Int) - -((max s t : Nat) : Int)).toNat = max s t := by omega
  rw [e2, e3]
  have := compare_mul a b (2 ^ max s t) (Nat.two_pow_pos _)
  rw [← this]
  simp
/-- The word of minus one. -/
def minus : Nat := 13830554455654793216
theorem minus_read : double.read minus = .number true (2 ^ 52) (-52) := by decide
theorem order_minus {x a : Nat} (hx : Stands x a) : double.order x minus = some .gt := by
  obtain ⟨s, hs⟩ := hx
  unfold Format.order
  rw [hs, minus_read]
  simp only [Datum.order, signed_shift]
  congr 1
  rw [Int.compare_eq_ite_lt]
  have h1 : (0 : Int) ≤ ((a * 2 ^ (s + (-(s : Int) - min (-(s : Int)) (-52)).toNat) : Nat) : Int) := by omega
  have h2 : signed true (2 ^ 52) ((-52 : Int) - min (-(s : Int)) (-52)).toNat < 0 := by
    unfold signed
    rw [if_pos rfl]
    have : 0 < (2 ^ 52) <<< ((-52 : Int) - min (-(s : Int)) (-52)).toNat := by
      rw [Nat.shiftLeft_eq]
      exact Nat.mul_pos (Nat.two_pow_pos _) (Nat.two_pow_pos _)
    omega
  rw [if_neg (by omega), if_pos (by omega)]
theorem order_minus_lt {x a : Nat} (hx : Stands x a) : double.order minus x = some .lt := by
  obtain ⟨s, hs⟩ := hx
  unfold Format.order
  rw [hs, minus_read]
  simp only [Datum.order, signed_shift]
  congr 1
  rw [Int.compare_eq_ite_lt]
  have h1 : (0 : Int) ≤ ((a * 2 ^ (s + (-(s : Int) - min (-52) (-(s : Int))).toNat) : Nat) : Int) := by omega
  have h2 : signed true (2 ^ 52) ((-52 : Int) - min (-52) (-(s : Int))).toNat < 0 := by
    unfold signed
    rw [if_pos rfl]
    have : 0 < (2 ^ 52) <<< ((-52 : Int) - min (-52) (-(s : Int))).toNat := by
      rw [Nat.shiftLeft_eq]
      exact Nat.mul_pos (Nat.two_pow_pos _) (Nat.two_pow_pos _)
    omega
  rw [if_pos (by omega)]
theorem order_minus_self : double.order minus minus = some .eq := by decide
end Go.Proofs.Ytfoenfhfohaoaaa.Rea
