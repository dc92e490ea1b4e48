/- What Length, and the document's Less and Complex answer; floats of whole numbers below 2 to the 53rd. -/
import Derived.Test.YtfoenfhfohaoaaaFun
set_option linter.unusedSimpArgs false
namespace Go.Proofs.Ytfoenfhfohaoaaa.Rea
open Go.RowKit
/-- The sum of the first costs. -/
def sumc (cf : Nat → Nat) : Nat → Nat
  | 0 => 0
  | i + 1 => sumc cf i + cf i
theorem sumc_le {cf : Nat → Nat} (h : ∀ k, cf k ≤ 4294967295) : ∀ n, sumc cf n ≤ n * 4294967295
  | 0 => Nat.le_refl _
  | n + 1 => by
    have := sumc_le h n
    have := h n
    show sumc cf n + cf n ≤ _
    omega
set_option maxHeartbeats 1000000 in
theorem length_any (w : World) (a : Option Addr) (n c : Nat) (cf : Nat → Nat) (hv : View w a 1 n (fun k _ => .int .u32 (cf k))) (hb : ∀ k, cf k ≤ 4294967295) (hn : n ≤ 200) :
    Calls Try.prog 13 #[.slice a n c] w fun e w' => e = .returned (.complex .f64 (flt (sumc cf n)) (flt n)) ∧ w' = w := by
  have HV := Lib.hid hv
  have HB := Lib.hid (sumc_le hb)
  have HB1 := Lib.hid hb
  have h0 : flt 0 = 0 := flt_0
  clear hv hb
  go_enter Try.func13, Try.ntmps13
  go_wp2_with fail
  go_loop [3, 8] (fun s i => ∃ k : Nat, k ≤ n ∧ i = .int .i64 k ∧ s = .complex .f64 (flt (sumc cf k)) (flt k)) (fun _ i => n - (intOf i).toNat)
  case atStart => exact ⟨0, by omega, rfl, by rw [show sumc cf 0 = 0 from rfl, h0]⟩
  case round =>
    obtain ⟨k, hk, rfl, rfl⟩ := hrel
    by_cases hlt : k < n
    · rcases HV.out with hz | ⟨g, o, rfl, hc⟩
      · omega
      have hcl : w.cell? ⟨g, o + k, none⟩ = some (.int .u32 (cf k)) := by
        have h1 := hc k hlt 0 (by omega)
        rw [Nat.mul_one, Nat.add_zero] at h1
        exact h1
      have b1 := HB.out k
      have b2 := HB1.out k
      have hadd := fun w => add_cv (stands (sumc cf k) (by omega)) (stands k (by omega)) (show sumc cf k + cf k < 2 ^ 53 by omega) (show k + 1 < 2 ^ 53 by omega) 30 w
      clear hc h0 b1 b2
      go_wp2_with (first | (go_at_call 16; refine (hop_any _ _).mono ?_; rintro e w' ⟨rfl, rfl⟩) | (simp only [hadd]))
      go_round
      case rel => exact ⟨k + 1, by omega, by go_num, rfl⟩
      case measure => simp [intOf]; omega
    · obtain rfl : k = n := by omega
      go_wp2_with fail
      go_ret
      exact ⟨rfl, rfl⟩
theorem rless_any (c h c' h' : Nat) (b b' : Bool) (w : World) : Calls Try.prog 15 #[.agg #[.int .u64 c, .int .u64 h, .bool b], .agg #[.int .u64 c', .int .u64 h', .bool b']] w fun e w' => e = .returned (.bool (lt (c, h) (c', h'))) ∧ Below w.heap.size w w' := by
  have hl : lt (c, h) (c', h') = (decide (c < c') || (decide (c = c') && decide (h < h'))) := by
    unfold lt
    simp
  have Hl := Lib.hid hl
  clear hl
  by_cases hc : c = c'
  · subst hc
    go_enter Try.func15, Try.ntmps15
    go_wp2_with fail
    go_ret
    exact ⟨by rw [Hl.out]; simp, more (more (Below.refl _ _) _) _⟩
  · have hn : ((c : Int) != c') = true := by simp; omega
    have Hc := Lib.hid hc
    clear hc
    go_enter Try.func15, Try.ntmps15
    go_wp2_with fail
    go_ret
    exact ⟨by have := Hc.out; rw [Hl.out]; simp [this], more (more (Below.refl _ _) _) _⟩
/-- A way of the document's, as cells. -/
def rowW : Way → Array Value
  | none => #[.int .u64 0, .int .u64 0, .bool false]
  | some (c, h) => #[.int .u64 c, .int .u64 h, .bool true]
theorem complex_any (x : Way) (w : World) : Calls Try.prog 11 #[.agg (rowW x)] w fun e w' => e = .returned (cv x) ∧ Below w.heap.size w w' := by
  cases x with
  | none =>
    show Calls Try.prog 11 #[.agg #[.int .u64 0, .int .u64 0, .bool false]] w _
    go_enter Try.func11, Try.ntmps11
    go_wp2_with fail
    go_ret
    exact ⟨rfl, more (Below.refl _ _) _⟩
  | some a =>
    obtain ⟨c, h⟩ := a
    have e1 := nearest_int c
    have e2 := nearest_int h
    show Calls Try.prog 11 #[.agg #[.int .u64 c, .int .u64 h, .bool true]] w _
    go_enter Try.func11, Try.ntmps11
    go_wp2_with fail
    go_ret
    exact ⟨rfl, more (Below.refl _ _) _⟩
end Go.Proofs.Ytfoenfhfohaoaaa.Rea
