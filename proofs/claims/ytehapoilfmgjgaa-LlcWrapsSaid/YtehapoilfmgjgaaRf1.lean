/- Chapters 5, 6: the document's To, From (layer 4) and flag (layer 5). No condition but a number's bounds. -/
import Derived.Test.YtehapoilfmgjgaaMg
import Derived.WalkKit
set_option linter.unusedSimpArgs false
set_option linter.unusedVariables false
namespace Go.Proofs.Ytehapoilfmgjgaa.Oct
open Go.RowKit
theorem rto_any (x : Int) (w : World) : Calls Try.prog 26 #[.int .i64 x] w fun e w' => e = .returned (.int .u16 (toN x)) ∧ w' = w := by
  obtain ⟨y, hy⟩ : ∃ y, y = toN x := ⟨_, rfl⟩
  rw [← hy]
  by_cases h0 : x < 0
  · have d0 : decide (x < 0) = true := decide_eq_true h0
    have hz : y = 0 := by rw [hy]; unfold toN; omega
    subst hz
    clear hy h0
    go_enter Try.func26, Try.ntmps26
    go_wp2_with fail
    go_ret
    exact ⟨rfl, rfl⟩
  have d0 : decide (x < 0) = false := decide_eq_false h0
  by_cases h1 : 255 < x
  · have d1 : decide (255 < x) = true := decide_eq_true h1
    have hz : y = 65280 := by rw [hy]; unfold toN; omega
    subst hz
    clear hy h0 h1
    go_enter Try.func26, Try.ntmps26
    go_wp2_with fail
    go_ret
    exact ⟨rfl, rfl⟩
  have d1 : decide (255 < x) = false := decide_eq_false h1
  have hz : y = x * 256 := by rw [hy]; unfold toN; omega
  have w1 : IntKind.u16.wrap x = x := by unfold IntKind.wrap; simp [IntKind.signed, IntKind.bits]; omega
  have w2 : IntKind.u16.wrap (x * 256) = x * 256 := by unfold IntKind.wrap; simp [IntKind.signed, IntKind.bits]; omega
  rw [hz]
  clear hy h0 h1 hz
  go_enter Try.func26, Try.ntmps26
  go_wp2_with fail
  go_ret
  exact ⟨rfl, rfl⟩
theorem rfrom_any (x : Int) (hx : 0 ≤ x ∧ x < 65536) (w : World) : Calls Try.prog 30 #[.int .u16 x] w fun e w' => e = .returned (.int .i64 (fromN x)) ∧ w' = w := by
  obtain ⟨y, hy⟩ : ∃ y, y = fromN x := ⟨_, rfl⟩
  rw [← hy]
  obtain ⟨n, rfl⟩ := Int.eq_ofNat_of_zero_le hx.1
  have hn : n < 65536 := by omega
  have w0 : IntKind.u16.wrap ((n : Int) / 256) = (n : Int) / 256 := by unfold IntKind.wrap; simp [IntKind.signed, IntKind.bits]; omega
  have w1 : IntKind.i64.wrap ((n : Int) / 256) = (n : Int) / 256 := by unfold IntKind.wrap; simp [IntKind.signed, IntKind.bits]; omega
  have w2 : IntKind.u16.wrap ((n : Int) % 256) = (n : Int) % 256 := by unfold IntKind.wrap; simp [IntKind.signed, IntKind.bits]; omega
  have w3 : IntKind.i64.wrap ((n : Int) / 256 + 1) = (n : Int) / 256 + 1 := by unfold IntKind.wrap; simp [IntKind.signed, IntKind.bits]; omega
  by_cases h : (128 : Int) ≤ (n : Int) % 256
  · have dh : decide ((128 : Int) ≤ (n : Int) % 256) = true := decide_eq_true h
    have hz : y = (n : Int) / 256 + 1 := by rw [hy]; unfold fromN; omega
    rw [hz]
    clear hy hz h hx
    go_enter Try.func30, Try.ntmps30
    go_wp2_with fail
    go_ret
    exact ⟨rfl, rfl⟩
  · have dh : decide ((128 : Int) ≤ (n : Int) % 256) = false := decide_eq_false h
    have hz : y = (n : Int) / 256 := by rw [hy]; unfold fromN; omega
    rw [hz]
    clear hy hz h hx
    go_enter Try.func30, Try.ntmps30
    go_wp2_with fail
    go_ret
    exact ⟨rfl, rfl⟩
theorem rflag_any (b : Bool) (n : Int) (w : World) : Calls Try.prog 25 #[.bool b, .int .i64 n] w fun e w' => e = .returned (.int .i64 (bitN b n)) ∧ w' = w := by
  cases b
  all_goals
    unfold bitN
    go_enter Try.func25, Try.ntmps25
    go_wp2_with fail
    go_ret
    exact ⟨rfl, rfl⟩
end Go.Proofs.Ytehapoilfmgjgaa.Oct
