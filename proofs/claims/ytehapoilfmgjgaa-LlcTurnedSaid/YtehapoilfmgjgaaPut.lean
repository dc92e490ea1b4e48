/- The bytes of a number, in one to eight bytes (ford/octet.Put): a new slice; otherwise none. -/
import Derived.Test.YtehapoilfmgjgaaProg
import Derived.WalkKit
import Derived.KernelRfl
import Derived.Lib.Hide
import Derived.LoopN
set_option linter.unusedSimpArgs false
namespace Go.Proofs.Ytehapoilfmgjgaa.Oct
open Go.RowKit
theorem mk_1 (w : World) : Sem.run Try.prog (Instr.makeSlice 33 (.int .i64 1) (.int .i64 1)) w = .ok (.slice (some ⟨w.heap.size, 0, none⟩) 1 1) (w.alloc (.cells #[.int .u8 0] 5)) := by kernel_rfl
theorem mk_2 (w : World) : Sem.run Try.prog (Instr.makeSlice 33 (.int .i64 2) (.int .i64 2)) w = .ok (.slice (some ⟨w.heap.size, 0, none⟩) 2 2) (w.alloc (.cells #[.int .u8 0, .int .u8 0] 5)) := by kernel_rfl
theorem mk_3 (w : World) : Sem.run Try.prog (Instr.makeSlice 33 (.int .i64 3) (.int .i64 3)) w = .ok (.slice (some ⟨w.heap.size, 0, none⟩) 3 3) (w.alloc (.cells #[.int .u8 0, .int .u8 0, .int .u8 0] 5)) := by kernel_rfl
theorem mk_4 (w : World) : Sem.run Try.prog (Instr.makeSlice 33 (.int .i64 4) (.int .i64 4)) w = .ok (.slice (some ⟨w.heap.size, 0, none⟩) 4 4) (w.alloc (.cells #[.int .u8 0, .int .u8 0, .int .u8 0, .int .u8 0] 5)) := by kernel_rfl
theorem mk_5 (w : World) : Sem.run Try.prog (Instr.makeSlice 33 (.int .i64 5) (.int .i64 5)) w = .ok (.slice (some ⟨w.heap.size, 0, none⟩) 5 5) (w.alloc (.cells #[.int .u8 0, .int .u8 0, .int .u8 0, .int .u8 0, .int .u8 0] 5)) := by kernel_rfl
theorem mk_6 (w : World) : Sem.run Try.prog (Instr.makeSlice 33 (.int .i64 6) (.int .i64 6)) w = .ok (.slice (some ⟨w.heap.size, 0, none⟩) 6 6) (w.alloc (.cells #[.int .u8 0, .int .u8 0, .int .u8 0, .int .u8 0, .int .u8 0, .int .u8 0] 5)) := by kernel_rfl
theorem mk_7 (w : World) : Sem.run Try.prog (Instr.makeSlice 33 (.int .i64 7) (.int .i64 7)) w = .ok (.slice (some ⟨w.heap.size, 0, none⟩) 7 7) (w.alloc (.cells #[.int .u8 0, .int .u8 0, .int .u8 0, .int .u8 0, .int .u8 0, .int .u8 0, .int .u8 0] 5)) := by kernel_rfl
theorem mk_8 (w : World) : Sem.run Try.prog (Instr.makeSlice 33 (.int .i64 8) (.int .i64 8)) w = .ok (.slice (some ⟨w.heap.size, 0, none⟩) 8 8) (w.alloc (.cells #[.int .u8 0, .int .u8 0, .int .u8 0, .int .u8 0, .int .u8 0, .int .u8 0, .int .u8 0, .int .u8 0] 5)) := by kernel_rfl
attribute [local go_sem] mk_1 mk_2 mk_3 mk_4 mk_5 mk_6 mk_7 mk_8
/-- Byte number j of n in k bytes. -/
def byteAt (n : Int) (k j : Nat) : Int := n / 256 ^ (k - 1 - j) % 256
/-- The bytes of n, in k bytes. -/
def bytesOf (n : Int) (k : Nat) : List Int := (List.range k).map (byteAt n k)
/-- Bytes, as cells. -/
def cellsB (l : List Int) : Array Value := (l.map fun x => Value.int .u8 x).toArray
set_option maxHeartbeats 4000000 in
theorem put_1 (n : Int) (hn : 0 ≤ n ∧ n < 18446744073709551616) (w : World) : Calls Try.prog 14 #[.int .u64 n, .int .i64 1] w fun e w' => e = .returned (.slice (some ⟨w.heap.size, 0, none⟩) 1 1) ∧ w' = w.alloc (.cells (cellsB (bytesOf n 1)) 5) := by
  obtain ⟨h0, h1⟩ := hn
  go_enter Try.func14, Try.ntmps14
  go_wp2_with fail
  refine wp_loop_rounds 2 ?_
  rw [rounds_succ]
  go_wp2_with fail
  rw [rounds_succ]
  go_wp2_with fail
  go_ret
  exact ⟨rfl, by simp [cellsB, bytesOf, byteAt, List.range, List.range.loop]⟩
set_option maxHeartbeats 4000000 in
theorem put_2 (n : Int) (hn : 0 ≤ n ∧ n < 18446744073709551616) (w : World) : Calls Try.prog 14 #[.int .u64 n, .int .i64 2] w fun e w' => e = .returned (.slice (some ⟨w.heap.size, 0, none⟩) 2 2) ∧ w' = w.alloc (.cells (cellsB (bytesOf n 2)) 5) := by
  obtain ⟨h0, h1⟩ := hn
  go_enter Try.func14, Try.ntmps14
  go_wp2_with fail
  refine wp_loop_rounds 3 ?_
  rw [rounds_succ]
  go_wp2_with fail
  rw [rounds_succ]
  go_wp2_with fail
  rw [rounds_succ]
  go_wp2_with fail
  go_ret
  exact ⟨rfl, by simp [cellsB, bytesOf, byteAt, List.range, List.range.loop]⟩
set_option maxHeartbeats 4000000 in
theorem put_3 (n : Int) (hn : 0 ≤ n ∧ n < 18446744073709551616) (w : World) : Calls Try.prog 14 #[.int .u64 n, .int .i64 3] w fun e w' => e = .returned (.slice (some ⟨w.heap.size, 0, none⟩) 3 3) ∧ w' = w.alloc (.cells (cellsB (bytesOf n 3)) 5) := by
  obtain ⟨h0, h1⟩ := hn
  go_enter Try.func14, Try.ntmps14
  go_wp2_with fail
  refine wp_loop_rounds 4 ?_
  rw [rounds_succ]
  go_wp2_with fail
  rw [rounds_succ]
  go_wp2_with fail
  rw [rounds_succ]
  go_wp2_with fail
  rw [rounds_succ]
  go_wp2_with fail
  go_ret
  exact ⟨rfl, by simp [cellsB, bytesOf, byteAt, List.range, List.range.loop]⟩
set_option maxHeartbeats 4000000 in
theorem put_4 (n : Int) (hn : 0 ≤ n ∧ n < 18446744073709551616) (w : World) : Calls Try.prog 14 #[.int .u64 n, .int .i64 4] w fun e w' => e = .returned (.slice (some ⟨w.heap.size, 0, none⟩) 4 4) ∧ w' = w.alloc (.cells (cellsB (bytesOf n 4)) 5) := by
  obtain ⟨h0, h1⟩ := hn
  go_enter Try.func14, Try.ntmps14
  go_wp2_with fail
  refine wp_loop_rounds 5 ?_
  rw [rounds_succ]
  go_wp2_with fail
  rw [rounds_succ]
  go_wp2_with fail
  rw [rounds_succ]
  go_wp2_with fail
  rw [rounds_succ]
  go_wp2_with fail
  rw [rounds_succ]
  go_wp2_with fail
  go_ret
  exact ⟨rfl, by simp [cellsB, bytesOf, byteAt, List.range, List.range.loop]⟩
set_option maxHeartbeats 4000000 in
theorem put_5 (n : Int) (hn : 0 ≤ n ∧ n < 18446744073709551616) (w : World) : Calls Try.prog 14 #[.int .u64 n, .int .i64 5] w fun e w' => e = .returned (.slice (some ⟨w.heap.size, 0, none⟩) 5 5) ∧ w' = w.alloc (.cells (cellsB (bytesOf n 5)) 5) := by
  obtain ⟨h0, h1⟩ := hn
  go_enter Try.func14, Try.ntmps14
  go_wp2_with fail
  refine wp_loop_rounds 6 ?_
  rw [rounds_succ]
  go_wp2_with fail
  rw [rounds_succ]
  go_wp2_with fail
  rw [rounds_succ]
  go_wp2_with fail
  rw [rounds_succ]
  go_wp2_with fail
  rw [rounds_succ]
  go_wp2_with fail
  rw [rounds_succ]
  go_wp2_with fail
  go_ret
  exact ⟨rfl, by simp [cellsB, bytesOf, byteAt, List.range, List.range.loop]⟩
set_option maxHeartbeats 4000000 in
theorem put_6 (n : Int) (hn : 0 ≤ n ∧ n < 18446744073709551616) (w : World) : Calls Try.prog 14 #[.int .u64 n, .int .i64 6] w fun e w' => e = .returned (.slice (some ⟨w.heap.size, 0, none⟩) 6 6) ∧ w' = w.alloc (.cells (cellsB (bytesOf n 6)) 5) := by
  obtain ⟨h0, h1⟩ := hn
  go_enter Try.func14, Try.ntmps14
  go_wp2_with fail
  refine wp_loop_rounds 7 ?_
  rw [rounds_succ]
  go_wp2_with fail
  rw [rounds_succ]
  go_wp2_with fail
  rw [rounds_succ]
  go_wp2_with fail
  rw [rounds_succ]
  go_wp2_with fail
  rw [rounds_succ]
  go_wp2_with fail
  rw [rounds_succ]
  go_wp2_with fail
  rw [rounds_succ]
  go_wp2_with fail
  go_ret
  exact ⟨rfl, by simp [cellsB, bytesOf, byteAt, List.range, List.range.loop]⟩
set_option maxHeartbeats 4000000 in
theorem put_7 (n : Int) (hn : 0 ≤ n ∧ n < 18446744073709551616) (w : World) : Calls Try.prog 14 #[.int .u64 n, .int .i64 7] w fun e w' => e = .returned (.slice (some ⟨w.heap.size, 0, none⟩) 7 7) ∧ w' = w.alloc (.cells (cellsB (bytesOf n 7)) 5) := by
  obtain ⟨h0, h1⟩ := hn
  go_enter Try.func14, Try.ntmps14
  go_wp2_with fail
  refine wp_loop_rounds 8 ?_
  rw [rounds_succ]
  go_wp2_with fail
  rw [rounds_succ]
  go_wp2_with fail
  rw [rounds_succ]
  go_wp2_with fail
  rw [rounds_succ]
  go_wp2_with fail
  rw [rounds_succ]
  go_wp2_with fail
  rw [rounds_succ]
  go_wp2_with fail
  rw [rounds_succ]
  go_wp2_with fail
  rw [rounds_succ]
  go_wp2_with fail
  go_ret
  exact ⟨rfl, by simp [cellsB, bytesOf, byteAt, List.range, List.range.loop]⟩
set_option maxHeartbeats 4000000 in
theorem put_8 (n : Int) (hn : 0 ≤ n ∧ n < 18446744073709551616) (w : World) : Calls Try.prog 14 #[.int .u64 n, .int .i64 8] w fun e w' => e = .returned (.slice (some ⟨w.heap.size, 0, none⟩) 8 8) ∧ w' = w.alloc (.cells (cellsB (bytesOf n 8)) 5) := by
  obtain ⟨h0, h1⟩ := hn
  go_enter Try.func14, Try.ntmps14
  go_wp2_with fail
  refine wp_loop_rounds 9 ?_
  rw [rounds_succ]
  go_wp2_with fail
  rw [rounds_succ]
  go_wp2_with fail
  rw [rounds_succ]
  go_wp2_with fail
  rw [rounds_succ]
  go_wp2_with fail
  rw [rounds_succ]
  go_wp2_with fail
  rw [rounds_succ]
  go_wp2_with fail
  rw [rounds_succ]
  go_wp2_with fail
  rw [rounds_succ]
  go_wp2_with fail
  rw [rounds_succ]
  go_wp2_with fail
  go_ret
  exact ⟨rfl, by have e : n / 72057594037927936 % 256 = n / 72057594037927936 := (by omega); simp [cellsB, bytesOf, byteAt, List.range, List.range.loop, e]⟩
theorem put_any (n : Int) (hn : 0 ≤ n ∧ n < 18446744073709551616) (k : Nat) (hk : 1 ≤ k ∧ k ≤ 8) (w : World) : Calls Try.prog 14 #[.int .u64 n, .int .i64 k] w fun e w' => e = .returned (.slice (some ⟨w.heap.size, 0, none⟩) k k) ∧ w' = w.alloc (.cells (cellsB (bytesOf n k)) 5) := by
  rcases (show k = 1 ∨ k = 2 ∨ k = 3 ∨ k = 4 ∨ k = 5 ∨ k = 6 ∨ k = 7 ∨ k = 8 by omega) with rfl | rfl | rfl | rfl | rfl | rfl | rfl | rfl
  · exact put_1 n hn w
  · exact put_2 n hn w
  · exact put_3 n hn w
  · exact put_4 n hn w
  · exact put_5 n hn w
  · exact put_6 n hn w
  · exact put_7 n hn w
  · exact put_8 n hn w
theorem put_no (n i : Int) (hi : i < 1 ∨ 8 < i) (w : World) : Calls Try.prog 14 #[.int .u64 n, .int .i64 i] w fun e w' => e = .returned (.slice none 0 0) ∧ w' = w := by
  go_enter Try.func14, Try.ntmps14
  by_cases h0 : i < 1
  · have d0 : decide (i < 1) = true := decide_eq_true h0
    go_wp2_with fail
    go_ret
    exact ⟨rfl, rfl⟩
  · have d0 : decide (i < 1) = false := decide_eq_false h0
    have d1 : decide (8 < i) = true := decide_eq_true (by omega)
    go_wp2_with fail
    go_ret
    exact ⟨rfl, rfl⟩
end Go.Proofs.Ytehapoilfmgjgaa.Oct
