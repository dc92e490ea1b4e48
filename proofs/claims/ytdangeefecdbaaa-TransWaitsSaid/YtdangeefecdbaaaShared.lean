/- Plain words for a bridge in memory, and what fordref04.Few, fordref04.Right, fordref08.Right, fordref08.Few and fordref08.At answer; a bridge whose ports can be read. -/
import Derived.Test.YtdangeefecdbaaaBr
import Derived.Lib.Hide
namespace Go.Proofs.Ytdangeefecdbaaa.Br
open Go.RowKit
/-- A bridge by value: its numbers and bools, and its three slices. -/
structure Bri where
  r : Rec
  ap : Option Addr
  n : Nat
  cp : Nat
  ao : Option Addr
  no : Nat
  co : Nat
  af : Option Addr
  nf : Nat
  cf : Nat
/-- A bridge, as cells. -/
def rowB (b : Bri) : Array Value := #[.int .u64 (b.r.i 0), .bool (b.r.b 1), .int .i64 (b.r.i 2), .int .i64 (b.r.i 3), .int .i64 (b.r.i 4), .int .i64 (b.r.i 5), .int .i64 (b.r.i 6), .int .u64 (b.r.i 7), .int .u32 (b.r.i 8), .int .u64 (b.r.i 9), .int .u16 (b.r.i 10), .int .u16 (b.r.i 11), .int .i64 (b.r.i 12), .int .i64 (b.r.i 13), .int .i64 (b.r.i 14), .int .i64 (b.r.i 15), .int .i64 (b.r.i 16), .slice b.ap b.n b.cp, .slice b.ao b.no b.co, .slice b.af b.nf b.cf]
theorem rowB_size (b : Bri) : (rowB b).size = 20 := rfl
theorem rowB_0 (b : Bri) : (rowB b)[0]? = some (.int .u64 (b.r.i 0)) := rfl
theorem rowB_1 (b : Bri) : (rowB b)[1]? = some (.bool (b.r.b 1)) := rfl
theorem rowB_2 (b : Bri) : (rowB b)[2]? = some (.int .i64 (b.r.i 2)) := rfl
theorem rowB_3 (b : Bri) : (rowB b)[3]? = some (.int .i64 (b.r.i 3)) := rfl
theorem rowB_4 (b : Bri) : (rowB b)[4]? = some (.int .i64 (b.r.i 4)) := rfl
theorem rowB_5 (b : Bri) : (rowB b)[5]? = some (.int .i64 (b.r.i 5)) := rfl
theorem rowB_6 (b : Bri) : (rowB b)[6]? = some (.int .i64 (b.r.i 6)) := rfl
theorem rowB_7 (b : Bri) : (rowB b)[7]? = some (.int .u64 (b.r.i 7)) := rfl
theorem rowB_8 (b : Bri) : (rowB b)[8]? = some (.int .u32 (b.r.i 8)) := rfl
theorem rowB_9 (b : Bri) : (rowB b)[9]? = some (.int .u64 (b.r.i 9)) := rfl
theorem rowB_10 (b : Bri) : (rowB b)[10]? = some (.int .u16 (b.r.i 10)) := rfl
theorem rowB_11 (b : Bri) : (rowB b)[11]? = some (.int .u16 (b.r.i 11)) := rfl
theorem rowB_12 (b : Bri) : (rowB b)[12]? = some (.int .i64 (b.r.i 12)) := rfl
theorem rowB_13 (b : Bri) : (rowB b)[13]? = some (.int .i64 (b.r.i 13)) := rfl
theorem rowB_14 (b : Bri) : (rowB b)[14]? = some (.int .i64 (b.r.i 14)) := rfl
theorem rowB_15 (b : Bri) : (rowB b)[15]? = some (.int .i64 (b.r.i 15)) := rfl
theorem rowB_16 (b : Bri) : (rowB b)[16]? = some (.int .i64 (b.r.i 16)) := rfl
theorem rowB_17 (b : Bri) : (rowB b)[17]? = some (.slice b.ap b.n b.cp) := rfl
theorem rowB_18 (b : Bri) : (rowB b)[18]? = some (.slice b.ao b.no b.co) := rfl
theorem rowB_19 (b : Bri) : (rowB b)[19]? = some (.slice b.af b.nf b.cf) := rfl
theorem rowB_put_17 (b : Bri) (a : Option Addr) (n c : Nat) : (rowB b).setIfInBounds 17 (.slice a n c) = rowB { b with ap := a, n := n, cp := c } := rfl
theorem rowB_put_18 (b : Bri) (a : Option Addr) (n c : Nat) : (rowB b).setIfInBounds 18 (.slice a n c) = rowB { b with ao := a, no := n, co := c } := rfl
theorem rowB_put_19 (b : Bri) (a : Option Addr) (n c : Nat) : (rowB b).setIfInBounds 19 (.slice a n c) = rowB { b with af := a, nf := n, cf := c } := rfl
attribute [local go_sem] rowB_size rowB_0 rowB_1 rowB_2 rowB_3 rowB_4 rowB_5 rowB_6 rowB_7 rowB_8 rowB_9 rowB_10 rowB_11 rowB_12 rowB_13 rowB_14 rowB_15 rowB_16 rowB_17 rowB_18 rowB_19
/-- n things of sz cells each can be read behind an address. -/
def View (w : World) (a : Option Addr) (sz n : Nat) (c : Nat → Nat → Value) : Prop :=
  n = 0 ∨ ∃ g o, a = some ⟨g, o, none⟩ ∧ ∀ k, k < n → ∀ j, j < sz → w.cell? ⟨g, o + (k * sz + j), none⟩ = some (c k j)
theorem cell_lt {w : World} {g o : Nat} {v : Value} (h : w.cell? ⟨g, o, none⟩ = some v) : g < w.heap.size := by
  by_cases hlt : g < w.heap.size
  · exact hlt
  · have hn : w.heap[g]? = none := by simp; omega
    simp [World.cell?, hn] at h
theorem View.below {w w' : World} {a : Option Addr} {sz n : Nat} {c : Nat → Nat → Value} (h : View w a sz n c) (hb : Below w.heap.size w w') : View w' a sz n c := by
  rcases h with h | ⟨g, o, ha, hc⟩
  · exact .inl h
  · exact .inr ⟨g, o, ha, fun k hk j hj => by rw [hb.cell (p := ⟨g, _, none⟩) (cell_lt (hc k hk j hj))]; exact hc k hk j hj⟩
/-- The ports of a bridge can be read. -/
abbrev PortsV (w : World) (b : Bri) (ps : Nat → Rec) : Prop := View w b.ap 89 b.n fun k j => cellP (ps k) j
theorem Ports.view {w : World} {g n : Nat} {ps : Nat → Rec} (h : Ports w g n ps) : View w (some ⟨g, 0, none⟩) 89 n fun k j => cellP (ps k) j :=
  .inr ⟨g, 0, rfl, fun k hk j hj => by rw [Nat.zero_add]; exact h.cell hk hj⟩

theorem ret_b {x y : Bool} (h : y = x) : Ending.returned (.bool x) = .returned (.bool y) := by rw [h]
/-- Times of which something is promised. -/
def few4 (a m h d : Int) : Bool := decide ((0 ≤ a ∧ a ≤ 65535) ∧ (0 ≤ m ∧ m ≤ 65535) ∧ (0 ≤ h ∧ h ≤ 65535) ∧ 0 ≤ d ∧ d ≤ 65535)
/-- Times that may be. -/
def right4 (a m h d : Int) : Bool := decide ((0 ≤ a ∧ a ≤ 255) ∧ (6 ≤ m ∧ m ≤ 40) ∧ (1 ≤ h ∧ h ≤ 10) ∧ (4 ≤ d ∧ d ≤ 30) ∧ m ≤ 2 * (d - 1) ∧ 2 * (h + 1) ≤ m)
theorem few4_no {a m h d : Int} (c : ¬ ((0 ≤ a ∧ a ≤ 65535) ∧ (0 ≤ m ∧ m ≤ 65535) ∧ (0 ≤ h ∧ h ≤ 65535) ∧ 0 ≤ d ∧ d ≤ 65535)) : few4 a m h d = false := decide_eq_false c
theorem few4_yes {a m h d : Int} (c : (0 ≤ a ∧ a ≤ 65535) ∧ (0 ≤ m ∧ m ≤ 65535) ∧ (0 ≤ h ∧ h ≤ 65535) ∧ 0 ≤ d ∧ d ≤ 65535) : few4 a m h d = true := decide_eq_true c

set_option maxHeartbeats 1000000 in
theorem few4_any (a m h d : Int) (w : World) : Calls Try.prog 26 #[.agg #[.int .i64 a, .int .i64 m, .int .i64 h, .int .i64 d]] w fun e w' => e = .returned (.bool (few4 a m h d)) ∧ Below w.heap.size w w' := by
  go_enter Try.func26, Try.ntmps26
  go_wp2
  all_goals
    go_ret
    refine ⟨?_, (Below.refl _ _).alloc (Nat.le_refl _) _⟩
    first | exact ret_b (few4_yes (by omega)) | (refine ret_b (few4_no ?_); omega) | (refine ret_b ?_; unfold few4; rw [decide_eq_decide]; omega)

theorem right4_no {a m h d : Int} (c : ¬ ((0 ≤ a ∧ a ≤ 255) ∧ (6 ≤ m ∧ m ≤ 40) ∧ (1 ≤ h ∧ h ≤ 10) ∧ (4 ≤ d ∧ d ≤ 30) ∧ m ≤ 2 * (d - 1) ∧ 2 * (h + 1) ≤ m)) : right4 a m h d = false := decide_eq_false c
theorem right4_yes {a m h d : Int} (c : (0 ≤ a ∧ a ≤ 255) ∧ (6 ≤ m ∧ m ≤ 40) ∧ (1 ≤ h ∧ h ≤ 10) ∧ (4 ≤ d ∧ d ≤ 30) ∧ m ≤ 2 * (d - 1) ∧ 2 * (h + 1) ≤ m) : right4 a m h d = true := decide_eq_true c
set_option maxHeartbeats 1000000 in
theorem right4_any (a m h d : Int) (w : World) : Calls Try.prog 25 #[.agg #[.int .i64 a, .int .i64 m, .int .i64 h, .int .i64 d]] w fun e w' => e = .returned (.bool (right4 a m h d)) ∧ Below w.heap.size w w' := by
  go_enter Try.func25, Try.ntmps25
  go_wp2
  all_goals
    go_ret
    refine ⟨?_, (Below.refl _ _).alloc (Nat.le_refl _) _⟩
    first | exact ret_b (right4_yes (by omega)) | (refine ret_b (right4_no ?_); omega) | (refine ret_b ?_; unfold right4; rw [decide_eq_decide]; omega)

theorem at_any (b : Bri) (i : Nat) (w : World) (hi : i ≤ 255) (hn : 0 < b.n) (hn2 : b.n ≤ 8) : Calls Try.prog 12 #[.agg (rowB b), .int .u8 i] w fun e w' => e = .returned (.int .i64 ((i % b.n : Nat) : Int)) ∧ Below w.heap.size w w' := by
  have h1 : (0 : Int) ≤ i := by omega
  have h2 : (i : Int) ≤ 255 := by omega
  have h3 : (1 : Int) ≤ b.n := by omega
  have h4 : (b.n : Int) ≤ 8 := by omega
  go_enter Try.func12, Try.ntmps12
  go_wp2
  all_goals
    go_ret
    exact ⟨rfl, (Below.refl _ _).alloc (Nat.le_refl _) _⟩
end Go.Proofs.Ytdangeefecdbaaa.Br
