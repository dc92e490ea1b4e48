/- What the document's reader of bytes takes (ford/fordref01's Reader). Condition: the reader's bytes can be read. -/
import Derived.Test.YtbeagokbhlaeeaaReader
set_option linter.unusedSimpArgs false
namespace Go.Proofs.Ytbeagokbhlaeeaa.Oct
open Go.RowKit
/-- The document's reader in block rg, whose n bytes can be read. -/
def RdR (w : World) (rg n : Nat) (f : Nat → Int) (short : Bool) : Prop :=
  ∃ a c, w.heap[rg]? = some (.cells #[.slice a n c, .bool short] 33 (0, 0)) ∧ View w a 1 n (fun j _ => .int .u8 (f j)) ∧ (∀ j, j < n → 0 ≤ f j ∧ f j ≤ 255) ∧ n ≤ c ∧ c ≤ maxLen
set_option maxHeartbeats 4000000 in
theorem rtake_1 (w : World) (rg n : Nat) (f : Nat → Int) (h : RdR w rg n f false) (hn : 1 ≤ n) : Calls Try.prog 14 #[.pointer (some ⟨rg, 0, none⟩), .int .i64 1] w fun e w' => e = .returned (.int .u64 (num f 1)) ∧ RdR w' rg (n - 1) (fun j => f (1 + j)) false ∧ Only (· = rg) w w' := by
  obtain ⟨a, c, hr, hv, hb, hcap, hM⟩ := h
  rcases hv with h0 | ⟨g, o, rfl, hc⟩
  · omega
  have hgr : g ≠ rg := by
    rintro rfl
    have h := hc 0 (by omega) 0 (by omega)
    rw [cells_of hr] at h
    match o + (0 * 1 + 0), h with
    | 0, h => simp at h
    | 1, h => simp at h
    | q + 2, h => simp at h
  have r0 : w.cell? ⟨rg, 0, none⟩ = some (.slice (some ⟨g, o, none⟩) n c) := cells_of hr 0
  have r1 : w.cell? ⟨rg, 1, none⟩ = some (.bool false) := cells_of hr 1
  have c0 : w.cell? ⟨g, o, none⟩ = some (.int .u8 (f 0)) := hc 0 (by omega) 0 (by omega)
  have l0 := (hb 0 (by omega)).1
  have u0 := (hb 0 (by omega)).2
  have f0 := free_block hr 0
  have d1 : decide ((n : Int) < 1) = false := decide_eq_false (by omega)
  have hmx : maxLen = maxLen := rfl
  unfold maxLen at hM
  have Hc := Lib.hid hc
  have Hb := Lib.hid hb
  have Hr := Lib.hid hr
  clear hc hb hr hmx
  go_enter Try.func14, Try.ntmps14
  go_wp2_with fail
  refine wp_loop_rounds 2 ?_
  rw [rounds_succ]
  go_wp2_with fail
  rw [rounds_succ]
  go_wp2_with fail
  all_goals
    go_ret
    refine ⟨?_, ?_, (Only.refl (· = rg) w).setCell (Or.inl rfl) _⟩
    · have e : num f 1 = f 0 := by simp only [num]; omega
      rw [e]
      rfl
    refine ⟨_, _, put_block Hr.out 0 _, ?_, fun j hj => Hb.out _ (by omega), by omega, by unfold maxLen; omega⟩
    by_cases hz : n - 1 = 0
    · exact .inl hz
    · first
        | omega
        | exact .inr ⟨g, o + 1, rfl, fun j hj q hq => by
            obtain rfl : q = 0 := by omega
            rw [Only.cell ((Only.refl (· = rg) w).setCell (p := ⟨rg, 0, none⟩) (Or.inl rfl) _) (p := ⟨g, _, none⟩) (cell_lt c0) hgr]
            have h := Hc.out (1 + j) (by omega) 0 (by omega)
            rw [show o + ((1 + j) * 1 + 0) = o + 1 + (j * 1 + 0) by omega] at h
            exact h⟩
set_option maxHeartbeats 4000000 in
theorem rtake_2 (w : World) (rg n : Nat) (f : Nat → Int) (h : RdR w rg n f false) (hn : 2 ≤ n) : Calls Try.prog 14 #[.pointer (some ⟨rg, 0, none⟩), .int .i64 2] w fun e w' => e = .returned (.int .u64 (num f 2)) ∧ RdR w' rg (n - 2) (fun j => f (2 + j)) false ∧ Only (· = rg) w w' := by
  obtain ⟨a, c, hr, hv, hb, hcap, hM⟩ := h
  rcases hv with h0 | ⟨g, o, rfl, hc⟩
  · omega
  have hgr : g ≠ rg := by
    rintro rfl
    have h := hc 0 (by omega) 0 (by omega)
    rw [cells_of hr] at h
    match o + (0 * 1 + 0), h with
    | 0, h => simp at h
    | 1, h => simp at h
    | q + 2, h => simp at h
  have r0 : w.cell? ⟨rg, 0, none⟩ = some (.slice (some ⟨g, o, none⟩) n c) := cells_of hr 0
  have r1 : w.cell? ⟨rg, 1, none⟩ = some (.bool false) := cells_of hr 1
  have c0 : w.cell? ⟨g, o, none⟩ = some (.int .u8 (f 0)) := hc 0 (by omega) 0 (by omega)
  have c1 : w.cell? ⟨g, o + 1, none⟩ = some (.int .u8 (f 1)) := hc 1 (by omega) 0 (by omega)
  have l0 := (hb 0 (by omega)).1
  have u0 := (hb 0 (by omega)).2
  have l1 := (hb 1 (by omega)).1
  have u1 := (hb 1 (by omega)).2
  have f0 := free_block hr 0
  have d1 : decide ((n : Int) < 2) = false := decide_eq_false (by omega)
  have hmx : maxLen = maxLen := rfl
  unfold maxLen at hM
  have Hc := Lib.hid hc
  have Hb := Lib.hid hb
  have Hr := Lib.hid hr
  clear hc hb hr hmx
  go_enter Try.func14, Try.ntmps14
  go_wp2_with fail
  refine wp_loop_rounds 3 ?_
  rw [rounds_succ]
  go_wp2_with fail
  rw [rounds_succ]
  go_wp2_with fail
  rw [rounds_succ]
  go_wp2_with fail
  all_goals
    go_ret
    refine ⟨?_, ?_, (Only.refl (· = rg) w).setCell (Or.inl rfl) _⟩
    · have e : num f 2 = 256 * f 0 + f 1 := by simp only [num]; omega
      rw [e]
      rfl
    refine ⟨_, _, put_block Hr.out 0 _, ?_, fun j hj => Hb.out _ (by omega), by omega, by unfold maxLen; omega⟩
    by_cases hz : n - 2 = 0
    · exact .inl hz
    · first
        | omega
        | exact .inr ⟨g, o + 2, rfl, fun j hj q hq => by
            obtain rfl : q = 0 := by omega
            rw [Only.cell ((Only.refl (· = rg) w).setCell (p := ⟨rg, 0, none⟩) (Or.inl rfl) _) (p := ⟨g, _, none⟩) (cell_lt c0) hgr]
            have h := Hc.out (2 + j) (by omega) 0 (by omega)
            rw [show o + ((2 + j) * 1 + 0) = o + 2 + (j * 1 + 0) by omega] at h
            exact h⟩
set_option maxHeartbeats 4000000 in
theorem rtake_3 (w : World) (rg n : Nat) (f : Nat → Int) (h : RdR w rg n f false) (hn : 3 ≤ n) : Calls Try.prog 14 #[.pointer (some ⟨rg, 0, none⟩), .int .i64 3] w fun e w' => e = .returned (.int .u64 (num f 3)) ∧ RdR w' rg (n - 3) (fun j => f (3 + j)) false ∧ Only (· = rg) w w' := by
  obtain ⟨a, c, hr, hv, hb, hcap, hM⟩ := h
  rcases hv with h0 | ⟨g, o, rfl, hc⟩
  · omega
  have hgr : g ≠ rg := by
    rintro rfl
    have h := hc 0 (by omega) 0 (by omega)
    rw [cells_of hr] at h
    match o + (0 * 1 + 0), h with
    | 0, h => simp at h
    | 1, h => simp at h
    | q + 2, h => simp at h
  have r0 : w.cell? ⟨rg, 0, none⟩ = some (.slice (some ⟨g, o, none⟩) n c) := cells_of hr 0
  have r1 : w.cell? ⟨rg, 1, none⟩ = some (.bool false) := cells_of hr 1
  have c0 : w.cell? ⟨g, o, none⟩ = some (.int .u8 (f 0)) := hc 0 (by omega) 0 (by omega)
  have c1 : w.cell? ⟨g, o + 1, none⟩ = some (.int .u8 (f 1)) := hc 1 (by omega) 0 (by omega)
  have c2 : w.cell? ⟨g, o + 2, none⟩ = some (.int .u8 (f 2)) := hc 2 (by omega) 0 (by omega)
  have l0 := (hb 0 (by omega)).1
  have u0 := (hb 0 (by omega)).2
  have l1 := (hb 1 (by omega)).1
  have u1 := (hb 1 (by omega)).2
  have l2 := (hb 2 (by omega)).1
  have u2 := (hb 2 (by omega)).2
  have f0 := free_block hr 0
  have d1 : decide ((n : Int) < 3) = false := decide_eq_false (by omega)
  have hmx : maxLen = maxLen := rfl
  unfold maxLen at hM
  have Hc := Lib.hid hc
  have Hb := Lib.hid hb
  have Hr := Lib.hid hr
  clear hc hb hr hmx
  go_enter Try.func14, Try.ntmps14
  go_wp2_with fail
  refine wp_loop_rounds 4 ?_
  rw [rounds_succ]
  go_wp2_with fail
  rw [rounds_succ]
  go_wp2_with fail
  rw [rounds_succ]
  go_wp2_with fail
  rw [rounds_succ]
  go_wp2_with fail
  all_goals
    go_ret
    refine ⟨?_, ?_, (Only.refl (· = rg) w).setCell (Or.inl rfl) _⟩
    · have e : num f 3 = 256 * (256 * f 0 + f 1) + f 2 := by simp only [num]; omega
      rw [e]
      rfl
    refine ⟨_, _, put_block Hr.out 0 _, ?_, fun j hj => Hb.out _ (by omega), by omega, by unfold maxLen; omega⟩
    by_cases hz : n - 3 = 0
    · exact .inl hz
    · first
        | omega
        | exact .inr ⟨g, o + 3, rfl, fun j hj q hq => by
            obtain rfl : q = 0 := by omega
            rw [Only.cell ((Only.refl (· = rg) w).setCell (p := ⟨rg, 0, none⟩) (Or.inl rfl) _) (p := ⟨g, _, none⟩) (cell_lt c0) hgr]
            have h := Hc.out (3 + j) (by omega) 0 (by omega)
            rw [show o + ((3 + j) * 1 + 0) = o + 3 + (j * 1 + 0) by omega] at h
            exact h⟩
set_option maxHeartbeats 4000000 in
theorem rtake_4 (w : World) (rg n : Nat) (f : Nat → Int) (h : RdR w rg n f false) (hn : 4 ≤ n) : Calls Try.prog 14 #[.pointer (some ⟨rg, 0, none⟩), .int .i64 4] w fun e w' => e = .returned (.int .u64 (num f 4)) ∧ RdR w' rg (n - 4) (fun j => f (4 + j)) false ∧ Only (· = rg) w w' := by
  obtain ⟨a, c, hr, hv, hb, hcap, hM⟩ := h
  rcases hv with h0 | ⟨g, o, rfl, hc⟩
  · omega
  have hgr : g ≠ rg := by
    rintro rfl
    have h := hc 0 (by omega) 0 (by omega)
    rw [cells_of hr] at h
    match o + (0 * 1 + 0), h with
    | 0, h => simp at h
    | 1, h => simp at h
    | q + 2, h => simp at h
  have r0 : w.cell? ⟨rg, 0, none⟩ = some (.slice (some ⟨g, o, none⟩) n c) := cells_of hr 0
  have r1 : w.cell? ⟨rg, 1, none⟩ = some (.bool false) := cells_of hr 1
  have c0 : w.cell? ⟨g, o, none⟩ = some (.int .u8 (f 0)) := hc 0 (by omega) 0 (by omega)
  have c1 : w.cell? ⟨g, o + 1, none⟩ = some (.int .u8 (f 1)) := hc 1 (by omega) 0 (by omega)
  have c2 : w.cell? ⟨g, o + 2, none⟩ = some (.int .u8 (f 2)) := hc 2 (by omega) 0 (by omega)
  have c3 : w.cell? ⟨g, o + 3, none⟩ = some (.int .u8 (f 3)) := hc 3 (by omega) 0 (by omega)
  have l0 := (hb 0 (by omega)).1
  have u0 := (hb 0 (by omega)).2
  have l1 := (hb 1 (by omega)).1
  have u1 := (hb 1 (by omega)).2
  have l2 := (hb 2 (by omega)).1
  have u2 := (hb 2 (by omega)).2
  have l3 := (hb 3 (by omega)).1
  have u3 := (hb 3 (by omega)).2
  have f0 := free_block hr 0
  have d1 : decide ((n : Int) < 4) = false := decide_eq_false (by omega)
  have hmx : maxLen = maxLen := rfl
  unfold maxLen at hM
  have Hc := Lib.hid hc
  have Hb := Lib.hid hb
  have Hr := Lib.hid hr
  clear hc hb hr hmx
  go_enter Try.func14, Try.ntmps14
  go_wp2_with fail
  refine wp_loop_rounds 5 ?_
  rw [rounds_succ]
  go_wp2_with fail
  rw [rounds_succ]
  go_wp2_with fail
  rw [rounds_succ]
  go_wp2_with fail
  rw [rounds_succ]
  go_wp2_with fail
  rw [rounds_succ]
  go_wp2_with fail
  all_goals
    go_ret
    refine ⟨?_, ?_, (Only.refl (· = rg) w).setCell (Or.inl rfl) _⟩
    · have e : num f 4 = 256 * (256 * (256 * f 0 + f 1) + f 2) + f 3 := by simp only [num]; omega
      rw [e]
      rfl
    refine ⟨_, _, put_block Hr.out 0 _, ?_, fun j hj => Hb.out _ (by omega), by omega, by unfold maxLen; omega⟩
    by_cases hz : n - 4 = 0
    · exact .inl hz
    · first
        | omega
        | exact .inr ⟨g, o + 4, rfl, fun j hj q hq => by
            obtain rfl : q = 0 := by omega
            rw [Only.cell ((Only.refl (· = rg) w).setCell (p := ⟨rg, 0, none⟩) (Or.inl rfl) _) (p := ⟨g, _, none⟩) (cell_lt c0) hgr]
            have h := Hc.out (4 + j) (by omega) 0 (by omega)
            rw [show o + ((4 + j) * 1 + 0) = o + 4 + (j * 1 + 0) by omega] at h
            exact h⟩
set_option maxHeartbeats 4000000 in
theorem rtake_5 (w : World) (rg n : Nat) (f : Nat → Int) (h : RdR w rg n f false) (hn : 5 ≤ n) : Calls Try.prog 14 #[.pointer (some ⟨rg, 0, none⟩), .int .i64 5] w fun e w' => e = .returned (.int .u64 (num f 5)) ∧ RdR w' rg (n - 5) (fun j => f (5 + j)) false ∧ Only (· = rg) w w' := by
  obtain ⟨a, c, hr, hv, hb, hcap, hM⟩ := h
  rcases hv with h0 | ⟨g, o, rfl, hc⟩
  · omega
  have hgr : g ≠ rg := by
    rintro rfl
    have h := hc 0 (by omega) 0 (by omega)
    rw [cells_of hr] at h
    match o + (0 * 1 + 0), h with
    | 0, h => simp at h
    | 1, h => simp at h
    | q + 2, h => simp at h
  have r0 : w.cell? ⟨rg, 0, none⟩ = some (.slice (some ⟨g, o, none⟩) n c) := cells_of hr 0
  have r1 : w.cell? ⟨rg, 1, none⟩ = some (.bool false) := cells_of hr 1
  have c0 : w.cell? ⟨g, o, none⟩ = some (.int .u8 (f 0)) := hc 0 (by omega) 0 (by omega)
  have c1 : w.cell? ⟨g, o + 1, none⟩ = some (.int .u8 (f 1)) := hc 1 (by omega) 0 (by omega)
  have c2 : w.cell? ⟨g, o + 2, none⟩ = some (.int .u8 (f 2)) := hc 2 (by omega) 0 (by omega)
  have c3 : w.cell? ⟨g, o + 3, none⟩ = some (.int .u8 (f 3)) := hc 3 (by omega) 0 (by omega)
  have c4 : w.cell? ⟨g, o + 4, none⟩ = some (.int .u8 (f 4)) := hc 4 (by omega) 0 (by omega)
  have l0 := (hb 0 (by omega)).1
  have u0 := (hb 0 (by omega)).2
  have l1 := (hb 1 (by omega)).1
  have u1 := (hb 1 (by omega)).2
  have l2 := (hb 2 (by omega)).1
  have u2 := (hb 2 (by omega)).2
  have l3 := (hb 3 (by omega)).1
  have u3 := (hb 3 (by omega)).2
  have l4 := (hb 4 (by omega)).1
  have u4 := (hb 4 (by omega)).2
  have f0 := free_block hr 0
  have d1 : decide ((n : Int) < 5) = false := decide_eq_false (by omega)
  have hmx : maxLen = maxLen := rfl
  unfold maxLen at hM
  have Hc := Lib.hid hc
  have Hb := Lib.hid hb
  have Hr := Lib.hid hr
  clear hc hb hr hmx
  go_enter Try.func14, Try.ntmps14
  go_wp2_with fail
  refine wp_loop_rounds 6 ?_
  rw [rounds_succ]
  go_wp2_with fail
  rw [rounds_succ]
  go_wp2_with fail
  rw [rounds_succ]
  go_wp2_with fail
  rw [rounds_succ]
  go_wp2_with fail
  rw [rounds_succ]
  go_wp2_with fail
  rw [rounds_succ]
  go_wp2_with fail
  all_goals
    go_ret
    refine ⟨?_, ?_, (Only.refl (· = rg) w).setCell (Or.inl rfl) _⟩
    · have e : num f 5 = 256 * (256 * (256 * (256 * f 0 + f 1) + f 2) + f 3) + f 4 := by simp only [num]; omega
      rw [e]
      rfl
    refine ⟨_, _, put_block Hr.out 0 _, ?_, fun j hj => Hb.out _ (by omega), by omega, by unfold maxLen; omega⟩
    by_cases hz : n - 5 = 0
    · exact .inl hz
    · first
        | omega
        | exact .inr ⟨g, o + 5, rfl, fun j hj q hq => by
            obtain rfl : q = 0 := by omega
            rw [Only.cell ((Only.refl (· = rg) w).setCell (p := ⟨rg, 0, none⟩) (Or.inl rfl) _) (p := ⟨g, _, none⟩) (cell_lt c0) hgr]
            have h := Hc.out (5 + j) (by omega) 0 (by omega)
            rw [show o + ((5 + j) * 1 + 0) = o + 5 + (j * 1 + 0) by omega] at h
            exact h⟩
set_option maxHeartbeats 4000000 in
theorem rtake_6 (w : World) (rg n : Nat) (f : Nat → Int) (h : RdR w rg n f false) (hn : 6 ≤ n) : Calls Try.prog 14 #[.pointer (some ⟨rg, 0, none⟩), .int .i64 6] w fun e w' => e = .returned (.int .u64 (num f 6)) ∧ RdR w' rg (n - 6) (fun j => f (6 + j)) false ∧ Only (· = rg) w w' := by
  obtain ⟨a, c, hr, hv, hb, hcap, hM⟩ := h
  rcases hv with h0 | ⟨g, o, rfl, hc⟩
  · omega
  have hgr : g ≠ rg := by
    rintro rfl
    have h := hc 0 (by omega) 0 (by omega)
    rw [cells_of hr] at h
    match o + (0 * 1 + 0), h with
    | 0, h => simp at h
    | 1, h => simp at h
    | q + 2, h => simp at h
  have r0 : w.cell? ⟨rg, 0, none⟩ = some (.slice (some ⟨g, o, none⟩) n c) := cells_of hr 0
  have r1 : w.cell? ⟨rg, 1, none⟩ = some (.bool false) := cells_of hr 1
  have c0 : w.cell? ⟨g, o, none⟩ = some (.int .u8 (f 0)) := hc 0 (by omega) 0 (by omega)
  have c1 : w.cell? ⟨g, o + 1, none⟩ = some (.int .u8 (f 1)) := hc 1 (by omega) 0 (by omega)
  have c2 : w.cell? ⟨g, o + 2, none⟩ = some (.int .u8 (f 2)) := hc 2 (by omega) 0 (by omega)
  have c3 : w.cell? ⟨g, o + 3, none⟩ = some (.int .u8 (f 3)) := hc 3 (by omega) 0 (by omega)
  have c4 : w.cell? ⟨g, o + 4, none⟩ = some (.int .u8 (f 4)) := hc 4 (by omega) 0 (by omega)
  have c5 : w.cell? ⟨g, o + 5, none⟩ = some (.int .u8 (f 5)) := hc 5 (by omega) 0 (by omega)
  have l0 := (hb 0 (by omega)).1
  have u0 := (hb 0 (by omega)).2
  have l1 := (hb 1 (by omega)).1
  have u1 := (hb 1 (by omega)).2
  have l2 := (hb 2 (by omega)).1
  have u2 := (hb 2 (by omega)).2
  have l3 := (hb 3 (by omega)).1
  have u3 := (hb 3 (by omega)).2
  have l4 := (hb 4 (by omega)).1
  have u4 := (hb 4 (by omega)).2
  have l5 := (hb 5 (by omega)).1
  have u5 := (hb 5 (by omega)).2
  have f0 := free_block hr 0
  have d1 : decide ((n : Int) < 6) = false := decide_eq_false (by omega)
  have hmx : maxLen = maxLen := rfl
  unfold maxLen at hM
  have Hc := Lib.hid hc
  have Hb := Lib.hid hb
  have Hr := Lib.hid hr
  clear hc hb hr hmx
  go_enter Try.func14, Try.ntmps14
  go_wp2_with fail
  refine wp_loop_rounds 7 ?_
  rw [rounds_succ]
  go_wp2_with fail
  rw [rounds_succ]
  go_wp2_with fail
  rw [rounds_succ]
  go_wp2_with fail
  rw [rounds_succ]
  go_wp2_with fail
  rw [rounds_succ]
  go_wp2_with fail
  rw [rounds_succ]
  go_wp2_with fail
  rw [rounds_succ]
  go_wp2_with fail
  all_goals
    go_ret
    refine ⟨?_, ?_, (Only.refl (· = rg) w).setCell (Or.inl rfl) _⟩
    · have e : num f 6 = 256 * (256 * (256 * (256 * (256 * f 0 + f 1) + f 2) + f 3) + f 4) + f 5 := by simp only [num]; omega
      rw [e]
      rfl
    refine ⟨_, _, put_block Hr.out 0 _, ?_, fun j hj => Hb.out _ (by omega), by omega, by unfold maxLen; omega⟩
    by_cases hz : n - 6 = 0
    · exact .inl hz
    · first
        | omega
        | exact .inr ⟨g, o + 6, rfl, fun j hj q hq => by
            obtain rfl : q = 0 := by omega
            rw [Only.cell ((Only.refl (· = rg) w).setCell (p := ⟨rg, 0, none⟩) (Or.inl rfl) _) (p := ⟨g, _, none⟩) (cell_lt c0) hgr]
            have h := Hc.out (6 + j) (by omega) 0 (by omega)
            rw [show o + ((6 + j) * 1 + 0) = o + 6 + (j * 1 + 0) by omega] at h
            exact h⟩
set_option maxHeartbeats 4000000 in
theorem rtake_7 (w : World) (rg n : Nat) (f : Nat → Int) (h : RdR w rg n f false) (hn : 7 ≤ n) : Calls Try.prog 14 #[.pointer (some ⟨rg, 0, none⟩), .int .i64 7] w fun e w' => e = .returned (.int .u64 (num f 7)) ∧ RdR w' rg (n - 7) (fun j => f (7 + j)) false ∧ Only (· = rg) w w' := by
  obtain ⟨a, c, hr, hv, hb, hcap, hM⟩ := h
  rcases hv with h0 | ⟨g, o, rfl, hc⟩
  · omega
  have hgr : g ≠ rg := by
    rintro rfl
    have h := hc 0 (by omega) 0 (by omega)
    rw [cells_of hr] at h
    match o + (0 * 1 + 0), h with
    | 0, h => simp at h
    | 1, h => simp at h
    | q + 2, h => simp at h
  have r0 : w.cell? ⟨rg, 0, none⟩ = some (.slice (some ⟨g, o, none⟩) n c) := cells_of hr 0
  have r1 : w.cell? ⟨rg, 1, none⟩ = some (.bool false) := cells_of hr 1
  have c0 : w.cell? ⟨g, o, none⟩ = some (.int .u8 (f 0)) := hc 0 (by omega) 0 (by omega)
  have c1 : w.cell? ⟨g, o + 1, none⟩ = some (.int .u8 (f 1)) := hc 1 (by omega) 0 (by omega)
  have c2 : w.cell? ⟨g, o + 2, none⟩ = some (.int .u8 (f 2)) := hc 2 (by omega) 0 (by omega)
  have c3 : w.cell? ⟨g, o + 3, none⟩ = some (.int .u8 (f 3)) := hc 3 (by omega) 0 (by omega)
  have c4 : w.cell? ⟨g, o + 4, none⟩ = some (.int .u8 (f 4)) := hc 4 (by omega) 0 (by omega)
  have c5 : w.cell? ⟨g, o + 5, none⟩ = some (.int .u8 (f 5)) := hc 5 (by omega) 0 (by omega)
  have c6 : w.cell? ⟨g, o + 6, none⟩ = some (.int .u8 (f 6)) := hc 6 (by omega) 0 (by omega)
  have l0 := (hb 0 (by omega)).1
  have u0 := (hb 0 (by omega)).2
  have l1 := (hb 1 (by omega)).1
  have u1 := (hb 1 (by omega)).2
  have l2 := (hb 2 (by omega)).1
  have u2 := (hb 2 (by omega)).2
  have l3 := (hb 3 (by omega)).1
  have u3 := (hb 3 (by omega)).2
  have l4 := (hb 4 (by omega)).1
  have u4 := (hb 4 (by omega)).2
  have l5 := (hb 5 (by omega)).1
  have u5 := (hb 5 (by omega)).2
  have l6 := (hb 6 (by omega)).1
  have u6 := (hb 6 (by omega)).2
  have f0 := free_block hr 0
  have d1 : decide ((n : Int) < 7) = false := decide_eq_false (by omega)
  have hmx : maxLen = maxLen := rfl
  unfold maxLen at hM
  have Hc := Lib.hid hc
  have Hb := Lib.hid hb
  have Hr := Lib.hid hr
  clear hc hb hr hmx
  go_enter Try.func14, Try.ntmps14
  go_wp2_with fail
  refine wp_loop_rounds 8 ?_
  rw [rounds_succ]
  go_wp2_with fail
  rw [rounds_succ]
  go_wp2_with fail
  rw [rounds_succ]
  go_wp2_with fail
  rw [rounds_succ]
  go_wp2_with fail
  rw [rounds_succ]
  go_wp2_with fail
  rw [rounds_succ]
  go_wp2_with fail
  rw [rounds_succ]
  go_wp2_with fail
  rw [rounds_succ]
  go_wp2_with fail
  all_goals
    go_ret
    refine ⟨?_, ?_, (Only.refl (· = rg) w).setCell (Or.inl rfl) _⟩
    · have e : num f 7 = 256 * (256 * (256 * (256 * (256 * (256 * f 0 + f 1) + f 2) + f 3) + f 4) + f 5) + f 6 := by simp only [num]; omega
      rw [e]
      rfl
    refine ⟨_, _, put_block Hr.out 0 _, ?_, fun j hj => Hb.out _ (by omega), by omega, by unfold maxLen; omega⟩
    by_cases hz : n - 7 = 0
    · exact .inl hz
    · first
        | omega
        | exact .inr ⟨g, o + 7, rfl, fun j hj q hq => by
            obtain rfl : q = 0 := by omega
            rw [Only.cell ((Only.refl (· = rg) w).setCell (p := ⟨rg, 0, none⟩) (Or.inl rfl) _) (p := ⟨g, _, none⟩) (cell_lt c0) hgr]
            have h := Hc.out (7 + j) (by omega) 0 (by omega)
            rw [show o + ((7 + j) * 1 + 0) = o + 7 + (j * 1 + 0) by omega] at h
            exact h⟩
set_option maxHeartbeats 4000000 in
theorem rtake_8 (w : World) (rg n : Nat) (f : Nat → Int) (h : RdR w rg n f false) (hn : 8 ≤ n) : Calls Try.prog 14 #[.pointer (some ⟨rg, 0, none⟩), .int .i64 8] w fun e w' => e = .returned (.int .u64 (num f 8)) ∧ RdR w' rg (n - 8) (fun j => f (8 + j)) false ∧ Only (· = rg) w w' := by
  obtain ⟨a, c, hr, hv, hb, hcap, hM⟩ := h
  rcases hv with h0 | ⟨g, o, rfl, hc⟩
  · omega
  have hgr : g ≠ rg := by
    rintro rfl
    have h := hc 0 (by omega) 0 (by omega)
    rw [cells_of hr] at h
    match o + (0 * 1 + 0), h with
    | 0, h => simp at h
    | 1, h => simp at h
    | q + 2, h => simp at h
  have r0 : w.cell? ⟨rg, 0, none⟩ = some (.slice (some ⟨g, o, none⟩) n c) := cells_of hr 0
  have r1 : w.cell? ⟨rg, 1, none⟩ = some (.bool false) := cells_of hr 1
  have c0 : w.cell? ⟨g, o, none⟩ = some (.int .u8 (f 0)) := hc 0 (by omega) 0 (by omega)
  have c1 : w.cell? ⟨g, o + 1, none⟩ = some (.int .u8 (f 1)) := hc 1 (by omega) 0 (by omega)
  have c2 : w.cell? ⟨g, o + 2, none⟩ = some (.int .u8 (f 2)) := hc 2 (by omega) 0 (by omega)
  have c3 : w.cell? ⟨g, o + 3, none⟩ = some (.int .u8 (f 3)) := hc 3 (by omega) 0 (by omega)
  have c4 : w.cell? ⟨g, o + 4, none⟩ = some (.int .u8 (f 4)) := hc 4 (by omega) 0 (by omega)
  have c5 : w.cell? ⟨g, o + 5, none⟩ = some (.int .u8 (f 5)) := hc 5 (by omega) 0 (by omega)
  have c6 : w.cell? ⟨g, o + 6, none⟩ = some (.int .u8 (f 6)) := hc 6 (by omega) 0 (by omega)
  have c7 : w.cell? ⟨g, o + 7, none⟩ = some (.int .u8 (f 7)) := hc 7 (by omega) 0 (by omega)
  have l0 := (hb 0 (by omega)).1
  have u0 := (hb 0 (by omega)).2
  have l1 := (hb 1 (by omega)).1
  have u1 := (hb 1 (by omega)).2
  have l2 := (hb 2 (by omega)).1
  have u2 := (hb 2 (by omega)).2
  have l3 := (hb 3 (by omega)).1
  have u3 := (hb 3 (by omega)).2
  have l4 := (hb 4 (by omega)).1
  have u4 := (hb 4 (by omega)).2
  have l5 := (hb 5 (by omega)).1
  have u5 := (hb 5 (by omega)).2
  have l6 := (hb 6 (by omega)).1
  have u6 := (hb 6 (by omega)).2
  have l7 := (hb 7 (by omega)).1
  have u7 := (hb 7 (by omega)).2
  have f0 := free_block hr 0
  have d1 : decide ((n : Int) < 8) = false := decide_eq_false (by omega)
  have hmx : maxLen = maxLen := rfl
  unfold maxLen at hM
  have Hc := Lib.hid hc
  have Hb := Lib.hid hb
  have Hr := Lib.hid hr
  clear hc hb hr hmx
  go_enter Try.func14, Try.ntmps14
  go_wp2_with fail
  refine wp_loop_rounds 9 ?_
  rw [rounds_succ]
  go_wp2_with fail
  rw [rounds_succ]
  go_wp2_with fail
  rw [rounds_succ]
  go_wp2_with fail
  rw [rounds_succ]
  go_wp2_with fail
  rw [rounds_succ]
  go_wp2_with fail
  rw [rounds_succ]
  go_wp2_with fail
  rw [rounds_succ]
  go_wp2_with fail
  rw [rounds_succ]
  go_wp2_with fail
  rw [rounds_succ]
  go_wp2_with fail
  all_goals
    go_ret
    refine ⟨?_, ?_, (Only.refl (· = rg) w).setCell (Or.inl rfl) _⟩
    · have e : num f 8 = 256 * (256 * (256 * (256 * (256 * (256 * (256 * f 0 + f 1) + f 2) + f 3) + f 4) + f 5) + f 6) + f 7 := by simp only [num]; omega
      rw [e]
      rfl
    refine ⟨_, _, put_block Hr.out 0 _, ?_, fun j hj => Hb.out _ (by omega), by omega, by unfold maxLen; omega⟩
    by_cases hz : n - 8 = 0
    · exact .inl hz
    · first
        | omega
        | exact .inr ⟨g, o + 8, rfl, fun j hj q hq => by
            obtain rfl : q = 0 := by omega
            rw [Only.cell ((Only.refl (· = rg) w).setCell (p := ⟨rg, 0, none⟩) (Or.inl rfl) _) (p := ⟨g, _, none⟩) (cell_lt c0) hgr]
            have h := Hc.out (8 + j) (by omega) 0 (by omega)
            rw [show o + ((8 + j) * 1 + 0) = o + 8 + (j * 1 + 0) by omega] at h
            exact h⟩
theorem rtake_in (w : World) (rg n k : Nat) (f : Nat → Int) (h : RdR w rg n f false) (hk : 1 ≤ k ∧ k ≤ 8) (hn : k ≤ n) : Calls Try.prog 14 #[.pointer (some ⟨rg, 0, none⟩), .int .i64 k] w fun e w' => e = .returned (.int .u64 (num f k)) ∧ RdR w' rg (n - k) (fun j => f (k + j)) false ∧ Only (· = rg) w w' := by
  rcases (show k = 1 ∨ k = 2 ∨ k = 3 ∨ k = 4 ∨ k = 5 ∨ k = 6 ∨ k = 7 ∨ k = 8 by omega) with rfl | rfl | rfl | rfl | rfl | rfl | rfl | rfl
  · exact rtake_1 w rg n f h hn
  · exact rtake_2 w rg n f h hn
  · exact rtake_3 w rg n f h hn
  · exact rtake_4 w rg n f h hn
  · exact rtake_5 w rg n f h hn
  · exact rtake_6 w rg n f h hn
  · exact rtake_7 w rg n f h hn
  · exact rtake_8 w rg n f h hn
/-- There are too few. -/
theorem rtake_few (w : World) (rg n : Nat) (i : Int) (f : Nat → Int) (h : RdR w rg n f false) (hk : 1 ≤ i ∧ i ≤ 8) (hn : n < i) : Calls Try.prog 14 #[.pointer (some ⟨rg, 0, none⟩), .int .i64 i] w fun e w' => e = .returned (.int .u64 0) ∧ (∀ f', RdR w' rg 0 f' true) ∧ Only (· = rg) w w' := by
  obtain ⟨a, c, hr, hv, hb, hcap, hM⟩ := h
  have r0 : w.cell? ⟨rg, 0, none⟩ = some (.slice a n c) := cells_of hr 0
  have r1 : w.cell? ⟨rg, 1, none⟩ = some (.bool false) := cells_of hr 1
  have f0 := free_block hr 0
  have f1 := free_block hr 1
  have d0 : decide (i < 1) = false := decide_eq_false (by omega)
  have d1 : decide (8 < i) = false := decide_eq_false (by omega)
  have d2 : decide ((n : Int) < i) = true := decide_eq_true hn
  unfold maxLen at hM
  have Hr := Lib.hid hr
  clear hv hb hr hn hk
  go_enter Try.func14, Try.ntmps14
  go_wp2_with fail
  go_ret
  refine ⟨rfl, fun f' => ⟨none, 0, ?_, .inl rfl, fun j hj => by omega, Nat.le_refl _, by unfold maxLen; omega⟩, ((Only.refl (· = rg) w).setCell (Or.inl rfl) _).setCell (Or.inl rfl) _⟩
  exact put_block (put_block Hr.out 0 _) 1 _
/-- There was too little, or the number isn't one of bytes. -/
theorem rtake_no (w : World) (rg n : Nat) (s : Bool) (i : Int) (f : Nat → Int) (h : RdR w rg n f s) (hs : s = true ∨ i < 1 ∨ 8 < i) : Calls Try.prog 14 #[.pointer (some ⟨rg, 0, none⟩), .int .i64 i] w fun e w' => e = .returned (.int .u64 0) ∧ w' = w := by
  obtain ⟨a, c, hr, hv, hb, hcap, hM⟩ := h
  have r1 : w.cell? ⟨rg, 1, none⟩ = some (.bool s) := cells_of hr 1
  clear hv hb hr hcap hM
  go_enter Try.func14, Try.ntmps14
  by_cases h0 : i < 1
  · have d0 : decide (i < 1) = true := decide_eq_true h0
    go_wp2_with fail
    go_ret
    exact ⟨rfl, rfl⟩
  · have d0 : decide (i < 1) = false := decide_eq_false h0
    by_cases h1 : 8 < i
    · have d1 : decide (8 < i) = true := decide_eq_true h1
      go_wp2_with fail
      go_ret
      exact ⟨rfl, rfl⟩
    · have d1 : decide (8 < i) = false := decide_eq_false h1
      have hs' : s = true := by rcases hs with h | h | h <;> first | exact h | omega
      subst hs'
      go_wp2_with fail
      go_ret
      exact ⟨rfl, rfl⟩
end Go.Proofs.Ytbeagokbhlaeeaa.Oct
