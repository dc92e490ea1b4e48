/- What is taken of a reader of bytes (ford/octet's Reader: Take, Left, Short, New). Condition: the reader's bytes can be read. -/
import Derived.Test.YtehapoilfmgjgaaBase
import Derived.Laws.BitsAllLaws
set_option linter.unusedSimpArgs false
namespace Go.Proofs.Ytehapoilfmgjgaa.Oct
open Go.RowKit
theorem or_mul (a b : Nat) (h : a < 256) : (b * 256) ||| a = b * 256 + a := by
  rw [← Nat.shiftLeft_eq b 8, Nat.shiftLeft_add_eq_or_of_lt (by simpa using h)]
theorem or_0 (y : Int) (hy : 0 ≤ y ∧ y ≤ 255) : bits BinOp.or IntKind.u64 0 y = y := by
  obtain ⟨n, rfl⟩ := Int.eq_ofNat_of_zero_le hy.1
  have h := u64_or_nat 0 n (by omega) (by omega)
  simpa using h
theorem shl_or (x y : Int) (hx : 0 ≤ x ∧ x < 72057594037927936) (hy : 0 ≤ y ∧ y ≤ 255) : bits BinOp.or IntKind.u64 (IntKind.u64.wrap (x * 256)) y = x * 256 + y := by
  obtain ⟨n, rfl⟩ := Int.eq_ofNat_of_zero_le hx.1
  obtain ⟨m, rfl⟩ := Int.eq_ofNat_of_zero_le hy.1
  have e : IntKind.u64.wrap ((n : Int) * 256) = ((n * 256 : Nat) : Int) := by
    unfold IntKind.wrap
    simp [IntKind.signed, IntKind.bits]
    omega
  rw [e, u64_or_nat (n * 256) m (by omega) (by omega), or_mul m n (by omega)]
  omega
/-- The number that j bytes are. -/
def num (f : Nat → Int) : Nat → Int
  | 0 => 0
  | j + 1 => num f j * 256 + f j
/-- As the walk spells it. -/
def nest (f : Nat → Int) : Nat → Int
  | 0 => 0
  | 1 => bits BinOp.or IntKind.u64 0 (f 0)
  | j + 2 => bits BinOp.or IntKind.u64 (IntKind.u64.wrap (nest f (j + 1) * 256)) (f (j + 1))
theorem num_lt (f : Nat → Int) : ∀ j, (∀ i, i < j → 0 ≤ f i ∧ f i ≤ 255) → 0 ≤ num f j ∧ num f j < 256 ^ j
  | 0, _ => by simp [num]
  | j + 1, h => by
    have h1 := num_lt f j (fun i hi => h i (by omega))
    have h2 := h j (by omega)
    simp only [num, Int.pow_succ]
    omega
theorem nest_num (f : Nat → Int) : ∀ j, j ≤ 8 → (∀ i, i < j → 0 ≤ f i ∧ f i ≤ 255) → nest f j = num f j
  | 0, _, _ => rfl
  | 1, _, h => by
    show bits BinOp.or IntKind.u64 0 (f 0) = 0 * 256 + f 0
    rw [or_0 _ (h 0 (by omega))]
    omega
  | j + 2, hj, h => by
    have ih := nest_num f (j + 1) (by omega) (fun i hi => h i (by omega))
    have hl := num_lt f (j + 1) (fun i hi => h i (by omega))
    show bits BinOp.or IntKind.u64 (IntKind.u64.wrap (nest f (j + 1) * 256)) (f (j + 1)) = num f (j + 1) * 256 + f (j + 1)
    rw [ih, shl_or _ _ ⟨hl.1, by
      have : (256 : Int) ^ (j + 1) ≤ 72057594037927936 := by
        rcases (show j = 0 ∨ j = 1 ∨ j = 2 ∨ j = 3 ∨ j = 4 ∨ j = 5 ∨ j = 6 by omega) with rfl | rfl | rfl | rfl | rfl | rfl | rfl <;> decide
      omega⟩ (h (j + 1) (by omega))]
/-- A reader in block rg, whose n bytes can be read. -/
def Rd (w : World) (rg n : Nat) (f : Nat → Int) (short : Bool) : Prop :=
  ∃ a c, w.heap[rg]? = some (.cells #[.slice a n c, .bool short] 60 (0, 0)) ∧ View w a 1 n (fun j _ => .int .u8 (f j)) ∧ (∀ j, j < n → 0 ≤ f j ∧ f j ≤ 255) ∧ n ≤ c ∧ c ≤ maxLen
theorem put_block {w : World} {g : Nat} {C : Array Value} {T : TypeId} (h : w.heap[g]? = some (.cells C T (0, 0))) (j : Nat) (v : Value) : (w.setCell ⟨g, j, none⟩ v).heap[g]? = some (.cells (C.setIfInBounds j v) T (0, 0)) := by
  simp [World.setCell, Array.getElem?_modify, h]
theorem free_block {w : World} {g : Nat} {C : Array Value} {T : TypeId} (h : w.heap[g]? = some (.cells C T (0, 0))) (j : Nat) : w.frozen? ⟨g, j, none⟩ = false := by
  simp [World.frozen?, h]
set_option maxHeartbeats 4000000 in
theorem take_1 (w : World) (rg n : Nat) (f : Nat → Int) (h : Rd w rg n f false) (hn : 1 ≤ n) : Calls Try.prog 18 #[.pointer (some ⟨rg, 0, none⟩), .int .i64 1] w fun e w' => e = .returned (.int .u64 (num f 1)) ∧ Rd w' rg (n - 1) (fun j => f (1 + j)) false ∧ Only (· = rg) w w' := by
  obtain ⟨a, c, hr, hv, hb, hcap, hM⟩ := h
  rcases hv with h0 | ⟨g, o, rfl, hc⟩
  · omega
  have hnum := nest_num f 1 (by decide) (fun i hi => hb i (by omega))
  have hgr : g ≠ rg := by
    rintro rfl
    have h := hc 0 (by omega) 0 (by omega)
    rw [cells_of hr] at h
    match o + (0 * 1 + 0), h with
    | 0, h => simp at h
    | 1, h => simp at h
    | q + 2, h => simp at h
  have r0 : w.cell? ⟨rg, 0, none⟩ = some (.slice (some ⟨g, o, none⟩) n c) := cells_of hr 0
  have r1 : w.cell? ⟨rg, 1, none⟩ = some (.bool false) := cells_of hr 1
  have c0 : w.cell? ⟨g, o, none⟩ = some (.int .u8 (f 0)) := hc 0 (by omega) 0 (by omega)
  have l0 := (hb 0 (by omega)).1
  have u0 := (hb 0 (by omega)).2
  have f0 := free_block hr 0
  have d1 : decide ((n : Int) < 1) = false := decide_eq_false (by omega)
  have hmx : maxLen = maxLen := rfl
  unfold maxLen at hM
  have Hc := Lib.hid hc
  have Hb := Lib.hid hb
  have Hr := Lib.hid hr
  have Hn := Lib.hid hnum
  clear hc hb hr hnum hmx
  go_enter Try.func18, Try.ntmps18
  go_wp2_with fail
  refine wp_loop_rounds 2 ?_
  rw [rounds_succ]
  go_wp2_with fail
  rw [rounds_succ]
  go_wp2_with fail
  all_goals
    go_ret
    refine ⟨by rw [← Hn.out]; rfl, ?_, (Only.refl (· = rg) w).setCell (Or.inl rfl) _⟩
    refine ⟨_, _, put_block Hr.out 0 _, ?_, fun j hj => Hb.out _ (by omega), by omega, by unfold maxLen; omega⟩
    by_cases hz : n - 1 = 0
    · exact .inl hz
    · first
        | omega
        | exact .inr ⟨g, o + 1, rfl, fun j hj q hq => by
            obtain rfl : q = 0 := by omega
            rw [Only.cell ((Only.refl (· = rg) w).setCell (p := ⟨rg, 0, none⟩) (Or.inl rfl) _) (p := ⟨g, _, none⟩) (cell_lt c0) hgr]
            have h := Hc.out (1 + j) (by omega) 0 (by omega)
            rw [show o + ((1 + j) * 1 + 0) = o + 1 + (j * 1 + 0) by omega] at h
            exact h⟩
set_option maxHeartbeats 4000000 in
theorem take_2 (w : World) (rg n : Nat) (f : Nat → Int) (h : Rd w rg n f false) (hn : 2 ≤ n) : Calls Try.prog 18 #[.pointer (some ⟨rg, 0, none⟩), .int .i64 2] w fun e w' => e = .returned (.int .u64 (num f 2)) ∧ Rd w' rg (n - 2) (fun j => f (2 + j)) false ∧ Only (· = rg) w w' := by
  obtain ⟨a, c, hr, hv, hb, hcap, hM⟩ := h
  rcases hv with h0 | ⟨g, o, rfl, hc⟩
  · omega
  have hnum := nest_num f 2 (by decide) (fun i hi => hb i (by omega))
  have hgr : g ≠ rg := by
    rintro rfl
    have h := hc 0 (by omega) 0 (by omega)
    rw [cells_of hr] at h
    match o + (0 * 1 + 0), h with
    | 0, h => simp at h
    | 1, h => simp at h
    | q + 2, h => simp at h
  have r0 : w.cell? ⟨rg, 0, none⟩ = some (.slice (some ⟨g, o, none⟩) n c) := cells_of hr 0
  have r1 : w.cell? ⟨rg, 1, none⟩ = some (.bool false) := cells_of hr 1
  have c0 : w.cell? ⟨g, o, none⟩ = some (.int .u8 (f 0)) := hc 0 (by omega) 0 (by omega)
  have c1 : w.cell? ⟨g, o + 1, none⟩ = some (.int .u8 (f 1)) := hc 1 (by omega) 0 (by omega)
  have l0 := (hb 0 (by omega)).1
  have u0 := (hb 0 (by omega)).2
  have l1 := (hb 1 (by omega)).1
  have u1 := (hb 1 (by omega)).2
  have f0 := free_block hr 0
  have d1 : decide ((n : Int) < 2) = false := decide_eq_false (by omega)
  have hmx : maxLen = maxLen := rfl
  unfold maxLen at hM
  have Hc := Lib.hid hc
  have Hb := Lib.hid hb
  have Hr := Lib.hid hr
  have Hn := Lib.hid hnum
  clear hc hb hr hnum hmx
  go_enter Try.func18, Try.ntmps18
  go_wp2_with fail
  refine wp_loop_rounds 3 ?_
  rw [rounds_succ]
  go_wp2_with fail
  rw [rounds_succ]
  go_wp2_with fail
  rw [rounds_succ]
  go_wp2_with fail
  all_goals
    go_ret
    refine ⟨by rw [← Hn.out]; rfl, ?_, (Only.refl (· = rg) w).setCell (Or.inl rfl) _⟩
    refine ⟨_, _, put_block Hr.out 0 _, ?_, fun j hj => Hb.out _ (by omega), by omega, by unfold maxLen; omega⟩
    by_cases hz : n - 2 = 0
    · exact .inl hz
    · first
        | omega
        | exact .inr ⟨g, o + 2, rfl, fun j hj q hq => by
            obtain rfl : q = 0 := by omega
            rw [Only.cell ((Only.refl (· = rg) w).setCell (p := ⟨rg, 0, none⟩) (Or.inl rfl) _) (p := ⟨g, _, none⟩) (cell_lt c0) hgr]
            have h := Hc.out (2 + j) (by omega) 0 (by omega)
            rw [show o + ((2 + j) * 1 + 0) = o + 2 + (j * 1 + 0) by omega] at h
            exact h⟩
set_option maxHeartbeats 4000000 in
theorem take_3 (w : World) (rg n : Nat) (f : Nat → Int) (h : Rd w rg n f false) (hn : 3 ≤ n) : Calls Try.prog 18 #[.pointer (some ⟨rg, 0, none⟩), .int .i64 3] w fun e w' => e = .returned (.int .u64 (num f 3)) ∧ Rd w' rg (n - 3) (fun j => f (3 + j)) false ∧ Only (· = rg) w w' := by
  obtain ⟨a, c, hr, hv, hb, hcap, hM⟩ := h
  rcases hv with h0 | ⟨g, o, rfl, hc⟩
  · omega
  have hnum := nest_num f 3 (by decide) (fun i hi => hb i (by omega))
  have hgr : g ≠ rg := by
    rintro rfl
    have h := hc 0 (by omega) 0 (by omega)
    rw [cells_of hr] at h
    match o + (0 * 1 + 0), h with
    | 0, h => simp at h
    | 1, h => simp at h
    | q + 2, h => simp at h
  have r0 : w.cell? ⟨rg, 0, none⟩ = some (.slice (some ⟨g, o, none⟩) n c) := cells_of hr 0
  have r1 : w.cell? ⟨rg, 1, none⟩ = some (.bool false) := cells_of hr 1
  have c0 : w.cell? ⟨g, o, none⟩ = some (.int .u8 (f 0)) := hc 0 (by omega) 0 (by omega)
  have c1 : w.cell? ⟨g, o + 1, none⟩ = some (.int .u8 (f 1)) := hc 1 (by omega) 0 (by omega)
  have c2 : w.cell? ⟨g, o + 2, none⟩ = some (.int .u8 (f 2)) := hc 2 (by omega) 0 (by omega)
  have l0 := (hb 0 (by omega)).1
  have u0 := (hb 0 (by omega)).2
  have l1 := (hb 1 (by omega)).1
  have u1 := (hb 1 (by omega)).2
  have l2 := (hb 2 (by omega)).1
  have u2 := (hb 2 (by omega)).2
  have f0 := free_block hr 0
  have d1 : decide ((n : Int) < 3) = false := decide_eq_false (by omega)
  have hmx : maxLen = maxLen := rfl
  unfold maxLen at hM
  have Hc := Lib.hid hc
  have Hb := Lib.hid hb
  have Hr := Lib.hid hr
  have Hn := Lib.hid hnum
  clear hc hb hr hnum hmx
  go_enter Try.func18, Try.ntmps18
  go_wp2_with fail
  refine wp_loop_rounds 4 ?_
  rw [rounds_succ]
  go_wp2_with fail
  rw [rounds_succ]
  go_wp2_with fail
  rw [rounds_succ]
  go_wp2_with fail
  rw [rounds_succ]
  go_wp2_with fail
  all_goals
    go_ret
    refine ⟨by rw [← Hn.out]; rfl, ?_, (Only.refl (· = rg) w).setCell (Or.inl rfl) _⟩
    refine ⟨_, _, put_block Hr.out 0 _, ?_, fun j hj => Hb.out _ (by omega), by omega, by unfold maxLen; omega⟩
    by_cases hz : n - 3 = 0
    · exact .inl hz
    · first
        | omega
        | exact .inr ⟨g, o + 3, rfl, fun j hj q hq => by
            obtain rfl : q = 0 := by omega
            rw [Only.cell ((Only.refl (· = rg) w).setCell (p := ⟨rg, 0, none⟩) (Or.inl rfl) _) (p := ⟨g, _, none⟩) (cell_lt c0) hgr]
            have h := Hc.out (3 + j) (by omega) 0 (by omega)
            rw [show o + ((3 + j) * 1 + 0) = o + 3 + (j * 1 + 0) by omega] at h
            exact h⟩
set_option maxHeartbeats 4000000 in
theorem take_4 (w : World) (rg n : Nat) (f : Nat → Int) (h : Rd w rg n f false) (hn : 4 ≤ n) : Calls Try.prog 18 #[.pointer (some ⟨rg, 0, none⟩), .int .i64 4] w fun e w' => e = .returned (.int .u64 (num f 4)) ∧ Rd w' rg (n - 4) (fun j => f (4 + j)) false ∧ Only (· = rg) w w' := by
  obtain ⟨a, c, hr, hv, hb, hcap, hM⟩ := h
  rcases hv with h0 | ⟨g, o, rfl, hc⟩
  · omega
  have hnum := nest_num f 4 (by decide) (fun i hi => hb i (by omega))
  have hgr : g ≠ rg := by
    rintro rfl
    have h := hc 0 (by omega) 0 (by omega)
    rw [cells_of hr] at h
    match o + (0 * 1 + 0), h with
    | 0, h => simp at h
    | 1, h => simp at h
    | q + 2, h => simp at h
  have r0 : w.cell? ⟨rg, 0, none⟩ = some (.slice (some ⟨g, o, none⟩) n c) := cells_of hr 0
  have r1 : w.cell? ⟨rg, 1, none⟩ = some (.bool false) := cells_of hr 1
  have c0 : w.cell? ⟨g, o, none⟩ = some (.int .u8 (f 0)) := hc 0 (by omega) 0 (by omega)
  have c1 : w.cell? ⟨g, o + 1, none⟩ = some (.int .u8 (f 1)) := hc 1 (by omega) 0 (by omega)
  have c2 : w.cell? ⟨g, o + 2, none⟩ = some (.int .u8 (f 2)) := hc 2 (by omega) 0 (by omega)
  have c3 : w.cell? ⟨g, o + 3, none⟩ = some (.int .u8 (f 3)) := hc 3 (by omega) 0 (by omega)
  have l0 := (hb 0 (by omega)).1
  have u0 := (hb 0 (by omega)).2
  have l1 := (hb 1 (by omega)).1
  have u1 := (hb 1 (by omega)).2
  have l2 := (hb 2 (by omega)).1
  have u2 := (hb 2 (by omega)).2
  have l3 := (hb 3 (by omega)).1
  have u3 := (hb 3 (by omega)).2
  have f0 := free_block hr 0
  have d1 : decide ((n : Int) < 4) = false := decide_eq_false (by omega)
  have hmx : maxLen = maxLen := rfl
  unfold maxLen at hM
  have Hc := Lib.hid hc
  have Hb := Lib.hid hb
  have Hr := Lib.hid hr
  have Hn := Lib.hid hnum
  clear hc hb hr hnum hmx
  go_enter Try.func18, Try.ntmps18
  go_wp2_with fail
  refine wp_loop_rounds 5 ?_
  rw [rounds_succ]
  go_wp2_with fail
  rw [rounds_succ]
  go_wp2_with fail
  rw [rounds_succ]
  go_wp2_with fail
  rw [rounds_succ]
  go_wp2_with fail
  rw [rounds_succ]
  go_wp2_with fail
  all_goals
    go_ret
    refine ⟨by rw [← Hn.out]; rfl, ?_, (Only.refl (· = rg) w).setCell (Or.inl rfl) _⟩
    refine ⟨_, _, put_block Hr.out 0 _, ?_, fun j hj => Hb.out _ (by omega), by omega, by unfold maxLen; omega⟩
    by_cases hz : n - 4 = 0
    · exact .inl hz
    · first
        | omega
        | exact .inr ⟨g, o + 4, rfl, fun j hj q hq => by
            obtain rfl : q = 0 := by omega
            rw [Only.cell ((Only.refl (· = rg) w).setCell (p := ⟨rg, 0, none⟩) (Or.inl rfl) _) (p := ⟨g, _, none⟩) (cell_lt c0) hgr]
            have h := Hc.out (4 + j) (by omega) 0 (by omega)
            rw [show o + ((4 + j) * 1 + 0) = o + 4 + (j * 1 + 0) by omega] at h
            exact h⟩
set_option maxHeartbeats 4000000 in
theorem take_5 (w : World) (rg n : Nat) (f : Nat → Int) (h : Rd w rg n f false) (hn : 5 ≤ n) : Calls Try.prog 18 #[.pointer (some ⟨rg, 0, none⟩), .int .i64 5] w fun e w' => e = .returned (.int .u64 (num f 5)) ∧ Rd w' rg (n - 5) (fun j => f (5 + j)) false ∧ Only (· = rg) w w' := by
  obtain ⟨a, c, hr, hv, hb, hcap, hM⟩ := h
  rcases hv with h0 | ⟨g, o, rfl, hc⟩
  · omega
  have hnum := nest_num f 5 (by decide) (fun i hi => hb i (by omega))
  have hgr : g ≠ rg := by
    rintro rfl
    have h := hc 0 (by omega) 0 (by omega)
    rw [cells_of hr] at h
    match o + (0 * 1 + 0), h with
    | 0, h => simp at h
    | 1, h => simp at h
    | q + 2, h => simp at h
  have r0 : w.cell? ⟨rg, 0, none⟩ = some (.slice (some ⟨g, o, none⟩) n c) := cells_of hr 0
  have r1 : w.cell? ⟨rg, 1, none⟩ = some (.bool false) := cells_of hr 1
  have c0 : w.cell? ⟨g, o, none⟩ = some (.int .u8 (f 0)) := hc 0 (by omega) 0 (by omega)
  have c1 : w.cell? ⟨g, o + 1, none⟩ = some (.int .u8 (f 1)) := hc 1 (by omega) 0 (by omega)
  have c2 : w.cell? ⟨g, o + 2, none⟩ = some (.int .u8 (f 2)) := hc 2 (by omega) 0 (by omega)
  have c3 : w.cell? ⟨g, o + 3, none⟩ = some (.int .u8 (f 3)) := hc 3 (by omega) 0 (by omega)
  have c4 : w.cell? ⟨g, o + 4, none⟩ = some (.int .u8 (f 4)) := hc 4 (by omega) 0 (by omega)
  have l0 := (hb 0 (by omega)).1
  have u0 := (hb 0 (by omega)).2
  have l1 := (hb 1 (by omega)).1
  have u1 := (hb 1 (by omega)).2
  have l2 := (hb 2 (by omega)).1
  have u2 := (hb 2 (by omega)).2
  have l3 := (hb 3 (by omega)).1
  have u3 := (hb 3 (by omega)).2
  have l4 := (hb 4 (by omega)).1
  have u4 := (hb 4 (by omega)).2
  have f0 := free_block hr 0
  have d1 : decide ((n : Int) < 5) = false := decide_eq_false (by omega)
  have hmx : maxLen = maxLen := rfl
  unfold maxLen at hM
  have Hc := Lib.hid hc
  have Hb := Lib.hid hb
  have Hr := Lib.hid hr
  have Hn := Lib.hid hnum
  clear hc hb hr hnum hmx
  go_enter Try.func18, Try.ntmps18
  go_wp2_with fail
  refine wp_loop_rounds 6 ?_
  rw [rounds_succ]
  go_wp2_with fail
  rw [rounds_succ]
  go_wp2_with fail
  rw [rounds_succ]
  go_wp2_with fail
  rw [rounds_succ]
  go_wp2_with fail
  rw [rounds_succ]
  go_wp2_with fail
  rw [rounds_succ]
  go_wp2_with fail
  all_goals
    go_ret
    refine ⟨by rw [← Hn.out]; rfl, ?_, (Only.refl (· = rg) w).setCell (Or.inl rfl) _⟩
    refine ⟨_, _, put_block Hr.out 0 _, ?_, fun j hj => Hb.out _ (by omega), by omega, by unfold maxLen; omega⟩
    by_cases hz : n - 5 = 0
    · exact .inl hz
    · first
        | omega
        | exact .inr ⟨g, o + 5, rfl, fun j hj q hq => by
            obtain rfl : q = 0 := by omega
            rw [Only.cell ((Only.refl (· = rg) w).setCell (p := ⟨rg, 0, none⟩) (Or.inl rfl) _) (p := ⟨g, _, none⟩) (cell_lt c0) hgr]
            have h := Hc.out (5 + j) (by omega) 0 (by omega)
            rw [show o + ((5 + j) * 1 + 0) = o + 5 + (j * 1 + 0) by omega] at h
            exact h⟩
set_option maxHeartbeats 4000000 in
theorem take_6 (w : World) (rg n : Nat) (f : Nat → Int) (h : Rd w rg n f false) (hn : 6 ≤ n) : Calls Try.prog 18 #[.pointer (some ⟨rg, 0, none⟩), .int .i64 6] w fun e w' => e = .returned (.int .u64 (num f 6)) ∧ Rd w' rg (n - 6) (fun j => f (6 + j)) false ∧ Only (· = rg) w w' := by
  obtain ⟨a, c, hr, hv, hb, hcap, hM⟩ := h
  rcases hv with h0 | ⟨g, o, rfl, hc⟩
  · omega
  have hnum := nest_num f 6 (by decide) (fun i hi => hb i (by omega))
  have hgr : g ≠ rg := by
    rintro rfl
    have h := hc 0 (by omega) 0 (by omega)
    rw [cells_of hr] at h
    match o + (0 * 1 + 0), h with
    | 0, h => simp at h
    | 1, h => simp at h
    | q + 2, h => simp at h
  have r0 : w.cell? ⟨rg, 0, none⟩ = some (.slice (some ⟨g, o, none⟩) n c) := cells_of hr 0
  have r1 : w.cell? ⟨rg, 1, none⟩ = some (.bool false) := cells_of hr 1
  have c0 : w.cell? ⟨g, o, none⟩ = some (.int .u8 (f 0)) := hc 0 (by omega) 0 (by omega)
  have c1 : w.cell? ⟨g, o + 1, none⟩ = some (.int .u8 (f 1)) := hc 1 (by omega) 0 (by omega)
  have c2 : w.cell? ⟨g, o + 2, none⟩ = some (.int .u8 (f 2)) := hc 2 (by omega) 0 (by omega)
  have c3 : w.cell? ⟨g, o + 3, none⟩ = some (.int .u8 (f 3)) := hc 3 (by omega) 0 (by omega)
  have c4 : w.cell? ⟨g, o + 4, none⟩ = some (.int .u8 (f 4)) := hc 4 (by omega) 0 (by omega)
  have c5 : w.cell? ⟨g, o + 5, none⟩ = some (.int .u8 (f 5)) := hc 5 (by omega) 0 (by omega)
  have l0 := (hb 0 (by omega)).1
  have u0 := (hb 0 (by omega)).2
  have l1 := (hb 1 (by omega)).1
  have u1 := (hb 1 (by omega)).2
  have l2 := (hb 2 (by omega)).1
  have u2 := (hb 2 (by omega)).2
  have l3 := (hb 3 (by omega)).1
  have u3 := (hb 3 (by omega)).2
  have l4 := (hb 4 (by omega)).1
  have u4 := (hb 4 (by omega)).2
  have l5 := (hb 5 (by omega)).1
  have u5 := (hb 5 (by omega)).2
  have f0 := free_block hr 0
  have d1 : decide ((n : Int) < 6) = false := decide_eq_false (by omega)
  have hmx : maxLen = maxLen := rfl
  unfold maxLen at hM
  have Hc := Lib.hid hc
  have Hb := Lib.hid hb
  have Hr := Lib.hid hr
  have Hn := Lib.hid hnum
  clear hc hb hr hnum hmx
  go_enter Try.func18, Try.ntmps18
  go_wp2_with fail
  refine wp_loop_rounds 7 ?_
  rw [rounds_succ]
  go_wp2_with fail
  rw [rounds_succ]
  go_wp2_with fail
  rw [rounds_succ]
  go_wp2_with fail
  rw [rounds_succ]
  go_wp2_with fail
  rw [rounds_succ]
  go_wp2_with fail
  rw [rounds_succ]
  go_wp2_with fail
  rw [rounds_succ]
  go_wp2_with fail
  all_goals
    go_ret
    refine ⟨by rw [← Hn.out]; rfl, ?_, (Only.refl (· = rg) w).setCell (Or.inl rfl) _⟩
    refine ⟨_, _, put_block Hr.out 0 _, ?_, fun j hj => Hb.out _ (by omega), by omega, by unfold maxLen; omega⟩
    by_cases hz : n - 6 = 0
    · exact .inl hz
    · first
        | omega
        | exact .inr ⟨g, o + 6, rfl, fun j hj q hq => by
            obtain rfl : q = 0 := by omega
            rw [Only.cell ((Only.refl (· = rg) w).setCell (p := ⟨rg, 0, none⟩) (Or.inl rfl) _) (p := ⟨g, _, none⟩) (cell_lt c0) hgr]
            have h := Hc.out (6 + j) (by omega) 0 (by omega)
            rw [show o + ((6 + j) * 1 + 0) = o + 6 + (j * 1 + 0) by omega] at h
            exact h⟩
set_option maxHeartbeats 4000000 in
theorem take_7 (w : World) (rg n : Nat) (f : Nat → Int) (h : Rd w rg n f false) (hn : 7 ≤ n) : Calls Try.prog 18 #[.pointer (some ⟨rg, 0, none⟩), .int .i64 7] w fun e w' => e = .returned (.int .u64 (num f 7)) ∧ Rd w' rg (n - 7) (fun j => f (7 + j)) false ∧ Only (· = rg) w w' := by
  obtain ⟨a, c, hr, hv, hb, hcap, hM⟩ := h
  rcases hv with h0 | ⟨g, o, rfl, hc⟩
  · omega
  have hnum := nest_num f 7 (by decide) (fun i hi => hb i (by omega))
  have hgr : g ≠ rg := by
    rintro rfl
    have h := hc 0 (by omega) 0 (by omega)
    rw [cells_of hr] at h
    match o + (0 * 1 + 0), h with
    | 0, h => simp at h
    | 1, h => simp at h
    | q + 2, h => simp at h
  have r0 : w.cell? ⟨rg, 0, none⟩ = some (.slice (some ⟨g, o, none⟩) n c) := cells_of hr 0
  have r1 : w.cell? ⟨rg, 1, none⟩ = some (.bool false) := cells_of hr 1
  have c0 : w.cell? ⟨g, o, none⟩ = some (.int .u8 (f 0)) := hc 0 (by omega) 0 (by omega)
  have c1 : w.cell? ⟨g, o + 1, none⟩ = some (.int .u8 (f 1)) := hc 1 (by omega) 0 (by omega)
  have c2 : w.cell? ⟨g, o + 2, none⟩ = some (.int .u8 (f 2)) := hc 2 (by omega) 0 (by omega)
  have c3 : w.cell? ⟨g, o + 3, none⟩ = some (.int .u8 (f 3)) := hc 3 (by omega) 0 (by omega)
  have c4 : w.cell? ⟨g, o + 4, none⟩ = some (.int .u8 (f 4)) := hc 4 (by omega) 0 (by omega)
  have c5 : w.cell? ⟨g, o + 5, none⟩ = some (.int .u8 (f 5)) := hc 5 (by omega) 0 (by omega)
  have c6 : w.cell? ⟨g, o + 6, none⟩ = some (.int .u8 (f 6)) := hc 6 (by omega) 0 (by omega)
  have l0 := (hb 0 (by omega)).1
  have u0 := (hb 0 (by omega)).2
  have l1 := (hb 1 (by omega)).1
  have u1 := (hb 1 (by omega)).2
  have l2 := (hb 2 (by omega)).1
  have u2 := (hb 2 (by omega)).2
  have l3 := (hb 3 (by omega)).1
  have u3 := (hb 3 (by omega)).2
  have l4 := (hb 4 (by omega)).1
  have u4 := (hb 4 (by omega)).2
  have l5 := (hb 5 (by omega)).1
  have u5 := (hb 5 (by omega)).2
  have l6 := (hb 6 (by omega)).1
  have u6 := (hb 6 (by omega)).2
  have f0 := free_block hr 0
  have d1 : decide ((n : Int) < 7) = false := decide_eq_false (by omega)
  have hmx : maxLen = maxLen := rfl
  unfold maxLen at hM
  have Hc := Lib.hid hc
  have Hb := Lib.hid hb
  have Hr := Lib.hid hr
  have Hn := Lib.hid hnum
  clear hc hb hr hnum hmx
  go_enter Try.func18, Try.ntmps18
  go_wp2_with fail
  refine wp_loop_rounds 8 ?_
  rw [rounds_succ]
  go_wp2_with fail
  rw [rounds_succ]
  go_wp2_with fail
  rw [rounds_succ]
  go_wp2_with fail
  rw [rounds_succ]
  go_wp2_with fail
  rw [rounds_succ]
  go_wp2_with fail
  rw [rounds_succ]
  go_wp2_with fail
  rw [rounds_succ]
  go_wp2_with fail
  rw [rounds_succ]
  go_wp2_with fail
  all_goals
    go_ret
    refine ⟨by rw [← Hn.out]; rfl, ?_, (Only.refl (· = rg) w).setCell (Or.inl rfl) _⟩
    refine ⟨_, _, put_block Hr.out 0 _, ?_, fun j hj => Hb.out _ (by omega), by omega, by unfold maxLen; omega⟩
    by_cases hz : n - 7 = 0
    · exact .inl hz
    · first
        | omega
        | exact .inr ⟨g, o + 7, rfl, fun j hj q hq => by
            obtain rfl : q = 0 := by omega
            rw [Only.cell ((Only.refl (· = rg) w).setCell (p := ⟨rg, 0, none⟩) (Or.inl rfl) _) (p := ⟨g, _, none⟩) (cell_lt c0) hgr]
            have h := Hc.out (7 + j) (by omega) 0 (by omega)
            rw [show o + ((7 + j) * 1 + 0) = o + 7 + (j * 1 + 0) by omega] at h
            exact h⟩
set_option maxHeartbeats 4000000 in
theorem take_8 (w : World) (rg n : Nat) (f : Nat → Int) (h : Rd w rg n f false) (hn : 8 ≤ n) : Calls Try.prog 18 #[.pointer (some ⟨rg, 0, none⟩), .int .i64 8] w fun e w' => e = .returned (.int .u64 (num f 8)) ∧ Rd w' rg (n - 8) (fun j => f (8 + j)) false ∧ Only (· = rg) w w' := by
  obtain ⟨a, c, hr, hv, hb, hcap, hM⟩ := h
  rcases hv with h0 | ⟨g, o, rfl, hc⟩
  · omega
  have hnum := nest_num f 8 (by decide) (fun i hi => hb i (by omega))
  have hgr : g ≠ rg := by
    rintro rfl
    have h := hc 0 (by omega) 0 (by omega)
    rw [cells_of hr] at h
    match o + (0 * 1 + 0), h with
    | 0, h => simp at h
    | 1, h => simp at h
    | q + 2, h => simp at h
  have r0 : w.cell? ⟨rg, 0, none⟩ = some (.slice (some ⟨g, o, none⟩) n c) := cells_of hr 0
  have r1 : w.cell? ⟨rg, 1, none⟩ = some (.bool false) := cells_of hr 1
  have c0 : w.cell? ⟨g, o, none⟩ = some (.int .u8 (f 0)) := hc 0 (by omega) 0 (by omega)
  have c1 : w.cell? ⟨g, o + 1, none⟩ = some (.int .u8 (f 1)) := hc 1 (by omega) 0 (by omega)
  have c2 : w.cell? ⟨g, o + 2, none⟩ = some (.int .u8 (f 2)) := hc 2 (by omega) 0 (by omega)
  have c3 : w.cell? ⟨g, o + 3, none⟩ = some (.int .u8 (f 3)) := hc 3 (by omega) 0 (by omega)
  have c4 : w.cell? ⟨g, o + 4, none⟩ = some (.int .u8 (f 4)) := hc 4 (by omega) 0 (by omega)
  have c5 : w.cell? ⟨g, o + 5, none⟩ = some (.int .u8 (f 5)) := hc 5 (by omega) 0 (by omega)
  have c6 : w.cell? ⟨g, o + 6, none⟩ = some (.int .u8 (f 6)) := hc 6 (by omega) 0 (by omega)
  have c7 : w.cell? ⟨g, o + 7, none⟩ = some (.int .u8 (f 7)) := hc 7 (by omega) 0 (by omega)
  have l0 := (hb 0 (by omega)).1
  have u0 := (hb 0 (by omega)).2
  have l1 := (hb 1 (by omega)).1
  have u1 := (hb 1 (by omega)).2
  have l2 := (hb 2 (by omega)).1
  have u2 := (hb 2 (by omega)).2
  have l3 := (hb 3 (by omega)).1
  have u3 := (hb 3 (by omega)).2
  have l4 := (hb 4 (by omega)).1
  have u4 := (hb 4 (by omega)).2
  have l5 := (hb 5 (by omega)).1
  have u5 := (hb 5 (by omega)).2
  have l6 := (hb 6 (by omega)).1
  have u6 := (hb 6 (by omega)).2
  have l7 := (hb 7 (by omega)).1
  have u7 := (hb 7 (by omega)).2
  have f0 := free_block hr 0
  have d1 : decide ((n : Int) < 8) = false := decide_eq_false (by omega)
  have hmx : maxLen = maxLen := rfl
  unfold maxLen at hM
  have Hc := Lib.hid hc
  have Hb := Lib.hid hb
  have Hr := Lib.hid hr
  have Hn := Lib.hid hnum
  clear hc hb hr hnum hmx
  go_enter Try.func18, Try.ntmps18
  go_wp2_with fail
  refine wp_loop_rounds 9 ?_
  rw [rounds_succ]
  go_wp2_with fail
  rw [rounds_succ]
  go_wp2_with fail
  rw [rounds_succ]
  go_wp2_with fail
  rw [rounds_succ]
  go_wp2_with fail
  rw [rounds_succ]
  go_wp2_with fail
  rw [rounds_succ]
  go_wp2_with fail
  rw [rounds_succ]
  go_wp2_with fail
  rw [rounds_succ]
  go_wp2_with fail
  rw [rounds_succ]
  go_wp2_with fail
  all_goals
    go_ret
    refine ⟨by rw [← Hn.out]; rfl, ?_, (Only.refl (· = rg) w).setCell (Or.inl rfl) _⟩
    refine ⟨_, _, put_block Hr.out 0 _, ?_, fun j hj => Hb.out _ (by omega), by omega, by unfold maxLen; omega⟩
    by_cases hz : n - 8 = 0
    · exact .inl hz
    · first
        | omega
        | exact .inr ⟨g, o + 8, rfl, fun j hj q hq => by
            obtain rfl : q = 0 := by omega
            rw [Only.cell ((Only.refl (· = rg) w).setCell (p := ⟨rg, 0, none⟩) (Or.inl rfl) _) (p := ⟨g, _, none⟩) (cell_lt c0) hgr]
            have h := Hc.out (8 + j) (by omega) 0 (by omega)
            rw [show o + ((8 + j) * 1 + 0) = o + 8 + (j * 1 + 0) by omega] at h
            exact h⟩
end Go.Proofs.Ytehapoilfmgjgaa.Oct
