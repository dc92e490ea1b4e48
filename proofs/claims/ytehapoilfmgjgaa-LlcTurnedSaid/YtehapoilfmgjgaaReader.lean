/- A reader of bytes: what Take answers in all cases, and Left, Short, New. Condition: the reader's bytes can be read. -/
import Derived.Test.YtehapoilfmgjgaaTake
set_option linter.unusedSimpArgs false
namespace Go.Proofs.Ytehapoilfmgjgaa.Oct
open Go.RowKit
theorem take_in (w : World) (rg n k : Nat) (f : Nat → Int) (h : Rd w rg n f false) (hk : 1 ≤ k ∧ k ≤ 8) (hn : k ≤ n) : Calls Try.prog 18 #[.pointer (some ⟨rg, 0, none⟩), .int .i64 k] w fun e w' => e = .returned (.int .u64 (num f k)) ∧ Rd w' rg (n - k) (fun j => f (k + j)) false ∧ Only (· = rg) w w' := by
  rcases (show k = 1 ∨ k = 2 ∨ k = 3 ∨ k = 4 ∨ k = 5 ∨ k = 6 ∨ k = 7 ∨ k = 8 by omega) with rfl | rfl | rfl | rfl | rfl | rfl | rfl | rfl
  · exact take_1 w rg n f h hn
  · exact take_2 w rg n f h hn
  · exact take_3 w rg n f h hn
  · exact take_4 w rg n f h hn
  · exact take_5 w rg n f h hn
  · exact take_6 w rg n f h hn
  · exact take_7 w rg n f h hn
  · exact take_8 w rg n f h hn
/-- There are too few. -/
theorem take_few (w : World) (rg n : Nat) (i : Int) (f : Nat → Int) (h : Rd w rg n f false) (hk : 1 ≤ i ∧ i ≤ 8) (hn : n < i) : Calls Try.prog 18 #[.pointer (some ⟨rg, 0, none⟩), .int .i64 i] w fun e w' => e = .returned (.int .u64 0) ∧ (∀ f', Rd w' rg 0 f' true) ∧ Only (· = rg) w w' := by
  obtain ⟨a, c, hr, hv, hb, hcap, hM⟩ := h
  have r0 : w.cell? ⟨rg, 0, none⟩ = some (.slice a n c) := cells_of hr 0
  have r1 : w.cell? ⟨rg, 1, none⟩ = some (.bool false) := cells_of hr 1
  have f0 := free_block hr 0
  have f1 := free_block hr 1
  have d0 : decide (i < 1) = false := decide_eq_false (by omega)
  have d1 : decide (8 < i) = false := decide_eq_false (by omega)
  have d2 : decide ((n : Int) < i) = true := decide_eq_true hn
  unfold maxLen at hM
  have Hr := Lib.hid hr
  clear hv hb hr hn hk
  go_enter Try.func18, Try.ntmps18
  go_wp2_with fail
  go_ret
  refine ⟨rfl, fun f' => ⟨none, 0, ?_, .inl rfl, fun j hj => by omega, Nat.le_refl _, by unfold maxLen; omega⟩, ((Only.refl (· = rg) w).setCell (Or.inl rfl) _).setCell (Or.inl rfl) _⟩
  exact put_block (put_block Hr.out 0 _) 1 _
/-- There was too little, or the number isn't one of bytes. -/
theorem take_no (w : World) (rg n : Nat) (s : Bool) (i : Int) (f : Nat → Int) (h : Rd w rg n f s) (hs : s = true ∨ i < 1 ∨ 8 < i) : Calls Try.prog 18 #[.pointer (some ⟨rg, 0, none⟩), .int .i64 i] w fun e w' => e = .returned (.int .u64 0) ∧ w' = w := by
  obtain ⟨a, c, hr, hv, hb, hcap, hM⟩ := h
  have r1 : w.cell? ⟨rg, 1, none⟩ = some (.bool s) := cells_of hr 1
  clear hv hb hr hcap hM
  go_enter Try.func18, Try.ntmps18
  by_cases h0 : i < 1
  · have d0 : decide (i < 1) = true := decide_eq_true h0
    go_wp2_with fail
    go_ret
    exact ⟨rfl, rfl⟩
  · have d0 : decide (i < 1) = false := decide_eq_false h0
    by_cases h1 : 8 < i
    · have d1 : decide (8 < i) = true := decide_eq_true h1
      go_wp2_with fail
      go_ret
      exact ⟨rfl, rfl⟩
    · have d1 : decide (8 < i) = false := decide_eq_false h1
      have hs' : s = true := by rcases hs with h | h | h <;> first | exact h | omega
      subst hs'
      go_wp2_with fail
      go_ret
      exact ⟨rfl, rfl⟩
theorem short_any (w : World) (rg n : Nat) (s : Bool) (f : Nat → Int) (h : Rd w rg n f s) : Calls Try.prog 19 #[.pointer (some ⟨rg, 0, none⟩)] w fun e w' => e = .returned (.bool s) ∧ w' = w := by
  obtain ⟨a, c, hr, hv, hb, hcap, hM⟩ := h
  have r1 : w.cell? ⟨rg, 1, none⟩ = some (.bool s) := cells_of hr 1
  clear hv hb hr hcap hM
  go_enter Try.func19, Try.ntmps19
  go_wp2_with fail
  go_ret
  exact ⟨rfl, rfl⟩
theorem info8 : (Try.prog.info? 5).map (fun i => (i.zero, i.size, i.bytes)) = some (some (.int .u8 0), 1, 1) := by kernel_rfl
theorem info_parts {t : TypeId} {z : Value} {s b : Nat} (h : (Try.prog.info? t).map (fun i => (i.zero, i.size, i.bytes)) = some (some z, s, b)) : ∃ i, Try.prog.info? t = some i ∧ i.zero = some z ∧ i.size = s ∧ i.bytes = b := by
  cases hi : Try.prog.info? t with
  | none => rw [hi] at h; simp at h
  | some i =>
    rw [hi] at h
    simp at h
    exact ⟨i, rfl, h.1, h.2.1, h.2.2⟩
theorem mk0 (w : World) : Sem.run Try.prog (Instr.buildSlice 33 0 #[]) w = .ok (.slice (some ⟨w.heap.size, 0, none⟩) 0 0) (w.alloc (.cells #[] 5)) := by kernel_rfl
attribute [local go_sem] mk0
set_option maxHeartbeats 2000000 in
theorem new_any (w : World) (a : Option Addr) (n c : Nat) (f : Nat → Int) (hv : View w a 1 n (fun j _ => .int .u8 (f j))) (hb : ∀ j, j < n → 0 ≤ f j ∧ f j ≤ 255) (hnil : a = none → n = 0 ∧ c = 0) (hn : n ≤ 100000) :
    Calls Try.prog 17 #[.slice a n c] w fun e w' => ∃ rg, e = .returned (.pointer (some ⟨rg, 0, none⟩)) ∧ w.heap.size ≤ rg ∧ Rd w' rg n f false ∧ Below w.heap.size w w' := by
  obtain ⟨i8, hi8, hz8, hs8, hb8⟩ := info_parts info8
  go_enter Try.func17, Try.ntmps17
  go_wp2_with (first
    | (at_builtin; refine wpList_clone rfl (.tmp 3) (.tmp 4) 33 rfl 5 i8 _ 1 1 Try.underlying33 hi8 hz8 hs8 hb8 rfl (by decide) w.heap.size rfl (at_new rfl) a n c (fun j _ => .int .u8 (f j)) rfl hnil (hv.below (more (Below.refl _ _) _)) (grid_one (by decide) fun _ _ _ => rfl) (by unfold maxLen; omega) (by omega) ?_; intro g' cap' w1 hg1 hown hon; simp only [Act.put, List.setIfInBounds_toArray, List.set_cons_zero, List.set_cons_succ])
    | fail)
  go_ret
  have hb0 : Below w.heap.size w w1 := (more (Below.refl w.heap.size w) _).trans (hon.below (by simp) (fun k hk => by omega))
  obtain ⟨cur, hcur, hc1, hc2, hc3⟩ := id hown
  exact ⟨w1.heap.size, rfl, hb0.size, ⟨_, cap', heap_alloc_new w1 _, hown.view.below (more (Below.refl w1.heap.size w1) _), hb, hc1, hc2⟩, more hb0 _⟩
end Go.Proofs.Ytehapoilfmgjgaa.Oct
