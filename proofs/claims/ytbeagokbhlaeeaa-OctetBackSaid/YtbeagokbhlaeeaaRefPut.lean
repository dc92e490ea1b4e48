/- The document's bytes of a number (ford/fordref01.Put), and when two lists of bytes are one (ford/fordref01.Same). -/
import Derived.Test.YtbeagokbhlaeeaaAwake01
set_option linter.unusedSimpArgs false
namespace Go.Proofs.Ytbeagokbhlaeeaa.Oct
open Go.RowKit
theorem bytesOf_succ (n : Int) (k : Nat) : bytesOf n (k + 1) = bytesOf (n / 256) k ++ [n % 256] := by
  unfold bytesOf
  rw [List.range_succ, List.map_append]
  congr 1
  · apply List.map_congr_left
    intro j hj
    have hj' : j < k := List.mem_range.1 hj
    unfold byteAt
    rw [show k + 1 - 1 - j = (k - 1 - j) + 1 by omega, Int.pow_succ, Int.mul_comm, ← Int.ediv_ediv_of_nonneg (by omega)]
  · simp [byteAt]
/-- Bytes that lie in a block of the call's own. -/
def OwnB (w : World) (base : Nat) (v : Value) (l : List Int) : Prop := w.ownsRow base 5 1 v l.length (l.map (Value.int .u8))
theorem OwnB.below {w w' : World} {base : Nat} {v : Value} {l : List Int} (h : OwnB w base v l) (hb : Below w.heap.size w w') : OwnB w' base v l := by
  obtain ⟨h1, h2 | ⟨g, c, cur, hv, hg, hh, h3⟩⟩ := h
  · exact ⟨h1, .inl h2⟩
  · exact ⟨h1, .inr ⟨g, c, cur, hv, hg, (hb.block g (Array.getElem?_eq_some_iff.1 hh).1).trans hh, h3⟩⟩
theorem OwnB.str {w : World} {base : Nat} {v : Value} {l : List Int} (h : OwnB w base v l) (hb : ∀ x ∈ l, 0 ≤ x ∧ x ≤ 255) : Sem.run Try.prog (convert 25 9 v) w = .ok (.string (strOf l)) w := by
  obtain ⟨h1, ⟨rfl, h2⟩ | ⟨g, c, cur, rfl, hg, hh, h3, h4, h5, h6⟩⟩ := h
  · obtain rfl : l = [] := List.eq_nil_of_length_eq_zero h2
    kernel_rfl
  · refine str_conv w g 0 c l.length l rfl hb (fun j hj => ?_)
    rw [Nat.zero_add, cells_of hh]
    have h7 : (cur.toList.take (l.length * 1))[j]? = (l.map (Value.int .u8))[j]? := by rw [h6]
    rw [List.getElem?_take, if_pos (by omega)] at h7
    simpa [hj] using h7
theorem mk1 (x : Int) (w : World) : Sem.run Try.prog (Instr.buildSlice 25 1 #[(0, .int .u8 x)]) w = .ok (.slice (some ⟨w.heap.size, 0, none⟩) 1 1) (w.alloc (.cells #[.int .u8 x] 5)) := by kernel_rfl
attribute [local go_sem] mk1
set_option maxHeartbeats 2000000 in
theorem refput_any : ∀ (k : Nat), 1 ≤ k → k ≤ 8 → ∀ (n : Int), 0 ≤ n ∧ n < 18446744073709551616 → ∀ (w : World), Calls Try.prog 11 #[.int .u64 n, .int .i64 k] w fun e w' => ∃ v, e = .returned v ∧ OwnB w' w.heap.size v (bytesOf n k) ∧ Below w.heap.size w w' := by
  intro k
  induction k with
  | zero => intro h; omega
  | succ k ih =>
    intro hk1 hk8 n hn w
    by_cases hk0 : k = 0
    · subst hk0
      go_enter Try.func11, Try.ntmps11
      go_wp2_with fail
      go_ret
      refine ⟨_, rfl, ⟨by simp [bytesOf], .inr ⟨w.heap.size, 1, _, rfl, Nat.le_refl _, heap_alloc_new _ _, Nat.le_refl _, by unfold maxLen; omega, rfl, ?_⟩⟩, more (Below.refl _ _) _⟩
      simp [bytesOf, byteAt, List.range, List.range.loop]
    · have ih := ih (by omega) (by omega) (n / 256) (by omega)
      have d0 : decide (((k + 1 : Nat) : Int) < 1) = false := decide_eq_false (by omega)
      have d1 : decide ((8 : Int) < ((k + 1 : Nat) : Int)) = false := decide_eq_false (by omega)
      have d2 : (((k + 1 : Nat) : Int) == 1) = false := beq_eq_false_iff_ne.2 (by omega)
      obtain ⟨q, hq⟩ : ∃ q, q = k + 1 := ⟨_, rfl⟩
      rw [← hq] at d0 d1 d2 ⊢
      have hqk : (q : Int) - 1 = (k : Int) := by omega
      have hq0 : (1 : Int) < q := by omega
      have hq8 : (q : Int) ≤ 8 := by omega
      obtain ⟨i8, hi8, hz8, hs8, hb8⟩ := info_parts info8
      have Ih := Lib.hid ih
      clear ih
      go_enter Try.func11, Try.ntmps11
      go_wp2_with fail
      refine (Ih.out w).mono ?_
      rintro e w1 ⟨v, rfl, hown, hb1⟩
      have Hown := Lib.hid (hown.below (more (Below.refl w1.heap.size w1) (.cells #[.int .u8 (n % 256)] 5)))
      have HB1 := Lib.hid (more hb1 (.cells #[.int .u8 (n % 256)] 5))
      have hs1 := hb1.size
      clear hown hb1
      go_wp2_with (first
        | (at_builtin; refine wpList_append_own _ rfl (.tmp 21) (.tmp 25) 25 rfl w.heap.size 5 i8 _ 1 1 Try.underlying25 hi8 hz8 hs8 hb8 rfl (by decide) v _ _ rfl Hown.out ⟨w1.heap.size, 0, none⟩ 1 1 [.int .u8 (n % 256)] rfl rfl (fun j u hj => by
            match j, hj with
            | 0, hj =>
              rw [Addr.add_mid, Nat.zero_add, cells_of (heap_alloc_new _ _)]
              exact hj) (by simp [Value.oneCell']) (by rw [bytesOf_length]; unfold maxLen; omega) (by rw [bytesOf_length]; omega) (by simp; omega) ?_; intro v' w2 hown2 hgrow hnil; simp only [Act.put, List.setIfInBounds_toArray, List.set_cons_zero, List.set_cons_succ])
        | fail)
      go_ret
      refine ⟨v', rfl, ?_, HB1.out.trans ⟨hgrow.os, hgrow.tape, hgrow.output, hgrow.size, fun x hx => hgrow.block x (by simp; omega) (fun e => ?_)⟩⟩
      · unfold OwnB
        rw [hq, bytesOf_succ, List.length_append, List.map_append]
        exact hown2
      · obtain ⟨_, ⟨rfl, _⟩ | ⟨g, c, cur, rfl, hg, _⟩⟩ := Hown.out
        · cases e
        · simp only [Value.ownBlock, Option.some.injEq] at e
          omega
theorem refput_no (n i : Int) (hi : i < 1 ∨ 8 < i) (w : World) : Calls Try.prog 11 #[.int .u64 n, .int .i64 i] w fun e w' => e = .returned (.slice none 0 0) ∧ w' = w := by
  go_enter Try.func11, Try.ntmps11
  by_cases h0 : i < 1
  · have d0 : decide (i < 1) = true := decide_eq_true h0
    go_wp2_with fail
    go_ret
    exact ⟨rfl, rfl⟩
  · have d0 : decide (i < 1) = false := decide_eq_false h0
    have d1 : decide (8 < i) = true := decide_eq_true (by omega)
    go_wp2_with fail
    go_ret
    exact ⟨rfl, rfl⟩
theorem same_any (v1 v2 : Value) (s1 s2 : ByteArray) (w : World) (h1 : Sem.run Try.prog (convert 25 9 v1) w = .ok (.string s1) w) (h2 : Sem.run Try.prog (convert 25 9 v2) w = .ok (.string s2) w) :
    Calls Try.prog 9 #[v1, v2] w fun e w' => e = .returned (.bool (s1.toList == s2.toList)) ∧ w' = w := by
  go_enter Try.func9, Try.ntmps9
  go_wp2_with fail
  go_ret
  exact ⟨rfl, rfl⟩
theorem putOwn (w : World) (n : Int) (k : Nat) (hk : k ≤ 8) : OwnB (w.alloc (.cells (cellsB (bytesOf n k)) 5)) w.heap.size (.slice (some ⟨w.heap.size, 0, none⟩) k k) (bytesOf n k) := by
  refine ⟨by simp, .inr ⟨w.heap.size, k, _, by rw [bytesOf_length], Nat.le_refl _, heap_alloc_new _ _, by rw [bytesOf_length]; exact Nat.le_refl _, by unfold maxLen; omega, by simp [cellsB, bytesOf_length], ?_⟩⟩
  unfold cellsB
  rw [List.take_of_length_le (by simp)]
end Go.Proofs.Ytbeagokbhlaeeaa.Oct
