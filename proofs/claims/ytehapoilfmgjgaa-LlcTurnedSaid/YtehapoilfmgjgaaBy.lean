/- Bytes: as a string; the document's bytes of a number (ford/fordref01.Put, Same); what number bytes are; numbers one behind the other. Conditions: as each says. -/
import Derived.Test.YtehapoilfmgjgaaReader
import Derived.Laws.IdiomStrings
set_option linter.unusedSimpArgs false
set_option linter.unusedVariables false
namespace Go.Proofs.Ytehapoilfmgjgaa.Oct
open Go.RowKit
/-- Bytes as a string. -/
def strOf (l : List Int) : ByteArray := ⟨(l.map fun x => UInt8.ofNat x.toNat).toArray⟩
theorem str_conv (w : World) (g o cap n : Nat) (l : List Int) (hn : n = l.length) (hb : ∀ x ∈ l, 0 ≤ x ∧ x ≤ 255) (hc : ∀ j (hj : j < l.length), w.cell? ⟨g, o + j, none⟩ = some (.int .u8 l[j])) :
    Sem.run Try.prog (convert 33 9 (.slice (some ⟨g, o, none⟩) n cap)) w = .ok (.string (strOf l)) w := by
  subst hn
  have h := run_convert_bytes_back (P := Try.prog) w 33 9 5 ⟨g, o, none⟩ cap (l.map fun x => UInt8.ofNat x.toNat) Try.underlying33 Try.underlying5 Try.underlying9 (fun j hj => by
    have hj' : j < l.length := by simpa using hj
    rw [Addr.add_mid, hc j hj']
    have hx := hb l[j] (List.getElem_mem hj')
    simp only [List.getElem_map]
    congr 2
    rw [UInt8.toNat_ofNat']
    omega)
  simpa [strOf] using h
theorem bytesOf_ok (n : Int) (k : Nat) : ∀ x ∈ bytesOf n k, 0 ≤ x ∧ x ≤ 255 := by
  intro x hx
  unfold bytesOf byteAt at hx
  obtain ⟨j, _, rfl⟩ := List.mem_map.1 hx
  omega
theorem bytesOf_length (n : Int) (k : Nat) : (bytesOf n k).length = k := by simp [bytesOf]
/-- A number's bytes as a string, where they lie. -/
theorem str_put (w : World) (g : Nat) (n : Int) (k : Nat) (hg : w.heap[g]? = some (.cells (cellsB (bytesOf n k)) 5 (0, 0))) :
    Sem.run Try.prog (convert 33 9 (.slice (some ⟨g, 0, none⟩) k k)) w = .ok (.string (strOf (bytesOf n k))) w :=
  str_conv w g 0 k k (bytesOf n k) (bytesOf_length n k).symm (bytesOf_ok n k) (fun j hj => by
    rw [Nat.zero_add, cells_of hg]
    unfold cellsB
    simp [hj])
theorem Rd.below {w w' : World} {rg n : Nat} {f : Nat → Int} {s : Bool} (h : Rd w rg n f s) (hb : Below w.heap.size w w') : Rd w' rg n f s := by
  obtain ⟨a, c, hr, hv, h1⟩ := h
  exact ⟨a, c, (hb.block _ (Array.getElem?_eq_some_iff.1 hr).1).trans hr, hv.below hb, h1⟩
theorem bytesOf_succ (n : Int) (k : Nat) : bytesOf n (k + 1) = bytesOf (n / 256) k ++ [n % 256] := by
  unfold bytesOf
  rw [List.range_succ, List.map_append]
  congr 1
  · apply List.map_congr_left
    intro j hj
    have hj' : j < k := List.mem_range.1 hj
    unfold byteAt
    rw [show k + 1 - 1 - j = (k - 1 - j) + 1 by omega, Int.pow_succ, Int.mul_comm, ← Int.ediv_ediv_of_nonneg (by omega)]
  · simp [byteAt]
/-- Bytes that lie in a block of the call's own. -/
def OwnB (w : World) (base : Nat) (v : Value) (l : List Int) : Prop := w.ownsRow base 5 1 v l.length (l.map (Value.int .u8))
theorem OwnB.below {w w' : World} {base : Nat} {v : Value} {l : List Int} (h : OwnB w base v l) (hb : Below w.heap.size w w') : OwnB w' base v l := by
  obtain ⟨h1, h2 | ⟨g, c, cur, hv, hg, hh, h3⟩⟩ := h
  · exact ⟨h1, .inl h2⟩
  · exact ⟨h1, .inr ⟨g, c, cur, hv, hg, (hb.block g (Array.getElem?_eq_some_iff.1 hh).1).trans hh, h3⟩⟩
theorem OwnB.str {w : World} {base : Nat} {v : Value} {l : List Int} (h : OwnB w base v l) (hb : ∀ x ∈ l, 0 ≤ x ∧ x ≤ 255) : Sem.run Try.prog (convert 33 9 v) w = .ok (.string (strOf l)) w := by
  obtain ⟨h1, ⟨rfl, h2⟩ | ⟨g, c, cur, rfl, hg, hh, h3, h4, h5, h6⟩⟩ := h
  · obtain rfl : l = [] := List.eq_nil_of_length_eq_zero h2
    kernel_rfl
  · refine str_conv w g 0 c l.length l rfl hb (fun j hj => ?_)
    rw [Nat.zero_add, cells_of hh]
    have h7 : (cur.toList.take (l.length * 1))[j]? = (l.map (Value.int .u8))[j]? := by rw [h6]
    rw [List.getElem?_take, if_pos (by omega)] at h7
    simpa [hj] using h7
theorem mk1 (x : Int) (w : World) : Sem.run Try.prog (Instr.buildSlice 33 1 #[(0, .int .u8 x)]) w = .ok (.slice (some ⟨w.heap.size, 0, none⟩) 1 1) (w.alloc (.cells #[.int .u8 x] 5)) := by kernel_rfl
attribute [local go_sem] mk1
set_option maxHeartbeats 2000000 in
theorem refput_any : ∀ (k : Nat), 1 ≤ k → k ≤ 8 → ∀ (n : Int), 0 ≤ n ∧ n < 18446744073709551616 → ∀ (w : World), Calls Try.prog 16 #[.int .u64 n, .int .i64 k] w fun e w' => ∃ v, e = .returned v ∧ OwnB w' w.heap.size v (bytesOf n k) ∧ Below w.heap.size w w' := by
  intro k
  induction k with
  | zero => intro h; omega
  | succ k ih =>
    intro hk1 hk8 n hn w
    by_cases hk0 : k = 0
    · subst hk0
      go_enter Try.func16, Try.ntmps16
      go_wp2_with fail
      go_ret
      refine ⟨_, rfl, ⟨by simp [bytesOf], .inr ⟨w.heap.size, 1, _, rfl, Nat.le_refl _, heap_alloc_new _ _, Nat.le_refl _, by unfold maxLen; omega, rfl, ?_⟩⟩, more (Below.refl _ _) _⟩
      simp [bytesOf, byteAt, List.range, List.range.loop]
    · have ih := ih (by omega) (by omega) (n / 256) (by omega)
      have d0 : decide (((k + 1 : Nat) : Int) < 1) = false := decide_eq_false (by omega)
      have d1 : decide ((8 : Int) < ((k + 1 : Nat) : Int)) = false := decide_eq_false (by omega)
      have d2 : (((k + 1 : Nat) : Int) == 1) = false := beq_eq_false_iff_ne.2 (by omega)
      obtain ⟨q, hq⟩ : ∃ q, q = k + 1 := ⟨_, rfl⟩
      rw [← hq] at d0 d1 d2 ⊢
      have hqk : (q : Int) - 1 = (k : Int) := by omega
      have hq0 : (1 : Int) < q := by omega
      have hq8 : (q : Int) ≤ 8 := by omega
      obtain ⟨i8, hi8, hz8, hs8, hb8⟩ := info_parts info8
      have Ih := Lib.hid ih
      clear ih
      go_enter Try.func16, Try.ntmps16
      go_wp2_with fail
      refine (Ih.out w).mono ?_
      rintro e w1 ⟨v, rfl, hown, hb1⟩
      have Hown := Lib.hid (hown.below (more (Below.refl w1.heap.size w1) (.cells #[.int .u8 (n % 256)] 5)))
      have HB1 := Lib.hid (more hb1 (.cells #[.int .u8 (n % 256)] 5))
      have hs1 := hb1.size
      clear hown hb1
      go_wp2_with (first
        | (at_builtin; refine wpList_append_own _ rfl (.tmp 21) (.tmp 25) 33 rfl w.heap.size 5 i8 _ 1 1 Try.underlying33 hi8 hz8 hs8 hb8 rfl (by decide) v _ _ rfl Hown.out ⟨w1.heap.size, 0, none⟩ 1 1 [.int .u8 (n % 256)] rfl rfl (fun j u hj => by
            match j, hj with
            | 0, hj =>
              rw [Addr.add_mid, Nat.zero_add, cells_of (heap_alloc_new _ _)]
              exact hj) (by simp [Value.oneCell']) (by rw [bytesOf_length]; unfold maxLen; omega) (by rw [bytesOf_length]; omega) (by simp; omega) ?_; intro v' w2 hown2 hgrow hnil; simp only [Act.put, List.setIfInBounds_toArray, List.set_cons_zero, List.set_cons_succ])
        | fail)
      go_ret
      refine ⟨v', rfl, ?_, HB1.out.trans ⟨hgrow.os, hgrow.tape, hgrow.output, hgrow.size, fun x hx => hgrow.block x (by simp; omega) (fun e => ?_)⟩⟩
      · unfold OwnB
        rw [hq, bytesOf_succ, List.length_append, List.map_append]
        exact hown2
      · obtain ⟨_, ⟨rfl, _⟩ | ⟨g, c, cur, rfl, hg, _⟩⟩ := Hown.out
        · cases e
        · simp only [Value.ownBlock, Option.some.injEq] at e
          omega
theorem refput_no (n i : Int) (hi : i < 1 ∨ 8 < i) (w : World) : Calls Try.prog 16 #[.int .u64 n, .int .i64 i] w fun e w' => e = .returned (.slice none 0 0) ∧ w' = w := by
  go_enter Try.func16, Try.ntmps16
  by_cases h0 : i < 1
  · have d0 : decide (i < 1) = true := decide_eq_true h0
    go_wp2_with fail
    go_ret
    exact ⟨rfl, rfl⟩
  · have d0 : decide (i < 1) = false := decide_eq_false h0
    have d1 : decide (8 < i) = true := decide_eq_true (by omega)
    go_wp2_with fail
    go_ret
    exact ⟨rfl, rfl⟩
theorem same_any (v1 v2 : Value) (s1 s2 : ByteArray) (w : World) (h1 : Sem.run Try.prog (convert 33 9 v1) w = .ok (.string s1) w) (h2 : Sem.run Try.prog (convert 33 9 v2) w = .ok (.string s2) w) :
    Calls Try.prog 8 #[v1, v2] w fun e w' => e = .returned (.bool (s1.toList == s2.toList)) ∧ w' = w := by
  go_enter Try.func8, Try.ntmps8
  go_wp2_with fail
  go_ret
  exact ⟨rfl, rfl⟩
theorem putOwn (w : World) (n : Int) (k : Nat) (hk : k ≤ 8) : OwnB (w.alloc (.cells (cellsB (bytesOf n k)) 5)) w.heap.size (.slice (some ⟨w.heap.size, 0, none⟩) k k) (bytesOf n k) := by
  refine ⟨by simp, .inr ⟨w.heap.size, k, _, by rw [bytesOf_length], Nat.le_refl _, heap_alloc_new _ _, by rw [bytesOf_length]; exact Nat.le_refl _, by unfold maxLen; omega, by simp [cellsB, bytesOf_length], ?_⟩⟩
  unfold cellsB
  rw [List.take_of_length_le (by simp)]
theorem emod_mul' (y c : Int) (hc : 0 < c) : y % (256 * c) = (y / 256 % c) * 256 + y % 256 := by
  have h1 := Int.emod_add_mul_ediv y 256
  have h2 := Int.emod_add_mul_ediv (y / 256) c
  have h3 := Int.emod_nonneg (y / 256) (show c ≠ 0 by omega)
  have h4 := Int.emod_lt_of_pos (y / 256) hc
  have e : y = (y / 256 % c) * 256 + y % 256 + (256 * c) * (y / 256 / c) := by
    rw [Int.mul_assoc]
    omega
  have hb : 0 ≤ (y / 256 % c) * 256 + y % 256 := by omega
  have hb2 : (y / 256 % c) * 256 + y % 256 < 256 * c := by omega
  conv => lhs; rw [e]
  rw [Int.add_mul_emod_self_left, Int.emod_eq_of_lt hb hb2]
theorem num_bytes (x : Int) (k : Nat) : ∀ j, j ≤ k → num (byteAt x k) j = x / 256 ^ (k - j) % 256 ^ j
  | 0, _ => by simp [num]
  | j + 1, h => by
    have ih := num_bytes x k j (by omega)
    have hp : (0 : Int) < 256 ^ j := Int.pow_pos (by decide)
    show num (byteAt x k) j * 256 + byteAt x k j = _
    rw [ih, Int.pow_succ, Int.mul_comm ((256 : Int) ^ j) 256, emod_mul' _ _ hp]
    unfold byteAt
    rw [show k - 1 - j = k - (j + 1) by omega, show k - j = (k - (j + 1)) + 1 by omega, Int.pow_succ, ← Int.ediv_ediv_of_nonneg (Int.le_of_lt (Int.pow_pos (by decide)))]
/-- How many bytes the first i numbers have. -/
def tot (kf : Nat → Nat) : Nat → Nat
  | 0 => 0
  | i + 1 => tot kf i + kf i
/-- The bytes of the first i numbers. -/
def acc (lf : Nat → Int) (kf : Nat → Nat) : Nat → List Int
  | 0 => []
  | i + 1 => acc lf kf i ++ bytesOf (lf i) (kf i)
theorem acc_length (lf : Nat → Int) (kf : Nat → Nat) : ∀ i, (acc lf kf i).length = tot kf i
  | 0 => rfl
  | i + 1 => by
    show (acc lf kf i ++ bytesOf (lf i) (kf i)).length = tot kf i + kf i
    rw [List.length_append, acc_length lf kf i, bytesOf_length]
theorem acc_ok (lf : Nat → Int) (kf : Nat → Nat) : ∀ i, ∀ x ∈ acc lf kf i, 0 ≤ x ∧ x ≤ 255
  | 0, x, h => by cases h
  | i + 1, x, h => by
    rcases List.mem_append.1 (show x ∈ acc lf kf i ++ bytesOf (lf i) (kf i) from h) with h | h
    · exact acc_ok lf kf i x h
    · exact bytesOf_ok _ _ x h
theorem tot_le (kf : Nat → Nat) (i : Nat) : ∀ m, i ≤ m → tot kf i ≤ tot kf m
  | 0, h => by
    obtain rfl : i = 0 := by omega
    exact Nat.le_refl _
  | m + 1, h => by
    by_cases e : i = m + 1
    · rw [e]
      exact Nat.le_refl _
    · have := tot_le kf i m (by omega)
      show tot kf i ≤ tot kf m + kf m
      omega
theorem tot_most (kf : Nat → Nat) (h : ∀ i, kf i ≤ 8) : ∀ m, tot kf m ≤ 8 * m
  | 0 => Nat.le_refl _
  | m + 1 => by
    have h1 := tot_most kf h m
    have h2 := h m
    show tot kf m + kf m ≤ _
    omega
theorem acc_get (lf : Nat → Int) (kf : Nat → Nat) (i j : Nat) (hj : j < kf i) : ∀ m, i < m → (acc lf kf m)[tot kf i + j]? = some (byteAt (lf i) (kf i) j)
  | 0, h => by omega
  | m + 1, h => by
    show (acc lf kf m ++ bytesOf (lf m) (kf m))[tot kf i + j]? = _
    by_cases e : i = m
    · subst e
      rw [List.getElem?_append_right (by rw [acc_length]; omega), acc_length, Nat.add_sub_cancel_left]
      unfold bytesOf
      rw [List.getElem?_map, List.getElem?_range hj]
      rfl
    · have h1 := tot_le kf (i + 1) m (by omega)
      have h2 : tot kf i + kf i ≤ tot kf m := h1
      rw [List.getElem?_append_left (by rw [acc_length]; omega)]
      exact acc_get lf kf i j hj m (by omega)
theorem num_congr (f g : Nat → Int) : ∀ j, (∀ i, i < j → f i = g i) → num f j = num g j
  | 0, _ => rfl
  | j + 1, h => by
    show num f j * 256 + f j = num g j * 256 + g j
    rw [num_congr f g j (fun i hi => h i (by omega)), h j (by omega)]
/-- All bytes, by their places. -/
def byteOf (lf : Nat → Int) (kf : Nat → Nat) (m q : Nat) : Int := ((acc lf kf m)[q]?).getD 0
theorem byteOf_ok (lf : Nat → Int) (kf : Nat → Nat) (m q : Nat) : 0 ≤ byteOf lf kf m q ∧ byteOf lf kf m q ≤ 255 := by
  unfold byteOf
  cases h : (acc lf kf m)[q]? with
  | none => simp
  | some x => exact acc_ok lf kf m x (List.mem_of_getElem? h)
/-- What is taken at the place of number i is number i, as far as there is room. -/
theorem back_law (lf : Nat → Int) (kf : Nat → Nat) (i m : Nat) (h : i < m) : num (fun j => byteOf lf kf m (tot kf i + j)) (kf i) = lf i % 256 ^ kf i := by
  rw [num_congr _ (byteAt (lf i) (kf i)) (kf i) (fun j hj => by unfold byteOf; rw [acc_get lf kf i j hj m h]; rfl), num_bytes _ _ _ (Nat.le_refl _)]
  simp
theorem shift_back (x : Int) (k : Nat) (hk : 1 ≤ k ∧ k ≤ 8) : x % 256 ^ k = (x * 2 ^ (64 - 8 * k) % 18446744073709551616) / 2 ^ (64 - 8 * k) := by
  rcases (show k = 1 ∨ k = 2 ∨ k = 3 ∨ k = 4 ∨ k = 5 ∨ k = 6 ∨ k = 7 ∨ k = 8 by omega) with rfl | rfl | rfl | rfl | rfl | rfl | rfl | rfl <;> simp <;> omega
end Go.Proofs.Ytehapoilfmgjgaa.Oct
