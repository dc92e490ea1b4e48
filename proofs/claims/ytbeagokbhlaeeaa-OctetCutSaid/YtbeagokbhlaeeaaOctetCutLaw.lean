/- Law OctetCut of chapter 1: the walk joined with the plain law. -/
import Derived.Test.YtbeagokbhlaeeaaAwake01
set_option linter.unusedSimpArgs false
namespace Go.Proofs.Ytbeagokbhlaeeaa.Oct
open Go.RowKit
theorem View.take {w : World} {g n m : Nat} {f : Nat → Int} (h : w.heap[g]? = some (.cells (cellsB ((List.range n).map f)) 5 (0, 0))) (hm : m ≤ n) : View w (some ⟨g, 0, none⟩) 1 m (fun j _ => .int .u8 (f j)) :=
  .inr ⟨g, 0, rfl, fun k hk j hj => by
    obtain rfl : j = 0 := by omega
    rw [Nat.zero_add, Nat.mul_one, Nat.add_zero, cells_of h]
    unfold cellsB
    simp [show k < n by omega]⟩
set_option maxHeartbeats 2000000 in
theorem cut_any (w : World) (n : Int) (hn : 0 ≤ n ∧ n < 18446744073709551616) (m : Nat) (hm : m ≤ 255) (l : Nat) (hl : l ≤ 255) :
    Calls Try.prog 7 #[.int .u64 n, .int .u8 m, .int .u8 l] w fun e w' => e = .returned (.bool true) ∧ Below w.heap.size w w' := by
  obtain ⟨k, hk⟩ : ∃ k : Nat, k = m % 8 + 1 := ⟨_, rfl⟩
  have hkk : 1 + (m : Int) % 8 = (k : Int) := by omega
  have hk1 : 1 ≤ k ∧ k ≤ 8 := by omega
  obtain ⟨q, hq⟩ : ∃ q : Nat, q = l % k := ⟨_, rfl⟩
  have hqq : (l : Int) % (k : Int) = (q : Int) := by rw [hq]; omega
  have hq1 : q < k := by rw [hq]; exact Nat.mod_lt _ (by omega)
  have HN := Lib.hid hn
  clear hk hq hn
  go_enter Try.func7, Try.ntmps7
  go_wp2_with fail
  refine (awake_any _).mono ?_
  rintro e w1 ⟨rfl, hb1⟩
  have HB1 := Lib.hid hb1
  clear hb1
  go_wp2_with fail
  refine (put_any n HN.out k hk1 w1).mono ?_
  rintro e w2 ⟨rfl, rfl⟩
  obtain ⟨w2, hw2⟩ : ∃ x, x = w1.alloc (.cells (cellsB (bytesOf n k)) 5) := ⟨_, rfl⟩
  rw [← hw2]
  have Hb2 := Lib.hid (show w2.heap[w1.heap.size]? = some (.cells (cellsB (bytesOf n k)) 5 (0, 0)) by rw [hw2]; exact heap_alloc_new _ _)
  have HB2 := Lib.hid (andthen HB1.out (show Below w1.heap.size w1 w2 by rw [hw2]; exact more (Below.refl _ _) _))
  clear hw2
  have hk0 : (1 : Int) ≤ k := by omega
  have hk8 : (k : Int) ≤ 8 := by omega
  have hq0 : (0 : Int) ≤ q := by omega
  have hqk : (q : Int) < k := by omega
  go_wp2_with fail
  trace_state
  refine (new_any w2 _ q k (byteAt n k) (View.take Hb2.out (by omega)) (fun j hj => by unfold byteAt; omega) (fun h => by cases h) (by omega)).mono ?_
  rintro e w3 ⟨rg, rfl, hrg, hrd, hb3⟩
  have Hrd := Lib.hid hrd
  have HB3 := Lib.hid (andthen HB2.out hb3)
  have hge : w.heap.size ≤ rg := Nat.le_trans HB2.out.size hrg
  clear hrd hb3
  go_wp2_with fail
  refine (take_few w3 rg q k _ Hrd.out ⟨by omega, by omega⟩ (by omega)).mono ?_
  rintro e w4 ⟨rfl, hrd4, ho4⟩
  have Hrd4 := Lib.hid (hrd4 (fun _ => 0))
  have HB4 := Lib.hid (HB3.out.trans (ho4.below HB3.out.size (fun k hk => by omega)))
  clear hrd4 ho4 Hrd
  go_wp2_with fail
  refine (take_no w4 rg 0 true 1 _ Hrd4.out (.inl rfl)).mono ?_
  rintro e w5 ⟨rfl, rfl⟩
  go_wp2_with fail
  refine (short_any w5 rg 0 true _ Hrd4.out).mono ?_
  rintro e w6 ⟨rfl, rfl⟩
  go_wp2_with fail
  refine (left_any w6 rg 0 true _ Hrd4.out).mono ?_
  rintro e w7 ⟨rfl, rfl⟩
  go_wp2_with fail
  go_ret
  exact ⟨rfl, HB4.out⟩
end Go.Proofs.Ytbeagokbhlaeeaa.Oct
