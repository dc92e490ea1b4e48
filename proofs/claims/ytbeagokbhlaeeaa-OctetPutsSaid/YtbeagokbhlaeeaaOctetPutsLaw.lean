/- Law OctetPuts of chapter 1: the walk joined with the plain law. -/
import Derived.Test.YtbeagokbhlaeeaaRefPut
set_option linter.unusedSimpArgs false
namespace Go.Proofs.Ytbeagokbhlaeeaa.Oct
open Go.RowKit
theorem nil_str (w : World) : Sem.run Try.prog (convert 25 9 (.slice none 0 0)) w = .ok (.string ⟨#[]⟩) w := by kernel_rfl
set_option maxHeartbeats 2000000 in
theorem puts_any (w : World) (n : Int) (hn : 0 ≤ n ∧ n < 18446744073709551616) (i : Int) :
    Calls Try.prog 3 #[.int .u64 n, .int .i64 i] w fun e w' => e = .returned (.bool true) ∧ Below w.heap.size w w' := by
  have HN := Lib.hid hn
  clear hn
  go_enter Try.func3, Try.ntmps3
  go_wp2_with fail
  refine (awake_any _).mono ?_
  rintro e w1 ⟨rfl, hb1⟩
  have HB1 := Lib.hid hb1
  clear hb1
  by_cases hi : i < 1 ∨ 8 < i
  · go_wp2_with fail
    refine (put_no n i hi w1).mono ?_
    rintro e w2 ⟨rfl, rfl⟩
    go_wp2_with fail
    refine (refput_no n i hi w2).mono ?_
    rintro e w3 ⟨rfl, rfl⟩
    go_wp2_with fail
    refine (same_any _ _ _ _ w3 (nil_str w3) (nil_str w3)).mono ?_
    rintro e w4 ⟨rfl, rfl⟩
    go_wp2_with fail
    go_ret
    exact ⟨rfl, HB1.out⟩
  · obtain ⟨k, rfl⟩ : ∃ k : Nat, i = k := Int.eq_ofNat_of_zero_le (by omega)
    have hk : 1 ≤ k ∧ k ≤ 8 := by omega
    clear hi
    go_wp2_with fail
    refine (put_any n HN.out k hk w1).mono ?_
    rintro e w2 ⟨rfl, rfl⟩
    have ho := putOwn w1 n k hk.2
    obtain ⟨w2, hw2⟩ : ∃ x, x = w1.alloc (.cells (cellsB (bytesOf n k)) 5) := ⟨_, rfl⟩
    rw [← hw2] at ho ⊢
    have Ho := Lib.hid ho
    have HB2 := Lib.hid (andthen HB1.out (show Below w1.heap.size w1 w2 by rw [hw2]; exact more (Below.refl _ _) _))
    clear ho hw2
    go_wp2_with fail
    refine (refput_any k hk.1 hk.2 n HN.out w2).mono ?_
    rintro e w3 ⟨v, rfl, ho3, hb3⟩
    have s1 := (Ho.out.below hb3).str (bytesOf_ok n k)
    have s2 := ho3.str (bytesOf_ok n k)
    have HB3 := Lib.hid (andthen HB2.out hb3)
    have S1 := Lib.hid s1
    have S2 := Lib.hid s2
    clear s1 s2 ho3 hb3
    go_wp2_with fail
    refine (same_any _ _ _ _ w3 S1.out S2.out).mono ?_
    rintro e w4 ⟨rfl, rfl⟩
    go_wp2_with fail
    go_ret
    exact ⟨by simp, HB3.out⟩
end Go.Proofs.Ytbeagokbhlaeeaa.Oct
