/- Law IdentTells of layer 2, as a plain statement over numbers: numbers and their parts are as the document says; no condition. -/
import Derived.Test.YtbgpnjlmomapgaaPIdentTellsx1
import Derived.Laws.BitsAllLaws
import Derived.OpenShut
namespace Go.Proofs.Ytbgpnjlmomapgaa.Pure
open Go.RowKit Go.Proofs.Ytbgpnjlmomapgaa.PIdentTells Go.Proofs.YtbgpnjlmomapgaaW.PrintWords Go.Proofs.YtbgpnjlmomapgaaW.PrintLast

namespace IdentTellsL
theorem pow_gt (n : Nat) : (0 : Int) < 2 ^ n := by
  have h := Nat.two_pow_pos n
  have e : (2 : Int) ^ n = ((2 ^ n : Nat) : Int) := by simp
  omega

theorem step {x n : Int} {c : Nat} (hc : c < 64) (hx : 0 ≤ x) (hx2 : x * 2 ^ c < 18446744073709551616) (hn : 0 ≤ n) (hn2 : n < 18446744073709551616) :
    Go.bits .or .u64 (shl .u64 x c) (Go.bits .and .u64 n (IntKind.u64.wrap ((shl .u64 1 c) - 1))) = x * 2 ^ c + n % 2 ^ c := by
  obtain ⟨X, rfl⟩ := Int.eq_ofNat_of_zero_le hx
  obtain ⟨N, rfl⟩ := Int.eq_ofNat_of_zero_le hn
  have hp : (2 : Int) ^ c = ((2 ^ c : Nat) : Int) := by simp
  have hpos : 0 < 2 ^ c := Nat.two_pow_pos c
  have hP : 2 ^ c ≤ 2 ^ 63 := Nat.pow_le_pow_right (by decide) (by omega)
  have e1 : shl .u64 (X : Int) (c : Int) = ((X * 2 ^ c : Nat) : Int) := by
    unfold shl
    rw [IntKind.wrap_u64, show min (c : Int).toNat IntKind.u64.bits = c from by simp [IntKind.bits]; omega, hp]
    rw [hp] at hx2
    have hh : ((X : Int) * ((2 ^ c : Nat) : Int)) = ((X * 2 ^ c : Nat) : Int) := by simp
    rw [hh] at hx2 ⊢
    omega
  have e2 : IntKind.u64.wrap ((shl .u64 1 (c : Int)) - 1) = ((2 ^ c - 1 : Nat) : Int) := by
    unfold shl
    rw [IntKind.wrap_u64, IntKind.wrap_u64, show min (c : Int).toNat IntKind.u64.bits = c from by simp [IntKind.bits]; omega, hp]
    omega
  have e3 : X * 2 ^ c < 18446744073709551616 := by
    rw [hp] at hx2
    have hh : ((X : Int) * ((2 ^ c : Nat) : Int)) = ((X * 2 ^ c : Nat) : Int) := by simp
    omega
  rw [e1, e2, u64_and_nat _ _ (by omega) (by omega), Nat.and_two_pow_sub_one_eq_mod, u64_or_nat _ _ (by omega) (by have := Nat.mod_lt N hpos; omega),
    nat_join c _ _ (by simp) (Nat.mod_lt _ hpos), hp]
  simp

theorem joined2 {a b : Int} {m n : Nat} (h0 : 0 ≤ a) (h1 : a < 18446744073709551616) (h2 : 0 ≤ b) (h3 : b < 18446744073709551616) (hm : m + n ≤ 64) (hm1 : 0 < m) (hn1 : 0 < n) (k : Nat) (hk : 3 ≤ k) :
    ident_joined.f k [(⟨a, m⟩ : S39), (⟨b, n⟩ : S39)] = some ((a % 2 ^ m) * 2 ^ n + b % 2 ^ n) := by
  obtain ⟨k, rfl⟩ : ∃ j, k = j + 3 := ⟨k - 3, by omega⟩
  have hpm : (0 : Int) < 2 ^ m := pow_gt m
  have hb : a % 2 ^ m < 2 ^ m := Int.emod_lt_of_pos _ hpm
  have hb0 : 0 ≤ a % 2 ^ m := Int.emod_nonneg _ (by omega)
  have hpw : (2 : Int) ^ m * 2 ^ n ≤ 18446744073709551616 := by
    rw [← Int.pow_add]
    have : (2 : Nat) ^ (m + n) ≤ 2 ^ 64 := Nat.pow_le_pow_right (by decide) hm
    have e : (2 : Int) ^ (m + n) = ((2 ^ (m + n) : Nat) : Int) := by simp
    rw [e]
    omega
  have hpn : (0 : Int) < 2 ^ n := pow_gt n
  have hx2 : a % 2 ^ m * 2 ^ n < 18446744073709551616 := Int.lt_of_lt_of_le (Int.mul_lt_mul_of_pos_right hb hpn) hpw
  have w1 : wrap64 (0 + 1) = 1 := by unfold wrap64; omega
  have w2 : wrap64 (1 + 1) = 2 := by unfold wrap64; omega
  have s1 := step (x := 0) (n := a) (c := m) (by omega) (by omega) (by simp) h0 h1
  have s2 := step (x := a % 2 ^ m) (n := b) (c := n) (by omega) hb0 hx2 h2 h3
  simp only [Int.zero_mul, Int.zero_add] at s1
  have r0 : rd_T39 [(⟨a, m⟩ : S39), (⟨b, n⟩ : S39)] 0 = ⟨a, m⟩ := rfl
  have r1 : rd_T39 [(⟨a, m⟩ : S39), (⟨b, n⟩ : S39)] 1 = ⟨b, n⟩ := rfl
  unfold ident_joined.f
  rw [ident_joined.l0, if_pos (by simp), if_pos (by omega), if_pos (by simp), r0, if_pos (by simp)]
  simp only [s1, w1]
  rw [ident_joined.l0, if_pos (by simp), if_pos (by omega), if_pos (by simp), r1, if_pos (by simp)]
  simp only [s2, w2]
  rw [ident_joined.l0, if_neg (by simp)]

theorem bridge_is {a b : Int} (h0 : 0 ≤ a) (h1 : a < 65536) (h2 : 0 ≤ b) (h3 : b < 18446744073709551616) (k : Nat) (hk : 3 ≤ k) :
    ident_Bridge.f k a b = some (a * 281474976710656 + b % 281474976710656) := by
  have e : IntKind.u64.wrap a = a := by rw [IntKind.wrap_u64]; omega
  have h := joined2 (a := a) (b := b) (m := 16) (n := 48) h0 (by omega) h2 h3 (by omega) (by omega) (by omega) k hk
  unfold ident_Bridge.f
  rw [e]
  erw [h]
  simp only [Option.bind_some]
  congr 1
  omega

theorem port_is {a b : Int} (h0 : 0 ≤ a) (h1 : a < 256) (h2 : 0 ≤ b) (h3 : b < 65536) (k : Nat) (hk : 3 ≤ k) :
    ident_Port.f k a b = some ((a / 16) * 4096 + b % 4096) := by
  have e : IntKind.u64.wrap (a / 16) = a / 16 := by rw [IntKind.wrap_u64]; omega
  have e' : IntKind.u64.wrap b = b := by rw [IntKind.wrap_u64]; omega
  have h := joined2 (a := a / 16) (b := b) (m := 4) (n := 12) (by omega) (by omega) h2 (by omega) (by omega) (by omega) (by omega) k hk
  unfold ident_Port.f
  rw [e, e']
  erw [h]
  simp only [Option.bind_some, IntKind.wrap_u16]
  congr 1
  omega

theorem addr_is {a : Int} (h2 : 0 ≤ a) (h3 : a < 18446744073709551616) : ident_Addr.f a = some (a % 281474976710656) := by
  obtain ⟨N, rfl⟩ := Int.eq_ofNat_of_zero_le h2
  unfold ident_Addr.f
  rw [show (281474976710655 : Int) = ((2 ^ 48 - 1 : Nat) : Int) from rfl, u64_and_nat _ _ (by omega) (by omega), Nat.and_two_pow_sub_one_eq_mod]
  congr 1

theorem num_is {a : Int} (h2 : 0 ≤ a) (h3 : a < 65536) : ident_Num.f a = some (a % 4096) := by
  obtain ⟨N, rfl⟩ := Int.eq_ofNat_of_zero_le h2
  unfold ident_Num.f
  rw [show (4095 : Int) = ((2 ^ 12 - 1 : Nat) : Int) from rfl, u16_and_nat _ _ (by omega) (by omega), Nat.and_two_pow_sub_one_eq_mod]
  congr 1

theorem group_is {a : Int} (h2 : 0 ≤ a) (h3 : a < 18446744073709551616) : ident_Group.f a = some (a / 1099511627776 % 2 == 1) := by
  obtain ⟨N, rfl⟩ := Int.eq_ofNat_of_zero_le h2
  unfold ident_Group.f
  rw [show (1 : Int) = ((1 : Nat) : Int) from rfl, show ((N : Int) / 1099511627776) = ((N / 1099511627776 : Nat) : Int) from rfl, u64_and_nat _ _ (by omega) (by omega), nat_mask1]
  congr 1

theorem awake_is (k : Nat) (hk : 3 ≤ k) : fordlaw02_awake.f k = some true := by
  unfold fordlaw02_awake.f
  rw [bridge_is (by omega) (by omega) (by omega) (by omega) k hk, port_is (by omega) (by omega) (by omega) (by omega) k hk, addr_is (by omega) (by omega), num_is (by omega) (by omega), group_is (by omega) (by omega)]
  decide

end IdentTellsL
open IdentTellsL

theorem IdentTells : fordlaw02_IdentTells.Pure := by
  intro p a s n hp ha hs hn
  have hp := bounds_u16 hp
  have ha := bounds_u64 ha
  have hs := bounds_u8 hs
  have hn := bounds_u16 hn
  refine ⟨3, ?_⟩
  have t1 : Int.tmod a 281474976710656 = a % 281474976710656 := Int.tmod_eq_emod_of_nonneg (by omega)
  have t2 : Int.tdiv a 281474976710656 = a / 281474976710656 := Int.tdiv_eq_ediv_of_nonneg (by omega)
  have t3 : Int.tmod n 4096 = n % 4096 := Int.tmod_eq_emod_of_nonneg (by omega)
  have t4 : Int.tdiv s 16 = s / 16 := Int.tdiv_eq_ediv_of_nonneg (by omega)
  have t5 : Int.tdiv a 1099511627776 = a / 1099511627776 := Int.tdiv_eq_ediv_of_nonneg (by omega)
  have t6 : Int.tmod (a / 1099511627776 % 18446744073709551616) 2 = (a / 1099511627776 % 18446744073709551616) % 2 := Int.tmod_eq_emod_of_nonneg (by omega)
  unfold fordlaw02_IdentTells.f fordref02_Bridge.f fordref02_Prio.f fordref02_Addr.f fordref02_Port.f fordref02_Num.f fordref02_Group.f ident_Prio.f
  rw [awake_is 3 (by omega), bridge_is (by omega) (by omega) (by omega) (by omega) 3 (by omega), port_is (by omega) (by omega) (by omega) (by omega) 3 (by omega), addr_is (by omega) (by omega), num_is (by omega) (by omega), group_is (by omega) (by omega)]
  simp only [Option.bind_some, if_true, IntKind.wrap_u16, IntKind.wrap_u64, t1, t2, t3, t4, t5, t6]
  rw [if_pos (by omega), if_pos (by omega), if_pos (by omega)]
  congr 1
  rw [beq_iff_eq]
  have e : a / 1099511627776 % 18446744073709551616 = a / 1099511627776 := by omega
  rw [e]

end Go.Proofs.Ytbgpnjlmomapgaa.Pure
