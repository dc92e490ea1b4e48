/- Law IdentPorts of layer 2, as a plain statement over numbers: ports of one first part stand as their second parts do; no condition. -/
import Derived.Test.YtbgpnjlmomapgaaPIdentPortsx1
import Derived.Laws.BitsAllLaws
import Derived.OpenShut
namespace Go.Proofs.Ytbgpnjlmomapgaa.Pure
open Go.RowKit Go.Proofs.Ytbgpnjlmomapgaa.PIdentPorts Go.Proofs.YtbgpnjlmomapgaaW.PrintWords Go.Proofs.YtbgpnjlmomapgaaW.PrintLast

namespace IdentPortsL
theorem pow_gt (n : Nat) : (0 : Int) < 2 ^ n := by
  have h := Nat.two_pow_pos n
  have e : (2 : Int) ^ n = ((2 ^ n : Nat) : Int) := by simp
  omega

theorem step {x n : Int} {c : Nat} (hc : c < 64) (hx : 0 ≤ x) (hx2 : x * 2 ^ c < 18446744073709551616) (hn : 0 ≤ n) (hn2 : n < 18446744073709551616) :
    Go.bits .or .u64 (shl .u64 x c) (Go.bits .and .u64 n (IntKind.u64.wrap ((shl .u64 1 c) - 1))) = x * 2 ^ c + n % 2 ^ c := by
  obtain ⟨X, rfl⟩ := Int.eq_ofNat_of_zero_le hx
  obtain ⟨N, rfl⟩ := Int.eq_ofNat_of_zero_le hn
  have hp : (2 : Int) ^ c = ((2 ^ c : Nat) : Int) := by simp
  have hpos : 0 < 2 ^ c := Nat.two_pow_pos c
  have hP : 2 ^ c ≤ 2 ^ 63 := Nat.pow_le_pow_right (by decide) (by omega)
  have e1 : shl .u64 (X : Int) (c : Int) = ((X * 2 ^ c : Nat) : Int) := by
    unfold shl
    rw [IntKind.wrap_u64, show min (c : Int).toNat IntKind.u64.bits = c from by simp [IntKind.bits]; omega, hp]
    rw [hp] at hx2
    have hh : ((X : Int) * ((2 ^ c : Nat) : Int)) = ((X * 2 ^ c : Nat) : Int) := by simp
    rw [hh] at hx2 ⊢
    omega
  have e2 : IntKind.u64.wrap ((shl .u64 1 (c : Int)) - 1) = ((2 ^ c - 1 : Nat) : Int) := by
    unfold shl
    rw [IntKind.wrap_u64, IntKind.wrap_u64, show min (c : Int).toNat IntKind.u64.bits = c from by simp [IntKind.bits]; omega, hp]
    omega
  have e3 : X * 2 ^ c < 18446744073709551616 := by
    rw [hp] at hx2
    have hh : ((X : Int) * ((2 ^ c : Nat) : Int)) = ((X * 2 ^ c : Nat) : Int) := by simp
    omega
  rw [e1, e2, u64_and_nat _ _ (by omega) (by omega), Nat.and_two_pow_sub_one_eq_mod, u64_or_nat _ _ (by omega) (by have := Nat.mod_lt N hpos; omega),
    nat_join c _ _ (by simp) (Nat.mod_lt _ hpos), hp]
  simp

theorem joined2 {a b : Int} {m n : Nat} (h0 : 0 ≤ a) (h1 : a < 18446744073709551616) (h2 : 0 ≤ b) (h3 : b < 18446744073709551616) (hm : m + n ≤ 64) (hm1 : 0 < m) (hn1 : 0 < n) (k : Nat) (hk : 3 ≤ k) :
    ident_joined.f k [(⟨a, m⟩ : S39), (⟨b, n⟩ : S39)] = some ((a % 2 ^ m) * 2 ^ n + b % 2 ^ n) := by
  obtain ⟨k, rfl⟩ : ∃ j, k = j + 3 := ⟨k - 3, by omega⟩
  have hpm : (0 : Int) < 2 ^ m := pow_gt m
  have hb : a % 2 ^ m < 2 ^ m := Int.emod_lt_of_pos _ hpm
  have hb0 : 0 ≤ a % 2 ^ m := Int.emod_nonneg _ (by omega)
  have hpw : (2 : Int) ^ m * 2 ^ n ≤ 18446744073709551616 := by
    rw [← Int.pow_add]
    have : (2 : Nat) ^ (m + n) ≤ 2 ^ 64 := Nat.pow_le_pow_right (by decide) hm
    have e : (2 : Int) ^ (m + n) = ((2 ^ (m + n) : Nat) : Int) := by simp
    rw [e]
    omega
  have hpn : (0 : Int) < 2 ^ n := pow_gt n
  have hx2 : a % 2 ^ m * 2 ^ n < 18446744073709551616 := Int.lt_of_lt_of_le (Int.mul_lt_mul_of_pos_right hb hpn) hpw
  have w1 : wrap64 (0 + 1) = 1 := by unfold wrap64; omega
  have w2 : wrap64 (1 + 1) = 2 := by unfold wrap64; omega
  have s1 := step (x := 0) (n := a) (c := m) (by omega) (by omega) (by simp) h0 h1
  have s2 := step (x := a % 2 ^ m) (n := b) (c := n) (by omega) hb0 hx2 h2 h3
  simp only [Int.zero_mul, Int.zero_add] at s1
  have r0 : rd_T39 [(⟨a, m⟩ : S39), (⟨b, n⟩ : S39)] 0 = ⟨a, m⟩ := rfl
  have r1 : rd_T39 [(⟨a, m⟩ : S39), (⟨b, n⟩ : S39)] 1 = ⟨b, n⟩ := rfl
  unfold ident_joined.f
  rw [ident_joined.l0, if_pos (by simp), if_pos (by omega), if_pos (by simp), r0, if_pos (by simp)]
  simp only [s1, w1]
  rw [ident_joined.l0, if_pos (by simp), if_pos (by omega), if_pos (by simp), r1, if_pos (by simp)]
  simp only [s2, w2]
  rw [ident_joined.l0, if_neg (by simp)]

theorem bridge_is {a b : Int} (h0 : 0 ≤ a) (h1 : a < 65536) (h2 : 0 ≤ b) (h3 : b < 18446744073709551616) (k : Nat) (hk : 3 ≤ k) :
    ident_Bridge.f k a b = some (a * 281474976710656 + b % 281474976710656) := by
  have e : IntKind.u64.wrap a = a := by rw [IntKind.wrap_u64]; omega
  have h := joined2 (a := a) (b := b) (m := 16) (n := 48) h0 (by omega) h2 h3 (by omega) (by omega) (by omega) k hk
  unfold ident_Bridge.f
  rw [e]
  erw [h]
  simp only [Option.bind_some]
  congr 1
  omega

theorem port_is {a b : Int} (h0 : 0 ≤ a) (h1 : a < 256) (h2 : 0 ≤ b) (h3 : b < 65536) (k : Nat) (hk : 3 ≤ k) :
    ident_Port.f k a b = some ((a / 16) * 4096 + b % 4096) := by
  have e : IntKind.u64.wrap (a / 16) = a / 16 := by rw [IntKind.wrap_u64]; omega
  have e' : IntKind.u64.wrap b = b := by rw [IntKind.wrap_u64]; omega
  have h := joined2 (a := a / 16) (b := b) (m := 4) (n := 12) (by omega) (by omega) h2 (by omega) (by omega) (by omega) (by omega) k hk
  unfold ident_Port.f
  rw [e, e']
  erw [h]
  simp only [Option.bind_some, IntKind.wrap_u16]
  congr 1
  omega

theorem addr_is {a : Int} (h2 : 0 ≤ a) (h3 : a < 18446744073709551616) : ident_Addr.f a = some (a % 281474976710656) := by
  obtain ⟨N, rfl⟩ := Int.eq_ofNat_of_zero_le h2
  unfold ident_Addr.f
  rw [show (281474976710655 : Int) = ((2 ^ 48 - 1 : Nat) : Int) from rfl, u64_and_nat _ _ (by omega) (by omega), Nat.and_two_pow_sub_one_eq_mod]
  congr 1

theorem num_is {a : Int} (h2 : 0 ≤ a) (h3 : a < 65536) : ident_Num.f a = some (a % 4096) := by
  obtain ⟨N, rfl⟩ := Int.eq_ofNat_of_zero_le h2
  unfold ident_Num.f
  rw [show (4095 : Int) = ((2 ^ 12 - 1 : Nat) : Int) from rfl, u16_and_nat _ _ (by omega) (by omega), Nat.and_two_pow_sub_one_eq_mod]
  congr 1

theorem group_is {a : Int} (h2 : 0 ≤ a) (h3 : a < 18446744073709551616) : ident_Group.f a = some (a / 1099511627776 % 2 == 1) := by
  obtain ⟨N, rfl⟩ := Int.eq_ofNat_of_zero_le h2
  unfold ident_Group.f
  rw [show (1 : Int) = ((1 : Nat) : Int) from rfl, show ((N : Int) / 1099511627776) = ((N / 1099511627776 : Nat) : Int) from rfl, u64_and_nat _ _ (by omega) (by omega), nat_mask1]
  congr 1

theorem awake_is (k : Nat) (hk : 3 ≤ k) : fordlaw02_awake.f k = some true := by
  unfold fordlaw02_awake.f
  rw [bridge_is (by omega) (by omega) (by omega) (by omega) k hk, port_is (by omega) (by omega) (by omega) (by omega) k hk, addr_is (by omega) (by omega), num_is (by omega) (by omega), group_is (by omega) (by omega)]
  decide

end IdentPortsL
open IdentPortsL

theorem num_bits {a : Int} (h2 : 0 ≤ a) (h3 : a < 65536) : Go.bits .and .u16 a 4095 = a % 4096 := Option.some.inj (num_is h2 h3)

theorem prio_bits {p l : Int} (h0 : 0 ≤ p) (h1 : p < 256) (h2 : 0 ≤ l) (h3 : l < 256) :
    ∃ q, Go.bits .or .u8 (Go.bits .and .u8 p 240) (Go.bits .and .u8 l 15) = q ∧ 0 ≤ q ∧ q < 256 ∧ q / 16 = p / 16 := by
  obtain ⟨P, rfl⟩ := Int.eq_ofNat_of_zero_le h0
  obtain ⟨L, rfl⟩ := Int.eq_ofNat_of_zero_le h2
  refine ⟨_, rfl, ?_⟩
  rw [show (240 : Int) = ((240 : Nat) : Int) from rfl, show (15 : Int) = ((15 : Nat) : Int) from rfl, u8_and_nat _ _ (by omega) (by omega), u8_and_nat _ _ (by omega) (by omega), nat_mask4]
  have e : P &&& 240 = P / 16 * 16 := by
    have h : ∀ P : Fin 256, P.val &&& 240 = P.val / 16 * 16 := by decide +kernel
    exact h ⟨P, by omega⟩
  rw [e, u8_or_nat _ _ (by omega) (by omega), nat_join 4 _ _ (by omega) (by omega)]
  omega

theorem IdentPorts : fordlaw02_IdentPorts.Pure := by
  intro p a b l hp ha hb hl
  have hp := bounds_u8 hp
  have ha := bounds_u16 ha
  have hb := bounds_u16 hb
  have hl := bounds_u8 hl
  refine ⟨3, ?_⟩
  unfold fordlaw02_IdentPorts.f
  obtain ⟨q, e, q0, q1, q2⟩ := prio_bits (p := p) (l := l) (by omega) (by omega) (by omega) (by omega)
  rw [awake_is 3 (by omega), port_is (a := p) (b := a) (by omega) (by omega) (by omega) (by omega) 3 (by omega), port_is (a := p) (b := b) (by omega) (by omega) (by omega) (by omega) 3 (by omega), num_bits (by omega) (by omega), num_bits (by omega) (by omega), e]
  simp only [Option.bind_some, if_true, IntKind.wrap_u16]
  rw [port_is (a := q) (b := a) (by omega) (by omega) (by omega) (by omega) 3 (by omega)]
  simp only [Option.bind_some]
  rw [if_pos (by rw [beq_iff_eq, decide_eq_decide]; omega), if_pos (by omega)]
  congr 1
  rw [beq_iff_eq]
  omega

end Go.Proofs.Ytbgpnjlmomapgaa.Pure
