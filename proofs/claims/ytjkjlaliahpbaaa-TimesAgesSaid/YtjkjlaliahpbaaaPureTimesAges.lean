/- Law TimesAges of layer 4, as a plain statement over numbers: what grows older is kept as long, and then not at all; no condition. -/
import Derived.Test.YtjkjlaliahpbaaaPTimesAgesx3
import Derived.Laws.BitsAllLaws
import Derived.OpenShut
namespace Go.Proofs.Ytjkjlaliahpbaaa.Pure
open Go.RowKit Go.Proofs.Ytjkjlaliahpbaaa.PTimesAges Go.Proofs.YtjkjlaliahpbaaaW.PrintWords Go.Proofs.YtjkjlaliahpbaaaW.PrintLast

namespace TimesAgesL
theorem awake_is : fordlaw04_awake.f = some true := by decide +kernel

theorem to_is (a : Int) : times_To.f a = some ((if a < 0 then 0 else if 255 < a then 255 else a) * 256) := by
  unfold times_To.f mn mx
  congr 1
  split <;> split <;> (try split) <;> (try split) <;> omega

theorem from_is {x : Int} (h0 : 0 ≤ x) (h1 : x ≤ 65535) : times_From.f x = some ((x + 128) / 256) := by
  have e1 : wrap64 x = x := by unfold wrap64; omega
  have e2 : wrap64 (x + 128) = x + 128 := by unfold wrap64; omega
  have e3 : Int.tdiv (x + 128) 256 = (x + 128) / 256 := Int.tdiv_eq_ediv_of_nonneg (by omega)
  have e4 : wrap64 ((x + 128) / 256) = (x + 128) / 256 := by unfold wrap64; omega
  unfold times_From.f
  rw [e1, e2, e3, e4]

end TimesAgesL
open TimesAgesL

theorem older_is {a m h d : Int} (h0 : 0 ≤ a) (h1 : a < 100000) : times_Older.f a m h d = some (a + 1, m, h, d) := by
  unfold times_Older.f
  rw [show wrap64 (a + 1) = a + 1 from by unfold wrap64; omega]

theorem waits_is {a m h d : Int} (h0 : 0 ≤ a) (h1 : a < 100000) (h2 : 0 ≤ h) (h3 : h ≤ 255) : times_Waits.f a m h d = some (if a + 1 > m then 0 else 3 * h) := by
  unfold times_Waits.f
  rw [show wrap64 (a + 1) = a + 1 from by unfold wrap64; omega, show wrap64 (3 * h) = 3 * h from by unfold wrap64; omega]
  split <;> rfl

theorem loop_is {g t h b : Int} (hg : 0 ≤ g ∧ g ≤ 255) (ht : 0 ≤ t ∧ t ≤ 255) (hh : 0 ≤ h ∧ h ≤ 255) (hb : 0 ≤ b ∧ b ≤ 255) (d : Nat) : ∀ (i : Int), 0 ≤ i → b - i = d →
    fordlaw04_TimesAges.l0 (d + 1) g t h b true (if g + 1 > t then 0 else 3 * h) i (g + i) t h 15 = some true := by
  have e1 : wrap64 b = b := by unfold wrap64; omega
  have e2 : wrap64 g = g := by unfold wrap64; omega
  have e4 : wrap64 t = t := by unfold wrap64; omega
  have e3 : wrap64 (g + b) = g + b := by unfold wrap64; omega
  induction d with
  | zero =>
    intro i hi hd
    have : i = b := by omega
    subst this
    rw [fordlaw04_TimesAges.l0, e1, e2, e3, e4, if_neg (by omega), waits_is (by omega) (by omega) hh.1 hh.2]
    simp only [Option.bind_some, if_true]
    by_cases c1 : g + i + 1 > t
    · rw [if_pos c1]
      by_cases c2 : g + 1 > t
      · rw [if_pos c2, if_pos rfl, decide_eq_false (by omega : ¬ (0 : Int) > 0), decide_eq_false (by omega : ¬ g + i < t)]
        split <;> rfl
      · rw [if_neg c2]
        by_cases c3 : h > 0
        · rw [if_neg (by omega), if_pos rfl, if_pos c3, decide_eq_false (by omega : ¬ (0 : Int) > 0), decide_eq_false (by omega : ¬ g + i < t)]
          rfl
        · rw [if_pos (by omega), if_neg c3, decide_eq_false (by omega : ¬ (0 : Int) > 0)]
          rfl
    · have c2 : ¬ g + 1 > t := by omega
      rw [if_neg c1, if_neg c2, if_pos rfl]
      by_cases c3 : h > 0
      · rw [if_pos c3, decide_eq_true (by omega : 3 * h > 0), decide_eq_true (by omega : g + i < t)]
        rfl
      · rw [if_neg c3, decide_eq_false (by omega : ¬ 3 * h > 0)]
        rfl
  | succ d ih =>
    intro i hi hd
    rw [fordlaw04_TimesAges.l0, e1, if_pos (by omega), older_is (by omega) (by omega)]
    simp only [Option.bind_some]
    rw [show wrap64 (i + 1) = i + 1 from by unfold wrap64; omega, show g + i + 1 = g + (i + 1) from by omega]
    exact ih (i + 1) (by omega) (by omega)

theorem TimesAges : fordlaw04_TimesAges.Pure := by
  intro g t h b hg ht hh hb
  have hg := bounds_u8 hg
  have ht := bounds_u8 ht
  have hh := bounds_u8 hh
  have hb := bounds_u8 hb
  have e1 : wrap64 g = g := by unfold wrap64; omega
  have e2 : wrap64 t = t := by unfold wrap64; omega
  have e3 : wrap64 h = h := by unfold wrap64; omega
  refine ⟨b.toNat + 1, ?_⟩
  unfold fordlaw04_TimesAges.f
  rw [awake_is, e1, e2, e3, waits_is hg.1 (by omega) hh.1 hh.2]
  simp only [Option.bind_some]
  have l := loop_is hg ht hh hb b.toNat 0 (by omega) (by omega)
  rw [Int.add_zero] at l
  exact l

end Go.Proofs.Ytjkjlaliahpbaaa.Pure
