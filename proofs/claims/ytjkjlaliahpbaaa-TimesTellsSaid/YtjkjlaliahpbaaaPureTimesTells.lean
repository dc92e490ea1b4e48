/- Law TimesTells of layer 4: whether any times may be, how long they are kept, and what they are with an age more, is as the document says; no condition. -/
import Derived.Test.YtjkjlaliahpbaaaPTimesTellsx4
import Derived.Laws.BitsAllLaws
import Derived.OpenShut
namespace Go.Proofs.Ytjkjlaliahpbaaa.Pure
open Go.RowKit Go.Proofs.Ytjkjlaliahpbaaa.PTimesTells Go.Proofs.YtjkjlaliahpbaaaW.PrintWords Go.Proofs.YtjkjlaliahpbaaaW.PrintLast

namespace TimesTellsL
theorem awake_is : fordlaw04_awake.f = some true := by decide +kernel

theorem to_is (a : Int) : times_To.f a = some ((if a < 0 then 0 else if 255 < a then 255 else a) * 256) := by
  unfold times_To.f mn mx
  congr 1
  split <;> split <;> (try split) <;> (try split) <;> omega

theorem from_is {x : Int} (h0 : 0 ≤ x) (h1 : x ≤ 65535) : times_From.f x = some ((x + 128) / 256) := by
  have e1 : wrap64 x = x := by unfold wrap64; omega
  have e2 : wrap64 (x + 128) = x + 128 := by unfold wrap64; omega
  have e3 : Int.tdiv (x + 128) 256 = (x + 128) / 256 := Int.tdiv_eq_ediv_of_nonneg (by omega)
  have e4 : wrap64 ((x + 128) / 256) = (x + 128) / 256 := by unfold wrap64; omega
  unfold times_From.f
  rw [e1, e2, e3, e4]

end TimesTellsL
open TimesTellsL

theorem clamp_eq {x lo hi : Int} (h : lo ≤ hi) : (x == mn (mx x lo) hi) = (decide (lo ≤ x) && decide (x ≤ hi)) := by
  unfold mn mx
  rw [Bool.eq_iff_iff, beq_iff_eq, Bool.and_eq_true, decide_eq_true_eq, decide_eq_true_eq]
  split <;> split <;> omega

theorem rights {a m h d : Int} : times_Right.f a m h d = fordref04_Right.f a m h d := by
  unfold times_Right.f times_clamped.f fordref04_Right.f
  simp only [Option.bind_some, clamp_eq (show (0 : Int) ≤ 255 from by omega), clamp_eq (show (6 : Int) ≤ 40 from by omega), clamp_eq (show (1 : Int) ≤ 10 from by omega), clamp_eq (show (4 : Int) ≤ 30 from by omega), Bool.and_eq_true, decide_eq_true_eq]
  by_cases c : (0 ≤ a ∧ a ≤ 255) ∧ (6 ≤ m ∧ m ≤ 40) ∧ (1 ≤ h ∧ h ≤ 10) ∧ 4 ≤ d ∧ d ≤ 30
  · rw [if_pos c]
    symm
    rw [if_neg (by omega), if_neg (by omega), if_neg (by omega), if_neg (by omega), if_neg (by omega), if_neg (by omega), if_neg (by omega), if_neg (by omega)]

  · rw [if_neg c]
    repeat' split
    all_goals first | rfl | (exfalso; omega)

theorem right_some (a m h d : Int) : ∃ r, fordref04_Right.f a m h d = some r := by
  unfold fordref04_Right.f
  repeat' split
  all_goals exact ⟨_, rfl⟩

theorem few_is (a m h d : Int) : fordref04_Few.f a m h d = some (decide ((0 ≤ a ∧ a ≤ 65535) ∧ (0 ≤ m ∧ m ≤ 65535) ∧ (0 ≤ h ∧ h ≤ 65535) ∧ 0 ≤ d ∧ d ≤ 65535)) := by
  unfold fordref04_Few.f
  repeat' split
  all_goals (congr 1; first | (rw [decide_eq_decide]; omega) | (symm; exact decide_eq_false (by omega)))

theorem TimesTells_pure (a m h d : Int) : fordlaw04_TimesTells.f a m h d = some true := by
  obtain ⟨r, hr⟩ := right_some a m h d
  unfold fordlaw04_TimesTells.f
  rw [awake_is, rights, hr, few_is]
  simp only [Option.bind_some, bne_self_eq_false, Bool.false_eq_true, if_false, if_true]
  split
  · rename_i c
    rw [decide_eq_true_eq] at c
    have e1 : wrap64 (a + 1) = a + 1 := by unfold wrap64; omega
    have e2 : wrap64 (3 * h) = 3 * h := by unfold wrap64; omega
    have e3 : wrap64 (h + h) = h + h := by unfold wrap64; omega
    have e4 : wrap64 (h + h + h) = 3 * h := by unfold wrap64; omega
    have hw : fordref04_Waits.f a m h d = times_Waits.f a m h d := by
      unfold fordref04_Waits.f times_Waits.f
      rw [e1, e2, e3, e4]
      split
      · rw [if_neg (by omega)]
      · rw [if_pos (by omega)]
    have hs : ∃ r, times_Waits.f a m h d = some r := by
      unfold times_Waits.f
      split <;> exact ⟨_, rfl⟩
    obtain ⟨r', hr'⟩ := hs
    rw [hw, hr']
    unfold times_Older.f
    simp only [Option.bind_some, if_true]
    simp
  · rfl

end Go.Proofs.Ytjkjlaliahpbaaa.Pure
