/- Law TimesBack of layer 4, as a plain statement over numbers: seconds that are told in 256ths are told back; no condition. -/
import Derived.Test.YtjkjlaliahpbaaaPTimesBackx3
import Derived.Laws.BitsAllLaws
import Derived.OpenShut
namespace Go.Proofs.Ytjkjlaliahpbaaa.Pure
open Go.RowKit Go.Proofs.Ytjkjlaliahpbaaa.PTimesBack Go.Proofs.YtjkjlaliahpbaaaW.PrintWords Go.Proofs.YtjkjlaliahpbaaaW.PrintLast

namespace TimesBackL
theorem awake_is : fordlaw04_awake.f = some true := by decide +kernel

theorem to_is (a : Int) : times_To.f a = some ((if a < 0 then 0 else if 255 < a then 255 else a) * 256) := by
  unfold times_To.f mn mx
  congr 1
  split <;> split <;> (try split) <;> (try split) <;> omega

theorem from_is {x : Int} (h0 : 0 ≤ x) (h1 : x ≤ 65535) : times_From.f x = some ((x + 128) / 256) := by
  have e1 : wrap64 x = x := by unfold wrap64; omega
  have e2 : wrap64 (x + 128) = x + 128 := by unfold wrap64; omega
  have e3 : Int.tdiv (x + 128) 256 = (x + 128) / 256 := Int.tdiv_eq_ediv_of_nonneg (by omega)
  have e4 : wrap64 ((x + 128) / 256) = (x + 128) / 256 := by unfold wrap64; omega
  unfold times_From.f
  rw [e1, e2, e3, e4]

end TimesBackL
open TimesBackL

theorem TimesBack : fordlaw04_TimesBack.Pure := by
  intro s x hs hx
  have hx := bounds_u16 hx
  have hs := bounds_u8 hs
  refine ⟨1, ?_⟩
  unfold fordlaw04_TimesBack.f
  have e1 : wrap64 s = s := by unfold wrap64; omega
  have e2 : wrap64 x = x := by unfold wrap64; omega
  have e3 : wrap64 (256 * ((x + 128) / 256)) = 256 * ((x + 128) / 256) := by unfold wrap64; omega
  have e4 : wrap64 (256 * ((x + 128) / 256) - x) = 256 * ((x + 128) / 256) - x := by unfold wrap64; omega
  rw [awake_is, from_is hx.1 hx.2]
  simp only [Option.bind_some]
  rw [if_neg (by omega), show decide ((x + 128) / 256 > 256) = false from decide_eq_false (by omega)]
  simp only [fordlaw04_TimesBack.j0, e1, e2, e3, e4, to_is, Option.bind_some, Bool.false_eq_true, if_false, if_true]
  rw [if_neg (by omega), if_neg (by omega), from_is (by omega) (by omega)]
  simp only [Option.bind_some]
  rw [if_pos (by omega), if_pos (by omega), decide_eq_true (by omega)]

end Go.Proofs.Ytjkjlaliahpbaaa.Pure
