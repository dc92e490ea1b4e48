/- Law TimesParts of layer 4, as a plain statement over numbers: seconds in 256ths, and back, are as the document says; no condition. -/
import Derived.Test.YtjkjlaliahpbaaaPTimesPartsx3
import Derived.Laws.BitsAllLaws
import Derived.OpenShut
namespace Go.Proofs.Ytjkjlaliahpbaaa.Pure
open Go.RowKit Go.Proofs.Ytjkjlaliahpbaaa.PTimesParts Go.Proofs.YtjkjlaliahpbaaaW.PrintWords Go.Proofs.YtjkjlaliahpbaaaW.PrintLast

namespace TimesPartsL
theorem awake_is : fordlaw04_awake.f = some true := by decide +kernel

theorem to_is (a : Int) : times_To.f a = some ((if a < 0 then 0 else if 255 < a then 255 else a) * 256) := by
  unfold times_To.f mn mx
  congr 1
  split <;> split <;> (try split) <;> (try split) <;> omega

theorem from_is {x : Int} (h0 : 0 ≤ x) (h1 : x ≤ 65535) : times_From.f x = some ((x + 128) / 256) := by
  have e1 : wrap64 x = x := by unfold wrap64; omega
  have e2 : wrap64 (x + 128) = x + 128 := by unfold wrap64; omega
  have e3 : Int.tdiv (x + 128) 256 = (x + 128) / 256 := Int.tdiv_eq_ediv_of_nonneg (by omega)
  have e4 : wrap64 ((x + 128) / 256) = (x + 128) / 256 := by unfold wrap64; omega
  unfold times_From.f
  rw [e1, e2, e3, e4]

end TimesPartsL
open TimesPartsL

theorem TimesParts : fordlaw04_TimesParts.Pure := by
  intro s x hs hx
  have hx := bounds_u16 hx
  have t1 : Int.tmod x 256 = x % 256 := Int.tmod_eq_emod_of_nonneg (by omega)
  have t2 : Int.tdiv x 256 = x / 256 := Int.tdiv_eq_ediv_of_nonneg (by omega)
  have t3 : wrap64 (x / 256 % 65536) = x / 256 := by unfold wrap64; omega
  have t4 : wrap64 (x / 256 + 1) = x / 256 + 1 := by unfold wrap64; omega
  have hto : fordref04_To.f s = times_To.f s := by
    unfold fordref04_To.f
    rw [to_is]
    split
    · rfl
    · split
      · rfl
      · rw [IntKind.wrap_u16, IntKind.wrap_u16]
        congr 1
        omega
  have hfrom : fordref04_From.f x = some ((x + 128) / 256) := by
    unfold fordref04_From.f
    rw [t1, t2, IntKind.wrap_u16, t3, t4]
    split
    · congr 1
      omega
    · congr 1
      omega
  unfold fordlaw04_TimesParts.f
  rw [awake_is, hto, to_is, from_is hx.1 hx.2, hfrom]
  simp only [Option.bind_some, if_true]
  simp

end Go.Proofs.Ytjkjlaliahpbaaa.Pure
