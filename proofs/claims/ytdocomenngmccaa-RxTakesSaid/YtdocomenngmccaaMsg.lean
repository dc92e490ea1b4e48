/- A message that came in by value: its cells. No condition. -/
import Derived.Test.YtdocomenngmccaaOpen
import Derived.Test.YtdocomenngmccaaTake09
namespace Go.Proofs.Ytdocomenngmccaa.Br
open Go.RowKit Go.Deep Go.ChangeShapes Go.WideShapes
theorem flatM : flat Try.prog 5 35 = some [some .i64, none, none, none, none, none, none, some .i64, some .u64, some .u32, some .u64, some .u16, some .u16, some .i64, some .i64, some .i64, some .i64] := by kernel_rfl
section
variable {H : Type} {enc : TypeId × Value → H} {w : World} {base : Nat} {spare : Nat → Bool} {held : Bool}
theorem open_msg {v : Value} {d : DataW H} {p : List MemPlace} {rr : Reach} {b0 : Nat} (hv : Value.okWide Try.prog w rr b0 35 v) (h : DataW.Trod enc Try.prog w base spare held 35 v d p) :
    ∃ m, v = .agg (rowM m) := by
  obtain ⟨ca, rfl, hsz⟩ := okWide_struct Try.underlying35 hv
  obtain ⟨fuel, hf⟩ := h
  obtain ⟨cs, rfl⟩ : ∃ cs : List Value, ca = cs.toArray := ⟨ca.toList, by simp⟩
  have hF : Fits [some .i64, none, none, none, none, none, none, some .i64, some .u64, some .u32, some .u64, some .u16, some .u16, some .i64, some .i64, some .i64, some .i64] cs := flat_fits 5 flatM hf
  have hl : cs.length = 17 := hF.1.symm
  refine ⟨⟨fun j => (recOf cs).i (j - 51), fun j => (recOf cs).b (j - 51)⟩, ?_⟩
  congr 1
  apply Array.ext_getElem?
  intro j
  by_cases hj : j < 17
  · rw [List.getElem?_toArray]
    match j, hj with
    | 0, _ => exact fits_mk hF (j := 0) rfl
    | 1, _ => exact fits_mk hF (j := 1) rfl
    | 2, _ => exact fits_mk hF (j := 2) rfl
    | 3, _ => exact fits_mk hF (j := 3) rfl
    | 4, _ => exact fits_mk hF (j := 4) rfl
    | 5, _ => exact fits_mk hF (j := 5) rfl
    | 6, _ => exact fits_mk hF (j := 6) rfl
    | 7, _ => exact fits_mk hF (j := 7) rfl
    | 8, _ => exact fits_mk hF (j := 8) rfl
    | 9, _ => exact fits_mk hF (j := 9) rfl
    | 10, _ => exact fits_mk hF (j := 10) rfl
    | 11, _ => exact fits_mk hF (j := 11) rfl
    | 12, _ => exact fits_mk hF (j := 12) rfl
    | 13, _ => exact fits_mk hF (j := 13) rfl
    | 14, _ => exact fits_mk hF (j := 14) rfl
    | 15, _ => exact fits_mk hF (j := 15) rfl
    | 16, _ => exact fits_mk hF (j := 16) rfl
    | j + 17, h => exact absurd h (by omega)
  · rw [Array.getElem?_eq_none (by simp; omega), Array.getElem?_eq_none (by rw [rowM_size]; omega)]
end
end Go.Proofs.Ytdocomenngmccaa.Br
