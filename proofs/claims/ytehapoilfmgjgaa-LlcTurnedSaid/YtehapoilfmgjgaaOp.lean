/- Chapter 6: what any bytes are as a frame (ford/llc.Open), as the plain function. Conditions: the bytes can be read; there aren't very many. -/
import Derived.Test.YtehapoilfmgjgaaOpp
import Derived.StillTailTactics
set_option linter.unusedSimpArgs false
set_option linter.unusedVariables false
namespace Go.Proofs.Ytehapoilfmgjgaa.Oct
open Go.RowKit
theorem View.moved {w : World} {g o n k d : Nat} {F : Nat → Value} (h : View w (some ⟨g, o, none⟩) 1 n (fun j _ => F j)) (hk : d + k ≤ n) : View w (some ⟨g, o + d, none⟩) 1 k (fun j _ => F (d + j)) := by
  rcases h with h | ⟨g', o', ha, hc⟩
  · exact .inl (by omega)
  · injection ha with ha
    injection ha with h1 h2
    subst h1
    subst h2
    refine .inr ⟨_, _, rfl, fun j hj q hq => ?_⟩
    obtain rfl : q = 0 := by omega
    have := hc (d + j) (by omega) 0 (by omega)
    simp only [Nat.mul_one, Nat.add_zero] at this ⊢
    rw [Nat.add_assoc]
    exact this
def OpenTells (f : Nat → Int) (n : Nat) (w : World) (e : Ending) (w' : World) : Prop := e = .returned (.tuple #[.int .u64 (openP f n).1, .agg (rowM (openP f n).2.1), .int .i64 (openP f n).2.2]) ∧ Below w.heap.size w w'
theorem OpenTells.mk {f : Nat → Int} {n : Nat} {w w' : World} {s : Int} {m : Msg} {x : Int} (h : openP f n = (s, m, x)) (hb : Below w.heap.size w w') : OpenTells f n w (.returned (.tuple #[.int .u64 s, .agg (rowM m), .int .i64 x])) w' := ⟨by rw [h], hb⟩
attribute [local go_sem] zeroM bldZ
set_option maxRecDepth 100000 in
set_option maxHeartbeats 16000000 in
theorem open_any_frame (w : World) (a : Option Addr) (n c : Nat) (f : Nat → Int) (hv : View w a 1 n (fun j _ => .int .u8 (f j))) (hb : ∀ j, j < n → 0 ≤ f j ∧ f j ≤ 255) (hnil : a = none → n = 0 ∧ c = 0) (hn : n ≤ 100000) (hc : n ≤ c ∧ c ≤ maxLen) :
    Calls Try.prog 11 #[.slice a n c] w (OpenTells f n w) := by
  have HV := Lib.hid (hv.below (more (Below.refl _ _) (.cells (rowM zeroMsg) 30)))
  have HB := Lib.hid hb
  have HV0 := Lib.hid hv
  have HNIL := Lib.hid hnil
  have HC := Lib.hid hc
  clear hv hb hnil hc
  go_enter Try.func11, Try.ntmps11
  go_wp2_with fail
  refine (new_any _ a n c f HV.out HB.out HNIL.out hn).mono ?_
  rintro e w3 ⟨rg, rfl, hrg, hr3, hb3⟩
  obtain ⟨gr, hgr⟩ : ∃ x, x = w.heap.size := ⟨_, rfl⟩
  have hrg' : gr + 1 ≤ rg := by simp at hrg; omega
  have HG3 := Lib.hid (show w3.heap[gr]? = some (.cells (rowM zeroMsg) 30 (0, 0)) by rw [hgr]; exact (hb3.block _ (by simp)).trans (at_new rfl))
  have HW3 := Lib.hid (show Below gr w w3 by rw [hgr]; exact (more (Below.refl _ _) _).trans (hb3.mono (by simp)))
  have HR3 := Lib.hid (show Rd w3 rg n (fun j => f (0 + j)) false by simpa using hr3)
  have ngr : ¬ gr = rg := by omega
  rw [← hgr]
  have HGR := Lib.hid hgr
  clear hrg hr3 hb3 hgr HV
  go_wp2_with fail
  by_cases h6 : n < 6
  · refine (take_few w3 rg (n) 6 _ HR3.out (by omega) (by omega)).mono ?_
    rintro e w4 ⟨rfl, hr, ho⟩
    have HR4 := Lib.hid (hr f)
    have HG4 := Lib.hid ((ho.block _ (Array.getElem?_eq_some_iff.1 HG3.out).1 ngr).trans HG3.out)
    have HW4 := Lib.hid (HW3.out.trans (ho.below (B := gr) (by have := HW3.out.size; have := HGR.out; omega) (fun x hx => by omega)))
    clear hr ho HR3 HG3 HW3
    go_wp2_with fail
    refine (take_no w4 rg _ true 6 f HR4.out (Or.inl rfl)).mono ?_
    rintro e wx ⟨rfl, hwx⟩
    have hwx := hwx.symm
    subst hwx
    go_wp2_with fail
    refine (take_no w4 rg _ true 2 f HR4.out (Or.inl rfl)).mono ?_
    rintro e wx ⟨rfl, hwx⟩
    have hwx := hwx.symm
    subst hwx
    go_wp2_with fail
    refine (take_no w4 rg _ true 3 f HR4.out (Or.inl rfl)).mono ?_
    rintro e wx ⟨rfl, hwx⟩
    have hwx := hwx.symm
    subst hwx
    go_wp2_with fail
    refine (short_any w4 rg _ true _ HR4.out).mono ?_
    rintro e wx ⟨rfl, hwx⟩
    have hwx := hwx.symm
    subst hwx
    go_wp2_with (first | (refine wpList_store_row rfl 30 _ _ rfl gr (rowM zeroMsg) rfl rfl 30 (rowM zeroMsg) HG4.out (sizeM _) rfl (rowM_one _) ?_; simp only [Act.put, List.setIfInBounds_toArray, List.set_cons_zero, List.set_cons_succ]) | fail)
    refine bodyPost_ret (results_tmp_row_tmp rfl _ _ gr 30 (rowM zeroMsg) (0, 0) _ rfl (setRow_heap _ _ (rowM zeroMsg) _ _ _ HG4.out) Try.underlying30 rfl (sizeM _)) rfl ?_
    exact OpenTells.mk (s := 0) (m := zeroMsg) (x := 2) (by unfold openP; rw [if_pos (by omega)]) (by rw [← HGR.out]; exact Below.setRow HW4.out (Nat.le_refl _))
  by_cases h12 : n < 12
  · refine (take_at w3 rg (n) 6 0 6 f HR3.out (by omega) (by omega) rfl).mono ?_
    rintro e w4 ⟨rfl, hr, ho⟩
    have HR4 := Lib.hid hr
    have HG4 := Lib.hid ((ho.block _ (Array.getElem?_eq_some_iff.1 HG3.out).1 ngr).trans HG3.out)
    have HW4 := Lib.hid (HW3.out.trans (ho.below (B := gr) (by have := HW3.out.size; have := HGR.out; omega) (fun x hx => by omega)))
    clear hr ho HR3 HG3 HW3
    go_wp2_with fail
    refine (take_few w4 rg (n - 6) 6 _ HR4.out (by omega) (by omega)).mono ?_
    rintro e w5 ⟨rfl, hr, ho⟩
    have HR5 := Lib.hid (hr f)
    have HG5 := Lib.hid ((ho.block _ (Array.getElem?_eq_some_iff.1 HG4.out).1 ngr).trans HG4.out)
    have HW5 := Lib.hid (HW4.out.trans (ho.below (B := gr) (by have := HW4.out.size; have := HGR.out; omega) (fun x hx => by omega)))
    clear hr ho HR4 HG4 HW4
    go_wp2_with fail
    refine (take_no w5 rg _ true 2 f HR5.out (Or.inl rfl)).mono ?_
    rintro e wx ⟨rfl, hwx⟩
    have hwx := hwx.symm
    subst hwx
    go_wp2_with fail
    refine (take_no w5 rg _ true 3 f HR5.out (Or.inl rfl)).mono ?_
    rintro e wx ⟨rfl, hwx⟩
    have hwx := hwx.symm
    subst hwx
    go_wp2_with fail
    refine (short_any w5 rg _ true _ HR5.out).mono ?_
    rintro e wx ⟨rfl, hwx⟩
    have hwx := hwx.symm
    subst hwx
    go_wp2_with (first | (refine wpList_store_row rfl 30 _ _ rfl gr (rowM zeroMsg) rfl rfl 30 (rowM zeroMsg) HG5.out (sizeM _) rfl (rowM_one _) ?_; simp only [Act.put, List.setIfInBounds_toArray, List.set_cons_zero, List.set_cons_succ]) | fail)
    refine bodyPost_ret (results_tmp_row_tmp rfl _ _ gr 30 (rowM zeroMsg) (0, 0) _ rfl (setRow_heap _ _ (rowM zeroMsg) _ _ _ HG5.out) Try.underlying30 rfl (sizeM _)) rfl ?_
    exact OpenTells.mk (s := 0) (m := zeroMsg) (x := 2) (by unfold openP; rw [if_pos (by omega)]) (by rw [← HGR.out]; exact Below.setRow HW5.out (Nat.le_refl _))
  by_cases h14 : n < 14
  · refine (take_at w3 rg (n) 6 0 6 f HR3.out (by omega) (by omega) rfl).mono ?_
    rintro e w4 ⟨rfl, hr, ho⟩
    have HR4 := Lib.hid hr
    have HG4 := Lib.hid ((ho.block _ (Array.getElem?_eq_some_iff.1 HG3.out).1 ngr).trans HG3.out)
    have HW4 := Lib.hid (HW3.out.trans (ho.below (B := gr) (by have := HW3.out.size; have := HGR.out; omega) (fun x hx => by omega)))
    clear hr ho HR3 HG3 HW3
    go_wp2_with fail
    refine (take_at w4 rg (n - 6) 6 6 12 f HR4.out (by omega) (by omega) rfl).mono ?_
    rintro e w5 ⟨rfl, hr, ho⟩
    have HR5 := Lib.hid hr
    have HG5 := Lib.hid ((ho.block _ (Array.getElem?_eq_some_iff.1 HG4.out).1 ngr).trans HG4.out)
    have HW5 := Lib.hid (HW4.out.trans (ho.below (B := gr) (by have := HW4.out.size; have := HGR.out; omega) (fun x hx => by omega)))
    clear hr ho HR4 HG4 HW4
    go_wp2_with fail
    refine (take_few w5 rg (n - 6 - 6) 2 _ HR5.out (by omega) (by omega)).mono ?_
    rintro e w6 ⟨rfl, hr, ho⟩
    have HR6 := Lib.hid (hr f)
    have HG6 := Lib.hid ((ho.block _ (Array.getElem?_eq_some_iff.1 HG5.out).1 ngr).trans HG5.out)
    have HW6 := Lib.hid (HW5.out.trans (ho.below (B := gr) (by have := HW5.out.size; have := HGR.out; omega) (fun x hx => by omega)))
    clear hr ho HR5 HG5 HW5
    go_wp2_with fail
    refine (take_no w6 rg _ true 3 f HR6.out (Or.inl rfl)).mono ?_
    rintro e wx ⟨rfl, hwx⟩
    have hwx := hwx.symm
    subst hwx
    go_wp2_with fail
    refine (short_any w6 rg _ true _ HR6.out).mono ?_
    rintro e wx ⟨rfl, hwx⟩
    have hwx := hwx.symm
    subst hwx
    go_wp2_with (first | (refine wpList_store_row rfl 30 _ _ rfl gr (rowM zeroMsg) rfl rfl 30 (rowM zeroMsg) HG6.out (sizeM _) rfl (rowM_one _) ?_; simp only [Act.put, List.setIfInBounds_toArray, List.set_cons_zero, List.set_cons_succ]) | fail)
    refine bodyPost_ret (results_tmp_row_tmp rfl _ _ gr 30 (rowM zeroMsg) (0, 0) _ rfl (setRow_heap _ _ (rowM zeroMsg) _ _ _ HG6.out) Try.underlying30 rfl (sizeM _)) rfl ?_
    exact OpenTells.mk (s := 0) (m := zeroMsg) (x := 2) (by unfold openP; rw [if_pos (by omega)]) (by rw [← HGR.out]; exact Below.setRow HW6.out (Nat.le_refl _))
  by_cases h17 : n < 17
  · have wcv : IntKind.i64.wrap (numAt f 12 2) = numAt f 12 2 := by have := numAt_in HB.out 12 2 (by omega); unfold IntKind.wrap; simp [IntKind.signed, IntKind.bits]; omega
    refine (take_at w3 rg (n) 6 0 6 f HR3.out (by omega) (by omega) rfl).mono ?_
    rintro e w4 ⟨rfl, hr, ho⟩
    have HR4 := Lib.hid hr
    have HG4 := Lib.hid ((ho.block _ (Array.getElem?_eq_some_iff.1 HG3.out).1 ngr).trans HG3.out)
    have HW4 := Lib.hid (HW3.out.trans (ho.below (B := gr) (by have := HW3.out.size; have := HGR.out; omega) (fun x hx => by omega)))
    clear hr ho HR3 HG3 HW3
    go_wp2_with fail
    refine (take_at w4 rg (n - 6) 6 6 12 f HR4.out (by omega) (by omega) rfl).mono ?_
    rintro e w5 ⟨rfl, hr, ho⟩
    have HR5 := Lib.hid hr
    have HG5 := Lib.hid ((ho.block _ (Array.getElem?_eq_some_iff.1 HG4.out).1 ngr).trans HG4.out)
    have HW5 := Lib.hid (HW4.out.trans (ho.below (B := gr) (by have := HW4.out.size; have := HGR.out; omega) (fun x hx => by omega)))
    clear hr ho HR4 HG4 HW4
    go_wp2_with fail
    refine (take_at w5 rg (n - 6 - 6) 2 12 14 f HR5.out (by omega) (by omega) rfl).mono ?_
    rintro e w6 ⟨rfl, hr, ho⟩
    have HR6 := Lib.hid hr
    have HG6 := Lib.hid ((ho.block _ (Array.getElem?_eq_some_iff.1 HG5.out).1 ngr).trans HG5.out)
    have HW6 := Lib.hid (HW5.out.trans (ho.below (B := gr) (by have := HW5.out.size; have := HGR.out; omega) (fun x hx => by omega)))
    clear hr ho HR5 HG5 HW5
    go_wp2_with fail
    refine (take_few w6 rg (n - 6 - 6 - 2) 3 _ HR6.out (by omega) (by omega)).mono ?_
    rintro e w7 ⟨rfl, hr, ho⟩
    have HR7 := Lib.hid (hr f)
    have HG7 := Lib.hid ((ho.block _ (Array.getElem?_eq_some_iff.1 HG6.out).1 ngr).trans HG6.out)
    have HW7 := Lib.hid (HW6.out.trans (ho.below (B := gr) (by have := HW6.out.size; have := HGR.out; omega) (fun x hx => by omega)))
    clear hr ho HR6 HG6 HW6
    go_wp2_with fail
    refine (short_any w7 rg _ true _ HR7.out).mono ?_
    rintro e wx ⟨rfl, hwx⟩
    have hwx := hwx.symm
    subst hwx
    go_wp2_with (first | (refine wpList_store_row rfl 30 _ _ rfl gr (rowM zeroMsg) rfl rfl 30 (rowM zeroMsg) HG7.out (sizeM _) rfl (rowM_one _) ?_; simp only [Act.put, List.setIfInBounds_toArray, List.set_cons_zero, List.set_cons_succ]) | fail)
    refine bodyPost_ret (results_tmp_row_tmp rfl _ _ gr 30 (rowM zeroMsg) (0, 0) _ rfl (setRow_heap _ _ (rowM zeroMsg) _ _ _ HG7.out) Try.underlying30 rfl (sizeM _)) rfl ?_
    exact OpenTells.mk (s := 0) (m := zeroMsg) (x := 2) (by unfold openP; rw [if_pos (by omega)]) (by rw [← HGR.out]; exact Below.setRow HW7.out (Nat.le_refl _))
  have wcv : IntKind.i64.wrap (numAt f 12 2) = numAt f 12 2 := by have := numAt_in HB.out 12 2 (by omega); unfold IntKind.wrap; simp [IntKind.signed, IntKind.bits]; omega
  refine (take_at w3 rg (n) 6 0 6 f HR3.out (by omega) (by omega) rfl).mono ?_
  rintro e w4 ⟨rfl, hr, ho⟩
  have HR4 := Lib.hid hr
  have HG4 := Lib.hid ((ho.block _ (Array.getElem?_eq_some_iff.1 HG3.out).1 ngr).trans HG3.out)
  have HW4 := Lib.hid (HW3.out.trans (ho.below (B := gr) (by have := HW3.out.size; have := HGR.out; omega) (fun x hx => by omega)))
  clear hr ho HR3 HG3 HW3
  go_wp2_with fail
  refine (take_at w4 rg (n - 6) 6 6 12 f HR4.out (by omega) (by omega) rfl).mono ?_
  rintro e w5 ⟨rfl, hr, ho⟩
  have HR5 := Lib.hid hr
  have HG5 := Lib.hid ((ho.block _ (Array.getElem?_eq_some_iff.1 HG4.out).1 ngr).trans HG4.out)
  have HW5 := Lib.hid (HW4.out.trans (ho.below (B := gr) (by have := HW4.out.size; have := HGR.out; omega) (fun x hx => by omega)))
  clear hr ho HR4 HG4 HW4
  go_wp2_with fail
  refine (take_at w5 rg (n - 6 - 6) 2 12 14 f HR5.out (by omega) (by omega) rfl).mono ?_
  rintro e w6 ⟨rfl, hr, ho⟩
  have HR6 := Lib.hid hr
  have HG6 := Lib.hid ((ho.block _ (Array.getElem?_eq_some_iff.1 HG5.out).1 ngr).trans HG5.out)
  have HW6 := Lib.hid (HW5.out.trans (ho.below (B := gr) (by have := HW5.out.size; have := HGR.out; omega) (fun x hx => by omega)))
  clear hr ho HR5 HG5 HW5
  go_wp2_with fail
  refine (take_at w6 rg (n - 6 - 6 - 2) 3 14 17 f HR6.out (by omega) (by omega) rfl).mono ?_
  rintro e w7 ⟨rfl, hr, ho⟩
  have HR7 := Lib.hid hr
  have HG7 := Lib.hid ((ho.block _ (Array.getElem?_eq_some_iff.1 HG6.out).1 ngr).trans HG6.out)
  have HW7 := Lib.hid (HW6.out.trans (ho.below (B := gr) (by have := HW6.out.size; have := HGR.out; omega) (fun x hx => by omega)))
  clear hr ho HR6 HG6 HW6
  go_wp2_with fail
  refine (short_any w7 rg _ false _ HR7.out).mono ?_
  rintro e wx ⟨rfl, hwx⟩
  have hwx := hwx.symm
  subst hwx
  have wn : IntKind.i64.wrap ((n : Int) - 14) = (n : Int) - 14 := by unfold IntKind.wrap; simp [IntKind.signed, IntKind.bits]; omega
  by_cases hb1 : numAt f 0 6 ≠ 1652522221568
  · have HBAD := Lib.hid (show numAt f 0 6 ≠ 1652522221568 ∨ numAt f 14 3 ≠ 4342275 ∨ numAt f 12 2 < 3 ∨ (n : Int) - 14 < numAt f 12 2 from .inl hb1)
    have d1 : (numAt f 0 6 != 1652522221568) = true := by simpa using hb1
    clear hb1
    go_wp2_with (first | (refine wpList_store_row rfl 30 _ _ rfl gr (rowM zeroMsg) rfl rfl 30 (rowM zeroMsg) HG7.out (sizeM _) rfl (rowM_one _) ?_; simp only [Act.put, List.setIfInBounds_toArray, List.set_cons_zero, List.set_cons_succ]) | fail)
    refine bodyPost_ret (results_tmp_row_tmp rfl _ _ gr 30 (rowM zeroMsg) (0, 0) _ rfl (setRow_heap _ _ (rowM zeroMsg) _ _ _ HG7.out) Try.underlying30 rfl (sizeM _)) rfl ?_
    exact OpenTells.mk (s := 0) (m := zeroMsg) (x := 3) (by unfold openP; rw [if_neg h17, if_pos HBAD.out]) (by rw [← HGR.out]; exact Below.setRow HW7.out (Nat.le_refl _))
  have d1 : (numAt f 0 6 != 1652522221568) = false := by simpa using hb1
  by_cases hb2 : numAt f 14 3 ≠ 4342275
  · have HBAD := Lib.hid (show numAt f 0 6 ≠ 1652522221568 ∨ numAt f 14 3 ≠ 4342275 ∨ numAt f 12 2 < 3 ∨ (n : Int) - 14 < numAt f 12 2 from .inr (.inl hb2))
    have d2 : (numAt f 14 3 != 4342275) = true := by simpa using hb2
    clear hb1 hb2
    go_wp2_with (first | (refine wpList_store_row rfl 30 _ _ rfl gr (rowM zeroMsg) rfl rfl 30 (rowM zeroMsg) HG7.out (sizeM _) rfl (rowM_one _) ?_; simp only [Act.put, List.setIfInBounds_toArray, List.set_cons_zero, List.set_cons_succ]) | fail)
    refine bodyPost_ret (results_tmp_row_tmp rfl _ _ gr 30 (rowM zeroMsg) (0, 0) _ rfl (setRow_heap _ _ (rowM zeroMsg) _ _ _ HG7.out) Try.underlying30 rfl (sizeM _)) rfl ?_
    exact OpenTells.mk (s := 0) (m := zeroMsg) (x := 3) (by unfold openP; rw [if_neg h17, if_pos HBAD.out]) (by rw [← HGR.out]; exact Below.setRow HW7.out (Nat.le_refl _))
  have d2 : (numAt f 14 3 != 4342275) = false := by simpa using hb2
  by_cases hb3 : numAt f 12 2 < 3
  · have HBAD := Lib.hid (show numAt f 0 6 ≠ 1652522221568 ∨ numAt f 14 3 ≠ 4342275 ∨ numAt f 12 2 < 3 ∨ (n : Int) - 14 < numAt f 12 2 from .inr (.inr (.inl hb3)))
    have d3 : decide (numAt f 12 2 < 3) = true := decide_eq_true hb3
    clear hb1 hb2 hb3
    go_wp2_with (first | (refine wpList_store_row rfl 30 _ _ rfl gr (rowM zeroMsg) rfl rfl 30 (rowM zeroMsg) HG7.out (sizeM _) rfl (rowM_one _) ?_; simp only [Act.put, List.setIfInBounds_toArray, List.set_cons_zero, List.set_cons_succ]) | fail)
    refine bodyPost_ret (results_tmp_row_tmp rfl _ _ gr 30 (rowM zeroMsg) (0, 0) _ rfl (setRow_heap _ _ (rowM zeroMsg) _ _ _ HG7.out) Try.underlying30 rfl (sizeM _)) rfl ?_
    exact OpenTells.mk (s := 0) (m := zeroMsg) (x := 3) (by unfold openP; rw [if_neg h17, if_pos HBAD.out]) (by rw [← HGR.out]; exact Below.setRow HW7.out (Nat.le_refl _))
  have d3 : decide (numAt f 12 2 < 3) = false := decide_eq_false hb3
  by_cases hb4 : (n : Int) - 14 < numAt f 12 2
  · have HBAD := Lib.hid (show numAt f 0 6 ≠ 1652522221568 ∨ numAt f 14 3 ≠ 4342275 ∨ numAt f 12 2 < 3 ∨ (n : Int) - 14 < numAt f 12 2 from .inr (.inr (.inr hb4)))
    have d4 : decide ((n : Int) - 14 < numAt f 12 2) = true := decide_eq_true hb4
    clear hb1 hb2 hb3 hb4
    go_wp2_with (first | (refine wpList_store_row rfl 30 _ _ rfl gr (rowM zeroMsg) rfl rfl 30 (rowM zeroMsg) HG7.out (sizeM _) rfl (rowM_one _) ?_; simp only [Act.put, List.setIfInBounds_toArray, List.set_cons_zero, List.set_cons_succ]) | fail)
    refine bodyPost_ret (results_tmp_row_tmp rfl _ _ gr 30 (rowM zeroMsg) (0, 0) _ rfl (setRow_heap _ _ (rowM zeroMsg) _ _ _ HG7.out) Try.underlying30 rfl (sizeM _)) rfl ?_
    exact OpenTells.mk (s := 0) (m := zeroMsg) (x := 3) (by unfold openP; rw [if_neg h17, if_pos HBAD.out]) (by rw [← HGR.out]; exact Below.setRow HW7.out (Nat.le_refl _))
  have d4 : decide ((n : Int) - 14 < numAt f 12 2) = false := decide_eq_false hb4
  obtain ⟨z, hz⟩ : ∃ z : Nat, numAt f 12 2 = (z : Int) := Int.eq_ofNat_of_zero_le (by omega)
  have HZ := Lib.hid hz
  have HP := Lib.hid (show ¬ (numAt f 0 6 ≠ 1652522221568 ∨ numAt f 14 3 ≠ 4342275 ∨ numAt f 12 2 < 3 ∨ (n : Int) - 14 < numAt f 12 2) by omega)
  rw [hz] at hb3 hb4 d3 d4 wcv ⊢
  have we : IntKind.i64.wrap (14 + (z : Int)) = (14 + z : Nat) := by unfold IntKind.wrap; simp [IntKind.signed, IntKind.bits]; omega
  have hcc := HC.out
  have q1 : 17 ≤ 14 + z := by omega
  have q2 : 14 + z ≤ c := by omega
  clear hb1 hb2 hz
  obtain ⟨k, hk⟩ : ∃ k, k = z - 3 := ⟨_, rfl⟩
  obtain ⟨x, ex, hd⟩ : ∃ x e, decP (fun j => f (17 + j)) k = (x, e) := ⟨_, _, rfl⟩
  have HD := Lib.hid hd
  clear hd
  have HKZ := Lib.hid hk
  obtain ⟨g, o, rfl⟩ : ∃ g o, a = some ⟨g, o, none⟩ := by
    rcases HV0.out with h | ⟨g, o, h, _⟩
    · omega
    · exact ⟨g, o, h⟩
  have HVM := Lib.hid (show View w7 (some ⟨g, o + 17, none⟩) 1 k (fun j _ => .int .u8 (f (17 + j))) from View.moved (F := fun j => .int .u8 (f j)) (HV0.out.below (by rw [← HGR.out]; exact HW7.out)) (by omega))
  have HBM := Lib.hid (show ∀ j, j < k → 0 ≤ f (17 + j) ∧ f (17 + j) ≤ 255 from fun j hj => HB.out _ (by omega))
  have hk0 : k ≤ 100000 := by omega
  have HOP := Lib.hid (show openP f n = if ex = 0 then (numAt f 6 6, x, 0) else (0, zeroMsg, ex) by unfold openP; rw [if_neg h17, if_neg HP.out, HZ.out, show ((z : Int) - 3).toNat = k by omega, HD.out])
  by_cases h3 : z = 3
  · subst h3
    obtain rfl : k = 0 := by omega
    go_wp2_with fail
    refine (dec_any w7 (some ⟨g, o, none⟩) 0 0 (fun j => f (17 + j)) (.inl rfl) HBM.out (fun h => by cases h) hk0).mono ?_
    rintro e w8 ⟨rfl, hb8⟩
    rw [HD.out]
    have HG8 := Lib.hid ((hb8.block _ (Array.getElem?_eq_some_iff.1 HG7.out).1).trans HG7.out)
    have HW8 := Lib.hid (HW7.out.trans (hb8.mono (by have := HW7.out.size; have := HGR.out; omega)))
    clear hb8 HG7 HW7 HR7
    go_upto_region 9 with (first | (refine wpList_store_row rfl 30 _ _ rfl gr (rowM x) rfl rfl 30 (rowM zeroMsg) HG8.out (sizeM _) rfl (rowM_one _) ?_; simp only [Act.put, List.setIfInBounds_toArray, List.set_cons_zero, List.set_cons_succ]) | fail)
    refine ((?_ : ∀ y, y = w8.setRow gr (rowM x) → Code.wp _ _ _ _ y) _ rfl)
    intro w9 hw9
    have HG9 := Lib.hid (show w9.heap[gr]? = some (.cells (rowM x) 30 (0, 0)) by rw [hw9]; exact setRow_heap _ _ (rowM zeroMsg) _ _ _ HG8.out)
    have HW9 := Lib.hid (show Below gr w w9 by rw [hw9]; exact Below.setRow HW8.out (Nat.le_refl _))
    clear hw9 HG8 HW8
    by_cases he : ex = 0
    · subst he
      go_wp2_with fail
      go_still_tail 3, (by kernel_rfl)
      refine wpStill_val (by kernel_rfl) _ (exec_row _ rfl gr rfl x HG9.out) ?_
      simp only [Act.put, List.setIfInBounds_toArray, List.set_cons_zero, List.set_cons_succ]
      repeat still_step
      refine wpStill_nil ?_
      refine ((?_ : ∀ y, y = w9.drew → wpList _ _ _ _ _ y) _ rfl)
      intro wa hwa
      have HGa := Lib.hid (show wa.heap[gr]? = some (.cells (rowM x) 30 (0, 0)) by rw [hwa]; exact HG9.out)
      have HWa := Lib.hid (show Below gr w wa by rw [hwa]; exact HW9.out.drew)
      clear hwa
      go_wp2_with (first | (refine wpList_store_row rfl 30 _ _ rfl gr (rowM x) rfl rfl 30 (rowM x) HGa.out (sizeM _) rfl (rowM_one _) ?_; simp only [Act.put, List.setIfInBounds_toArray, List.set_cons_zero, List.set_cons_succ]) | fail)
      refine bodyPost_ret (results_tmp_row_tmp rfl _ _ gr 30 (rowM x) (0, 0) _ rfl (setRow_heap _ _ (rowM x) _ _ _ HGa.out) Try.underlying30 rfl (sizeM _)) rfl ?_
      exact OpenTells.mk (s := numAt f 6 6) (m := x) (x := 0) (by rw [HOP.out]; simp) (by rw [← HGR.out]; exact Below.setRow HWa.out (Nat.le_refl _))
    · have de : (ex != 0) = true := by simpa using he
      go_wp2_with (first | (refine wpList_store_row rfl 30 _ _ rfl gr (rowM zeroMsg) rfl rfl 30 (rowM x) HG9.out (sizeM _) rfl (rowM_one _) ?_; simp only [Act.put, List.setIfInBounds_toArray, List.set_cons_zero, List.set_cons_succ]) | fail)
      refine bodyPost_ret (results_tmp_row_tmp rfl _ _ gr 30 (rowM zeroMsg) (0, 0) _ rfl (setRow_heap _ _ (rowM x) _ _ _ HG9.out) Try.underlying30 rfl (sizeM _)) rfl ?_
      exact OpenTells.mk (s := 0) (m := zeroMsg) (x := ex) (HOP.out.trans (if_neg he)) (by rw [← HGR.out]; exact Below.setRow HW9.out (Nat.le_refl _))
  by_cases hz : (14 : Int) + z - 17 = 0
  · omega
  go_wp2_with fail
  rw [show 14 + z - 17 = k by omega]
  refine (dec_any w7 (some ⟨g, o + 17, none⟩) k k (fun j => f (17 + j)) HVM.out HBM.out (fun h => by cases h) hk0).mono ?_
  rintro e w8 ⟨rfl, hb8⟩
  rw [HD.out]
  have HG8 := Lib.hid ((hb8.block _ (Array.getElem?_eq_some_iff.1 HG7.out).1).trans HG7.out)
  have HW8 := Lib.hid (HW7.out.trans (hb8.mono (by have := HW7.out.size; have := HGR.out; omega)))
  clear hb8 HG7 HW7 HR7
  go_upto_region 9 with (first | (refine wpList_store_row rfl 30 _ _ rfl gr (rowM x) rfl rfl 30 (rowM zeroMsg) HG8.out (sizeM _) rfl (rowM_one _) ?_; simp only [Act.put, List.setIfInBounds_toArray, List.set_cons_zero, List.set_cons_succ]) | fail)
  refine ((?_ : ∀ y, y = w8.setRow gr (rowM x) → Code.wp _ _ _ _ y) _ rfl)
  intro w9 hw9
  have HG9 := Lib.hid (show w9.heap[gr]? = some (.cells (rowM x) 30 (0, 0)) by rw [hw9]; exact setRow_heap _ _ (rowM zeroMsg) _ _ _ HG8.out)
  have HW9 := Lib.hid (show Below gr w w9 by rw [hw9]; exact Below.setRow HW8.out (Nat.le_refl _))
  clear hw9 HG8 HW8
  by_cases he : ex = 0
  · subst he
    go_wp2_with fail
    go_still_tail 3, (by kernel_rfl)
    refine wpStill_val (by kernel_rfl) _ (exec_row _ rfl gr rfl x HG9.out) ?_
    simp only [Act.put, List.setIfInBounds_toArray, List.set_cons_zero, List.set_cons_succ]
    repeat still_step
    refine wpStill_nil ?_
    refine ((?_ : ∀ y, y = w9.drew → wpList _ _ _ _ _ y) _ rfl)
    intro wa hwa
    have HGa := Lib.hid (show wa.heap[gr]? = some (.cells (rowM x) 30 (0, 0)) by rw [hwa]; exact HG9.out)
    have HWa := Lib.hid (show Below gr w wa by rw [hwa]; exact HW9.out.drew)
    clear hwa
    go_wp2_with (first | (refine wpList_store_row rfl 30 _ _ rfl gr (rowM x) rfl rfl 30 (rowM x) HGa.out (sizeM _) rfl (rowM_one _) ?_; simp only [Act.put, List.setIfInBounds_toArray, List.set_cons_zero, List.set_cons_succ]) | fail)
    refine bodyPost_ret (results_tmp_row_tmp rfl _ _ gr 30 (rowM x) (0, 0) _ rfl (setRow_heap _ _ (rowM x) _ _ _ HGa.out) Try.underlying30 rfl (sizeM _)) rfl ?_
    exact OpenTells.mk (s := numAt f 6 6) (m := x) (x := 0) (by rw [HOP.out]; simp) (by rw [← HGR.out]; exact Below.setRow HWa.out (Nat.le_refl _))
  · have de : (ex != 0) = true := by simpa using he
    go_wp2_with (first | (refine wpList_store_row rfl 30 _ _ rfl gr (rowM zeroMsg) rfl rfl 30 (rowM x) HG9.out (sizeM _) rfl (rowM_one _) ?_; simp only [Act.put, List.setIfInBounds_toArray, List.set_cons_zero, List.set_cons_succ]) | fail)
    refine bodyPost_ret (results_tmp_row_tmp rfl _ _ gr 30 (rowM zeroMsg) (0, 0) _ rfl (setRow_heap _ _ (rowM x) _ _ _ HG9.out) Try.underlying30 rfl (sizeM _)) rfl ?_
    exact OpenTells.mk (s := 0) (m := zeroMsg) (x := ex) (HOP.out.trans (if_neg he)) (by rw [← HGR.out]; exact Below.setRow HW9.out (Nat.le_refl _))
end Go.Proofs.Ytehapoilfmgjgaa.Oct
