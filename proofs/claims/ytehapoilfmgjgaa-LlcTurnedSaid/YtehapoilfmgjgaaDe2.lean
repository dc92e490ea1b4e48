/- Chapter 5: what bytes behind a message's kind are (ford/bpdu.body): kind 0. Conditions: the reader's bytes can be read; there are enough. -/
import Derived.Test.YtehapoilfmgjgaaDe1
set_option linter.unusedSimpArgs false
set_option linter.unusedVariables false
namespace Go.Proofs.Ytehapoilfmgjgaa.Oct
open Go.RowKit
set_option maxRecDepth 100000 in
set_option maxHeartbeats 8000000 in
theorem body_0 (w : World) (rg gm n : Nat) (f : Nat → Int) (h : Rd w rg n (fun j => f (4 + j)) false) (hn : 31 ≤ n) (hb : ∀ j, j < 35 → 0 ≤ f j ∧ f j ≤ 255) (hM : w.heap[gm]? = some (.cells (rowM { zeroMsg with kind := 0 }) 30 (0, 0))) (hne : gm ≠ rg) :
    Calls Try.prog 27 #[.pointer (some ⟨rg, 0, none⟩), .pointer (some ⟨gm, 0, none⟩)] w fun e w' => e = .returned (.tuple #[.int .u16 (numAt f 27 2), .int .u16 (numAt f 29 2)]) ∧ w'.heap[gm]? = some (.cells (rowM (bodyM f 0)) 30 (0, 0)) ∧ Only (fun x => x = rg ∨ x = gm) w w' := by
  have HB := Lib.hid hb
  have hf4 := hb 4 (by omega)
  obtain ⟨fl, hfl⟩ : ∃ x, x = f 4 := ⟨_, rfl⟩
  rw [← hfl] at hf4
  have HFL := Lib.hid hfl
  obtain ⟨a1, a2, a16, a32, a64, a128, _⟩ := and_at fl hf4
  have hf0 := hf4.1
  have hf1 := hf4.2
  have wfl : IntKind.i64.wrap fl = fl := by unfold IntKind.wrap; simp [IntKind.signed, IntKind.bits]; omega
  have H0 := Lib.hid h
  have HM0 := Lib.hid hM
  clear hb hfl h hM hf4
  go_enter Try.func27, Try.ntmps27
  go_wp2_with fail
  refine (take_at w rg n 1 4 5 f H0.out (by omega) (by omega) rfl).mono ?_
  rintro e w1 ⟨rfl, hr1, ho1⟩
  rw [numAt_1, ← HFL.out]
  have HR1 := Lib.hid hr1
  have HM1 := Lib.hid ((ho1.block _ (Array.getElem?_eq_some_iff.1 HM0.out).1 hne).trans HM0.out)
  have HO1 := Lib.hid (show Only (fun x => x = rg ∨ x = gm) w w1 from ho1.mono (fun _ h => .inl h))
  clear hr1 ho1
  have gmr : ¬ rg = gm := fun e => hne e.symm
  have c0 : w1.cell? ⟨gm, 0, none⟩ = some (.int .i64 0) := cells_of HM1.out 0
  have f0 : w1.frozen? ⟨gm, 0, none⟩ = false := free_block HM1.out _
  have c1 : w1.cell? ⟨gm, 1, none⟩ = some (.bool false) := cells_of HM1.out 1
  have f1 : w1.frozen? ⟨gm, 1, none⟩ = false := free_block HM1.out _
  have c2 : w1.cell? ⟨gm, 2, none⟩ = some (.bool false) := cells_of HM1.out 2
  have f2 : w1.frozen? ⟨gm, 2, none⟩ = false := free_block HM1.out _
  have c3 : w1.cell? ⟨gm, 3, none⟩ = some (.bool false) := cells_of HM1.out 3
  have f3 : w1.frozen? ⟨gm, 3, none⟩ = false := free_block HM1.out _
  have c4 : w1.cell? ⟨gm, 4, none⟩ = some (.bool false) := cells_of HM1.out 4
  have f4 : w1.frozen? ⟨gm, 4, none⟩ = false := free_block HM1.out _
  have c5 : w1.cell? ⟨gm, 5, none⟩ = some (.bool false) := cells_of HM1.out 5
  have f5 : w1.frozen? ⟨gm, 5, none⟩ = false := free_block HM1.out _
  have c6 : w1.cell? ⟨gm, 6, none⟩ = some (.bool false) := cells_of HM1.out 6
  have f6 : w1.frozen? ⟨gm, 6, none⟩ = false := free_block HM1.out _
  have c7 : w1.cell? ⟨gm, 7, none⟩ = some (.int .i64 0) := cells_of HM1.out 7
  have f7 : w1.frozen? ⟨gm, 7, none⟩ = false := free_block HM1.out _
  go_upto_region 8 with (fail)
  refine ((?_ : ∀ x, x = ((w1.setCell ⟨gm, 1, none⟩ (.bool (bitAt fl 1))).setCell ⟨gm, 2, none⟩ (.bool (bitAt fl 128))).setCell ⟨gm, 7, none⟩ (.int .i64 4) → Code.wp _ _ _ _ x) _ rfl)
  intro w2 hw2
  have hO2 : Only (· = gm) w1 w2 := by rw [hw2]; exact (((Only.refl (· = gm) w1).setCell (Or.inl rfl) _).setCell (Or.inl rfl) _).setCell (Or.inl rfl) _
  have HM2 := Lib.hid (show w2.heap[gm]? = some (.cells (rowM { zeroMsg with kind := 0, change := bitAt fl 1, ack := bitAt fl 128, role := 4 }) 30 (0, 0)) by rw [hw2]; exact at_set (at_set (at_set HM1.out (rowM_put_1 _ _)) (rowM_put_2 _ _)) (rowM_put_7 _ _))
  have HR2 := Lib.hid (HR1.out.keep HM1.out hne (fun _ h => h) hO2)
  have HO2 := Lib.hid (HO1.out.trans (hO2.mono (fun _ h => .inr h)))
  clear hw2 hO2 c0 c1 c2 c3 c4 c5 c6 c7 f0 f1 f2 f3 f4 f5 f6 f7 HR1 HM1 HO1
  go_wp2_with fail
  refine (take_at w2 rg (n - 1) 8 5 13 f HR2.out (by omega) (by omega) rfl).mono ?_
  rintro e w3 ⟨rfl, hr3, ho3⟩
  have hr3' := Lib.hid hr3
  have ho3' := Lib.hid ho3
  clear hr3 ho3
  go_wp2_with fail
  refine (take_at w3 rg (n - 1 - 8) 4 13 17 f hr3'.out (by omega) (by omega) rfl).mono ?_
  rintro e w4 ⟨rfl, hr4, ho4⟩
  have hr4' := Lib.hid hr4
  have ho4' := Lib.hid ho4
  have hc13 := numAt_in HB.out 13 4 (by omega)
  have wc13 : IntKind.u32.wrap (numAt f 13 4) = numAt f 13 4 := by unfold IntKind.wrap; simp [IntKind.signed, IntKind.bits]; omega
  clear hr4 ho4 hc13
  go_wp2_with fail
  refine (take_at w4 rg (n - 1 - 8 - 4) 8 17 25 f hr4'.out (by omega) (by omega) rfl).mono ?_
  rintro e w5 ⟨rfl, hr5, ho5⟩
  have hr5' := Lib.hid hr5
  have ho5' := Lib.hid ho5
  clear hr5 ho5
  go_wp2_with fail
  refine (take_at w5 rg (n - 1 - 8 - 4 - 8) 2 25 27 f hr5'.out (by omega) (by omega) rfl).mono ?_
  rintro e w6 ⟨rfl, hr6, ho6⟩
  have hc25 := numAt_in HB.out 25 2 (by omega)
  have wc25 : IntKind.u16.wrap (numAt f 25 2) = numAt f 25 2 := by unfold IntKind.wrap; simp [IntKind.signed, IntKind.bits]; omega
  have HO6 := Lib.hid (((ho3'.out.trans ho4'.out).trans ho5'.out).trans ho6)
  have HR6 := Lib.hid hr6
  have HM6 := Lib.hid ((HO6.out.block _ (Array.getElem?_eq_some_iff.1 HM2.out).1 hne).trans HM2.out)
  clear hr6 ho6 hc25 hr3' hr4' hr5' ho3' ho4' ho5' HR2
  have hth := room_M HM6.out 8 5 (by omega)
  go_upto_region 9 with (first | (refine wpList_store_mid rfl 26 _ _ rfl gm 8 #[.int .u64 (numAt f 5 8), .int .u32 (numAt f 13 4), .int .u64 (numAt f 17 8), .int .u16 (numAt f 25 2), .int .u16 0] rfl rfl hth (by kernel_rfl) (by kernel_rfl) ?_; simp only [Act.put]) | fail)
  refine ((?_ : ∀ x, x = w6.setCells gm 8 [.int .u64 (numAt f 5 8), .int .u32 (numAt f 13 4), .int .u64 (numAt f 17 8), .int .u16 (numAt f 25 2), .int .u16 0] → Code.wp _ _ _ _ x) _ rfl)
  intro w7 hw7
  have hO7 : Only (· = gm) w6 w7 := by rw [hw7]; exact Only.setCells (S := (· = gm)) rfl _ _ _
  have hM7 := vec_put HM6.out (numAt f 5 8) (numAt f 13 4) (numAt f 17 8) (numAt f 25 2)
  rw [← hw7] at hM7
  have HM7 := Lib.hid hM7
  clear hM7
  have HR7 := Lib.hid (HR6.out.keep HM6.out hne (fun _ h => h) hO7)
  have HO7 := Lib.hid ((HO2.out.trans (HO6.out.mono (fun _ h => .inl h))).trans (hO7.mono (fun _ h => .inr h)))
  clear hw7 hO7 hth HM6 HR6 HO6 HM2 HO2
  go_wp2_with fail
  refine (take_at w7 rg (n - 1 - 8 - 4 - 8 - 2) 2 27 29 f HR7.out (by omega) (by omega) rfl).mono ?_
  rintro e w8 ⟨rfl, hr8, ho8⟩
  have hr8' := Lib.hid hr8
  have ho8' := Lib.hid ho8
  have hc27 := numAt_in HB.out 27 2 (by omega)
  have wc27 : IntKind.u16.wrap (numAt f 27 2) = numAt f 27 2 := by unfold IntKind.wrap; simp [IntKind.signed, IntKind.bits]; omega
  have HC27 := Lib.hid hc27
  clear hr8 ho8 hc27
  go_wp2_with fail
  refine (take_at w8 rg (n - 1 - 8 - 4 - 8 - 2 - 2) 2 29 31 f hr8'.out (by omega) (by omega) rfl).mono ?_
  rintro e w9 ⟨rfl, hr9, ho9⟩
  have hr9' := Lib.hid hr9
  have ho9' := Lib.hid ho9
  have hc29 := numAt_in HB.out 29 2 (by omega)
  have wc29 : IntKind.u16.wrap (numAt f 29 2) = numAt f 29 2 := by unfold IntKind.wrap; simp [IntKind.signed, IntKind.bits]; omega
  have HC29 := Lib.hid hc29
  clear hr9 ho9 hc29
  go_wp2_with fail
  refine (from_any (numAt f 27 2) HC27.out w9).mono ?_
  rintro e w10 ⟨rfl, hb10⟩
  have hr10 := Lib.hid (hr9'.out.below hb10)
  have ho10 := Lib.hid ((ho8'.out.trans ho9'.out).trans (Only.of_below hb10))
  clear hb10 hr9' hr8' ho8' ho9'
  go_wp2_with fail
  refine (from_any (numAt f 29 2) HC29.out w10).mono ?_
  rintro e w11 ⟨rfl, hb11⟩
  have hr11 := Lib.hid (hr10.out.below hb11)
  have ho11 := Lib.hid (ho10.out.trans (Only.of_below hb11))
  clear hb11 hr10 ho10
  go_wp2_with fail
  refine (take_at w11 rg (n - 1 - 8 - 4 - 8 - 2 - 2 - 2) 2 31 33 f hr11.out (by omega) (by omega) rfl).mono ?_
  rintro e w12 ⟨rfl, hr12, ho12⟩
  have hr12' := Lib.hid hr12
  have ho12' := Lib.hid (ho11.out.trans ho12)
  have hc31 := numAt_in HB.out 31 2 (by omega)
  have wc31 : IntKind.u16.wrap (numAt f 31 2) = numAt f 31 2 := by unfold IntKind.wrap; simp [IntKind.signed, IntKind.bits]; omega
  have HC31 := Lib.hid hc31
  clear hr12 ho12 hc31 hr11 ho11
  go_wp2_with fail
  refine (from_any (numAt f 31 2) HC31.out w12).mono ?_
  rintro e w13 ⟨rfl, hb13⟩
  have hr13 := Lib.hid (hr12'.out.below hb13)
  have ho13 := Lib.hid (ho12'.out.trans (Only.of_below hb13))
  clear hb13 hr12' ho12'
  go_wp2_with fail
  refine (take_at w13 rg (n - 1 - 8 - 4 - 8 - 2 - 2 - 2 - 2) 2 33 35 f hr13.out (by omega) (by omega) rfl).mono ?_
  rintro e w14 ⟨rfl, hr14, ho14⟩
  have ho14' := Lib.hid (ho13.out.trans ho14)
  have hc33 := numAt_in HB.out 33 2 (by omega)
  have wc33 : IntKind.u16.wrap (numAt f 33 2) = numAt f 33 2 := by unfold IntKind.wrap; simp [IntKind.signed, IntKind.bits]; omega
  have HC33 := Lib.hid hc33
  clear hr14 ho14 hc33 hr13 ho13
  go_wp2_with fail
  refine (from_any (numAt f 33 2) HC33.out w14).mono ?_
  rintro e w15 ⟨rfl, hb15⟩
  have HO15 := Lib.hid (ho14'.out.trans (Only.of_below hb15))
  have HM15 := Lib.hid ((HO15.out.block _ (Array.getElem?_eq_some_iff.1 HM7.out).1 hne).trans HM7.out)
  clear hb15 ho14' HM7
  have hth := room_M HM15.out 13 4 (by omega)
  go_upto_region 11 with (first | (refine wpList_store_mid rfl 28 _ _ rfl gm 13 #[.int .i64 (fromN (numAt f 27 2)), .int .i64 (fromN (numAt f 29 2)), .int .i64 (fromN (numAt f 31 2)), .int .i64 (fromN (numAt f 33 2))] rfl rfl hth (by kernel_rfl) (by kernel_rfl) ?_; simp only [Act.put]) | fail)
  refine ((?_ : ∀ x, x = w15.setCells gm 13 [.int .i64 (fromN (numAt f 27 2)), .int .i64 (fromN (numAt f 29 2)), .int .i64 (fromN (numAt f 31 2)), .int .i64 (fromN (numAt f 33 2))] → Code.wp _ _ _ _ x) _ rfl)
  intro w16 hw16
  have hO16 : Only (· = gm) w15 w16 := by rw [hw16]; exact Only.setCells (S := (· = gm)) rfl _ _ _
  have hM16 := times_put HM15.out (fromN (numAt f 27 2)) (fromN (numAt f 29 2)) (fromN (numAt f 31 2)) (fromN (numAt f 33 2))
  rw [← hw16] at hM16
  have HM16 := Lib.hid hM16
  clear hM16
  have HO16 := Lib.hid ((HO7.out.trans (HO15.out.mono (fun _ h => .inl h))).trans (hO16.mono (fun _ h => .inr h)))
  clear hw16 hO16 hth HM15 HO15 HO7
  go_wp2_with fail
  refine bodyPost_ret (results_tmp2 rfl _ _ _) rfl ?_
  refine ⟨rfl, ?_, HO16.out⟩
  have h := HM16.out
  rw [HFL.out] at h
  exact h
end Go.Proofs.Ytehapoilfmgjgaa.Oct
