/- Chapter 8: whether a port can't be (ford/clock.wrong). No condition. -/
import Derived.Test.YtpnlblkeckpmnaaCk5
import Derived.Test.YtpnlblkeckpmnaaCk6
set_option linter.unusedSimpArgs false
namespace Go.Proofs.Ytpnlblkeckpmnaa.Br
open Go.RowKit
/-- A clock that can't be. -/
def farC (x : Int) : Bool := decide (x < 0) || decide (1000 < x)
/-- A port that can't be. -/
def wrongP (p : Rec) : Bool := anyR (fun x => farC (p.i (6 + x))) 9 || (!few4 (p.i 78) (p.i 79) (p.i 80) (p.i 81) || (!few4 (p.i 82) (p.i 83) (p.i 84) (p.i 85) || !few4 (p.i 64) (p.i 65) (p.i 66) (p.i 67)))
theorem wrongP_yes {p : Rec} {x : Nat} (hx : x < 9) (h : farC (p.i (6 + x)) = true) : wrongP p = true := by
  unfold wrongP
  rw [anyR_yes (f := fun x => farC (p.i (6 + x))) hx h]
  rfl
attribute [local go_sem] nine_size idx_0 idx_1 idx_2 idx_3 idx_4 idx_5 idx_6 idx_7 idx_8 rowP_64 rowP_65 rowP_66 rowP_67 rowP_78 rowP_79 rowP_80 rowP_81 rowP_82 rowP_83 rowP_84 rowP_85 zeroP
set_option maxRecDepth 100000 in
set_option maxHeartbeats 8000000 in
theorem wrong_any (p : Rec) (w : World) : Calls Try.prog 28 #[.agg (rowP p)] w fun e w' => e = .returned (.bool (wrongP p)) ∧ Below w.heap.size w w' := by
  obtain ⟨vv, hvv⟩ : ∃ y, y = wrongP p := ⟨_, rfl⟩
  rw [← hvv]
  have HV := Lib.hid hvv
  clear hvv
  go_enter Try.func28, Try.ntmps28
  go_wp2_with fail
  refine (all_any w.heap.size 6 _).mono ?_
  rintro e w2 ⟨rfl, hb2⟩
  obtain ⟨gp, hgp⟩ : ∃ x, x = w.heap.size := ⟨_, rfl⟩
  have hP2 : w2.heap[gp]? = some (.cells (rowP p) 48 (0, 0)) := by rw [hgp]; exact (hb2.block _ (by simp)).trans (heap_alloc_new _ _)
  have HB2 := Lib.hid (show Below w.heap.size w w2 from (more (Below.refl _ _) _).trans (hb2.mono (by simp)))
  have HP2 := Lib.hid hP2
  rw [← hgp]
  have c0 : w2.cell? ⟨gp, 6, none⟩ = some (.int .i64 (p.i 6)) := cells_of HP2.out 6
  have c1 : w2.cell? ⟨gp, 6 + 1, none⟩ = some (.int .i64 (p.i 7)) := cells_of HP2.out 7
  have c2 : w2.cell? ⟨gp, 6 + 2, none⟩ = some (.int .i64 (p.i 8)) := cells_of HP2.out 8
  have c3 : w2.cell? ⟨gp, 6 + 3, none⟩ = some (.int .i64 (p.i 9)) := cells_of HP2.out 9
  have c4 : w2.cell? ⟨gp, 6 + 4, none⟩ = some (.int .i64 (p.i 10)) := cells_of HP2.out 10
  have c5 : w2.cell? ⟨gp, 6 + 5, none⟩ = some (.int .i64 (p.i 11)) := cells_of HP2.out 11
  have c6 : w2.cell? ⟨gp, 6 + 6, none⟩ = some (.int .i64 (p.i 12)) := cells_of HP2.out 12
  have c7 : w2.cell? ⟨gp, 6 + 7, none⟩ = some (.int .i64 (p.i 13)) := cells_of HP2.out 13
  have c8 : w2.cell? ⟨gp, 6 + 8, none⟩ = some (.int .i64 (p.i 14)) := cells_of HP2.out 14
  have d64 : w2.cell? ⟨gp, 64, none⟩ = some (.int .i64 (p.i 64)) := cells_of HP2.out 64
  have d65 : w2.cell? ⟨gp, 65, none⟩ = some (.int .i64 (p.i 65)) := cells_of HP2.out 65
  have d66 : w2.cell? ⟨gp, 66, none⟩ = some (.int .i64 (p.i 66)) := cells_of HP2.out 66
  have d67 : w2.cell? ⟨gp, 67, none⟩ = some (.int .i64 (p.i 67)) := cells_of HP2.out 67
  have d78 : w2.cell? ⟨gp, 78, none⟩ = some (.int .i64 (p.i 78)) := cells_of HP2.out 78
  have d79 : w2.cell? ⟨gp, 79, none⟩ = some (.int .i64 (p.i 79)) := cells_of HP2.out 79
  have d80 : w2.cell? ⟨gp, 80, none⟩ = some (.int .i64 (p.i 80)) := cells_of HP2.out 80
  have d81 : w2.cell? ⟨gp, 81, none⟩ = some (.int .i64 (p.i 81)) := cells_of HP2.out 81
  have d82 : w2.cell? ⟨gp, 82, none⟩ = some (.int .i64 (p.i 82)) := cells_of HP2.out 82
  have d83 : w2.cell? ⟨gp, 83, none⟩ = some (.int .i64 (p.i 83)) := cells_of HP2.out 83
  have d84 : w2.cell? ⟨gp, 84, none⟩ = some (.int .i64 (p.i 84)) := cells_of HP2.out 84
  have d85 : w2.cell? ⟨gp, 85, none⟩ = some (.int .i64 (p.i 85)) := cells_of HP2.out 85
  clear hb2 hgp hP2
  go_wp2_with fail
  refine wp_loop_rounds 10 ?_
  rw [rounds_succ]
  cases A0 : decide (p.i 6 < 0) with
  | true =>
    have hW := Lib.hid (HV.out.trans (wrongP_yes (p := p) (x := 0) (by omega) (by simp only [farC, A0, Bool.true_or])))
    clear HV
    go_wp2_with fail
    go_ret
    exact ⟨by rw [hW.out]; rfl, HB2.out⟩
  | false =>
  cases B0 : decide (1000 < p.i 6) with
  | true =>
    have hW := Lib.hid (HV.out.trans (wrongP_yes (p := p) (x := 0) (by omega) (by simp only [farC, B0, Bool.or_true])))
    clear HV
    go_wp2_with fail
    go_ret
    exact ⟨by rw [hW.out]; rfl, HB2.out⟩
  | false =>
  go_wp2_with fail
  rw [rounds_succ]
  cases A1 : decide (p.i 7 < 0) with
  | true =>
    have hW := Lib.hid (HV.out.trans (wrongP_yes (p := p) (x := 1) (by omega) (by simp only [farC, A1, Bool.true_or])))
    clear HV
    go_wp2_with fail
    go_ret
    exact ⟨by rw [hW.out]; rfl, HB2.out⟩
  | false =>
  cases B1 : decide (1000 < p.i 7) with
  | true =>
    have hW := Lib.hid (HV.out.trans (wrongP_yes (p := p) (x := 1) (by omega) (by simp only [farC, B1, Bool.or_true])))
    clear HV
    go_wp2_with fail
    go_ret
    exact ⟨by rw [hW.out]; rfl, HB2.out⟩
  | false =>
  go_wp2_with fail
  rw [rounds_succ]
  cases A2 : decide (p.i 8 < 0) with
  | true =>
    have hW := Lib.hid (HV.out.trans (wrongP_yes (p := p) (x := 2) (by omega) (by simp only [farC, A2, Bool.true_or])))
    clear HV
    go_wp2_with fail
    go_ret
    exact ⟨by rw [hW.out]; rfl, HB2.out⟩
  | false =>
  cases B2 : decide (1000 < p.i 8) with
  | true =>
    have hW := Lib.hid (HV.out.trans (wrongP_yes (p := p) (x := 2) (by omega) (by simp only [farC, B2, Bool.or_true])))
    clear HV
    go_wp2_with fail
    go_ret
    exact ⟨by rw [hW.out]; rfl, HB2.out⟩
  | false =>
  go_wp2_with fail
  rw [rounds_succ]
  cases A3 : decide (p.i 9 < 0) with
  | true =>
    have hW := Lib.hid (HV.out.trans (wrongP_yes (p := p) (x := 3) (by omega) (by simp only [farC, A3, Bool.true_or])))
    clear HV
    go_wp2_with fail
    go_ret
    exact ⟨by rw [hW.out]; rfl, HB2.out⟩
  | false =>
  cases B3 : decide (1000 < p.i 9) with
  | true =>
    have hW := Lib.hid (HV.out.trans (wrongP_yes (p := p) (x := 3) (by omega) (by simp only [farC, B3, Bool.or_true])))
    clear HV
    go_wp2_with fail
    go_ret
    exact ⟨by rw [hW.out]; rfl, HB2.out⟩
  | false =>
  go_wp2_with fail
  rw [rounds_succ]
  cases A4 : decide (p.i 10 < 0) with
  | true =>
    have hW := Lib.hid (HV.out.trans (wrongP_yes (p := p) (x := 4) (by omega) (by simp only [farC, A4, Bool.true_or])))
    clear HV
    go_wp2_with fail
    go_ret
    exact ⟨by rw [hW.out]; rfl, HB2.out⟩
  | false =>
  cases B4 : decide (1000 < p.i 10) with
  | true =>
    have hW := Lib.hid (HV.out.trans (wrongP_yes (p := p) (x := 4) (by omega) (by simp only [farC, B4, Bool.or_true])))
    clear HV
    go_wp2_with fail
    go_ret
    exact ⟨by rw [hW.out]; rfl, HB2.out⟩
  | false =>
  go_wp2_with fail
  rw [rounds_succ]
  cases A5 : decide (p.i 11 < 0) with
  | true =>
    have hW := Lib.hid (HV.out.trans (wrongP_yes (p := p) (x := 5) (by omega) (by simp only [farC, A5, Bool.true_or])))
    clear HV
    go_wp2_with fail
    go_ret
    exact ⟨by rw [hW.out]; rfl, HB2.out⟩
  | false =>
  cases B5 : decide (1000 < p.i 11) with
  | true =>
    have hW := Lib.hid (HV.out.trans (wrongP_yes (p := p) (x := 5) (by omega) (by simp only [farC, B5, Bool.or_true])))
    clear HV
    go_wp2_with fail
    go_ret
    exact ⟨by rw [hW.out]; rfl, HB2.out⟩
  | false =>
  go_wp2_with fail
  rw [rounds_succ]
  cases A6 : decide (p.i 12 < 0) with
  | true =>
    have hW := Lib.hid (HV.out.trans (wrongP_yes (p := p) (x := 6) (by omega) (by simp only [farC, A6, Bool.true_or])))
    clear HV
    go_wp2_with fail
    go_ret
    exact ⟨by rw [hW.out]; rfl, HB2.out⟩
  | false =>
  cases B6 : decide (1000 < p.i 12) with
  | true =>
    have hW := Lib.hid (HV.out.trans (wrongP_yes (p := p) (x := 6) (by omega) (by simp only [farC, B6, Bool.or_true])))
    clear HV
    go_wp2_with fail
    go_ret
    exact ⟨by rw [hW.out]; rfl, HB2.out⟩
  | false =>
  go_wp2_with fail
  rw [rounds_succ]
  cases A7 : decide (p.i 13 < 0) with
  | true =>
    have hW := Lib.hid (HV.out.trans (wrongP_yes (p := p) (x := 7) (by omega) (by simp only [farC, A7, Bool.true_or])))
    clear HV
    go_wp2_with fail
    go_ret
    exact ⟨by rw [hW.out]; rfl, HB2.out⟩
  | false =>
  cases B7 : decide (1000 < p.i 13) with
  | true =>
    have hW := Lib.hid (HV.out.trans (wrongP_yes (p := p) (x := 7) (by omega) (by simp only [farC, B7, Bool.or_true])))
    clear HV
    go_wp2_with fail
    go_ret
    exact ⟨by rw [hW.out]; rfl, HB2.out⟩
  | false =>
  go_wp2_with fail
  rw [rounds_succ]
  cases A8 : decide (p.i 14 < 0) with
  | true =>
    have hW := Lib.hid (HV.out.trans (wrongP_yes (p := p) (x := 8) (by omega) (by simp only [farC, A8, Bool.true_or])))
    clear HV
    go_wp2_with fail
    go_ret
    exact ⟨by rw [hW.out]; rfl, HB2.out⟩
  | false =>
  cases B8 : decide (1000 < p.i 14) with
  | true =>
    have hW := Lib.hid (HV.out.trans (wrongP_yes (p := p) (x := 8) (by omega) (by simp only [farC, B8, Bool.or_true])))
    clear HV
    go_wp2_with fail
    go_ret
    exact ⟨by rw [hW.out]; rfl, HB2.out⟩
  | false =>
  go_wp2_with fail
  rw [rounds_succ]
  have HA := Lib.hid (anyR_no (f := fun x => farC (p.i (6 + x))) (n := 9) (fun j hj => by
    rcases (show j = 0 ∨ j = 1 ∨ j = 2 ∨ j = 3 ∨ j = 4 ∨ j = 5 ∨ j = 6 ∨ j = 7 ∨ j = 8 by omega) with rfl | rfl | rfl | rfl | rfl | rfl | rfl | rfl | rfl <;> simp [farC, A0, B0, A1, B1, A2, B2, A3, B3, A4, B4, A5, B5, A6, B6, A7, B7, A8, B8]))
  clear A0 B0 A1 B1 A2 B2 A3 B3 A4 B4 A5 B5 A6 B6 A7 B7 A8 B8
  go_wp2_with fail
  refine (far_any _ _ _ _ w2).mono ?_
  rintro e w3 ⟨rfl, hbw3⟩
  have HBw3 := Lib.hid (HB2.out.trans (hbw3.mono HB2.out.size))
  have HPw3 := Lib.hid ((hbw3.block _ (Array.getElem?_eq_some_iff.1 HP2.out).1).trans HP2.out)
  clear hbw3
  have k0_82 : w3.cell? ⟨gp, 82, none⟩ = some (.int .i64 (p.i 82)) := cells_of HPw3.out 82
  have k0_83 : w3.cell? ⟨gp, 83, none⟩ = some (.int .i64 (p.i 83)) := cells_of HPw3.out 83
  have k0_84 : w3.cell? ⟨gp, 84, none⟩ = some (.int .i64 (p.i 84)) := cells_of HPw3.out 84
  have k0_85 : w3.cell? ⟨gp, 85, none⟩ = some (.int .i64 (p.i 85)) := cells_of HPw3.out 85
  have k0_64 : w3.cell? ⟨gp, 64, none⟩ = some (.int .i64 (p.i 64)) := cells_of HPw3.out 64
  have k0_65 : w3.cell? ⟨gp, 65, none⟩ = some (.int .i64 (p.i 65)) := cells_of HPw3.out 65
  have k0_66 : w3.cell? ⟨gp, 66, none⟩ = some (.int .i64 (p.i 66)) := cells_of HPw3.out 66
  have k0_67 : w3.cell? ⟨gp, 67, none⟩ = some (.int .i64 (p.i 67)) := cells_of HPw3.out 67
  cases F0 : few4 (p.i 78) (p.i 79) (p.i 80) (p.i 81) with
  | false =>
    have hW := Lib.hid (show vv = true by rw [HV.out]; unfold wrongP; rw [HA.out, F0]; rfl)
    clear HV
    go_wp2_with fail
    go_ret
    exact ⟨by rw [hW.out]; rfl, HBw3.out⟩
  | true =>
  go_wp2_with fail
  refine (far_any _ _ _ _ w3).mono ?_
  rintro e w4 ⟨rfl, hbw4⟩
  have HBw4 := Lib.hid (HBw3.out.trans (hbw4.mono HBw3.out.size))
  have HPw4 := Lib.hid ((hbw4.block _ (Array.getElem?_eq_some_iff.1 HPw3.out).1).trans HPw3.out)
  clear hbw4
  have k1_64 : w4.cell? ⟨gp, 64, none⟩ = some (.int .i64 (p.i 64)) := cells_of HPw4.out 64
  have k1_65 : w4.cell? ⟨gp, 65, none⟩ = some (.int .i64 (p.i 65)) := cells_of HPw4.out 65
  have k1_66 : w4.cell? ⟨gp, 66, none⟩ = some (.int .i64 (p.i 66)) := cells_of HPw4.out 66
  have k1_67 : w4.cell? ⟨gp, 67, none⟩ = some (.int .i64 (p.i 67)) := cells_of HPw4.out 67
  cases F1 : few4 (p.i 82) (p.i 83) (p.i 84) (p.i 85) with
  | false =>
    have hW := Lib.hid (show vv = true by rw [HV.out]; unfold wrongP; rw [HA.out, F0, F1]; rfl)
    clear HV
    go_wp2_with fail
    go_ret
    exact ⟨by rw [hW.out]; rfl, HBw4.out⟩
  | true =>
  go_wp2_with fail
  refine (far_any _ _ _ _ w4).mono ?_
  rintro e w5 ⟨rfl, hbw5⟩
  have HBw5 := Lib.hid (HBw4.out.trans (hbw5.mono HBw4.out.size))
  have HPw5 := Lib.hid ((hbw5.block _ (Array.getElem?_eq_some_iff.1 HPw4.out).1).trans HPw4.out)
  clear hbw5
  cases F2 : few4 (p.i 64) (p.i 65) (p.i 66) (p.i 67) with
  | false =>
    have hW := Lib.hid (show vv = true by rw [HV.out]; unfold wrongP; rw [HA.out, F0, F1, F2]; rfl)
    clear HV
    go_wp2_with fail
    go_ret
    exact ⟨by rw [hW.out]; rfl, HBw5.out⟩
  | true =>
    have hW := Lib.hid (show vv = false by rw [HV.out]; unfold wrongP; rw [HA.out, F0, F1, F2]; rfl)
    clear HV
    go_wp2_with fail
    go_ret
    exact ⟨by rw [hW.out]; rfl, HBw5.out⟩
end Go.Proofs.Ytpnlblkeckpmnaa.Br
