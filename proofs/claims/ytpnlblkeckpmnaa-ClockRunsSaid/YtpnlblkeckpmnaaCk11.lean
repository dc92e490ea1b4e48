/- Chapter 8: whether a bridge may be (ford/clock.Right): a plain function of the bridge. Conditions: the ports can be read; there aren't very many. -/
import Derived.Test.YtpnlblkeckpmnaaCk7
import Derived.Test.YtpnlblkeckpmnaaCk10
set_option linter.unusedSimpArgs false
namespace Go.Proofs.Ytpnlblkeckpmnaa.Br
open Go.RowKit
/-- Does a bridge seem one that may be? -/
def goodB (b : Bri) (ps : Nat → Rec) : Bool := decide ((b.n : Int) ≤ 32 ∧ -1 ≤ b.r.i 12 ∧ b.r.i 12 < b.n ∧ 1 ≤ b.r.i 6 ∧ b.r.i 6 ≤ 10) && (right4 (b.r.i 2) (b.r.i 3) (b.r.i 4) (b.r.i 5) && (b.r.i 2 == 0 && (few4 (b.r.i 13) (b.r.i 14) (b.r.i 15) (b.r.i 16) && !anyR (fun j => wrongP (ps j)) b.n)))
theorem wrong_cl : Asks 28 wrongP := ⟨enters Try.func28 (by kernel_rfl) rfl, wrong_any⟩
theorem wrongP_ok {p : Rec} : wrongP p = false ↔ PortOk p := by
  unfold wrongP PortOk
  constructor
  · intro h
    simp only [Bool.or_eq_false_iff, Bool.not_eq_false'] at h
    obtain ⟨h1, h2, h3, h4⟩ := h
    refine ⟨fun x hx => ?_, h2, h3, h4⟩
    unfold anyR at h1
    rw [List.any_eq_false] at h1
    have := h1 x (List.mem_range.2 hx)
    simp [farC] at this
    omega
  · rintro ⟨h1, h2, h3, h4⟩
    rw [h2, h3, h4, anyR_no (fun j hj => by
      have := h1 j hj
      simp [farC]
      omega)]
    rfl
theorem goodB_iff {b : Bri} {ps : Nat → Rec} : goodB b ps = true ↔ Good b ps := by
  unfold goodB Good
  simp only [Bool.and_eq_true, decide_eq_true_eq, beq_iff_eq, Bool.not_eq_true']
  constructor
  · rintro ⟨⟨h1, h2, h3, h4, h5⟩, h6, h7, h8, h9⟩
    refine ⟨h6, h8, h7, h4, h5, by omega, h2, h3, fun k hk => wrongP_ok.1 ?_⟩
    unfold anyR at h9
    rw [List.any_eq_false] at h9
    simpa using h9 k (List.mem_range.2 hk)
  · rintro ⟨h6, h8, h7, h4, h5, h1, h2, h3, h9⟩
    exact ⟨⟨by omega, h2, h3, h4, h5⟩, h6, h7, h8, anyR_no fun j hj => wrongP_ok.2 (h9 j hj)⟩
set_option maxRecDepth 100000 in
set_option maxHeartbeats 8000000 in
theorem clockright_any (b : Bri) (ps : Nat → Rec) (w : World) (hv : PortsV w b ps) (hn : b.n ≤ 1000) : Calls Try.prog 9 #[.agg (rowB b)] w fun e w' => e = .returned (.bool (goodB b ps)) ∧ Below w.heap.size w w' := by
  obtain ⟨vv, hvv⟩ : ∃ x, x = goodB b ps := ⟨_, rfl⟩
  rw [← hvv]
  have HV := Lib.hid hvv
  clear hvv
  go_enter Try.func9, Try.ntmps9
  go_upto_region 1 with (fail)
  refine ((?_ : ∀ x, x = w.alloc (.cells (rowB b) 33) → Code.wp _ _ _ _ x) _ rfl)
  intro w1 hw1
  obtain ⟨gb, hgb⟩ : ∃ x, x = w.heap.size := ⟨_, rfl⟩
  rw [← hgb]
  have hb1 : Below w.heap.size w w1 := by rw [hw1]; exact more (Below.refl _ _) _
  have hB1 : w1.heap[gb]? = some (.cells (rowB b) 33 (0, 0)) := by rw [hw1, hgb]; exact heap_alloc_new _ _
  have HB1 := Lib.hid hB1
  have Hb1 := Lib.hid hb1
  have hV1 := Lib.hid (hv.below hb1)
  have hgl := (Array.getElem?_eq_some_iff.1 hB1).1
  clear hw1 hgb hb1 hB1 hv
  have c17 : w1.cell? ⟨gb, 17, none⟩ = some (.slice b.ap b.n b.cp) := cells_of HB1.out 17
  have c12 : w1.cell? ⟨gb, 12, none⟩ = some (.int .i64 (b.r.i 12)) := cells_of HB1.out 12
  have c6 : w1.cell? ⟨gb, 6, none⟩ = some (.int .i64 (b.r.i 6)) := cells_of HB1.out 6
  have hn0 : (0 : Int) ≤ b.n := by omega
  have hn2 : (b.n : Int) ≤ 1000 := by omega
  by_cases hG : (b.n : Int) ≤ 32 ∧ -1 ≤ b.r.i 12 ∧ b.r.i 12 < b.n ∧ 1 ≤ b.r.i 6 ∧ b.r.i 6 ≤ 10
  rotate_left
  · have HE := Lib.hid (show vv = false by rw [HV.out]; unfold goodB; rw [decide_eq_false hG]; rfl)
    clear HV
    go_wp2_with fail
    all_goals first
      | (go_ret; exact ⟨by rw [HE.out]; rfl, Hb1.out⟩)
      | (exfalso; exact hG ⟨by omega, by omega, by omega, by omega, by omega⟩)
  have HE := Lib.hid (show vv = (right4 (b.r.i 2) (b.r.i 3) (b.r.i 4) (b.r.i 5) && (b.r.i 2 == 0 && (few4 (b.r.i 13) (b.r.i 14) (b.r.i 15) (b.r.i 16) && !anyR (fun j => wrongP (ps j)) b.n))) by rw [HV.out]; unfold goodB; rw [decide_eq_true hG]; rfl)
  clear HV
  obtain ⟨g1, g2, g3, g4, g5⟩ := hG
  have c2 : w1.cell? ⟨gb, 2, none⟩ = some (.int .i64 (b.r.i 2)) := cells_of HB1.out 2
  have c3 : w1.cell? ⟨gb, 2 + 1, none⟩ = some (.int .i64 (b.r.i 3)) := cells_of HB1.out 3
  have c4 : w1.cell? ⟨gb, 2 + 2, none⟩ = some (.int .i64 (b.r.i 4)) := cells_of HB1.out 4
  have c5 : w1.cell? ⟨gb, 2 + 3, none⟩ = some (.int .i64 (b.r.i 5)) := cells_of HB1.out 5
  go_wp2_with fail
  refine (timesright_any _ _ _ _ w1).mono ?_
  rintro e w2 ⟨rfl, hb2⟩
  have HB2 := Lib.hid ((hb2.block gb hgl).trans HB1.out)
  have Hb2 := Lib.hid (Hb1.out.trans (hb2.mono Hb1.out.size))
  have hV2 := Lib.hid (View.below hV1.out hb2)
  clear hb2 c2 c3 c4 c5 c6 c12 c17
  have c2 : w2.cell? ⟨gb, 2, none⟩ = some (.int .i64 (b.r.i 2)) := cells_of HB2.out 2
  have c13 : w2.cell? ⟨gb, 13, none⟩ = some (.int .i64 (b.r.i 13)) := cells_of HB2.out 13
  have c14 : w2.cell? ⟨gb, 13 + 1, none⟩ = some (.int .i64 (b.r.i 14)) := cells_of HB2.out 14
  have c15 : w2.cell? ⟨gb, 13 + 2, none⟩ = some (.int .i64 (b.r.i 15)) := cells_of HB2.out 15
  have c16 : w2.cell? ⟨gb, 13 + 3, none⟩ = some (.int .i64 (b.r.i 16)) := cells_of HB2.out 16
  cases q1 : right4 (b.r.i 2) (b.r.i 3) (b.r.i 4) (b.r.i 5) with
  | false =>
    have HE' := Lib.hid (show vv = false by rw [HE.out, q1]; rfl)
    clear HE q1
    go_wp2_with fail
    go_ret
    exact ⟨by rw [HE'.out]; rfl, Hb2.out⟩
  | true =>
  have HE' := Lib.hid (show vv = (b.r.i 2 == 0 && (few4 (b.r.i 13) (b.r.i 14) (b.r.i 15) (b.r.i 16) && !anyR (fun j => wrongP (ps j)) b.n)) by rw [HE.out, q1]; rfl)
  clear HE q1
  cases q2 : (b.r.i 2 == 0) with
  | false =>
    have HE := Lib.hid (show vv = false by rw [HE'.out, q2]; rfl)
    clear HE'
    go_wp2_with fail
    go_ret
    exact ⟨by rw [HE.out]; rfl, Hb2.out⟩
  | true =>
  have HE := Lib.hid (show vv = (few4 (b.r.i 13) (b.r.i 14) (b.r.i 15) (b.r.i 16) && !anyR (fun j => wrongP (ps j)) b.n) by rw [HE'.out, q2]; rfl)
  clear HE'
  go_wp2_with fail
  refine (far_any _ _ _ _ w2).mono ?_
  rintro e w3 ⟨rfl, hb3⟩
  have hgl2 := (Array.getElem?_eq_some_iff.1 HB2.out).1
  have HB3 := Lib.hid ((hb3.block gb hgl2).trans HB2.out)
  have Hb3 := Lib.hid (Hb2.out.trans (hb3.mono Hb2.out.size))
  have hV3 := Lib.hid (View.below hV2.out hb3)
  clear hb3 c2 c13 c14 c15 c16 q2
  have c17 : w3.cell? ⟨gb, 17, none⟩ = some (.slice b.ap b.n b.cp) := cells_of HB3.out 17
  cases q3 : few4 (b.r.i 13) (b.r.i 14) (b.r.i 15) (b.r.i 16) with
  | false =>
    have HE' := Lib.hid (show vv = false by rw [HE.out, q3]; rfl)
    clear HE q3
    go_wp2_with fail
    go_ret
    exact ⟨by rw [HE'.out]; rfl, Hb3.out⟩
  | true =>
  have HE' := Lib.hid (show vv = !anyR (fun j => wrongP (ps j)) b.n by rw [HE.out, q3]; rfl)
  clear HE q3
  go_wp2_with fail
  refine (contains_any _ wrongP wrong_cl b.ap b.n b.cp ps w3 hV3.out (by omega)).mono ?_
  rintro e w4 ⟨rfl, hb4⟩
  have HB4 := Lib.hid (Hb3.out.trans (hb4.mono Hb3.out.size))
  clear hb4 c17
  go_wp2_with fail
  go_ret
  exact ⟨by rw [HE'.out]; rfl, HB4.out⟩
end Go.Proofs.Ytpnlblkeckpmnaa.Br
