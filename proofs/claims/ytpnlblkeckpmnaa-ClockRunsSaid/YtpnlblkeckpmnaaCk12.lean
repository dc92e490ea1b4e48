/- Chapter 8: whether a bridge may be, by the document (ford/fordref08.Right): the same plain function. Conditions: the ports can be read; there aren't very many. -/
import Derived.Test.YtpnlblkeckpmnaaCk11
set_option linter.unusedSimpArgs false
namespace Go.Proofs.Ytpnlblkeckpmnaa.Br
open Go.RowKit
attribute [local go_sem] rowP_size rowP_6 rowP_7 rowP_8 rowP_9 rowP_10 rowP_11 rowP_12 rowP_13 rowP_14 rowP_64 rowP_65 rowP_66 rowP_67 rowP_78 rowP_79 rowP_80 rowP_81 rowP_82 rowP_83 rowP_84 rowP_85
attribute [local go_sem] rowB_size rowB_0 rowB_1 rowB_2 rowB_3 rowB_4 rowB_5 rowB_6 rowB_7 rowB_8 rowB_9 rowB_10 rowB_11 rowB_12 rowB_13 rowB_14 rowB_15 rowB_16 rowB_17 rowB_18 rowB_19
attribute [local go_sem] zeroP
set_option maxRecDepth 100000 in
set_option maxHeartbeats 8000000 in
theorem refright_yes (b : Bri) (ps : Nat → Rec) (w : World) (hv : PortsV w b ps) (hG : Good b ps) : Calls Try.prog 10 #[.agg (rowB b)] w fun e w' => e = .returned (.bool true) ∧ Below w.heap.size w w' := by
  obtain ⟨q1, q2, gz, g3, g4, g5, g6, g7, hok⟩ := hG
  have G1 := Lib.hid q1
  have G2 := Lib.hid q2
  clear q1 q2
  have HOK := Lib.hid hok
  have GZ := Lib.hid gz
  clear hok gz
  go_enter Try.func10, Try.ntmps10
  go_wp2_with fail
  refine (right4_any _ _ _ _ _).mono ?_
  rintro e w1 ⟨rfl, hb1⟩
  have hB1 : w1.heap[w.heap.size]? = some (.cells (rowB b) 33 (0, 0)) := by
    rw [hb1.block _ (by simp)]
    exact heap_alloc_new _ _
  have HW1 : Below w.heap.size w w1 := ((Below.refl _ _).alloc (Nat.le_refl _) _).trans (hb1.mono (by simp))
  have HB1 := Lib.hid hB1
  have c13 : w1.cell? ⟨w.heap.size, 13, none⟩ = some (.int .i64 (b.r.i 13)) := cells_of hB1 13
  have c14 : w1.cell? ⟨w.heap.size, 13 + 1, none⟩ = some (.int .i64 (b.r.i 14)) := cells_of hB1 14
  have c15 : w1.cell? ⟨w.heap.size, 13 + 2, none⟩ = some (.int .i64 (b.r.i 15)) := cells_of hB1 15
  have c16 : w1.cell? ⟨w.heap.size, 13 + 3, none⟩ = some (.int .i64 (b.r.i 16)) := cells_of hB1 16
  clear hb1 hB1
  go_wp2_with fail
  refine (few4_any _ _ _ _ _).mono ?_
  rintro e w2 ⟨rfl, hb2⟩
  have hB2 : w2.heap[w.heap.size]? = some (.cells (rowB b) 33 (0, 0)) := by
    rw [hb2.block _ (cell_lt c13)]
    exact HB1.out
  have HW2 : Below w.heap.size w w2 := HW1.trans (hb2.mono HW1.size)
  have HB2 := Lib.hid hB2
  have d2 : w2.cell? ⟨w.heap.size, 2, none⟩ = some (.int .i64 (b.r.i 2)) := cells_of hB2 2
  have d6 : w2.cell? ⟨w.heap.size, 6, none⟩ = some (.int .i64 (b.r.i 6)) := cells_of hB2 6
  have d12 : w2.cell? ⟨w.heap.size, 12, none⟩ = some (.int .i64 (b.r.i 12)) := cells_of hB2 12
  have d17 : w2.cell? ⟨w.heap.size, 17, none⟩ = some (.slice b.ap b.n b.cp) := cells_of hB2 17
  clear hb2 hB2 c13 c14 c15 c16 HB1 HW1
  have hn0 : (0 : Int) ≤ b.n := by omega
  rw [G1.out, G2.out]
  have g1 : 0 ≤ b.r.i 2 := by rw [GZ.out]; omega
  have g2 : b.r.i 2 ≤ 0 := by rw [GZ.out]; omega
  go_wp2_with fail
  go_loopw [5] (fun i wr => ∃ k : Nat, k ≤ b.n ∧ i = .int .i64 k ∧ Hid (Below w.heap.size w wr) ∧ Hid (wr.heap[w.heap.size]? = some (.cells (rowB b) 33 (0, 0)))) (fun i _ => b.n - (intOf i).toNat)
  case atStart => exact ⟨0, Nat.zero_le _, rfl, HW2, HB2⟩
  case round =>
    clear d2 d6 d12 d17
    obtain ⟨k, hk, rfl, hW, hB⟩ := hrel
    by_cases hlt : k < b.n
    · rcases hv with h0 | ⟨g, o, hap, hc⟩
      · omega
      have e17 : wr.cell? ⟨w.heap.size, 17, none⟩ = some (.slice (some ⟨g, o, none⟩) b.n b.cp) := by
        rw [← hap]
        exact cells_of hB.out 17
      have hgw : g < w.heap.size := cell_lt (hc k hlt 0 (by omega))
      have hr : wr.rangeAt g (o + k * 89) (rowP (ps k)).toList := fun j v hj => by
        have hj' : j < 89 := by
          have := (List.getElem?_eq_some_iff.1 hj).1
          simpa [rowP_size] using this
        rw [Nat.add_assoc, hW.out.cell (p := ⟨g, _, none⟩) hgw, hc k hlt j hj', ← rowP_get hj']
        simpa using hj
      have Hr := Lib.hid hr
      have hk0 : (0 : Int) ≤ k := by omega
      have hk1 : (k : Int) < b.n := by omega
      have hP := HOK.out k hlt
      have tlo0 := (hP.1 0 (by omega)).1
      have thi0 := (hP.1 0 (by omega)).2
      have tlo1 := (hP.1 1 (by omega)).1
      have thi1 := (hP.1 1 (by omega)).2
      have tlo2 := (hP.1 2 (by omega)).1
      have thi2 := (hP.1 2 (by omega)).2
      have tlo3 := (hP.1 3 (by omega)).1
      have thi3 := (hP.1 3 (by omega)).2
      have tlo4 := (hP.1 4 (by omega)).1
      have thi4 := (hP.1 4 (by omega)).2
      have tlo5 := (hP.1 5 (by omega)).1
      have thi5 := (hP.1 5 (by omega)).2
      have tlo6 := (hP.1 6 (by omega)).1
      have thi6 := (hP.1 6 (by omega)).2
      have tlo7 := (hP.1 7 (by omega)).1
      have thi7 := (hP.1 7 (by omega)).2
      have tlo8 := (hP.1 8 (by omega)).1
      have thi8 := (hP.1 8 (by omega)).2
      simp only [Nat.reduceAdd] at tlo0 tlo1 tlo2 tlo3 tlo4 tlo5 tlo6 tlo7 tlo8 thi0 thi1 thi2 thi3 thi4 thi5 thi6 thi7 thi8
      have R1 := Lib.hid hP.2.1
      have R2 := Lib.hid hP.2.2.1
      have R3 := Lib.hid hP.2.2.2
      clear hP
      clear hr hc hap
      go_wp2_with (first | (refine wpList_row rfl 48 _ rfl g (o + k * 89) rfl (rowP (ps k)) _ Hr.out Try.underlying48 rfl (sizeP _) ?_; simp only [Act.put, List.setIfInBounds_toArray, List.set_cons_zero, List.set_cons_succ]) | (refine wpList_store_new rfl 48 _ _ rfl wr (rowP zeroR) 48 (rowP (ps k)) rfl rfl rfl (sizeP _) rfl (rowP_one _) ?_; simp only [Act.put]))
      go_loop [9] (fun c => ∃ x : Int, 0 ≤ x ∧ x ≤ 9 ∧ c = .int .i64 x) (fun c => 9 - (intOf c).toNat)
      case atStart => exact ⟨0, by omega, by omega, rfl⟩
      case round =>
        obtain ⟨x, hx0, hx9, rfl⟩ := hrel
        rcases (show x = 0 ∨ x = 1 ∨ x = 2 ∨ x = 3 ∨ x = 4 ∨ x = 5 ∨ x = 6 ∨ x = 7 ∨ x = 8 ∨ x = 9 from by omega) with rfl | rfl | rfl | rfl | rfl | rfl | rfl | rfl | rfl | rfl
        · go_wp2_with fail
          go_round
          case rel => exact ⟨1, by omega, by omega, rfl⟩
          case measure => simp [intOf]
        · go_wp2_with fail
          go_round
          case rel => exact ⟨2, by omega, by omega, rfl⟩
          case measure => simp [intOf]
        · go_wp2_with fail
          go_round
          case rel => exact ⟨3, by omega, by omega, rfl⟩
          case measure => simp [intOf]
        · go_wp2_with fail
          go_round
          case rel => exact ⟨4, by omega, by omega, rfl⟩
          case measure => simp [intOf]
        · go_wp2_with fail
          go_round
          case rel => exact ⟨5, by omega, by omega, rfl⟩
          case measure => simp [intOf]
        · go_wp2_with fail
          go_round
          case rel => exact ⟨6, by omega, by omega, rfl⟩
          case measure => simp [intOf]
        · go_wp2_with fail
          go_round
          case rel => exact ⟨7, by omega, by omega, rfl⟩
          case measure => simp [intOf]
        · go_wp2_with fail
          go_round
          case rel => exact ⟨8, by omega, by omega, rfl⟩
          case measure => simp [intOf]
        · go_wp2_with fail
          go_round
          case rel => exact ⟨9, by omega, by omega, rfl⟩
          case measure => simp [intOf]
        go_wp2_with fail
        refine (few4_any _ _ _ _ _).mono ?_
        rintro e w3 ⟨rfl, hb3⟩
        have hlt3 : w.heap.size < wr.heap.size := (Array.getElem?_eq_some_iff.1 hB.out).1
        have hP3 : w3.heap[wr.heap.size]? = some (.cells (rowP (ps k)) 48 (0, 0)) := by
          rw [hb3.block _ (by simp; omega)]
          exact third _ _ _ _
        have hB3 : w3.heap[w.heap.size]? = some (.cells (rowB b) 33 (0, 0)) := by
          rw [hb3.block _ (by simp; omega), old3 _ _ _ _ _ hlt3]
          exact hB.out
        have hW3 : Below w.heap.size w w3 := andthen (more (more (more hW.out _) _) _) hb3
        have hs3 : wr.heap.size < w3.heap.size := (Array.getElem?_eq_some_iff.1 hP3).1
        have HB3 := Lib.hid hB3
        have HW3 := Lib.hid hW3
        have HP3 := Lib.hid hP3
        clear hb3 hB3 hW3 hP3
        have p82 : w3.cell? ⟨wr.heap.size, 82, none⟩ = some (.int .i64 ((ps k).i 82)) := cells_of HP3.out 82
        have p83 : w3.cell? ⟨wr.heap.size, 82 + 1, none⟩ = some (.int .i64 ((ps k).i 83)) := cells_of HP3.out 83
        have p84 : w3.cell? ⟨wr.heap.size, 82 + 2, none⟩ = some (.int .i64 ((ps k).i 84)) := cells_of HP3.out 84
        have p85 : w3.cell? ⟨wr.heap.size, 82 + 3, none⟩ = some (.int .i64 ((ps k).i 85)) := cells_of HP3.out 85
        go_wp2_with fail
        refine (few4_any _ _ _ _ _).mono ?_
        rintro e w4 ⟨rfl, hb4⟩
        have hP4 : w4.heap[wr.heap.size]? = some (.cells (rowP (ps k)) 48 (0, 0)) := by
          rw [hb4.block _ hs3]
          exact HP3.out
        have hB4 : w4.heap[w.heap.size]? = some (.cells (rowB b) 33 (0, 0)) := by
          rw [hb4.block _ (by omega)]
          exact HB3.out
        have hs4 : wr.heap.size < w4.heap.size := (Array.getElem?_eq_some_iff.1 hP4).1
        have HB4 := Lib.hid hB4
        have HW4 := Lib.hid (andthen HW3.out hb4)
        clear hb4 hB4 p82 p83 p84 p85
        have p64 : w4.cell? ⟨wr.heap.size, 51 + 13, none⟩ = some (.int .i64 ((ps k).i 64)) := cells_of hP4 64
        have p65 : w4.cell? ⟨wr.heap.size, 51 + 13 + 1, none⟩ = some (.int .i64 ((ps k).i 65)) := cells_of hP4 65
        have p66 : w4.cell? ⟨wr.heap.size, 51 + 13 + 2, none⟩ = some (.int .i64 ((ps k).i 66)) := cells_of hP4 66
        have p67 : w4.cell? ⟨wr.heap.size, 51 + 13 + 3, none⟩ = some (.int .i64 ((ps k).i 67)) := cells_of hP4 67
        clear hP4
        go_wp2_with fail
        refine (few4_any _ _ _ _ _).mono ?_
        rintro e w5 ⟨rfl, hb5⟩
        have hB5 : w5.heap[w.heap.size]? = some (.cells (rowB b) 33 (0, 0)) := by
          rw [hb5.block _ (by omega)]
          exact HB4.out
        have HB5 := Lib.hid hB5
        have HW5 := Lib.hid (andthen HW4.out hb5)
        clear hb5 hB5 p64 p65 p66 p67
        rw [R1.out, R2.out, R3.out]
        clear tlo0 tlo1 tlo2 tlo3 tlo4 tlo5 tlo6 tlo7 tlo8 thi0 thi1 thi2 thi3 thi4 thi5 thi6 thi7 thi8
        go_wp2_with fail
        go_roundw
        case rel => exact ⟨k + 1, by omega, by go_num, HW5.out, HB5.out⟩
        case measure => simp [intOf]; omega
    · have e17 : wr.cell? ⟨w.heap.size, 17, none⟩ = some (.slice b.ap b.n b.cp) := cells_of hB.out 17
      go_wp2_with fail
      go_ret
      exact ⟨rfl, hW.out⟩
theorem refright_any (b : Bri) (ps : Nat → Rec) (w : World) (hv : PortsV w b ps) : Calls Try.prog 10 #[.agg (rowB b)] w fun e w' => e = .returned (.bool (goodB b ps)) ∧ Below w.heap.size w w' := by
  cases hg : goodB b ps with
  | true => exact refright_yes b ps w hv (goodB_iff.1 hg)
  | false =>
    refine (right_any b ps w hv).mono ?_
    rintro e w' ⟨r, rfl, hr, hb⟩
    cases r with
    | true =>
      have := goodB_iff.2 (hr rfl)
      rw [hg] at this
      cases this
    | false => exact ⟨rfl, hb⟩
end Go.Proofs.Ytpnlblkeckpmnaa.Br
