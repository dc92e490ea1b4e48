/- What the document's own step of the passage machine does to a port in memory (ford/fordref16.Step): the same as the program's step. -/
import Derived.Test.YthijhbdaojmgmaaAwake16
import Derived.Test.YthijhbdaojmgmaaWhole
import Derived.Deep.CutRange
namespace Go.Proofs.Ythijhbdaojmgmaa.Br
open Go.RowKit
attribute [local go_sem] zeroP rowP_20 rowP_26 rowP_28
theorem passF_b (p : Rec) (h0 : ¬ fires p 0 = true) (h : (fires p 1 || fires p 3) = true) : passF p = (((p.setB 29 false).setB 27 false).setI 20 0, true) := by
  unfold passF
  rw [if_neg h0]
  by_cases h1 : fires p 1 = true
  · rw [if_pos h1]
  · rw [if_neg h1]
    have h3 : fires p 3 = true := by simpa [h1] using h
    have h2 : ¬ fires p 2 = true := by
      simp only [fires, Bool.and_eq_true, beq_iff_eq] at h3 ⊢
      omega
    rw [if_neg h2, if_pos h3]
theorem passF_c (p : Rec) (h0 : ¬ fires p 0 = true) (h : ¬ (fires p 1 || fires p 3) = true) (h2 : fires p 2 = true) : passF p = ((p.setB 27 true).setI 20 2, true) := by
  unfold passF
  simp only [Bool.or_eq_true, not_or] at h
  rw [if_neg h0, if_neg h.1, if_pos h2]
theorem passF_d (p : Rec) (h0 : ¬ fires p 0 = true) (h : ¬ (fires p 1 || fires p 3) = true) (h2 : ¬ fires p 2 = true) : passF p = (p, false) := by
  unfold passF
  simp only [Bool.or_eq_true, not_or] at h
  rw [if_neg h0, if_neg h.1, if_neg h2, if_neg h.2]
set_option maxRecDepth 100000 in
set_option maxHeartbeats 8000000 in
theorem ref_any (w : World) (bx g n cap k : Nat) (ps : Nat → Rec) (hk : k < n)
    (hb : w.cell? ⟨bx, 17, none⟩ = some (.slice (some ⟨g, 0, none⟩) n cap)) (hp : Ports w g n ps) :
    Calls Try.prog 13 #[.pointer (some ⟨bx, 0, none⟩), .int .i64 k] w (Stepped w g n k ps) := by
  have hk0 : (0 : Int) ≤ k := by omega
  have hk1 : (k : Int) < n := by omega
  have hg := hp.lt
  have hr := hp.range hk
  have Hp := Lib.hid hp
  clear hp
  have hbl : bx < w.heap.size := cell_lt hb
  go_enter Try.func13, Try.ntmps13
  go_upto_region 3 with (first | (refine wpList_row rfl 52 _ rfl g (k * 89) rfl _ _ hr Try.underlying52 rfl (sizeP _) ?_; simp only [Act.put, List.setIfInBounds_toArray, List.set_cons_zero, List.set_cons_succ]) | (refine wpList_store_new rfl 52 _ _ rfl w (rowP zeroR) 52 _ rfl rfl rfl (sizeP _) rfl (rowP_one _) ?_; simp only [Act.put]) | fail)
  go_cut [13] from 14 to 22 (fun c wx => c = .bool (fires (ps k) 0) ∧ wx = w.alloc (.cells (rowP (ps k)) 52))
  case first =>
    go_wp2_with fail
    all_goals
      go_meet
      exact ⟨(by unfold fires; simp [*]), rfl⟩
  case rest =>
    obtain ⟨rfl, rfl⟩ := hcut
    by_cases h0 : fires (ps k) 0 = true
    · rw [h0]
      have He := Lib.hid (show passF (ps k) = (((ps k).setB 29 true).setI 20 1, true) by unfold passF; rw [if_pos h0])
      clear h0
      go_upto_region 13 with (fail)
      have eC : ((rowP (ps k)).setIfInBounds 29 (.bool true)).setIfInBounds 20 (.int .i64 1) = rowP (((ps k).setB 29 true).setI 20 1) := by rw [rowP_put_29, rowP_put_20]
      rw [eC]
      obtain ⟨w2, hw2⟩ : ∃ w2, w2 = w.alloc (.cells (rowP (((ps k).setB 29 true).setI 20 1)) 52) := ⟨_, rfl⟩
      rw [← hw2]
      have hloc : w2.drew.rangeAt w.heap.size 0 (rowP (((ps k).setB 29 true).setI 20 1)).toList := fun j v hv => by
        rw [Nat.zero_add, hw2]
        refine (cells_of (heap_alloc_new _ _) j).trans ?_
        simpa using hv
      have hb2 : w2.cell? ⟨bx, 17, none⟩ = some (.slice (some ⟨g, 0, none⟩) n cap) := by
        rw [hw2]
        exact (((Below.refl w.heap.size w).alloc (Nat.le_refl _) _).cell (p := ⟨bx, 17, none⟩) hbl).trans hb
      have Hp2 := Lib.hid (show Ports w2.drew g n ps by rw [hw2]; exact (Hp.out.alloc _).drew)
      have Ho2 := Lib.hid (show Only (· = g) w w2 by rw [hw2]; exact (Only.refl (· = g) w).alloc _)
      clear hw2 eC hb
      refine wp_region_still_tail 7 (by kernel_rfl) (by kernel_rfl) ?_
      simp only [List.take_succ_cons, List.take_zero, List.drop_succ_cons, List.drop_zero]
      repeat (first | (refine wpStill_row rfl 52 _ rfl w.heap.size 0 rfl (rowP (((ps k).setB 29 true).setI 20 1)) _ hloc Try.underlying52 rfl (sizeP _) ?_; simp only [Act.put, List.setIfInBounds_toArray, List.set_cons_zero, List.set_cons_succ]) | still_step)
      refine wpStill_nil ?_
      change wpList _ _ _ _ _ w2.drew
      go_wp2_with (first | (refine wpList_store_mid rfl 52 _ _ rfl g (k * 89) (rowP (((ps k).setB 29 true).setI 20 1)) rfl rfl (Hp2.out.room hk (((ps k).setB 29 true).setI 20 1)) (sizeP _) (rowP_one _) ?_; simp only [Act.put]) | fail)
      go_ret
      refine ⟨by rw [He.out]; rfl, by rw [He.out]; exact Hp2.out.row hk _, Ho2.out.drew.trans (Only.setCells (S := (· = g)) rfl _ _ _)⟩
    · rw [Bool.eq_false_iff.2 h0]
      have H0 := Lib.hid h0
      clear h0
      go_upto_region 6 with (fail)
      go_cut [27] from 28 to 49 (fun c wx => c = .bool (fires (ps k) 1 || fires (ps k) 3) ∧ wx = w.alloc (.cells (rowP (ps k)) 52))
      case first =>
        go_wp2_with fail
        all_goals
          go_meet
          exact ⟨(by unfold fires; simp [*]), rfl⟩
      case rest =>
        obtain ⟨rfl, rfl⟩ := hcut
        by_cases h1 : (fires (ps k) 1 || fires (ps k) 3) = true
        · rw [h1]
          have He := Lib.hid (passF_b _ H0.out h1)
          clear h1
          go_upto_region 13 with (fail)
          have eC : (((rowP (ps k)).setIfInBounds 29 (.bool false)).setIfInBounds 27 (.bool false)).setIfInBounds 20 (.int .i64 0) = rowP ((((ps k).setB 29 false).setB 27 false).setI 20 0) := by rw [rowP_put_29, rowP_put_27, rowP_put_20]
          rw [eC]
          obtain ⟨w2, hw2⟩ : ∃ w2, w2 = w.alloc (.cells (rowP ((((ps k).setB 29 false).setB 27 false).setI 20 0)) 52) := ⟨_, rfl⟩
          rw [← hw2]
          have hloc : w2.drew.rangeAt w.heap.size 0 (rowP ((((ps k).setB 29 false).setB 27 false).setI 20 0)).toList := fun j v hv => by
            rw [Nat.zero_add, hw2]
            refine (cells_of (heap_alloc_new _ _) j).trans ?_
            simpa using hv
          have hb2 : w2.cell? ⟨bx, 17, none⟩ = some (.slice (some ⟨g, 0, none⟩) n cap) := by
            rw [hw2]
            exact (((Below.refl w.heap.size w).alloc (Nat.le_refl _) _).cell (p := ⟨bx, 17, none⟩) hbl).trans hb
          have Hp2 := Lib.hid (show Ports w2.drew g n ps by rw [hw2]; exact (Hp.out.alloc _).drew)
          have Ho2 := Lib.hid (show Only (· = g) w w2 by rw [hw2]; exact (Only.refl (· = g) w).alloc _)
          clear hw2 eC hb
          refine wp_region_still_tail 7 (by kernel_rfl) (by kernel_rfl) ?_
          simp only [List.take_succ_cons, List.take_zero, List.drop_succ_cons, List.drop_zero]
          repeat (first | (refine wpStill_row rfl 52 _ rfl w.heap.size 0 rfl (rowP ((((ps k).setB 29 false).setB 27 false).setI 20 0)) _ hloc Try.underlying52 rfl (sizeP _) ?_; simp only [Act.put, List.setIfInBounds_toArray, List.set_cons_zero, List.set_cons_succ]) | still_step)
          refine wpStill_nil ?_
          change wpList _ _ _ _ _ w2.drew
          go_wp2_with (first | (refine wpList_store_mid rfl 52 _ _ rfl g (k * 89) (rowP ((((ps k).setB 29 false).setB 27 false).setI 20 0)) rfl rfl (Hp2.out.room hk ((((ps k).setB 29 false).setB 27 false).setI 20 0)) (sizeP _) (rowP_one _) ?_; simp only [Act.put]) | fail)
          go_ret
          refine ⟨by rw [He.out]; rfl, by rw [He.out]; exact Hp2.out.row hk _, Ho2.out.drew.trans (Only.setCells (S := (· = g)) rfl _ _ _)⟩
        · rw [Bool.eq_false_iff.2 h1]
          have H1 := Lib.hid h1
          clear h1
          go_upto_region 10 with (fail)
          go_cut [56] from 57 to 65 (fun c wx => c = .bool (fires (ps k) 2) ∧ wx = w.alloc (.cells (rowP (ps k)) 52))
          case first =>
            go_wp2_with fail
            all_goals
              go_meet
              exact ⟨(by unfold fires; simp [*]), rfl⟩
          case rest =>
            obtain ⟨rfl, rfl⟩ := hcut
            by_cases h2 : fires (ps k) 2 = true
            · rw [h2]
              have He := Lib.hid (passF_c _ H0.out H1.out h2)
              clear h2
              go_upto_region 13 with (fail)
              have eC : ((rowP (ps k)).setIfInBounds 27 (.bool true)).setIfInBounds 20 (.int .i64 2) = rowP (((ps k).setB 27 true).setI 20 2) := by rw [rowP_put_27, rowP_put_20]
              rw [eC]
              obtain ⟨w2, hw2⟩ : ∃ w2, w2 = w.alloc (.cells (rowP (((ps k).setB 27 true).setI 20 2)) 52) := ⟨_, rfl⟩
              rw [← hw2]
              have hloc : w2.drew.rangeAt w.heap.size 0 (rowP (((ps k).setB 27 true).setI 20 2)).toList := fun j v hv => by
                rw [Nat.zero_add, hw2]
                refine (cells_of (heap_alloc_new _ _) j).trans ?_
                simpa using hv
              have hb2 : w2.cell? ⟨bx, 17, none⟩ = some (.slice (some ⟨g, 0, none⟩) n cap) := by
                rw [hw2]
                exact (((Below.refl w.heap.size w).alloc (Nat.le_refl _) _).cell (p := ⟨bx, 17, none⟩) hbl).trans hb
              have Hp2 := Lib.hid (show Ports w2.drew g n ps by rw [hw2]; exact (Hp.out.alloc _).drew)
              have Ho2 := Lib.hid (show Only (· = g) w w2 by rw [hw2]; exact (Only.refl (· = g) w).alloc _)
              clear hw2 eC hb
              refine wp_region_still_tail 7 (by kernel_rfl) (by kernel_rfl) ?_
              simp only [List.take_succ_cons, List.take_zero, List.drop_succ_cons, List.drop_zero]
              repeat (first | (refine wpStill_row rfl 52 _ rfl w.heap.size 0 rfl (rowP (((ps k).setB 27 true).setI 20 2)) _ hloc Try.underlying52 rfl (sizeP _) ?_; simp only [Act.put, List.setIfInBounds_toArray, List.set_cons_zero, List.set_cons_succ]) | still_step)
              refine wpStill_nil ?_
              change wpList _ _ _ _ _ w2.drew
              go_wp2_with (first | (refine wpList_store_mid rfl 52 _ _ rfl g (k * 89) (rowP (((ps k).setB 27 true).setI 20 2)) rfl rfl (Hp2.out.room hk (((ps k).setB 27 true).setI 20 2)) (sizeP _) (rowP_one _) ?_; simp only [Act.put]) | fail)
              go_ret
              refine ⟨by rw [He.out]; rfl, by rw [He.out]; exact Hp2.out.row hk _, Ho2.out.drew.trans (Only.setCells (S := (· = g)) rfl _ _ _)⟩
            · rw [Bool.eq_false_iff.2 h2]
              have He := Lib.hid (passF_d _ H0.out H1.out h2)
              clear h2
              go_wp2_with fail
              go_ret
              refine ⟨by rw [He.out]; rfl, by rw [He.out]; exact (Hp.out.start k).alloc _, (Only.refl (· = g) w).alloc _⟩
end Go.Proofs.Ythijhbdaojmgmaa.Br
