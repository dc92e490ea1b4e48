/- What the document's own step of the protocol migration machine does to a port in memory (ford/fordref10.Step): the same as the program's step. -/
import Derived.Test.YtjefonjjgahmgaaAwake10
import Derived.Test.YtjefonjjgahmgaaWhole
import Derived.Deep.CutRange
import Derived.Deep.CutBlock
set_option linter.unusedSimpArgs false
namespace Go.Proofs.Ytjefonjjgahmgaa.Br
open Go.RowKit
attribute [local go_sem] zeroP rowP_2 rowP_9 rowP_16 rowP_30 rowP_37 rowP_38 rowP_45
/-- The state that comes next, or -1. -/
def toF (rst : Bool) (p : Rec) : Int :=
  if fires rst p 0 = true then 2 else if fires rst p 1 = true then 0 else if fires rst p 2 = true then 0 else if fires rst p 3 = true then 1 else if fires rst p 4 = true then 2 else -1
theorem mig_to (rst : Bool) (p : Rec) : (toF rst p = 2 ∧ migF rst p = ((((p.setB 37 false).setB 38 false).setI 16 2), true)) ∨ (toF rst p = 0 ∧ migF rst p = (((((p.setB 30 false).setB 45 rst).setI 9 3).setI 16 0), true)) ∨ (toF rst p = 1 ∧ migF rst p = ((((p.setB 45 false).setI 9 3).setI 16 1), true)) ∨ (toF rst p = -1 ∧ migF rst p = (p, false)) := by
  unfold toF migF
  repeat' split
  all_goals simp
set_option maxRecDepth 100000 in
set_option maxHeartbeats 16000000 in
theorem ref_any (w : World) (bx g n cap k : Nat) (ps : Nat → Rec) (rst : Bool) (hk : k < n)
    (hb : w.cell? ⟨bx, 17, none⟩ = some (.slice (some ⟨g, 0, none⟩) n cap)) (hb1 : w.cell? ⟨bx, 1, none⟩ = some (.bool rst)) (hp : Ports w g n ps) :
    Calls Try.prog 13 #[.pointer (some ⟨bx, 0, none⟩), .int .i64 k] w (Stepped rst w g n k ps) := by
  have hk0 : (0 : Int) ≤ k := by omega
  have hk1 : (k : Int) < n := by omega
  have hg := hp.lt
  have hr := hp.range hk
  have Hp := Lib.hid hp
  clear hp
  have hbl : bx < w.heap.size := cell_lt hb
  go_enter Try.func13, Try.ntmps13
  go_upto_block 0 with (first | (refine wpList_row rfl 52 _ rfl g (k * 89) rfl _ _ hr Try.underlying52 rfl (sizeP _) ?_; simp only [Act.put, List.setIfInBounds_toArray, List.set_cons_zero, List.set_cons_succ]) | (refine wpList_store_new rfl 52 _ _ rfl w (rowP zeroR) 52 _ rfl rfl rfl (sizeP _) rfl (rowP_one _) ?_; simp only [Act.put]) | fail)
  go_cut [6] from 14 to 82 (fun c wx => c = .int .i64 (toF rst (ps k)) ∧ wx = w.alloc (.cells (rowP (ps k)) 52))
  case first =>
    go_wp2_with fail
    all_goals
      go_meet
      refine ⟨?_, rfl⟩
      clear hr Hp hb hb1 hk0 hk1
      simp_all [toF, fires, whenF, stateOf]
  case rest =>
    obtain ⟨rfl, rfl⟩ := hcut
    rcases mig_to rst (ps k) with ⟨e1, e2⟩ | ⟨e1, e2⟩ | ⟨e1, e2⟩ | ⟨e1, e2⟩
    · have He := Lib.hid e2
      rw [e1]
      clear e1 e2
      go_upto_region 30 with (fail)
      have eC : (((rowP (ps k)).setIfInBounds 37 (.bool false)).setIfInBounds 38 (.bool false)).setIfInBounds 16 (.int .i64 2) = rowP ((((ps k).setB 37 false).setB 38 false).setI 16 2) := by rw [rowP_put_37, rowP_put_38, rowP_put_16]
      rw [eC]
      obtain ⟨w2, hw2⟩ : ∃ w2, w2 = w.alloc (.cells (rowP ((((ps k).setB 37 false).setB 38 false).setI 16 2)) 52) := ⟨_, rfl⟩
      rw [← hw2]
      have hloc : w2.drew.rangeAt w.heap.size 0 (rowP ((((ps k).setB 37 false).setB 38 false).setI 16 2)).toList := fun j v hv => by
        rw [Nat.zero_add, hw2]
        refine (cells_of (heap_alloc_new _ _) j).trans ?_
        simpa using hv
      have hb2 : w2.cell? ⟨bx, 17, none⟩ = some (.slice (some ⟨g, 0, none⟩) n cap) := by
        rw [hw2]
        exact (((Below.refl w.heap.size w).alloc (Nat.le_refl _) _).cell (p := ⟨bx, 17, none⟩) hbl).trans hb
      have Hp2 := Lib.hid (show Ports w2.drew g n ps by rw [hw2]; exact (Hp.out.alloc _).drew)
      have Ho2 := Lib.hid (show Only (· = g) w w2 by rw [hw2]; exact (Only.refl (· = g) w).alloc _)
      clear hw2 eC hb
      refine wp_region_still_tail 7 (by kernel_rfl) (by kernel_rfl) ?_
      simp only [List.take_succ_cons, List.take_zero, List.drop_succ_cons, List.drop_zero]
      repeat (first | (refine wpStill_row rfl 52 _ rfl w.heap.size 0 rfl (rowP ((((ps k).setB 37 false).setB 38 false).setI 16 2)) _ hloc Try.underlying52 rfl (sizeP _) ?_; simp only [Act.put, List.setIfInBounds_toArray, List.set_cons_zero, List.set_cons_succ]) | still_step)
      refine wpStill_nil ?_
      change wpList _ _ _ _ _ w2.drew
      go_wp2_with (first | (refine wpList_store_mid rfl 52 _ _ rfl g (k * 89) (rowP ((((ps k).setB 37 false).setB 38 false).setI 16 2)) rfl rfl (Hp2.out.room hk ((((ps k).setB 37 false).setB 38 false).setI 16 2)) (sizeP _) (rowP_one _) ?_; simp only [Act.put]) | fail)
      go_ret
      refine ⟨by rw [He.out]; rfl, by rw [He.out]; exact Hp2.out.row hk _, Ho2.out.drew.trans (Only.setCells (S := (· = g)) rfl _ _ _)⟩
    · have He := Lib.hid e2
      rw [e1]
      clear e1 e2
      go_upto_region 30 with (fail)
      have eC : ((((rowP (ps k)).setIfInBounds 30 (.bool false)).setIfInBounds 45 (.bool rst)).setIfInBounds 9 (.int .i64 3)).setIfInBounds 16 (.int .i64 0) = rowP (((((ps k).setB 30 false).setB 45 rst).setI 9 3).setI 16 0) := by rw [rowP_put_30, rowP_put_45, rowP_put_9, rowP_put_16]
      rw [eC]
      obtain ⟨w2, hw2⟩ : ∃ w2, w2 = w.alloc (.cells (rowP (((((ps k).setB 30 false).setB 45 rst).setI 9 3).setI 16 0)) 52) := ⟨_, rfl⟩
      rw [← hw2]
      have hloc : w2.drew.rangeAt w.heap.size 0 (rowP (((((ps k).setB 30 false).setB 45 rst).setI 9 3).setI 16 0)).toList := fun j v hv => by
        rw [Nat.zero_add, hw2]
        refine (cells_of (heap_alloc_new _ _) j).trans ?_
        simpa using hv
      have hb2 : w2.cell? ⟨bx, 17, none⟩ = some (.slice (some ⟨g, 0, none⟩) n cap) := by
        rw [hw2]
        exact (((Below.refl w.heap.size w).alloc (Nat.le_refl _) _).cell (p := ⟨bx, 17, none⟩) hbl).trans hb
      have Hp2 := Lib.hid (show Ports w2.drew g n ps by rw [hw2]; exact (Hp.out.alloc _).drew)
      have Ho2 := Lib.hid (show Only (· = g) w w2 by rw [hw2]; exact (Only.refl (· = g) w).alloc _)
      clear hw2 eC hb
      refine wp_region_still_tail 7 (by kernel_rfl) (by kernel_rfl) ?_
      simp only [List.take_succ_cons, List.take_zero, List.drop_succ_cons, List.drop_zero]
      repeat (first | (refine wpStill_row rfl 52 _ rfl w.heap.size 0 rfl (rowP (((((ps k).setB 30 false).setB 45 rst).setI 9 3).setI 16 0)) _ hloc Try.underlying52 rfl (sizeP _) ?_; simp only [Act.put, List.setIfInBounds_toArray, List.set_cons_zero, List.set_cons_succ]) | still_step)
      refine wpStill_nil ?_
      change wpList _ _ _ _ _ w2.drew
      go_wp2_with (first | (refine wpList_store_mid rfl 52 _ _ rfl g (k * 89) (rowP (((((ps k).setB 30 false).setB 45 rst).setI 9 3).setI 16 0)) rfl rfl (Hp2.out.room hk (((((ps k).setB 30 false).setB 45 rst).setI 9 3).setI 16 0)) (sizeP _) (rowP_one _) ?_; simp only [Act.put]) | fail)
      go_ret
      refine ⟨by rw [He.out]; rfl, by rw [He.out]; exact Hp2.out.row hk _, Ho2.out.drew.trans (Only.setCells (S := (· = g)) rfl _ _ _)⟩
    · have He := Lib.hid e2
      rw [e1]
      clear e1 e2
      go_upto_region 30 with (fail)
      have eC : (((rowP (ps k)).setIfInBounds 45 (.bool false)).setIfInBounds 9 (.int .i64 3)).setIfInBounds 16 (.int .i64 1) = rowP ((((ps k).setB 45 false).setI 9 3).setI 16 1) := by rw [rowP_put_45, rowP_put_9, rowP_put_16]
      rw [eC]
      obtain ⟨w2, hw2⟩ : ∃ w2, w2 = w.alloc (.cells (rowP ((((ps k).setB 45 false).setI 9 3).setI 16 1)) 52) := ⟨_, rfl⟩
      rw [← hw2]
      have hloc : w2.drew.rangeAt w.heap.size 0 (rowP ((((ps k).setB 45 false).setI 9 3).setI 16 1)).toList := fun j v hv => by
        rw [Nat.zero_add, hw2]
        refine (cells_of (heap_alloc_new _ _) j).trans ?_
        simpa using hv
      have hb2 : w2.cell? ⟨bx, 17, none⟩ = some (.slice (some ⟨g, 0, none⟩) n cap) := by
        rw [hw2]
        exact (((Below.refl w.heap.size w).alloc (Nat.le_refl _) _).cell (p := ⟨bx, 17, none⟩) hbl).trans hb
      have Hp2 := Lib.hid (show Ports w2.drew g n ps by rw [hw2]; exact (Hp.out.alloc _).drew)
      have Ho2 := Lib.hid (show Only (· = g) w w2 by rw [hw2]; exact (Only.refl (· = g) w).alloc _)
      clear hw2 eC hb
      refine wp_region_still_tail 7 (by kernel_rfl) (by kernel_rfl) ?_
      simp only [List.take_succ_cons, List.take_zero, List.drop_succ_cons, List.drop_zero]
      repeat (first | (refine wpStill_row rfl 52 _ rfl w.heap.size 0 rfl (rowP ((((ps k).setB 45 false).setI 9 3).setI 16 1)) _ hloc Try.underlying52 rfl (sizeP _) ?_; simp only [Act.put, List.setIfInBounds_toArray, List.set_cons_zero, List.set_cons_succ]) | still_step)
      refine wpStill_nil ?_
      change wpList _ _ _ _ _ w2.drew
      go_wp2_with (first | (refine wpList_store_mid rfl 52 _ _ rfl g (k * 89) (rowP ((((ps k).setB 45 false).setI 9 3).setI 16 1)) rfl rfl (Hp2.out.room hk ((((ps k).setB 45 false).setI 9 3).setI 16 1)) (sizeP _) (rowP_one _) ?_; simp only [Act.put]) | fail)
      go_ret
      refine ⟨by rw [He.out]; rfl, by rw [He.out]; exact Hp2.out.row hk _, Ho2.out.drew.trans (Only.setCells (S := (· = g)) rfl _ _ _)⟩
    · have He := Lib.hid e2
      rw [e1]
      clear e1 e2
      go_wp2_with fail
      go_ret
      refine ⟨by rw [He.out]; rfl, by rw [He.out]; exact (Hp.out.start k).alloc _, (Only.refl (· = g) w).alloc _⟩
end Go.Proofs.Ytjefonjjgahmgaa.Br
