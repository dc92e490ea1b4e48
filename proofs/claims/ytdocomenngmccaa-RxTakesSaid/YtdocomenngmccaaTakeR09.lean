/- A message that the document takes in, and a port that there isn't (ford/rx.Take, ford/fordref09.Take). -/
import Derived.Test.YtdocomenngmccaaTake09
set_option linter.unusedSimpArgs false
namespace Go.Proofs.Ytdocomenngmccaa.Br
open Go.RowKit
attribute [local go_sem] rowM_size rowM_0
theorem take_out (w : World) (bx g n cap : Nat) (i : Int) (m : Rec) (hi : i < 0 ∨ (n : Int) ≤ i)
    (hb : w.cell? ⟨bx, 17, none⟩ = some (.slice (some ⟨g, 0, none⟩) n cap)) :
    Calls Try.prog 9 #[.pointer (some ⟨bx, 0, none⟩), .int .i64 i, .agg (rowM m)] w fun e w' => e = .returned (.bool false) ∧ Below w.heap.size w w' := by
  have hbl := cell_lt hb
  go_enter Try.func9, Try.ntmps9
  by_cases h0 : i < 0
  · have d0 : decide (i < 0) = true := decide_eq_true h0
    go_wp2_with fail
    go_ret
    exact ⟨rfl, more (Below.refl _ _) _⟩
  · have d0 : decide (i < 0) = false := decide_eq_false h0
    have d1 : decide ((n : Int) ≤ i) = true := decide_eq_true (by omega)
    clear h0 hi
    go_wp2_with fail
    go_ret
    exact ⟨rfl, more (Below.refl _ _) _⟩
theorem takeR_out (w : World) (bx g n cap : Nat) (i : Int) (m : Rec) (hi : i < 0 ∨ (n : Int) ≤ i)
    (hb : w.cell? ⟨bx, 17, none⟩ = some (.slice (some ⟨g, 0, none⟩) n cap)) :
    Calls Try.prog 10 #[.pointer (some ⟨bx, 0, none⟩), .int .i64 i, .agg (rowM m)] w fun e w' => e = .returned (.bool false) ∧ Below w.heap.size w w' := by
  have hbl := cell_lt hb
  go_enter Try.func10, Try.ntmps10
  by_cases h0 : i < 0
  · have d0 : decide (i < 0) = true := decide_eq_true h0
    go_wp2_with fail
    go_ret
    exact ⟨rfl, more (Below.refl _ _) _⟩
  · have d0 : decide (i < 0) = false := decide_eq_false h0
    have d1 : decide ((n : Int) ≤ i) = true := decide_eq_true (by omega)
    clear h0 hi
    go_wp2_with fail
    go_ret
    exact ⟨rfl, more (Below.refl _ _) _⟩
set_option maxHeartbeats 600000 in
theorem takeR_in (w : World) (bx g n cap k : Nat) (ps : Nat → Rec) (rst : Bool) (m : Rec) (hk : k < n)
    (hb : w.cell? ⟨bx, 17, none⟩ = some (.slice (some ⟨g, 0, none⟩) n cap)) (hb1 : w.cell? ⟨bx, 1, none⟩ = some (.bool rst)) (hp : Ports w g n ps) (hbg : bx ≠ g) :
    Calls Try.prog 10 #[.pointer (some ⟨bx, 0, none⟩), .int .i64 k, .agg (rowM m)] w (Took rst m w g n k ps) := by
  have hk0 : (0 : Int) ≤ k := by omega
  have hk1 : (k : Int) < n := by omega
  have d0 : decide ((k : Int) < 0) = false := decide_eq_false (by omega)
  have d1 : decide (n ≤ k) = false := decide_eq_false (by omega)
  have hg := hp.lt
  have hbl := cell_lt hb1
  have Hp := Lib.hid (hp.alloc (.cells (rowM m) 35))
  have hrm : (w.alloc (.cells (rowM m) 35)).rangeAt w.heap.size 0 (rowM m).toList := fun j v hv => by
    rw [Nat.zero_add, cells_of (heap_alloc_new _ _) j]
    simpa using hv
  have e2 : w.cell? ⟨g, k * 89 + 2, none⟩ = some (.bool ((ps k).b 2)) := hp.cell hk (j := 2) (by omega)
  have e35 : w.cell? ⟨g, k * 89 + 22 + 13, none⟩ = some (.bool ((ps k).b 35)) := hp.cell hk (j := 35) (by omega)
  clear hp
  go_enter Try.func10, Try.ntmps10
  go_upto_region 3 with (fail)
  go_cut [37] from 18 to 37 (fun c wx => c = .bool (!(ps k).b 2 || (ps k).b 35) ∧ wx = w.alloc (.cells (rowM m) 35))
  case first =>
    go_wp2_with fail
    all_goals
      go_meet
      exact ⟨(by simp [*]), rfl⟩
  case rest =>
    obtain ⟨rfl, rfl⟩ := hcut
    by_cases h0 : (!(ps k).b 2 || (ps k).b 35) = true
    · have He := Lib.hid (show takeF rst m (ps k) = (ps k, false) by unfold takeF; rw [if_pos (by unfold refuses; rw [h0]; rfl)])
      rw [h0]
      clear h0
      go_wp2_with fail
      go_ret
      exact ⟨by rw [He.out]; rfl, by rw [He.out]; exact Hp.out.start k, (Only.refl (· = g) w).alloc _⟩
    have H0 := Lib.hid h0
    rw [Bool.eq_false_iff.2 h0]
    clear h0
    go_upto_region 5 with (fail)
    go_cut [47] from 38 to 47 (fun c wx => c = .bool (m.i 51 == 2 && !rst) ∧ wx = w.alloc (.cells (rowM m) 35))
    case first =>
      go_wp2_with fail
      all_goals
        go_meet
        exact ⟨(by simp [*]), rfl⟩
    case rest =>
    obtain ⟨rfl, rfl⟩ := hcut
    by_cases h1 : (m.i 51 == 2 && !rst) = true
    · have He := Lib.hid (show takeF rst m (ps k) = (ps k, false) by unfold takeF; rw [if_pos (by unfold refuses; rw [h1, Bool.or_true])])
      rw [h1]
      clear h1
      go_wp2_with fail
      go_ret
      exact ⟨by rw [He.out]; rfl, by rw [He.out]; exact Hp.out.start k, (Only.refl (· = g) w).alloc _⟩
    · have He := Lib.hid (show takeF rst m (ps k) = ((putM (ps k) m).setB 35 true, true) by unfold takeF; rw [if_neg (by unfold refuses; rw [Bool.eq_false_iff.2 H0.out, Bool.eq_false_iff.2 h1]; decide)])
      rw [Bool.eq_false_iff.2 h1]
      clear h1
      have HP2 := Hp
      obtain ⟨w1, hw1⟩ : ∃ x, x = w.alloc (.cells (rowM m) 35) := ⟨_, rfl⟩
      rw [← hw1]
      have HP1 := Lib.hid (show Ports w1 g n ps by rw [hw1]; exact HP2.out)
      have hrm1 : w1.drew.rangeAt w.heap.size 0 (rowM m).toList := by rw [hw1]; exact hrm
      have hb1' : w1.cell? ⟨bx, 17, none⟩ = some (.slice (some ⟨g, 0, none⟩) n cap) := by rw [hw1]; exact ((more (Below.refl w.heap.size w) _).cell (p := ⟨bx, 17, none⟩) hbl).trans hb
      have Ho1 := Lib.hid (show Only (· = g) w w1 by rw [hw1]; exact (Only.refl (· = g) w).alloc _)
      clear hw1 hrm HP2 Hp
      obtain ⟨w2, hw2⟩ : ∃ x, x = w1.drew.setCells g (k * 89 + 51) (rowM m).toList := ⟨_, rfl⟩
      have hst : Sem.run Try.prog (storeCells ⟨g, k * 89 + 51, none⟩ (rowM m).toList) w1.drew = .ok () w2 := by
        rw [hw2]
        exact run_storeCells_cells (P := Try.prog) g (k * 89 + 51) (rowM m).toList 0 w1.drew (fun j hj => (HP1.out.roomM hk m j (by simpa using hj)).1) (fun j hj => (HP1.out.roomM hk m j (by simpa using hj)).2) (fun v hv => by have := rowM_one m; rw [Array.all_eq_true'] at this; exact this v (by simpa using hv))
      have hp2 : Ports w2 g n (upd ps k (putM (ps k) m)) := by rw [hw2]; exact HP1.out.drew.msg hk m
      have Ho2 := Lib.hid (show Only (· = g) w w2 by rw [hw2]; exact Ho1.out.drew.trans (Only.setCells (S := (· = g)) rfl _ _ _))
      have c35 := hp2.cell hk (j := 35) (by omega)
      have f35 := hp2.free (k * 89 + 22 + 13)
      have x17 : w2.cell? ⟨bx, 17, none⟩ = some (.slice (some ⟨g, 0, none⟩) n cap) := (Ho2.out.cell (p := ⟨bx, 17, none⟩) hbl hbg).trans hb
      clear hw2 hb hb1 e2 e35
      go_upto_region 7 with (fail)
      refine wp_region_still_tail 8 (by kernel_rfl) (by kernel_rfl) ?_
      simp only [List.take_succ_cons, List.take_zero, List.drop_succ_cons, List.drop_zero]
      repeat (first | (refine wpStill_row rfl 35 _ rfl w.heap.size 0 rfl (rowM m) _ hrm1 Try.underlying35 rfl (sizeM _) ?_; simp only [Act.put, List.setIfInBounds_toArray, List.set_cons_zero, List.set_cons_succ]) | still_step)
      refine wpStill_nil ?_
      change wpList _ _ _ _ _ w1.drew
      clear hrm1
      go_wp2_with fail
      go_ret
      exact ⟨by rw [He.out]; rfl, by rw [He.out]; exact hp2.step (j := 35) (by omega) (rowP_put_35 _ _), Ho2.out.setCell (Or.inl rfl) _⟩
end Go.Proofs.Ytdocomenngmccaa.Br
