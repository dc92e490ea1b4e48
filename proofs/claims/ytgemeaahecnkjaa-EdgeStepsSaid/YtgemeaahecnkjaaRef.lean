/- What the document's own step of the bridge detection machine does to a port in memory (ford/fordref11.Step): the same as the program's step. -/
import Derived.Test.YtgemeaahecnkjaaLaws
import Derived.Test.YtgemeaahecnkjaaWhole
import Derived.Deep.CutRange
namespace Go.Proofs.Ytgemeaahecnkjaa.Br
open Go.RowKit
attribute [local go_sem] zeroP rowP_2 rowP_4 rowP_5 rowP_6 rowP_17 rowP_32 rowP_34 rowP_45
theorem edgeF_l (p : Rec) (h0 : ¬ p.i 17 = 0) (h1 : ¬ p.i 17 = 1) : edgeF p = (p, false) := by
  unfold edgeF
  rw [if_neg h0, if_neg h1]
set_option maxRecDepth 100000 in
set_option maxHeartbeats 4000000 in
theorem ref_any (w : World) (bx g n cap k : Nat) (ps : Nat → Rec) (hk : k < n)
    (hb : w.cell? ⟨bx, 17, none⟩ = some (.slice (some ⟨g, 0, none⟩) n cap)) (hp : Ports w g n ps) :
    Calls Try.prog 13 #[.pointer (some ⟨bx, 0, none⟩), .int .i64 k] w (Stepped w g n k ps) := by
  have hk0 : (0 : Int) ≤ k := by omega
  have hk1 : (k : Int) < n := by omega
  have hg := hp.lt
  have hr := hp.range hk
  have Hp := Lib.hid hp
  clear hp
  have hbl : bx < w.heap.size := cell_lt hb
  go_enter Try.func13, Try.ntmps13
  go_upto_region 2 with (first | (refine wpList_row rfl 52 _ rfl g (k * 89) rfl _ _ hr Try.underlying52 rfl (sizeP _) ?_; simp only [Act.put, List.setIfInBounds_toArray, List.set_cons_zero, List.set_cons_succ]) | (refine wpList_store_new rfl 52 _ _ rfl w (rowP zeroR) 52 _ rfl rfl rfl (sizeP _) rfl (rowP_one _) ?_; simp only [Act.put]) | fail)
  go_cut [34] from 15 to 34 (fun c wx => c = .bool (decide ((ps k).i 17 = 0) && leavesB (ps k)) ∧ wx = w.alloc (.cells (rowP (ps k)) 52))
  case first =>
    go_wp2_with fail
    all_goals
      go_meet
      exact ⟨(by unfold leavesB; simp [*]), rfl⟩
  case rest =>
    obtain ⟨rfl, rfl⟩ := hcut
    by_cases hl : (decide ((ps k).i 17 = 0) && leavesB (ps k)) = true
    · rw [hl]
      have hl' := hl
      simp only [Bool.and_eq_true, decide_eq_true_eq] at hl'
      have e : edgeF (ps k) = (((ps k).setI 17 1).setB 32 false, true) := by rw [edgeF_0 _ hl'.1, if_pos hl'.2]
      have He := Lib.hid e
      clear e hl hl'
      go_upto_region 5 with (fail)
      have eC : ((rowP (ps k)).setIfInBounds 32 (.bool false)).setIfInBounds 17 (.int .i64 1) = rowP (((ps k).setB 32 false).setI 17 1) := by rw [rowP_put_32, rowP_put_17]
      rw [eC]
      obtain ⟨w2, hw2⟩ : ∃ w2, w2 = w.alloc (.cells (rowP (((ps k).setB 32 false).setI 17 1)) 52) := ⟨_, rfl⟩
      rw [← hw2]
      have hloc : w2.drew.rangeAt w.heap.size 0 (rowP (((ps k).setB 32 false).setI 17 1)).toList := fun j v hv => by
        rw [Nat.zero_add, hw2]
        refine (cells_of (heap_alloc_new _ _) j).trans ?_
        simpa using hv
      have hb2 : w2.cell? ⟨bx, 17, none⟩ = some (.slice (some ⟨g, 0, none⟩) n cap) := by
        rw [hw2]
        exact (((Below.refl w.heap.size w).alloc (Nat.le_refl _) _).cell (p := ⟨bx, 17, none⟩) hbl).trans hb
      have Hp2 := Lib.hid (show Ports w2.drew g n ps by rw [hw2]; exact (Hp.out.alloc _).drew)
      have Ho2 := Lib.hid (show Only (· = g) w w2 by rw [hw2]; exact (Only.refl (· = g) w).alloc _)
      clear hw2 eC hb
      refine wp_region_still_tail 7 (by kernel_rfl) (by kernel_rfl) ?_
      simp only [List.take_succ_cons, List.take_zero, List.drop_succ_cons, List.drop_zero]
      repeat (first | (refine wpStill_row rfl 52 _ rfl w.heap.size 0 rfl (rowP (((ps k).setB 32 false).setI 17 1)) _ hloc Try.underlying52 rfl (sizeP _) ?_; simp only [Act.put, List.setIfInBounds_toArray, List.set_cons_zero, List.set_cons_succ]) | still_step)
      refine wpStill_nil ?_
      change wpList _ _ _ _ _ w2.drew
      go_wp2_with (first | (refine wpList_store_mid rfl 52 _ _ rfl g (k * 89) (rowP (((ps k).setB 32 false).setI 17 1)) rfl rfl (Hp2.out.room hk (((ps k).setB 32 false).setI 17 1)) (sizeP _) (rowP_one _) ?_; simp only [Act.put]) | fail)
      go_ret
      refine ⟨by rw [He.out]; rfl, by rw [He.out]; exact Hp2.out.row hk _, Ho2.out.drew.trans (Only.setCells (S := (· = g)) rfl _ _ _)⟩
    · rw [Bool.eq_false_iff.2 hl]
      obtain ⟨hd, hhd⟩ : ∃ x, x = (!(ps k).b 2 && (ps k).b 4) := ⟨_, rfl⟩
      obtain ⟨al, hal⟩ : ∃ x, x = ((ps k).i 6 == 0 && (ps k).b 5 && (ps k).b 45 && (ps k).b 34) := ⟨_, rfl⟩
      have Hent := Lib.hid (show entersB (ps k) = (hd || al) by rw [hhd, hal]; rfl)
      have Hd := Lib.hid hhd
      have Al := Lib.hid hal
      have Hl := Lib.hid hl
      clear hhd hal hl
      go_upto_region 7 with (fail)
      go_cut [6] from 35 to 52 (fun c wx => c = .bool hd ∧ wx = w.alloc (.cells (rowP (ps k)) 52))
      case first =>
        go_wp2_with fail
        all_goals
          go_meet
          exact ⟨(by rw [Hd.out]; simp [*]), rfl⟩
      case rest =>
        obtain ⟨rfl, rfl⟩ := hcut
        go_upto_region 8 with (fail)
        go_cut [7] from 53 to 70 (fun c wx => c = .bool al ∧ wx = w.alloc (.cells (rowP (ps k)) 52))
        case first =>
          go_wp2_with fail
          all_goals
            go_meet
            exact ⟨(by rw [Al.out]; simp [*]), rfl⟩
        case rest =>
          obtain ⟨rfl, rfl⟩ := hcut
          go_upto_region 9 with (fail)
          go_cut [80] from 71 to 80 (fun c wx => c = .bool (decide ((ps k).i 17 = 1) && (hd || al)) ∧ wx = w.alloc (.cells (rowP (ps k)) 52))
          case first =>
            cases hd <;> cases al <;> go_wp2_with fail
            all_goals
              go_meet
              exact ⟨(by simp [*]), rfl⟩
          case rest =>
            obtain ⟨rfl, rfl⟩ := hcut
            rw [← Hent.out]
            have hl := Hl.out
            by_cases hn : (decide ((ps k).i 17 = 1) && entersB (ps k)) = true
            · rw [hn]
              have hn' := hn
              simp only [Bool.and_eq_true, decide_eq_true_eq] at hn'
              have e : edgeF (ps k) = (((ps k).setI 17 0).setB 32 true, true) := by rw [edgeF_1 _ hn'.1, if_pos hn'.2]
              have He := Lib.hid e
              clear e hn hn' hl
              go_upto_region 12 with (fail)
              have eC : ((rowP (ps k)).setIfInBounds 32 (.bool true)).setIfInBounds 17 (.int .i64 0) = rowP (((ps k).setB 32 true).setI 17 0) := by rw [rowP_put_32, rowP_put_17]
              rw [eC]
              obtain ⟨w2, hw2⟩ : ∃ w2, w2 = w.alloc (.cells (rowP (((ps k).setB 32 true).setI 17 0)) 52) := ⟨_, rfl⟩
              rw [← hw2]
              have hloc : w2.drew.rangeAt w.heap.size 0 (rowP (((ps k).setB 32 true).setI 17 0)).toList := fun j v hv => by
                rw [Nat.zero_add, hw2]
                refine (cells_of (heap_alloc_new _ _) j).trans ?_
                simpa using hv
              have hb2 : w2.cell? ⟨bx, 17, none⟩ = some (.slice (some ⟨g, 0, none⟩) n cap) := by
                rw [hw2]
                exact (((Below.refl w.heap.size w).alloc (Nat.le_refl _) _).cell (p := ⟨bx, 17, none⟩) hbl).trans hb
              have Hp2 := Lib.hid (show Ports w2.drew g n ps by rw [hw2]; exact (Hp.out.alloc _).drew)
              have Ho2 := Lib.hid (show Only (· = g) w w2 by rw [hw2]; exact (Only.refl (· = g) w).alloc _)
              clear hw2 eC hb
              refine wp_region_still_tail 7 (by kernel_rfl) (by kernel_rfl) ?_
              simp only [List.take_succ_cons, List.take_zero, List.drop_succ_cons, List.drop_zero]
              repeat (first | (refine wpStill_row rfl 52 _ rfl w.heap.size 0 rfl (rowP (((ps k).setB 32 true).setI 17 0)) _ hloc Try.underlying52 rfl (sizeP _) ?_; simp only [Act.put, List.setIfInBounds_toArray, List.set_cons_zero, List.set_cons_succ]) | still_step)
              refine wpStill_nil ?_
              change wpList _ _ _ _ _ w2.drew
              go_wp2_with (first | (refine wpList_store_mid rfl 52 _ _ rfl g (k * 89) (rowP (((ps k).setB 32 true).setI 17 0)) rfl rfl (Hp2.out.room hk (((ps k).setB 32 true).setI 17 0)) (sizeP _) (rowP_one _) ?_; simp only [Act.put]) | fail)
              go_ret
              refine ⟨by rw [He.out]; rfl, by rw [He.out]; exact Hp2.out.row hk _, Ho2.out.drew.trans (Only.setCells (S := (· = g)) rfl _ _ _)⟩
            · rw [Bool.eq_false_iff.2 hn]
              have e : edgeF (ps k) = (ps k, false) := by
                unfold edgeF
                simp only [Bool.and_eq_true, decide_eq_true_eq, not_and] at hl hn
                split
                · rename_i h
                  rw [if_neg (hl h)]
                · split
                  · rename_i h
                    rw [if_neg (hn h)]
                  · rfl
              have He := Lib.hid e
              clear e hl hn
              go_wp2_with fail
              go_ret
              refine ⟨by rw [He.out]; rfl, by rw [He.out]; exact (Hp.out.start k).alloc _, (Only.refl (· = g) w).alloc _⟩
end Go.Proofs.Ytgemeaahecnkjaa.Br
