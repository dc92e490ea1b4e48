/- Law EdgeHand of the bridge detection machine: the walk joined with the plain law. -/
import Derived.Test.YtgemeaahecnkjaaLaws
namespace Go.Proofs.Ytgemeaahecnkjaa.Br
open Go.RowKit
attribute [local go_sem] zeroP zeroBr at_17 rowP_17 rowP_32 rowP_4

theorem hand_law (p : Rec) (h2 : p.b 2 = false) (h5 : p.b 5 = false) (h : p.i 17 = 0 ∨ p.i 17 = 1) :
    ((edgeF (edgeF p).1).1.i 17 == 0) = (edgeF (edgeF p).1).1.b 4 ∧ ((p.i 17 = 1 ∧ (edgeF (edgeF p).1).1.b 4 = false) ∨ (edgeF (edgeF p).1).1.b 32 = (edgeF (edgeF p).1).1.b 4) := by
  rcases h with h | h
  · by_cases hl : leavesB p = true
    · have e := edgeF_0 p h
      rw [if_pos hl] at e
      rw [e]
      have e2 := edgeF_1 ((p.setI 17 1).setB 32 false) rfl
      have he : entersB ((p.setI 17 1).setB 32 false) = p.b 4 := by simp [entersB, Rec.setB_b, Rec.setI_b, h2, h5]
      rw [he] at e2
      simp only [e2]
      cases h4 : p.b 4
      · simp [Rec.setB_b, Rec.setI_b, Rec.setI_i, Rec.setB_i, h4]
      · simp [Rec.setB_b, Rec.setI_b, Rec.setI_i, Rec.setB_i, h4]
    · have e := edgeF_0 p h
      rw [if_neg hl] at e
      simp only [e]
      unfold leavesB at hl
      simp [h2] at hl
      simp [h, hl]
  · have e := edgeF_1 p h
    have he : entersB p = p.b 4 := by simp [entersB, h2, h5]
    rw [he] at e
    cases h4 : p.b 4
    · rw [h4, if_neg (by simp)] at e
      simp only [e]
      simp [h, h4]
    · rw [h4, if_pos rfl] at e
      rw [e]
      have e2 := edge_a ((p.setI 17 0).setB 32 true) (by simp [Rec.setB_b, Rec.setI_b, h4]) rfl rfl
      simp only [e2]
      simp [Rec.setB_b, Rec.setI_b, Rec.setI_i, Rec.setB_i, h4]
set_option maxRecDepth 100000 in
set_option maxHeartbeats 8000000 in
theorem hand_any (b : Bri) (ps ss : Nat → Rec) (fs : Nat → Int) (w : World) (i : Nat) (hi : i ≤ 255) (j : Nat) (hj : j ≤ 255) (h : Reads0 w b ps ss fs) :
    Calls Try.prog 5 #[.agg (rowB b), .int .u8 i, .int .u8 j] w fun e w' => e = .returned (.bool true) ∧ Below w.heap.size w w' := by
  have HR := Lib.hid h
  clear h
  go_enter Try.func5, Try.ntmps5
  go_wp2_with fail
  refine (awake_any _).mono ?_
  rintro e w1 ⟨rfl, hb1⟩
  have HB : Hid (w1.heap[w.heap.size]? = some (.cells (rowB b) 33 (0, 0))) := (hb1.block _ (by simp)).trans (at_new rfl)
  have HW1 := Lib.hid (andthen (more (Below.refl w.heap.size w) _) hb1)
  clear hb1
  go_wp2_with (first | (refine loadB rfl rfl _ rfl w.heap.size rfl b HB.out ?_; simp only [Act.put, List.setIfInBounds_toArray, List.set_cons_zero, List.set_cons_succ]) | fail)
  refine (few_any b ps _ (HR.out.below HW1.out).p).mono ?_
  rintro e w2 ⟨r, rfl, hr, hb2⟩
  have HB' : Hid (w2.heap[w.heap.size]? = some (.cells (rowB b) 33 (0, 0))) := (hb2.block _ (Array.getElem?_eq_some_iff.1 HB.out).1).trans HB.out
  have HW2 := Lib.hid (andthen HW1.out hb2)
  have Hr := Lib.hid hr
  clear hb2 hr HB HW1
  cases r
  · go_wp2_with fail
    go_ret
    exact ⟨rfl, HW2.out⟩
  have HL := Lib.hid (Hr.out rfl)
  clear Hr
  have HB := HB'
  clear HB'
  have hn1 : 0 < b.n := HL.out.2.1
  have hn8 : b.n ≤ 8 := HL.out.2.2.1
  go_wp2_with (first | (refine loadB rfl rfl _ rfl w.heap.size rfl b HB.out ?_; simp only [Act.put, List.setIfInBounds_toArray, List.set_cons_zero, List.set_cons_succ]) | fail)
  refine (at_any b i _ hi hn1 hn8).mono ?_
  rintro e w3 ⟨rfl, hb3⟩
  have HB' : Hid (w3.heap[w.heap.size]? = some (.cells (rowB b) 33 (0, 0))) := (hb3.block _ (Array.getElem?_eq_some_iff.1 HB.out).1).trans HB.out
  have HW3 := Lib.hid (andthen HW2.out hb3)
  clear hb3 HB HW2
  have HB := HB'
  clear HB'
  obtain ⟨k, hk⟩ : ∃ k, k = i % b.n := ⟨_, rfl⟩
  have hkn : k < b.n := by rw [hk]; exact Nat.mod_lt _ hn1
  rw [← hk]
  have Hk := Lib.hid hk
  clear hk
  go_wp2_with (first | (refine loadB rfl rfl _ rfl w.heap.size rfl b HB.out ?_; simp only [Act.put, List.setIfInBounds_toArray, List.set_cons_zero, List.set_cons_succ]) | fail)
  refine (clone_any b ps ss fs _ ((HR.out.below HW3.out).looked HL.out)).mono ?_
  rintro e w4 ⟨gp, cp, go, co, gf, cf, rfl, hp1, hp2, hp3, op, os, of, hb⟩
  have HP := Lib.hid op.ports
  have hgl := op.lt
  have HW4 := Lib.hid (andthen HW3.out hb)
  have hge : w.heap.size ≤ gp := Nat.le_trans HW3.out.size hp1
  have c2 : w4.cell? ⟨gp, k * 89 + 2, none⟩ = some (.bool ((ps k).b 2)) := HP.out.cell hkn (j := 2) (by omega)
  have f2 := HP.out.free (k * 89 + 2)
  have c5 : w4.cell? ⟨gp, k * 89 + 5, none⟩ = some (.bool ((ps k).b 5)) := HP.out.cell hkn (j := 5) (by omega)
  have f5 := HP.out.free (k * 89 + 5)
  have c17 : w4.cell? ⟨gp, k * 89 + 15 + 2, none⟩ = some (.int .i64 ((ps k).i 17)) := HP.out.cell hkn (j := 17) (by omega)
  have f17 := HP.out.free (k * 89 + 15 + 2)
  clear op os of hb hp1 hp2 hp3 HB
  go_wp2_with (first | (refine wpList_store_at rfl 33 _ _ rfl _ (rowB zeroBri) 33 (rowB (b.at gp cp go co gf cf)) _ rfl rfl rfl rfl (sizeB _) rfl (rowB_one _) ?_; simp only [Act.put]) | fail)
  · have hf := hand_law ((((ps k).setB 2 false).setB 5 false).setI 17 ((j : Int) % 2)) (by simp [Rec.setB_b, Rec.setI_b]) (by simp [Rec.setB_b, Rec.setI_b]) (by simp [Rec.setI_i]; omega)
    refine (step_on _ _ gp b.n cp k ps ((((ps k).setB 2 false).setB 5 false).setI 17 ((j : Int) % 2)) hkn (by simp) (by simp; omega) ?hb ?hp).mono ?_
    case hp => exact (((((HP.out.start k).step (j := 2) (by omega) (rowP_put_2 _ _)).step (j := 5) (by omega) (rowP_put_5 _ _)).step (j := 17) (by omega) (rowP_put_17 _ _)).alloc _)
    case hb => simp [go_sem]
    rintro e w5 ⟨rfl, hp5, ho5, hb5⟩
    have hA5 := ((((Only.refl (· = gp) w4).setCell (Or.inl rfl) _).setCell (Or.inl rfl) _).setCell (Or.inl rfl) _).alloc _ |>.trans ho5
    have d5 : w4.heap.size < w5.heap.size := by have := ho5.size; simp at this; omega
    go_wp2_with fail
    refine (step_on _ _ gp b.n cp k ps _ hkn d5 (by omega) hb5 hp5).mono ?_
    rintro e w6 ⟨rfl, hp6, ho6, hb6⟩
    have hA6 := hA5.trans ho6
    have d6 : w4.heap.size < w6.heap.size := by have := ho6.size; omega
    have hr := hp6.range hkn
    rw [upd_same] at hr
    generalize (edgeF (edgeF ((((ps k).setB 2 false).setB 5 false).setI 17 ((j : Int) % 2))).1).1 = q at hf hr
    simp only [Rec.setI_i, if_true] at hf
    have hf1 := hf.1
    go_wp2_with (first | (refine wpList_row rfl 52 _ rfl gp (k * 89) rfl _ _ hr Try.underlying52 rfl (sizeP _) ?_; simp only [Act.put, List.setIfInBounds_toArray, List.set_cons_zero, List.set_cons_succ]) | (refine wpList_store_new rfl 52 _ _ rfl w6 (rowP zeroR) 52 _ rfl rfl rfl (sizeP _) rfl (rowP_one _) ?_; simp only [Act.put]) | fail)
    all_goals
      go_ret
      exact ⟨(by rcases hf.2 with ⟨h, h'⟩ | h <;> simp_all), HW4.out.trans ((hA6.alloc _).below (B := w.heap.size) HW4.out.size (fun k hk => by omega))⟩
end Go.Proofs.Ytgemeaahecnkjaa.Br
