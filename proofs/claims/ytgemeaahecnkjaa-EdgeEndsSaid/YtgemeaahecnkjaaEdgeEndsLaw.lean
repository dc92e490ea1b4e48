/- Law EdgeEnds of the bridge detection machine: the walk joined with the plain law. -/
import Derived.Test.YtgemeaahecnkjaaLaws
namespace Go.Proofs.Ytgemeaahecnkjaa.Br
open Go.RowKit
attribute [local go_sem] zeroP zeroBr at_17 rowP_17 rowP_32 rowP_2 rowP_4
set_option maxRecDepth 100000 in
set_option maxHeartbeats 8000000 in
theorem ends_any (b : Bri) (ps ss : Nat → Rec) (fs : Nat → Int) (w : World) (i : Nat) (hi : i ≤ 255) (h : Reads0 w b ps ss fs) :
    Calls Try.prog 4 #[.agg (rowB b), .int .u8 i] w fun e w' => e = .returned (.bool true) ∧ Below w.heap.size w w' := by
  have HR := Lib.hid h
  clear h
  go_enter Try.func4, Try.ntmps4
  go_wp2_with fail
  refine (awake_any _).mono ?_
  rintro e w1 ⟨rfl, hb1⟩
  have HB : Hid (w1.heap[w.heap.size]? = some (.cells (rowB b) 33 (0, 0))) := (hb1.block _ (by simp)).trans (at_new rfl)
  have HW1 := Lib.hid (andthen (more (Below.refl w.heap.size w) _) hb1)
  clear hb1
  go_wp2_with (first | (refine loadB rfl rfl _ rfl w.heap.size rfl b HB.out ?_; simp only [Act.put, List.setIfInBounds_toArray, List.set_cons_zero, List.set_cons_succ]) | fail)
  refine (few_any b ps _ (HR.out.below HW1.out).p).mono ?_
  rintro e w2 ⟨r, rfl, hr, hb2⟩
  have HB' : Hid (w2.heap[w.heap.size]? = some (.cells (rowB b) 33 (0, 0))) := (hb2.block _ (Array.getElem?_eq_some_iff.1 HB.out).1).trans HB.out
  have HW2 := Lib.hid (andthen HW1.out hb2)
  have Hr := Lib.hid hr
  clear hb2 hr HB HW1
  cases r
  · go_wp2_with fail
    go_ret
    exact ⟨rfl, HW2.out⟩
  have HL := Lib.hid (Hr.out rfl)
  clear Hr
  have HB := HB'
  clear HB'
  have hn1 : 0 < b.n := HL.out.2.1
  have hn8 : b.n ≤ 8 := HL.out.2.2.1
  go_wp2_with (first | (refine loadB rfl rfl _ rfl w.heap.size rfl b HB.out ?_; simp only [Act.put, List.setIfInBounds_toArray, List.set_cons_zero, List.set_cons_succ]) | fail)
  refine (at_any b i _ hi hn1 hn8).mono ?_
  rintro e w3 ⟨rfl, hb3⟩
  have HB' : Hid (w3.heap[w.heap.size]? = some (.cells (rowB b) 33 (0, 0))) := (hb3.block _ (Array.getElem?_eq_some_iff.1 HB.out).1).trans HB.out
  have HW3 := Lib.hid (andthen HW2.out hb3)
  clear hb3 HB HW2
  have HB := HB'
  clear HB'
  obtain ⟨k, hk⟩ : ∃ k, k = i % b.n := ⟨_, rfl⟩
  have hkn : k < b.n := by rw [hk]; exact Nat.mod_lt _ hn1
  rw [← hk]
  have Hk := Lib.hid hk
  clear hk
  go_wp2_with (first | (refine loadB rfl rfl _ rfl w.heap.size rfl b HB.out ?_; simp only [Act.put, List.setIfInBounds_toArray, List.set_cons_zero, List.set_cons_succ]) | fail)
  refine (clone_any b ps ss fs _ ((HR.out.below HW3.out).looked HL.out)).mono ?_
  rintro e w4 ⟨gp, cp, go, co, gf, cf, rfl, hp1, hp2, hp3, op, os, of, hb⟩
  have HP := Lib.hid op.ports
  have hgl := op.lt
  have HW4 := Lib.hid (andthen HW3.out hb)
  have hge : w.heap.size ≤ gp := Nat.le_trans HW3.out.size hp1
  have c2 : w4.cell? ⟨gp, k * 89 + 2, none⟩ = some (.bool ((ps k).b 2)) := HP.out.cell hkn (j := 2) (by omega)
  have f2 := HP.out.free (k * 89 + 2)
  have c4 : w4.cell? ⟨gp, k * 89 + 4, none⟩ = some (.bool ((ps k).b 4)) := HP.out.cell hkn (j := 4) (by omega)
  have f4 := HP.out.free (k * 89 + 4)
  have c17 : w4.cell? ⟨gp, k * 89 + 15 + 2, none⟩ = some (.int .i64 ((ps k).i 17)) := HP.out.cell hkn (j := 17) (by omega)
  have f17 := HP.out.free (k * 89 + 15 + 2)
  have c32 : w4.cell? ⟨gp, k * 89 + 22 + 10, none⟩ = some (.bool ((ps k).b 32)) := HP.out.cell hkn (j := 32) (by omega)
  have f32 := HP.out.free (k * 89 + 22 + 10)
  clear op os of hb hp1 hp2 hp3 HB
  go_wp2_with (first | (refine wpList_store_at rfl 33 _ _ rfl _ (rowB zeroBri) 33 (rowB (b.at gp cp go co gf cf)) _ rfl rfl rfl rfl (sizeB _) rfl (rowB_one _) ?_; simp only [Act.put]) | fail)
  · have hf := ends_law ((((ps k).setB 2 true).setI 17 ((i : Int) / 8 % 2)).setB 32 ((i : Int) / 8 % 2 == 0)) (by simp [Rec.setB_b, Rec.setI_b]) (by simp [Rec.setB_i, Rec.setI_i]; omega) (by simp [Rec.setB_b, Rec.setB_i, Rec.setI_i])
    refine (step_on _ _ gp b.n cp k ps ((((ps k).setB 2 true).setI 17 ((i : Int) / 8 % 2)).setB 32 ((i : Int) / 8 % 2 == 0)) hkn (by simp) (by simp; omega) ?hb ?hp).mono ?_
    case hp => exact (((((HP.out.start k).step (j := 2) (by omega) (rowP_put_2 _ _)).step (j := 17) (by omega) (rowP_put_17 _ _)).step (j := 32) (by omega) (rowP_put_32 _ _)).alloc _)
    case hb => simp [go_sem]
    rintro e w5 ⟨rfl, hp5, ho5, hb5⟩
    have hA := ((((Only.refl (· = gp) w4).setCell (Or.inl rfl) _).setCell (Or.inl rfl) _).setCell (Or.inl rfl) _).alloc _ |>.trans ho5
    have d5 : w4.heap.size < w5.heap.size := by have := ho5.size; simp at this; omega
    go_wp2_with fail
    refine (step_on _ _ gp b.n cp k ps _ hkn d5 (by omega) hb5 hp5).mono ?_
    rintro e w6 ⟨rfl, hp6, ho6, hb6⟩
    have d6 : w4.heap.size < w6.heap.size := by have := ho6.size; omega
    go_wp2_with fail
    refine (step_on _ _ gp b.n cp k ps _ hkn d6 (by omega) hb6 hp6).mono ?_
    rintro e w7 ⟨rfl, hp7, ho7, hb7⟩
    have hr := hp7.range hkn
    rw [upd_same] at hr
    obtain ⟨q, hq⟩ : ∃ q, q = (edgeF (edgeF (edgeF ((((ps k).setB 2 true).setI 17 ((i : Int) / 8 % 2)).setB 32 ((i : Int) / 8 % 2 == 0))).1).1) := ⟨_, rfl⟩
    rw [← hq] at hf hr hp7 ⊢
    rw [hf.1]
    go_wp2_with (first | (refine wpList_row rfl 52 _ rfl gp (k * 89) rfl _ _ hr Try.underlying52 rfl (sizeP _) ?_; simp only [Act.put, List.setIfInBounds_toArray, List.set_cons_zero, List.set_cons_succ]) | (refine wpList_store_new rfl 52 _ _ rfl w7 (rowP zeroR) 52 _ rfl rfl rfl (sizeP _) rfl (rowP_one _) ?_; simp only [Act.put]) | fail)
    go_ret
    exact ⟨(by show Ending.returned (.bool ((edgeF (edgeF (edgeF ((((ps k).setB 2 true).setI 17 ((i : Int) / 8 % 2)).setB 32 ((i : Int) / 8 % 2 == 0))).1).1).1.b 32 == ((edgeF (edgeF (edgeF ((((ps k).setB 2 true).setI 17 ((i : Int) / 8 % 2)).setB 32 ((i : Int) / 8 % 2 == 0))).1).1).1.i 17 == 0))) = _; rw [← hq, hf.2]; simp), HW4.out.trans (((hA.trans ho6).trans ho7).alloc _ |>.below (B := w.heap.size) HW4.out.size (fun k hk => by omega))⟩
  · have hf := ends_law ((((ps k).setB 2 true).setI 17 ((i : Int) / 8 % 2)).setB 32 false) (by simp [Rec.setB_b, Rec.setI_b]) (by simp [Rec.setB_i, Rec.setI_i]; omega) (by simp [Rec.setB_b, Rec.setB_i, Rec.setI_i])
    refine (step_on _ _ gp b.n cp k ps ((((ps k).setB 2 true).setI 17 ((i : Int) / 8 % 2)).setB 32 false) hkn (by simp) (by simp; omega) ?hb ?hp).mono ?_
    case hp => exact (((((HP.out.start k).step (j := 2) (by omega) (rowP_put_2 _ _)).step (j := 17) (by omega) (rowP_put_17 _ _)).step (j := 32) (by omega) (rowP_put_32 _ _)).alloc _)
    case hb => simp [go_sem]
    rintro e w5 ⟨rfl, hp5, ho5, hb5⟩
    have hA := ((((Only.refl (· = gp) w4).setCell (Or.inl rfl) _).setCell (Or.inl rfl) _).setCell (Or.inl rfl) _).alloc _ |>.trans ho5
    have d5 : w4.heap.size < w5.heap.size := by have := ho5.size; simp at this; omega
    go_wp2_with fail
    refine (step_on _ _ gp b.n cp k ps _ hkn d5 (by omega) hb5 hp5).mono ?_
    rintro e w6 ⟨rfl, hp6, ho6, hb6⟩
    have d6 : w4.heap.size < w6.heap.size := by have := ho6.size; omega
    go_wp2_with fail
    refine (step_on _ _ gp b.n cp k ps _ hkn d6 (by omega) hb6 hp6).mono ?_
    rintro e w7 ⟨rfl, hp7, ho7, hb7⟩
    have hr := hp7.range hkn
    rw [upd_same] at hr
    obtain ⟨q, hq⟩ : ∃ q, q = (edgeF (edgeF (edgeF ((((ps k).setB 2 true).setI 17 ((i : Int) / 8 % 2)).setB 32 false)).1).1) := ⟨_, rfl⟩
    rw [← hq] at hf hr hp7 ⊢
    rw [hf.1]
    go_wp2_with (first | (refine wpList_row rfl 52 _ rfl gp (k * 89) rfl _ _ hr Try.underlying52 rfl (sizeP _) ?_; simp only [Act.put, List.setIfInBounds_toArray, List.set_cons_zero, List.set_cons_succ]) | (refine wpList_store_new rfl 52 _ _ rfl w7 (rowP zeroR) 52 _ rfl rfl rfl (sizeP _) rfl (rowP_one _) ?_; simp only [Act.put]) | fail)
    go_ret
    exact ⟨(by show Ending.returned (.bool ((edgeF (edgeF (edgeF ((((ps k).setB 2 true).setI 17 ((i : Int) / 8 % 2)).setB 32 false)).1).1).1.b 32 == ((edgeF (edgeF (edgeF ((((ps k).setB 2 true).setI 17 ((i : Int) / 8 % 2)).setB 32 false)).1).1).1.i 17 == 0))) = _; rw [← hq, hf.2]; simp), HW4.out.trans (((hA.trans ho6).trans ho7).alloc _ |>.below (B := w.heap.size) HW4.out.size (fun k hk => by omega))⟩
  · have hf := ends_law ((((ps k).setB 2 (!(ps k).b 4)).setI 17 ((i : Int) / 8 % 2)).setB 32 ((i : Int) / 8 % 2 == 0)) (by simp [Rec.setB_b, Rec.setI_b]) (by simp [Rec.setB_i, Rec.setI_i]; omega) (by simp [Rec.setB_b, Rec.setB_i, Rec.setI_i])
    refine (step_on _ _ gp b.n cp k ps ((((ps k).setB 2 (!(ps k).b 4)).setI 17 ((i : Int) / 8 % 2)).setB 32 ((i : Int) / 8 % 2 == 0)) hkn (by simp) (by simp; omega) ?hb ?hp).mono ?_
    case hp => exact (((((HP.out.start k).step (j := 2) (by omega) (rowP_put_2 _ _)).step (j := 17) (by omega) (rowP_put_17 _ _)).step (j := 32) (by omega) (rowP_put_32 _ _)).alloc _)
    case hb => simp [go_sem]
    rintro e w5 ⟨rfl, hp5, ho5, hb5⟩
    have hA := ((((Only.refl (· = gp) w4).setCell (Or.inl rfl) _).setCell (Or.inl rfl) _).setCell (Or.inl rfl) _).alloc _ |>.trans ho5
    have d5 : w4.heap.size < w5.heap.size := by have := ho5.size; simp at this; omega
    go_wp2_with fail
    refine (step_on _ _ gp b.n cp k ps _ hkn d5 (by omega) hb5 hp5).mono ?_
    rintro e w6 ⟨rfl, hp6, ho6, hb6⟩
    have d6 : w4.heap.size < w6.heap.size := by have := ho6.size; omega
    go_wp2_with fail
    refine (step_on _ _ gp b.n cp k ps _ hkn d6 (by omega) hb6 hp6).mono ?_
    rintro e w7 ⟨rfl, hp7, ho7, hb7⟩
    have hr := hp7.range hkn
    rw [upd_same] at hr
    obtain ⟨q, hq⟩ : ∃ q, q = (edgeF (edgeF (edgeF ((((ps k).setB 2 (!(ps k).b 4)).setI 17 ((i : Int) / 8 % 2)).setB 32 ((i : Int) / 8 % 2 == 0))).1).1) := ⟨_, rfl⟩
    rw [← hq] at hf hr hp7 ⊢
    rw [hf.1]
    go_wp2_with (first | (refine wpList_row rfl 52 _ rfl gp (k * 89) rfl _ _ hr Try.underlying52 rfl (sizeP _) ?_; simp only [Act.put, List.setIfInBounds_toArray, List.set_cons_zero, List.set_cons_succ]) | (refine wpList_store_new rfl 52 _ _ rfl w7 (rowP zeroR) 52 _ rfl rfl rfl (sizeP _) rfl (rowP_one _) ?_; simp only [Act.put]) | fail)
    go_ret
    exact ⟨(by show Ending.returned (.bool ((edgeF (edgeF (edgeF ((((ps k).setB 2 (!(ps k).b 4)).setI 17 ((i : Int) / 8 % 2)).setB 32 ((i : Int) / 8 % 2 == 0))).1).1).1.b 32 == ((edgeF (edgeF (edgeF ((((ps k).setB 2 (!(ps k).b 4)).setI 17 ((i : Int) / 8 % 2)).setB 32 ((i : Int) / 8 % 2 == 0))).1).1).1.i 17 == 0))) = _; rw [← hq, hf.2]; simp), HW4.out.trans (((hA.trans ho6).trans ho7).alloc _ |>.below (B := w.heap.size) HW4.out.size (fun k hk => by omega))⟩
  · have hf := ends_law ((((ps k).setB 2 (!(ps k).b 4)).setI 17 ((i : Int) / 8 % 2)).setB 32 false) (by simp [Rec.setB_b, Rec.setI_b]) (by simp [Rec.setB_i, Rec.setI_i]; omega) (by simp [Rec.setB_b, Rec.setB_i, Rec.setI_i])
    refine (step_on _ _ gp b.n cp k ps ((((ps k).setB 2 (!(ps k).b 4)).setI 17 ((i : Int) / 8 % 2)).setB 32 false) hkn (by simp) (by simp; omega) ?hb ?hp).mono ?_
    case hp => exact (((((HP.out.start k).step (j := 2) (by omega) (rowP_put_2 _ _)).step (j := 17) (by omega) (rowP_put_17 _ _)).step (j := 32) (by omega) (rowP_put_32 _ _)).alloc _)
    case hb => simp [go_sem]
    rintro e w5 ⟨rfl, hp5, ho5, hb5⟩
    have hA := ((((Only.refl (· = gp) w4).setCell (Or.inl rfl) _).setCell (Or.inl rfl) _).setCell (Or.inl rfl) _).alloc _ |>.trans ho5
    have d5 : w4.heap.size < w5.heap.size := by have := ho5.size; simp at this; omega
    go_wp2_with fail
    refine (step_on _ _ gp b.n cp k ps _ hkn d5 (by omega) hb5 hp5).mono ?_
    rintro e w6 ⟨rfl, hp6, ho6, hb6⟩
    have d6 : w4.heap.size < w6.heap.size := by have := ho6.size; omega
    go_wp2_with fail
    refine (step_on _ _ gp b.n cp k ps _ hkn d6 (by omega) hb6 hp6).mono ?_
    rintro e w7 ⟨rfl, hp7, ho7, hb7⟩
    have hr := hp7.range hkn
    rw [upd_same] at hr
    obtain ⟨q, hq⟩ : ∃ q, q = (edgeF (edgeF (edgeF ((((ps k).setB 2 (!(ps k).b 4)).setI 17 ((i : Int) / 8 % 2)).setB 32 false)).1).1) := ⟨_, rfl⟩
    rw [← hq] at hf hr hp7 ⊢
    rw [hf.1]
    go_wp2_with (first | (refine wpList_row rfl 52 _ rfl gp (k * 89) rfl _ _ hr Try.underlying52 rfl (sizeP _) ?_; simp only [Act.put, List.setIfInBounds_toArray, List.set_cons_zero, List.set_cons_succ]) | (refine wpList_store_new rfl 52 _ _ rfl w7 (rowP zeroR) 52 _ rfl rfl rfl (sizeP _) rfl (rowP_one _) ?_; simp only [Act.put]) | fail)
    go_ret
    exact ⟨(by show Ending.returned (.bool ((edgeF (edgeF (edgeF ((((ps k).setB 2 (!(ps k).b 4)).setI 17 ((i : Int) / 8 % 2)).setB 32 false)).1).1).1.b 32 == ((edgeF (edgeF (edgeF ((((ps k).setB 2 (!(ps k).b 4)).setI 17 ((i : Int) / 8 % 2)).setB 32 false)).1).1).1.i 17 == 0))) = _; rw [← hq, hf.2]; simp), HW4.out.trans (((hA.trans ho6).trans ho7).alloc _ |>.below (B := w.heap.size) HW4.out.size (fun k hk => by omega))⟩
end Go.Proofs.Ytgemeaahecnkjaa.Br
