/- Law EdgeHeard of the bridge detection machine: the walk joined with the plain law. -/
import Derived.Test.YtgemeaahecnkjaaLaws
namespace Go.Proofs.Ytgemeaahecnkjaa.Br
open Go.RowKit
attribute [local go_sem] zeroP zeroBr at_17 rowP_17 rowP_32 rowP_4

theorem heard_0 (p : Rec) (h2 : p.b 2 = true) (h6 : p.i 6 ≠ 0) (h32 : p.b 32 = false) (h : p.i 17 = 0) :
    (edgeF p).2 = true ∧ (edgeF (edgeF p).1).2 = false ∧ (edgeF (edgeF p).1).1.b 32 = false ∧ (edgeF (edgeF p).1).1.i 17 = 1 := by
  have e := edgeF_0 p h
  rw [if_pos (by unfold leavesB; rw [h32]; rfl)] at e
  rw [e]
  have e2 := edgeF_1 ((p.setI 17 1).setB 32 false) rfl
  rw [if_neg (by simp [entersB, Rec.setB_b, Rec.setI_b, Rec.setI_i, Rec.setB_i, h2, h6])] at e2
  simp only [e2]
  exact ⟨trivial, trivial, rfl, rfl⟩
theorem heard_1 (p : Rec) (h2 : p.b 2 = true) (h6 : p.i 6 ≠ 0) (h32 : p.b 32 = false) (h : p.i 17 = 1) :
    (edgeF p).2 = false ∧ (edgeF (edgeF p).1).2 = false ∧ (edgeF (edgeF p).1).1.b 32 = false ∧ (edgeF (edgeF p).1).1.i 17 = 1 := by
  have e := edgeF_1 p h
  rw [if_neg (by simp [entersB, h2, h6])] at e
  simp only [e]
  exact ⟨trivial, trivial, h32, h⟩
set_option maxRecDepth 100000 in
set_option maxHeartbeats 8000000 in
theorem heard_any (b : Bri) (ps ss : Nat → Rec) (fs : Nat → Int) (w : World) (i : Nat) (hi : i ≤ 255) (j : Nat) (hj : j ≤ 255) (h : Reads0 w b ps ss fs) :
    Calls Try.prog 6 #[.agg (rowB b), .int .u8 i, .int .u8 j] w fun e w' => e = .returned (.bool true) ∧ Below w.heap.size w w' := by
  have HR := Lib.hid h
  clear h
  go_enter Try.func6, Try.ntmps6
  go_wp2_with fail
  refine (awake_any _).mono ?_
  rintro e w1 ⟨rfl, hb1⟩
  have HB : Hid (w1.heap[w.heap.size]? = some (.cells (rowB b) 33 (0, 0))) := (hb1.block _ (by simp)).trans (at_new rfl)
  have HW1 := Lib.hid (andthen (more (Below.refl w.heap.size w) _) hb1)
  clear hb1
  go_wp2_with (first | (refine loadB rfl rfl _ rfl w.heap.size rfl b HB.out ?_; simp only [Act.put, List.setIfInBounds_toArray, List.set_cons_zero, List.set_cons_succ]) | fail)
  refine (few_any b ps _ (HR.out.below HW1.out).p).mono ?_
  rintro e w2 ⟨r, rfl, hr, hb2⟩
  have HB' : Hid (w2.heap[w.heap.size]? = some (.cells (rowB b) 33 (0, 0))) := (hb2.block _ (Array.getElem?_eq_some_iff.1 HB.out).1).trans HB.out
  have HW2 := Lib.hid (andthen HW1.out hb2)
  have Hr := Lib.hid hr
  clear hb2 hr HB HW1
  cases r
  · go_wp2_with fail
    go_ret
    exact ⟨rfl, HW2.out⟩
  have HL := Lib.hid (Hr.out rfl)
  clear Hr
  have HB := HB'
  clear HB'
  have hn1 : 0 < b.n := HL.out.2.1
  have hn8 : b.n ≤ 8 := HL.out.2.2.1
  go_wp2_with (first | (refine loadB rfl rfl _ rfl w.heap.size rfl b HB.out ?_; simp only [Act.put, List.setIfInBounds_toArray, List.set_cons_zero, List.set_cons_succ]) | fail)
  refine (at_any b i _ hi hn1 hn8).mono ?_
  rintro e w3 ⟨rfl, hb3⟩
  have HB' : Hid (w3.heap[w.heap.size]? = some (.cells (rowB b) 33 (0, 0))) := (hb3.block _ (Array.getElem?_eq_some_iff.1 HB.out).1).trans HB.out
  have HW3 := Lib.hid (andthen HW2.out hb3)
  clear hb3 HB HW2
  have HB := HB'
  clear HB'
  obtain ⟨k, hk⟩ : ∃ k, k = i % b.n := ⟨_, rfl⟩
  have hkn : k < b.n := by rw [hk]; exact Nat.mod_lt _ hn1
  rw [← hk]
  have Hk := Lib.hid hk
  clear hk
  go_wp2_with (first | (refine loadB rfl rfl _ rfl w.heap.size rfl b HB.out ?_; simp only [Act.put, List.setIfInBounds_toArray, List.set_cons_zero, List.set_cons_succ]) | fail)
  refine (clone_any b ps ss fs _ ((HR.out.below HW3.out).looked HL.out)).mono ?_
  rintro e w4 ⟨gp, cp, go, co, gf, cf, rfl, hp1, hp2, hp3, op, os, of, hb⟩
  have HP := Lib.hid op.ports
  have hgl := op.lt
  have HW4 := Lib.hid (andthen HW3.out hb)
  have hge : w.heap.size ≤ gp := Nat.le_trans HW3.out.size hp1
  have c2 : w4.cell? ⟨gp, k * 89 + 2, none⟩ = some (.bool ((ps k).b 2)) := HP.out.cell hkn (j := 2) (by omega)
  have f2 := HP.out.free (k * 89 + 2)
  have c32 : w4.cell? ⟨gp, k * 89 + 22 + 10, none⟩ = some (.bool ((ps k).b 32)) := HP.out.cell hkn (j := 32) (by omega)
  have f32 := HP.out.free (k * 89 + 22 + 10)
  have c6 : w4.cell? ⟨gp, k * 89 + 6, none⟩ = some (.int .i64 ((ps k).i 6)) := HP.out.cell hkn (j := 6) (by omega)
  have f6 := HP.out.free (k * 89 + 6)
  have c17 : w4.cell? ⟨gp, k * 89 + 15 + 2, none⟩ = some (.int .i64 ((ps k).i 17)) := HP.out.cell hkn (j := 17) (by omega)
  have f17 := HP.out.free (k * 89 + 15 + 2)
  clear op os of hb hp1 hp2 hp3 HB
  go_wp2_with (first | (refine wpList_store_at rfl 33 _ _ rfl _ (rowB zeroBri) 33 (rowB (b.at gp cp go co gf cf)) _ rfl rfl rfl rfl (sizeB _) rfl (rowB_one _) ?_; simp only [Act.put]) | fail)
  · have hf0 := fun h => heard_0 (((((ps k).setB 2 true).setB 32 false).setI 6 ((ps k).i 6)).setI 17 ((j : Int) % 2)) (by simp [Rec.setB_b, Rec.setI_b]) (by rename_i h6; simp [Rec.setI_i]; omega) (by simp [Rec.setB_b, Rec.setI_b]) h
    have hf1 := fun h => heard_1 (((((ps k).setB 2 true).setB 32 false).setI 6 ((ps k).i 6)).setI 17 ((j : Int) % 2)) (by simp [Rec.setB_b, Rec.setI_b]) (by rename_i h6; simp [Rec.setI_i]; omega) (by simp [Rec.setB_b, Rec.setI_b]) h
    have hs : (edgeF (((((ps k).setB 2 true).setB 32 false).setI 6 ((ps k).i 6)).setI 17 ((j : Int) % 2))).2 = ((j : Int) % 2 == 0) ∧ (edgeF (edgeF (((((ps k).setB 2 true).setB 32 false).setI 6 ((ps k).i 6)).setI 17 ((j : Int) % 2))).1).2 = false ∧ (edgeF (edgeF (((((ps k).setB 2 true).setB 32 false).setI 6 ((ps k).i 6)).setI 17 ((j : Int) % 2))).1).1.b 32 = false ∧ (edgeF (edgeF (((((ps k).setB 2 true).setB 32 false).setI 6 ((ps k).i 6)).setI 17 ((j : Int) % 2))).1).1.i 17 = 1 := by
      rcases (by omega : (j : Int) % 2 = 0 ∨ (j : Int) % 2 = 1) with h | h
      · have := hf0 (by simpa [Rec.setI_i] using h)
        exact ⟨this.1.trans (by rw [h]; rfl), this.2⟩
      · have := hf1 (by simpa [Rec.setI_i] using h)
        exact ⟨this.1.trans (by rw [h]; rfl), this.2⟩
    clear hf0 hf1
    obtain ⟨hs1, hs2, hs3, hs4⟩ := hs
    refine (step_on _ _ gp b.n cp k ps (((((ps k).setB 2 true).setB 32 false).setI 6 ((ps k).i 6)).setI 17 ((j : Int) % 2)) hkn (by simp) (by simp; omega) ?hb ?hp).mono ?_
    case hp => exact ((((((HP.out.start k).step (j := 2) (by omega) (rowP_put_2 _ _)).step (j := 32) (by omega) (rowP_put_32 _ _)).step (j := 6) (by omega) (rowP_put_6 _ _)).step (j := 17) (by omega) (rowP_put_17 _ _)).alloc _)
    case hb => simp [go_sem]
    rintro e w5 ⟨rfl, hp5, ho5, hb5⟩
    have hA5 := (((((Only.refl (· = gp) w4).setCell (Or.inl rfl) _).setCell (Or.inl rfl) _).setCell (Or.inl rfl) _).setCell (Or.inl rfl) _).alloc _ |>.trans ho5
    have d5 : w4.heap.size < w5.heap.size := by have := ho5.size; simp at this; omega
    go_wp2_with fail
    refine (step_on _ _ gp b.n cp k ps _ hkn d5 (by omega) hb5 hp5).mono ?_
    rintro e w6 ⟨rfl, hp6, ho6, hb6⟩
    have hA6 := hA5.trans ho6
    have d6 : w4.heap.size < w6.heap.size := by have := ho6.size; omega
    have r32 : w6.cell? ⟨gp, k * 89 + 22 + 10, none⟩ = some (.bool false) := by
      have := hp6.cell hkn (j := 32) (by omega)
      rw [upd_same] at this
      rw [← hs3]
      exact this
    have r17 : w6.cell? ⟨gp, k * 89 + 15 + 2, none⟩ = some (.int .i64 1) := by
      have := hp6.cell hkn (j := 17) (by omega)
      rw [upd_same] at this
      rw [← hs4]
      exact this
    clear hs3 hs4
    go_wp2_with fail
    go_ret
    exact ⟨(by simp), HW4.out.trans (hA6.below (B := w.heap.size) HW4.out.size (fun k hk => by omega))⟩
  · have hf0 := fun h => heard_0 (((((ps k).setB 2 true).setB 32 false).setI 6 (1)).setI 17 ((j : Int) % 2)) (by simp [Rec.setB_b, Rec.setI_b]) (by simp [Rec.setI_i]) (by simp [Rec.setB_b, Rec.setI_b]) h
    have hf1 := fun h => heard_1 (((((ps k).setB 2 true).setB 32 false).setI 6 (1)).setI 17 ((j : Int) % 2)) (by simp [Rec.setB_b, Rec.setI_b]) (by simp [Rec.setI_i]) (by simp [Rec.setB_b, Rec.setI_b]) h
    have hs : (edgeF (((((ps k).setB 2 true).setB 32 false).setI 6 (1)).setI 17 ((j : Int) % 2))).2 = ((j : Int) % 2 == 0) ∧ (edgeF (edgeF (((((ps k).setB 2 true).setB 32 false).setI 6 (1)).setI 17 ((j : Int) % 2))).1).2 = false ∧ (edgeF (edgeF (((((ps k).setB 2 true).setB 32 false).setI 6 (1)).setI 17 ((j : Int) % 2))).1).1.b 32 = false ∧ (edgeF (edgeF (((((ps k).setB 2 true).setB 32 false).setI 6 (1)).setI 17 ((j : Int) % 2))).1).1.i 17 = 1 := by
      rcases (by omega : (j : Int) % 2 = 0 ∨ (j : Int) % 2 = 1) with h | h
      · have := hf0 (by simpa [Rec.setI_i] using h)
        exact ⟨this.1.trans (by rw [h]; rfl), this.2⟩
      · have := hf1 (by simpa [Rec.setI_i] using h)
        exact ⟨this.1.trans (by rw [h]; rfl), this.2⟩
    clear hf0 hf1
    obtain ⟨hs1, hs2, hs3, hs4⟩ := hs
    refine (step_on _ _ gp b.n cp k ps (((((ps k).setB 2 true).setB 32 false).setI 6 (1)).setI 17 ((j : Int) % 2)) hkn (by simp) (by simp; omega) ?hb ?hp).mono ?_
    case hp => exact ((((((HP.out.start k).step (j := 2) (by omega) (rowP_put_2 _ _)).step (j := 32) (by omega) (rowP_put_32 _ _)).step (j := 6) (by omega) (rowP_put_6 _ _)).step (j := 17) (by omega) (rowP_put_17 _ _)).alloc _)
    case hb => simp [go_sem]
    rintro e w5 ⟨rfl, hp5, ho5, hb5⟩
    have hA5 := (((((Only.refl (· = gp) w4).setCell (Or.inl rfl) _).setCell (Or.inl rfl) _).setCell (Or.inl rfl) _).setCell (Or.inl rfl) _).alloc _ |>.trans ho5
    have d5 : w4.heap.size < w5.heap.size := by have := ho5.size; simp at this; omega
    go_wp2_with fail
    refine (step_on _ _ gp b.n cp k ps _ hkn d5 (by omega) hb5 hp5).mono ?_
    rintro e w6 ⟨rfl, hp6, ho6, hb6⟩
    have hA6 := hA5.trans ho6
    have d6 : w4.heap.size < w6.heap.size := by have := ho6.size; omega
    have r32 : w6.cell? ⟨gp, k * 89 + 22 + 10, none⟩ = some (.bool false) := by
      have := hp6.cell hkn (j := 32) (by omega)
      rw [upd_same] at this
      rw [← hs3]
      exact this
    have r17 : w6.cell? ⟨gp, k * 89 + 15 + 2, none⟩ = some (.int .i64 1) := by
      have := hp6.cell hkn (j := 17) (by omega)
      rw [upd_same] at this
      rw [← hs4]
      exact this
    clear hs3 hs4
    go_wp2_with fail
    go_ret
    exact ⟨(by simp), HW4.out.trans (hA6.below (B := w.heap.size) HW4.out.size (fun k hk => by omega))⟩
end Go.Proofs.Ytgemeaahecnkjaa.Br
