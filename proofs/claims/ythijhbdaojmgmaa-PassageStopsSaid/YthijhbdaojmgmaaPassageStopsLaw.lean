/- Law PassageStops of the passage machine: the walk joined with the plain law. -/
import Derived.Test.YthijhbdaojmgmaaAwake16
import Derived.Test.YthijhbdaojmgmaaOpen
import Derived.Test.YthijhbdaojmgmaaWhole
namespace Go.Proofs.Ythijhbdaojmgmaa.Br
set_option linter.unusedSimpArgs false
open Go.RowKit
theorem at_17 (b : Bri) (gp cp go co gf cf : Nat) : (rowB (b.at gp cp go co gf cf))[17]? = some (.slice (some ⟨gp, 0, none⟩) b.n cp) := rfl
attribute [local go_sem] zeroP zeroBr at_17 rowP_26 rowP_27 rowP_28 rowP_29 rowP_20
theorem stops_law (p : Rec) (s : Int) (hs : s = 0 ∨ s = 1 ∨ s = 2) (h20 : p.i 20 = s) (h29 : p.b 29 = decide (0 < s)) (h27 : p.b 27 = (s == 2)) (h28 : p.b 28 = false) (h26 : p.b 26 = false) :
    (passF p).2 = decide (0 < s) ∧ (passF (passF p).1).2 = false ∧ (passF (passF p).1).1.b 29 = false ∧ (passF (passF p).1).1.b 27 = false ∧ (passF (passF p).1).1.b 28 = false ∧ (passF (passF p).1).1.b 26 = false ∧ (passF (passF p).1).1.i 20 = 0 := by
  rcases hs with rfl | rfl | rfl <;> simp [passF, fires, h20, h29, h27, h28, h26, Rec.setB_b, Rec.setI_b, Rec.setI_i, Rec.setB_i] <;> decide
set_option maxRecDepth 100000 in
set_option maxHeartbeats 8000000 in
theorem stopsLaw_any (b : Bri) (ps ss : Nat → Rec) (fs : Nat → Int) (w : World) (i : Nat) (hi : i ≤ 255) (s : Nat) (hs : s ≤ 255) (h : Reads0 w b ps ss fs) :
    Calls Try.prog 5 #[.agg (rowB b), .int .u8 i, .int .u8 s] w fun e w' => e = .returned (.bool true) ∧ Below w.heap.size w w' := by
  have HR := Lib.hid h
  clear h
  go_enter Try.func5, Try.ntmps5
  go_wp2_with fail
  refine (awake_any _).mono ?_
  rintro e w1 ⟨rfl, hb1⟩
  have HB : Hid (w1.heap[w.heap.size]? = some (.cells (rowB b) 33 (0, 0))) := (hb1.block _ (by simp)).trans (at_new rfl)
  have HW1 := Lib.hid (andthen (more (Below.refl w.heap.size w) _) hb1)
  clear hb1
  go_wp2_with (first | (refine loadB rfl rfl _ rfl w.heap.size rfl b HB.out ?_; simp only [Act.put, List.setIfInBounds_toArray, List.set_cons_zero, List.set_cons_succ]) | fail)
  refine (few_any b ps _ (HR.out.below HW1.out).p).mono ?_
  rintro e w2 ⟨r, rfl, hr, hb2⟩
  have HB' : Hid (w2.heap[w.heap.size]? = some (.cells (rowB b) 33 (0, 0))) := (hb2.block _ (Array.getElem?_eq_some_iff.1 HB.out).1).trans HB.out
  have HW2 := Lib.hid (andthen HW1.out hb2)
  have Hr := Lib.hid hr
  clear hb2 hr HB HW1
  cases r
  · go_wp2_with fail
    go_ret
    exact ⟨rfl, HW2.out⟩
  have HL := Lib.hid (Hr.out rfl)
  clear Hr
  have HB := HB'
  clear HB'
  have hn1 : 0 < b.n := HL.out.2.1
  have hn8 : b.n ≤ 8 := HL.out.2.2.1
  go_wp2_with (first | (refine loadB rfl rfl _ rfl w.heap.size rfl b HB.out ?_; simp only [Act.put, List.setIfInBounds_toArray, List.set_cons_zero, List.set_cons_succ]) | fail)
  refine (at_any b i _ hi hn1 hn8).mono ?_
  rintro e w3 ⟨rfl, hb3⟩
  have HB' : Hid (w3.heap[w.heap.size]? = some (.cells (rowB b) 33 (0, 0))) := (hb3.block _ (Array.getElem?_eq_some_iff.1 HB.out).1).trans HB.out
  have HW3 := Lib.hid (andthen HW2.out hb3)
  clear hb3 HB HW2
  have HB := HB'
  clear HB'
  obtain ⟨k, hk⟩ : ∃ k, k = i % b.n := ⟨_, rfl⟩
  have hkn : k < b.n := by rw [hk]; exact Nat.mod_lt _ hn1
  rw [← hk]
  have Hk := Lib.hid hk
  clear hk
  go_wp2_with (first | (refine loadB rfl rfl _ rfl w.heap.size rfl b HB.out ?_; simp only [Act.put, List.setIfInBounds_toArray, List.set_cons_zero, List.set_cons_succ]) | fail)
  refine (clone_any b ps ss fs _ ((HR.out.below HW3.out).looked HL.out)).mono ?_
  rintro e w4 ⟨gp, cp, go, co, gf, cf, rfl, hp1, hp2, hp3, op, os, of, hb⟩
  have HP := Lib.hid op.ports
  have hgl := op.lt
  have HW4 := Lib.hid (andthen HW3.out hb)
  have hge : w.heap.size ≤ gp := Nat.le_trans HW3.out.size hp1
  have c20 : w4.cell? ⟨gp, k * 89 + 15 + 5, none⟩ = some (.int .i64 ((ps k).i 20)) := HP.out.cell hkn (j := 20) (by omega)
  have f20 := HP.out.free (k * 89 + 15 + 5)
  have c29 : w4.cell? ⟨gp, k * 89 + 22 + 7, none⟩ = some (.bool ((ps k).b 29)) := HP.out.cell hkn (j := 29) (by omega)
  have f29 := HP.out.free (k * 89 + 22 + 7)
  have c27 : w4.cell? ⟨gp, k * 89 + 22 + 5, none⟩ = some (.bool ((ps k).b 27)) := HP.out.cell hkn (j := 27) (by omega)
  have f27 := HP.out.free (k * 89 + 22 + 5)
  have c28 : w4.cell? ⟨gp, k * 89 + 22 + 6, none⟩ = some (.bool ((ps k).b 28)) := HP.out.cell hkn (j := 28) (by omega)
  have f28 := HP.out.free (k * 89 + 22 + 6)
  have c26 : w4.cell? ⟨gp, k * 89 + 22 + 4, none⟩ = some (.bool ((ps k).b 26)) := HP.out.cell hkn (j := 26) (by omega)
  have f26 := HP.out.free (k * 89 + 22 + 4)
  clear op os of hb hp1 hp2 hp3 HB
  go_wp2_with (first | (refine wpList_store_at rfl 33 _ _ rfl _ (rowB zeroBri) 33 (rowB (b.at gp cp go co gf cf)) _ rfl rfl rfl rfl (sizeB _) rfl (rowB_one _) ?_; simp only [Act.put]) | fail)
  have hf := stops_law ((((((ps k).setI 20 ((s : Int) % 3)).setB 29 (decide (0 < (s : Int) % 3))).setB 27 ((s : Int) % 3 == 2)).setB 28 false).setB 26 false) ((s : Int) % 3) (by omega) rfl rfl rfl rfl rfl
  refine (step_on _ _ gp b.n cp k ps (((((((ps k).setI 20 ((s : Int) % 3)).setB 29 (decide (0 < (s : Int) % 3))).setB 27 ((s : Int) % 3 == 2)).setB 28 false).setB 26 false)) hkn (by simp) (by simp; omega) ?hb ?hp).mono ?_
  case hp => exact (((((((HP.out.start k).step (j := 20) (by omega) (rowP_put_20 _ _)).step (j := 29) (by omega) (rowP_put_29 _ _)).step (j := 27) (by omega) (rowP_put_27 _ _)).step (j := 28) (by omega) (rowP_put_28 _ _)).step (j := 26) (by omega) (rowP_put_26 _ _)).alloc _)
  case hb => simp [go_sem]
  rintro e w5 ⟨rfl, hp5, ho5, hb5⟩
  have hA5 := ((((((Only.refl (· = gp) w4).setCell (Or.inl rfl) _).setCell (Or.inl rfl) _).setCell (Or.inl rfl) _).setCell (Or.inl rfl) _).setCell (Or.inl rfl) _).alloc _ |>.trans ho5
  have d5 : w4.heap.size < w5.heap.size := by have := ho5.size; simp at this; omega
  go_wp2_with fail
  refine (step_on _ _ gp b.n cp k ps _ hkn d5 (by omega) hb5 hp5).mono ?_
  rintro e w6 ⟨rfl, hp6, ho6, hb6⟩
  have hA6 := hA5.trans ho6
  have d6 : w4.heap.size < w6.heap.size := by have := ho6.size; omega
  have hr := hp6.range hkn
  rw [upd_same] at hr
  rw [hf.2.1]
  generalize (passF (passF ((((((ps k).setI 20 ((s : Int) % 3)).setB 29 (decide (0 < (s : Int) % 3))).setB 27 ((s : Int) % 3 == 2)).setB 28 false).setB 26 false)).1).1 = q at hf hr
  obtain ⟨-, -, hf1, hf2, hf3, hf4, hf5⟩ := hf
  go_wp2_with (first | (refine wpList_row rfl 52 _ rfl gp (k * 89) rfl _ _ hr Try.underlying52 rfl (sizeP _) ?_; simp only [Act.put, List.setIfInBounds_toArray, List.set_cons_zero, List.set_cons_succ]) | (refine wpList_store_new rfl 52 _ _ rfl w6 (rowP zeroR) 52 _ rfl rfl rfl (sizeP _) rfl (rowP_one _) ?_; simp only [Act.put]) | fail)
  all_goals
    go_ret
    exact ⟨(by simp_all), HW4.out.trans ((hA6.alloc _).below (B := w.heap.size) HW4.out.size (fun k hk => by omega))⟩
end Go.Proofs.Ythijhbdaojmgmaa.Br
