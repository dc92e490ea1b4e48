/- Law MigHears of the protocol migration machine: the walk joined with the plain law. -/
import Derived.Test.YtjefonjjgahmgaaAwake10
import Derived.Test.YtjefonjjgahmgaaOpen
import Derived.Test.YtjefonjjgahmgaaWhole
set_option linter.unusedSimpArgs false
namespace Go.Proofs.Ytjefonjjgahmgaa.Br
open Go.RowKit
theorem at_17 (b : Bri) (gp cp go co gf cf : Nat) : (rowB (b.at gp cp go co gf cf))[17]? = some (.slice (some ⟨gp, 0, none⟩) b.n cp) := rfl
theorem at_1 (b : Bri) (gp cp go co gf cf : Nat) : (rowB (b.at gp cp go co gf cf))[1]? = some (.bool (b.r.b 1)) := rfl
theorem set1_17 (b : Bri) (gp cp go co gf cf : Nat) (v : Value) : ((rowB (b.at gp cp go co gf cf)).setIfInBounds 1 v)[17]? = some (.slice (some ⟨gp, 0, none⟩) b.n cp) := rfl
theorem set1_1 (b : Bri) (gp cp go co gf cf : Nat) (v : Value) : ((rowB (b.at gp cp go co gf cf)).setIfInBounds 1 v)[1]? = some v := rfl
attribute [local go_sem] zeroP zeroBr at_17 at_1 set1_17 set1_1
theorem hears_1 (p : Rec) (h16 : p.i 16 = 2) (h2 : p.b 2 = true) (h45 : p.b 45 = true) (h30 : p.b 30 = false) (h38 : p.b 38 = true) : migF true p = ((((p.setB 45 false).setI 9 3).setI 16 1), true) := by
  simp [migF, fires, stateOf, whenF, h16, h2, h45, h30, h38]
theorem hears_2 (p : Rec) (h16 : p.i 16 = 1) (h2 : p.b 2 = true) (h30 : p.b 30 = false) (h9 : p.i 9 = 3) : migF true p = (p, false) := by
  simp [migF, fires, stateOf, whenF, h16, h2, h30, h9]
theorem hears_3 (p : Rec) (h16 : p.i 16 = 1) (h30 : p.b 30 = true) : migF true p = ((((p.setB 37 false).setB 38 false).setI 16 2), true) := by
  simp [migF, fires, stateOf, whenF, h16, h30]
theorem hears_4 (p : Rec) (h16 : p.i 16 = 2) (h30 : p.b 30 = true) : migF true p = (((((p.setB 30 false).setB 45 true).setI 9 3).setI 16 0), true) := by
  simp [migF, fires, stateOf, whenF, h16, h30]
set_option maxRecDepth 100000 in
set_option maxHeartbeats 8000000 in
theorem hears_any (b : Bri) (ps ss : Nat → Rec) (fs : Nat → Int) (w : World) (i : Nat) (hi : i ≤ 255) (h : Reads0 w b ps ss fs) :
    Calls Try.prog 6 #[.agg (rowB b), .int .u8 i] w fun e w' => e = .returned (.bool true) ∧ Below w.heap.size w w' := by
  have HR := Lib.hid h
  clear h
  go_enter Try.func6, Try.ntmps6
  go_wp2_with fail
  refine (awake_any _).mono ?_
  rintro e w1 ⟨rfl, hb1⟩
  have HB : Hid (w1.heap[w.heap.size]? = some (.cells (rowB b) 33 (0, 0))) := (hb1.block _ (by simp)).trans (at_new rfl)
  have HW1 := Lib.hid (andthen (more (Below.refl w.heap.size w) _) hb1)
  clear hb1
  go_wp2_with (first | (refine loadB rfl rfl _ rfl w.heap.size rfl b HB.out ?_; simp only [Act.put, List.setIfInBounds_toArray, List.set_cons_zero, List.set_cons_succ]) | fail)
  refine (few_any b ps _ (HR.out.below HW1.out).p).mono ?_
  rintro e w2 ⟨r, rfl, hr, hb2⟩
  have HB' : Hid (w2.heap[w.heap.size]? = some (.cells (rowB b) 33 (0, 0))) := (hb2.block _ (Array.getElem?_eq_some_iff.1 HB.out).1).trans HB.out
  have HW2 := Lib.hid (andthen HW1.out hb2)
  have Hr := Lib.hid hr
  clear hb2 hr HB HW1
  cases r
  · go_wp2_with fail
    go_ret
    exact ⟨rfl, HW2.out⟩
  have HL := Lib.hid (Hr.out rfl)
  clear Hr
  have HB := HB'
  clear HB'
  have hn1 : 0 < b.n := HL.out.2.1
  have hn8 : b.n ≤ 8 := HL.out.2.2.1
  go_wp2_with (first | (refine loadB rfl rfl _ rfl w.heap.size rfl b HB.out ?_; simp only [Act.put, List.setIfInBounds_toArray, List.set_cons_zero, List.set_cons_succ]) | fail)
  refine (at_any b i _ hi hn1 hn8).mono ?_
  rintro e w3 ⟨rfl, hb3⟩
  have HB' : Hid (w3.heap[w.heap.size]? = some (.cells (rowB b) 33 (0, 0))) := (hb3.block _ (Array.getElem?_eq_some_iff.1 HB.out).1).trans HB.out
  have HW3 := Lib.hid (andthen HW2.out hb3)
  clear hb3 HB HW2
  have HB := HB'
  clear HB'
  obtain ⟨k, hk⟩ : ∃ k, k = i % b.n := ⟨_, rfl⟩
  have hkn : k < b.n := by rw [hk]; exact Nat.mod_lt _ hn1
  rw [← hk]
  have Hk := Lib.hid hk
  clear hk
  go_wp2_with (first | (refine loadB rfl rfl _ rfl w.heap.size rfl b HB.out ?_; simp only [Act.put, List.setIfInBounds_toArray, List.set_cons_zero, List.set_cons_succ]) | fail)
  refine (clone_any b ps ss fs _ ((HR.out.below HW3.out).looked HL.out)).mono ?_
  rintro e w4 ⟨gp, cp, go, co, gf, cf, rfl, hp1, hp2, hp3, op, os, of, hb⟩
  have HP := Lib.hid op.ports
  have hgl := op.lt
  have HW4 := Lib.hid (andthen HW3.out hb)
  have hge : w.heap.size ≤ gp := Nat.le_trans HW3.out.size hp1
  have c2 : w4.cell? ⟨gp, k * 89 + 2, none⟩ = some (.bool ((ps k).b 2)) := HP.out.cell hkn (j := 2) (by omega)
  have f2 := HP.out.free (k * 89 + 2)
  have c16 : w4.cell? ⟨gp, k * 89 + 15 + 1, none⟩ = some (.int .i64 ((ps k).i 16)) := HP.out.cell hkn (j := 16) (by omega)
  have f16 := HP.out.free (k * 89 + 15 + 1)
  have c45 : w4.cell? ⟨gp, k * 89 + 22 + 23, none⟩ = some (.bool ((ps k).b 45)) := HP.out.cell hkn (j := 45) (by omega)
  have f45 := HP.out.free (k * 89 + 22 + 23)
  have c30 : w4.cell? ⟨gp, k * 89 + 22 + 8, none⟩ = some (.bool ((ps k).b 30)) := HP.out.cell hkn (j := 30) (by omega)
  have f30 := HP.out.free (k * 89 + 22 + 8)
  have c38 : w4.cell? ⟨gp, k * 89 + 22 + 16, none⟩ = some (.bool ((ps k).b 38)) := HP.out.cell hkn (j := 38) (by omega)
  have f38 := HP.out.free (k * 89 + 22 + 16)
  clear op os of hb hp1 hp2 hp3 HB
  go_wp2_with (first | (refine wpList_store_at rfl 33 _ _ rfl _ (rowB zeroBri) 33 (rowB (b.at gp cp go co gf cf)) _ rfl rfl rfl rfl (sizeB _) rfl (rowB_one _) ?_; simp only [Act.put]) | fail)
  have H1 := Lib.hid (hears_1 (((((((ps k).setB 2 true).setI 16 2).setB 45 true).setB 30 false).setB 38 true)) rfl rfl rfl rfl rfl)
  refine (step_on _ _ gp b.n cp k ps (((((((ps k).setB 2 true).setI 16 2).setB 45 true).setB 30 false).setB 38 true)) true hkn (by simp) (by simp; omega) ?hb ?hr ?hp).mono ?_
  case hp => exact (((((((HP.out.start k).step (j := 2) (by omega) (rowP_put_2 _ _)).step (j := 16) (by omega) (rowP_put_16 _ _)).step (j := 45) (by omega) (rowP_put_45 _ _)).step (j := 30) (by omega) (rowP_put_30 _ _)).step (j := 38) (by omega) (rowP_put_38 _ _)).alloc _)
  case hb => simp [go_sem]
  case hr => simp [go_sem]
  rintro e w5 ⟨rfl, hp5, ho5, hb5, hr5⟩
  rw [H1.out] at hp5 ⊢
  have hA5 := ((((((Only.refl (· = gp) w4).setCell (Or.inl rfl) _).setCell (Or.inl rfl) _).setCell (Or.inl rfl) _).setCell (Or.inl rfl) _).setCell (Or.inl rfl) _).alloc _ |>.trans ho5
  have d5 : w4.heap.size < w5.heap.size := by have := ho5.size; simp at this; omega
  clear H1
  have c45 : w5.cell? ⟨gp, k * 89 + 22 + 23, none⟩ = some (.bool false) := by
    have h := hp5.cell hkn (j := 45) (by omega)
    rw [upd_same] at h
    exact h
  have c9 : w5.cell? ⟨gp, k * 89 + 6 + 3, none⟩ = some (.int .i64 3) := by
    have h := hp5.cell hkn (j := 9) (by omega)
    rw [upd_same] at h
    exact h
  have c37 := hp5.cell hkn (j := 37) (by omega)
  have f37 := hp5.free (k * 89 + 22 + 15)
  have hk0 : (0 : Int) ≤ k := by omega
  have hk1 : (k : Int) < b.n := by omega
  have n1 : ¬ gp = w4.heap.size := by omega
  have n4 : ¬ w4.heap.size = gp := by omega
  go_wp2_with fail
  obtain ⟨w6, hw6⟩ : ∃ x, x = w5.setCell ⟨gp, k * 89 + 22 + 15, none⟩ (.bool true) := ⟨_, rfl⟩
  rw [← hw6]
  have ho6 : Only (· = gp) w5 w6 := by
    rw [hw6]
    exact (Only.refl (· = gp) w5).setCell (Or.inl rfl) _
  have hp6 := hp5.step (j := 37) (by omega) (rowP_put_37 _ (true))
  rw [show w5.setCell ⟨gp, k * 89 + 37, none⟩ (.bool true) = w6 from hw6.symm] at hp6
  have hb6 := (ho6.cell (p := ⟨w4.heap.size, 17, none⟩) d5 n4).trans hb5
  have hr6 := (ho6.cell (p := ⟨w4.heap.size, 1, none⟩) d5 n4).trans hr5
  have hA6 := hA5.trans ho6
  have d6 : w4.heap.size < w6.heap.size := by have := ho6.size; omega
  clear hw6 hp5 hb5 hr5
  have H2 := Lib.hid (hears_2 (((((((((((ps k).setB 2 true).setI 16 2).setB 45 true).setB 30 false).setB 38 true).setB 45 false).setI 9 3).setI 16 1).setB 37 true)) rfl rfl rfl rfl)
  clear c45 c9 c37 f37
  refine (step_on _ _ gp b.n cp k ps _ true hkn d6 (by omega) hb6 hr6 hp6).mono ?_
  rintro e w7 ⟨rfl, hp7, ho7, hb7, hr7⟩
  rw [H2.out] at hp7 ⊢
  have hA7 := hA6.trans ho7
  have d7 : w4.heap.size < w7.heap.size := by have := ho7.size; omega
  have c30 := hp7.cell hkn (j := 30) (by omega)
  have f30 := hp7.free (k * 89 + 22 + 8)
  go_wp2_with fail
  obtain ⟨w8, hw8⟩ : ∃ x, x = w7.setCell ⟨gp, k * 89 + 22 + 8, none⟩ (.bool true) := ⟨_, rfl⟩
  rw [← hw8]
  have ho8 : Only (· = gp) w7 w8 := by
    rw [hw8]
    exact (Only.refl (· = gp) w7).setCell (Or.inl rfl) _
  have hp8 := hp7.step (j := 30) (by omega) (rowP_put_30 _ (true))
  rw [show w7.setCell ⟨gp, k * 89 + 30, none⟩ (.bool true) = w8 from hw8.symm] at hp8
  have hb8 := (ho8.cell (p := ⟨w4.heap.size, 17, none⟩) d7 n4).trans hb7
  have hr8 := (ho8.cell (p := ⟨w4.heap.size, 1, none⟩) d7 n4).trans hr7
  have hA8 := hA7.trans ho8
  have d8 : w4.heap.size < w8.heap.size := by have := ho8.size; omega
  clear hw8 hp7 hb7 hr7
  have H3 := Lib.hid (hears_3 ((((((((((((ps k).setB 2 true).setI 16 2).setB 45 true).setB 30 false).setB 38 true).setB 45 false).setI 9 3).setI 16 1).setB 37 true).setB 30 true)) rfl rfl)
  clear c30 f30
  refine (step_on _ _ gp b.n cp k ps _ true hkn d8 (by omega) hb8 hr8 hp8).mono ?_
  rintro e w9 ⟨rfl, hp9, ho9, hb9, hr9⟩
  rw [H3.out] at hp9 ⊢
  have hA9 := hA8.trans ho9
  have d9 : w4.heap.size < w9.heap.size := by have := ho9.size; omega
  have H4 := Lib.hid (hears_4 (((((((((((((((ps k).setB 2 true).setI 16 2).setB 45 true).setB 30 false).setB 38 true).setB 45 false).setI 9 3).setI 16 1).setB 37 true).setB 30 true).setB 37 false).setB 38 false).setI 16 2)) rfl rfl)
  go_wp2_with fail
  refine (step_on _ _ gp b.n cp k ps _ true hkn d9 (by omega) hb9 hr9 hp9).mono ?_
  rintro e w10 ⟨rfl, hp10, ho10, hb10, hr10⟩
  rw [H4.out] at hp10 ⊢
  have hA10 := hA9.trans ho10
  have d10 : w4.heap.size < w10.heap.size := by have := ho10.size; omega
  have c45 : w10.cell? ⟨gp, k * 89 + 22 + 23, none⟩ = some (.bool true) := by
    have h := hp10.cell hkn (j := 45) (by omega)
    rw [upd_same] at h
    exact h
  have c30 : w10.cell? ⟨gp, k * 89 + 22 + 8, none⟩ = some (.bool false) := by
    have h := hp10.cell hkn (j := 30) (by omega)
    rw [upd_same] at h
    exact h
  have c16 : w10.cell? ⟨gp, k * 89 + 15 + 1, none⟩ = some (.int .i64 0) := by
    have h := hp10.cell hkn (j := 16) (by omega)
    rw [upd_same] at h
    exact h
  clear H2 H3 H4 hp10 hp9
  go_wp2_with fail
  go_ret
  exact ⟨rfl, HW4.out.trans (hA10.below (B := w.heap.size) HW4.out.size (fun k hk => by omega))⟩
end Go.Proofs.Ytjefonjjgahmgaa.Br
