/- Law TxIdle of the sending machine: the walk joined with the plain law. -/
import Derived.Test.YtmlhbfkmnbhoeaaTxOn
import Derived.Test.YtmlhbfkmnbhoeaaOpen
import Derived.Deep.RegionHeld
set_option linter.unusedSimpArgs false
namespace Go.Proofs.Ytmlhbfkmnbhoeaa.Br
open Go.RowKit
theorem idle_law (b : Bri) (q : Rec) (hr4 : 1 ≤ b.r.i 4) (hr6 : 1 ≤ b.r.i 6) : ∃ p1 p3 p4 : Rec, ∃ kd : Int, p1 = (((((q.setB 44 true).setB 50 false).setB 31 false).setI 87 4).setI 8 (b.r.i 4)).setI 14 0 ∧ txF b p1 = (p1, false, none) ∧ txF b (p1.setI 8 0) = (p3, true, none) ∧ txF b p3 = (p4, true, some kd) ∧ txF b p4 = (p4, false, none) ∧ p1.i 14 = 0 ∧ (p1.setI 8 0).i 14 = 0 ∧ p3.i 14 = 0 ∧ p4.i 14 = 1 := by
  have n4 : ¬ b.r.i 4 = 0 := by omega
  have n6 : ¬ b.r.i 6 ≤ 0 := by omega
  refine ⟨(((((q.setB 44 true).setB 50 false).setB 31 false).setI 87 4).setI 8 (b.r.i 4)).setI 14 0, (((((((q.setB 44 true).setB 50 false).setB 31 false).setI 87 4).setI 8 (b.r.i 4)).setI 14 0).setI 8 0).setB 31 true |>.setI 8 (b.r.i 4), (((((((((((q.setB 44 true).setB 50 false).setB 31 false).setI 87 4).setI 8 (b.r.i 4)).setI 14 0).setI 8 0).setB 31 true |>.setI 8 (b.r.i 4)).setB 31 false).setI 14 1).setB 48 (q.b 48 && (kindF ((((((((q.setB 44 true).setB 50 false).setB 31 false).setI 87 4).setI 8 (b.r.i 4)).setI 14 0).setI 8 0).setB 31 true |>.setI 8 (b.r.i 4))).1 == 1)).setI 8 (b.r.i 4), (kindF ((((((((q.setB 44 true).setB 50 false).setB 31 false).setI 87 4).setI 8 (b.r.i 4)).setI 14 0).setI 8 0).setB 31 true |>.setI 8 (b.r.i 4))).1, rfl, ?_, ?_, ?_, ?_, rfl, rfl, rfl, rfl⟩
  · unfold txF
    rw [if_neg (by simp [Rec.setB_b, Rec.setI_b]), if_neg (by simpa [Rec.setB_i, Rec.setI_i] using n4), if_pos (by simp [Rec.setB_b, Rec.setI_b])]
  · unfold txF
    rw [if_neg (by simp [Rec.setB_b, Rec.setI_b]), if_pos (by simp [Rec.setB_i, Rec.setI_i])]
    simp [Rec.setB_b, Rec.setI_b, Rec.setB_i, Rec.setI_i]
  · have hk : (kindF ((((((((q.setB 44 true).setB 50 false).setB 31 false).setI 87 4).setI 8 (b.r.i 4)).setI 14 0).setI 8 0).setB 31 true |>.setI 8 (b.r.i 4))).2 = true := by
      unfold kindF
      by_cases h45 : q.b 45 = true <;> simp [Rec.setB_b, Rec.setI_b, Rec.setB_i, Rec.setI_i, h45]
    unfold txF
    rw [if_neg (by simp [Rec.setB_b, Rec.setI_b]), if_neg (by simpa [Rec.setB_i, Rec.setI_i] using n4), if_neg (by rw [hk]; simp [Rec.setB_b, Rec.setI_b, Rec.setB_i, Rec.setI_i]; omega)]
    simp [Rec.setB_b, Rec.setI_b, Rec.setB_i, Rec.setI_i]
  · unfold txF
    rw [if_neg (by simp [Rec.setB_b, Rec.setI_b]), if_neg (by simpa [Rec.setB_i, Rec.setI_i] using n4), if_pos (by simp [Rec.setB_b, Rec.setI_b])]
attribute [local go_sem] zeroBr
set_option maxRecDepth 100000 in
set_option maxHeartbeats 8000000 in
theorem idle_any (b : Bri) (ps ss : Nat → Rec) (fs : Nat → Int) (w : World) (i : Nat) (hi : i ≤ 255) (h : Reads0 w b ps ss fs) :
    Calls Try.prog 7 #[.agg (rowB b), .int .u8 i] w fun e w' => e = .returned (.bool true) ∧ Below w.heap.size w w' := by
  have HR := Lib.hid h
  clear h
  go_enter Try.func7, Try.ntmps7
  go_wp2_with fail
  refine (awake_any _).mono ?_
  rintro e w1 ⟨rfl, hb1⟩
  have HB : Hid (w1.heap[w.heap.size]? = some (.cells (rowB b) 33 (0, 0))) := (hb1.block _ (by simp)).trans (at_new rfl)
  have HW1 := Lib.hid (andthen (more (Below.refl w.heap.size w) _) hb1)
  clear hb1
  go_wp2_with (first | (refine loadB rfl rfl _ rfl w.heap.size rfl b HB.out ?_; simp only [Act.put, List.setIfInBounds_toArray, List.set_cons_zero, List.set_cons_succ]) | fail)
  refine (few_any b ps _ (HR.out.below HW1.out).p).mono ?_
  rintro e w2 ⟨r, rfl, hr, hb2⟩
  have HB' : Hid (w2.heap[w.heap.size]? = some (.cells (rowB b) 33 (0, 0))) := (hb2.block _ (Array.getElem?_eq_some_iff.1 HB.out).1).trans HB.out
  have HW2 := Lib.hid (andthen HW1.out hb2)
  have Hr := Lib.hid hr
  clear hb2 hr HB HW1
  cases r
  · go_wp2_with fail
    go_ret
    exact ⟨rfl, HW2.out⟩
  have HL := Lib.hid (Hr.out rfl)
  clear Hr
  have HB := HB'
  clear HB'
  have hn1 : 0 < b.n := HL.out.2.1
  have hn8 : b.n ≤ 8 := HL.out.2.2.1
  go_wp2_with (first | (refine loadB rfl rfl _ rfl w.heap.size rfl b HB.out ?_; simp only [Act.put, List.setIfInBounds_toArray, List.set_cons_zero, List.set_cons_succ]) | fail)
  refine (at_any b i _ hi hn1 hn8).mono ?_
  rintro e w3 ⟨rfl, hb3⟩
  have HB' : Hid (w3.heap[w.heap.size]? = some (.cells (rowB b) 33 (0, 0))) := (hb3.block _ (Array.getElem?_eq_some_iff.1 HB.out).1).trans HB.out
  have HW3 := Lib.hid (andthen HW2.out hb3)
  clear hb3 HB HW2
  have HB := HB'
  clear HB'
  obtain ⟨k, hk⟩ : ∃ k, k = i % b.n := ⟨_, rfl⟩
  have hkn : k < b.n := by rw [hk]; exact Nat.mod_lt _ hn1
  rw [← hk]
  have Hk := Lib.hid hk
  clear hk
  go_wp2_with (first | (refine loadB rfl rfl _ rfl w.heap.size rfl b HB.out ?_; simp only [Act.put, List.setIfInBounds_toArray, List.set_cons_zero, List.set_cons_succ]) | fail)
  refine (clone_any b ps ss fs _ ((HR.out.below HW3.out).looked HL.out)).mono ?_
  rintro e w4 ⟨gp, cp, go, co, gf, cf, rfl, hp1, hp2, hp3, op, os, of, hb⟩
  go_upto_region 7 with (first | (refine wpList_store_at rfl 33 _ _ rfl _ (rowB zeroBri) 33 (rowB (b.at gp cp go co gf cf)) _ rfl rfl rfl rfl (sizeB _) rfl (rowB_one _) ?_; simp only [Act.put]) | fail)
  refine ((?_ : ∀ x, x = w4.alloc (.cells (rowB (b.at gp cp go co gf cf)) 33) → Code.wp _ _ _ _ x) _ rfl)
  intro wx hwx
  obtain ⟨bb, bx, hbx, hX, hgx, hbr, hbn, hbo, hbf, hwx'⟩ := clone_bst op os of hp2 hp3 hwx
  rw [← hbx]
  have hw4 := HW3.out.size
  have HX := Lib.hid hX
  have HWX := Lib.hid (andthen (andthen HW3.out hb) hwx')
  have hlt3 : w.heap.size < w3.heap.size := (Array.getElem?_eq_some_iff.1 HB.out).1
  have hge : w.heap.size < gp := Nat.lt_of_lt_of_le hlt3 hp1
  have HBX := Lib.hid ((hwx'.block _ (Nat.lt_of_lt_of_le hlt3 hb.size)).trans ((hb.block _ hlt3).trans HB.out))
  have HBR := Lib.hid hbr
  have HBN := Lib.hid hbn
  have HBO := Lib.hid hbo
  have HBF := Lib.hid hbf
  have hkb : k < bb.n := by rw [hbn]; exact hkn
  have hnob : bb.no ≤ 20 := by rw [hbo]; exact HL.out.2.2.2.1
  have hk0 : (0 : Int) ≤ k := by omega
  have hk1 : (k : Int) < bb.n := by omega
  clear op os of hb hp1 hp2 hp3 HB hX hwx hwx' hbx hbr hbn hbo hbf hw4 hlt3
  have d17 := HX.out.c17
  have hgl := HX.out.p.lt
  have c44 : wx.cell? ⟨gp, k * 89 + 22 + 22, none⟩ = some (.bool ((ps k).b 44)) := HX.out.p.cell hkb (j := 44) (by omega)
  have f44 : wx.frozen? ⟨gp, k * 89 + 22 + 22, none⟩ = false := HX.out.p.free _
  have c50 : wx.cell? ⟨gp, k * 89 + 22 + 28, none⟩ = some (.bool ((ps k).b 50)) := HX.out.p.cell hkb (j := 50) (by omega)
  have f50 : wx.frozen? ⟨gp, k * 89 + 22 + 28, none⟩ = false := HX.out.p.free _
  have c31 : wx.cell? ⟨gp, k * 89 + 22 + 9, none⟩ = some (.bool ((ps k).b 31)) := HX.out.p.cell hkb (j := 31) (by omega)
  have f31 : wx.frozen? ⟨gp, k * 89 + 22 + 9, none⟩ = false := HX.out.p.free _
  have c87 : wx.cell? ⟨gp, k * 89 + 87, none⟩ = some (.int .i64 ((ps k).i 87)) := HX.out.p.cell hkb (j := 87) (by omega)
  have f87 : wx.frozen? ⟨gp, k * 89 + 87, none⟩ = false := HX.out.p.free _
  have c8 : wx.cell? ⟨gp, k * 89 + 6 + 2, none⟩ = some (.int .i64 ((ps k).i 8)) := HX.out.p.cell hkb (j := 8) (by omega)
  have f8 : wx.frozen? ⟨gp, k * 89 + 6 + 2, none⟩ = false := HX.out.p.free _
  have c14 : wx.cell? ⟨gp, k * 89 + 6 + 8, none⟩ = some (.int .i64 ((ps k).i 14)) := HX.out.p.cell hkb (j := 14) (by omega)
  have f14 : wx.frozen? ⟨gp, k * 89 + 6 + 8, none⟩ = false := HX.out.p.free _
  have o4 : wx.cell? ⟨w.heap.size, 2 + 2, none⟩ = some (.int .i64 (b.r.i 4)) := cells_of HBX.out 4
  have hg4 : 1 ≤ b.r.i 4 := by
    have := HL.out.1.1
    simp only [right4, Bool.and_eq_true, decide_eq_true_eq] at this
    omega
  have hg6 : 1 ≤ b.r.i 6 := HL.out.1.2.2.2.1
  obtain ⟨p1, p3, p4, kd, hp1, hF1, hF2, hF3, hF4, h14, h142, h143, h144⟩ := idle_law b (ps k) hg4 hg6
  clear hg4 hg6
  have hS : Bst ((((((wx.setCell ⟨gp, k * 89 + 44, none⟩ (.bool true)).setCell ⟨gp, k * 89 + 50, none⟩ (.bool false)).setCell ⟨gp, k * 89 + 31, none⟩ (.bool false)).setCell ⟨gp, k * 89 + 87, none⟩ (.int .i64 4)).setCell ⟨gp, k * 89 + 8, none⟩ (.int .i64 (b.r.i 4))).setCell ⟨gp, k * 89 + 14, none⟩ (.int .i64 0)) bx gp bb (upd ps k p1) ss fs := by
    rw [hp1]
    exact ((((((HX.out.start k).put (j := 44) (by omega) (rowP_put_44 _ _)).put (j := 50) (by omega) (rowP_put_50 _ _)).put (j := 31) (by omega) (rowP_put_31 _ _)).put (j := 87) (by omega) (rowP_put_87 _ _)).put (j := 8) (by omega) (rowP_put_8 _ _)).put (j := 14) (by omega) (rowP_put_14 _ _)
  have HS := Lib.hid hS
  have F1 := Lib.hid hF1
  have F2 := Lib.hid hF2
  have F3 := Lib.hid hF3
  have F4 := Lib.hid hF4
  have H14 := Lib.hid h14
  have H142 := Lib.hid h142
  have H143 := Lib.hid h143
  have H144 := Lib.hid h144
  clear hS hp1 hF1 hF2 hF3 hF4 h14 h142 h143 h144
  go_wp2_with fail
  refine (step_on _ bx gp k bb ps _ fs p1 (HS.out) hkb (by rw [H14.out]; omega) (by omega)).mono ?_
  rintro e w51 ⟨bb1, rfl, hX1, hO1, hr1, hn1, ho1, hf1⟩
  unfold sentR at hX1
  unfold cntR at ho1
  rw [txF_r HBR.out, F1.out] at hX1 ho1
  rw [txF_r HBR.out, F1.out]
  have HX1 := Lib.hid hX1
  have HA1 := Lib.hid ((((((((Only.refl (fun x => x = gp ∨ x = bx) wx).setCell (Or.inl (.inl rfl)) _).setCell (Or.inl (.inl rfl)) _).setCell (Or.inl (.inl rfl)) _).setCell (Or.inl (.inl rfl)) _).setCell (Or.inl (.inl rfl)) _).setCell (Or.inl (.inl rfl)) _).trans hO1)
  have HBO1 := Lib.hid (show bb1.no = b.no + 0 from ho1.trans (by rw [HBO.out] <;> rfl))
  have hkb1 : k < bb1.n := by rw [hn1]; exact hkb
  have HBR1 := Lib.hid (hr1.trans HBR.out)
  have HBN1 := Lib.hid (hn1.trans HBN.out)
  have HBF1 := Lib.hid (hf1.trans HBF.out)
  have hnob1 : bb1.no ≤ 1000 := by rw [HBO1.out]; have := HL.out.2.2.2.1; omega
  have hk11 : (k : Int) < bb1.n := by omega
  clear hX1 hO1 hr1 hn1 ho1 hf1
  have d171 := HX1.out.c17
  have e8 : w51.cell? ⟨gp, k * 89 + 6 + 2, none⟩ = some (.int .i64 (p1.i 8)) := (HX1.out.p.cell hkb1 (j := 8) (by omega)).trans (by rw [upd_same]; rfl)
  have g8 : w51.frozen? ⟨gp, k * 89 + 6 + 2, none⟩ = false := HX1.out.p.free _
  go_wp2_with fail
  refine (step_on _ bx gp k bb1 ps _ fs (p1.setI 8 0) (HX1.out.put (j := 8) (by omega) (rowP_put_8 _ _)) hkb1 (by rw [H142.out]; omega) (by omega)).mono ?_
  rintro e w52 ⟨bb2, rfl, hX2, hO2, hr2, hn2, ho2, hf2⟩
  unfold sentR at hX2
  unfold cntR at ho2
  rw [txF_r HBR1.out, F2.out] at hX2 ho2
  rw [txF_r HBR1.out, F2.out]
  have HX2 := Lib.hid hX2
  have HA2 := Lib.hid (((HA1.out).setCell (Or.inl (.inl rfl)) _).trans hO2)
  have HBO2 := Lib.hid (show bb2.no = b.no + 0 from ho2.trans (by rw [HBO1.out] <;> rfl))
  have hkb2 : k < bb2.n := by rw [hn2]; exact hkb1
  have HBR2 := Lib.hid (hr2.trans HBR1.out)
  have HBN2 := Lib.hid (hn2.trans HBN1.out)
  have HBF2 := Lib.hid (hf2.trans HBF1.out)
  have hnob2 : bb2.no ≤ 1000 := by rw [HBO2.out]; have := HL.out.2.2.2.1; omega
  have hk12 : (k : Int) < bb2.n := by omega
  clear hX2 hO2 hr2 hn2 ho2 hf2
  have d172 := HX2.out.c17
  go_wp2_with fail
  refine (step_on _ bx gp k bb2 ps _ fs p3 (HX2.out) hkb2 (by rw [H143.out]; omega) (by omega)).mono ?_
  rintro e w53 ⟨bb3, rfl, hX3, hO3, hr3, hn3, ho3, hf3⟩
  unfold sentR at hX3
  unfold cntR at ho3
  rw [txF_r HBR2.out, F3.out] at hX3 ho3
  rw [txF_r HBR2.out, F3.out]
  have HX3 := Lib.hid hX3
  have HA3 := Lib.hid ((HA2.out).trans hO3)
  have HBO3 := Lib.hid (show bb3.no = b.no + 1 from ho3.trans (by rw [HBO2.out] <;> rfl))
  have hkb3 : k < bb3.n := by rw [hn3]; exact hkb2
  have HBR3 := Lib.hid (hr3.trans HBR2.out)
  have HBN3 := Lib.hid (hn3.trans HBN2.out)
  have HBF3 := Lib.hid (hf3.trans HBF2.out)
  have hnob3 : bb3.no ≤ 1000 := by rw [HBO3.out]; have := HL.out.2.2.2.1; omega
  have hk13 : (k : Int) < bb3.n := by omega
  clear hX3 hO3 hr3 hn3 ho3 hf3
  have d173 := HX3.out.c17
  go_wp2_with fail
  refine (step_on _ bx gp k bb3 ps _ fs p4 (HX3.out) hkb3 (by rw [H144.out]; omega) (by omega)).mono ?_
  rintro e wz ⟨bb4, rfl, hX4, hO4, hr4, hn4, ho4, hf4⟩
  unfold sentR at hX4
  unfold cntR at ho4
  rw [txF_r HBR3.out, F4.out] at hX4 ho4
  rw [txF_r HBR3.out, F4.out]
  have HX4 := Lib.hid hX4
  have HA4 := Lib.hid ((HA3.out).trans hO4)
  have HBO4 := Lib.hid (show bb4.no = b.no + 1 from ho4.trans (by rw [HBO3.out] <;> rfl))
  have hkb4 : k < bb4.n := by rw [hn4]; exact hkb3
  have HBR4 := Lib.hid (hr4.trans HBR3.out)
  have HBN4 := Lib.hid (hn4.trans HBN3.out)
  have HBF4 := Lib.hid (hf4.trans HBF3.out)
  have hnob4 : bb4.no ≤ 1000 := by rw [HBO4.out]; have := HL.out.2.2.2.1; omega
  have hk14 : (k : Int) < bb4.n := by omega
  clear hX4 hO4 hr4 hn4 ho4 hf4
  have d174 := HX4.out.c17
  have d18 : wz.cell? ⟨bx, 18, none⟩ = some (.slice bb4.ao bb4.no bb4.co) := cells_of HX4.out.h 18
  rw [HBO4.out] at d18
  have o18 : wz.cell? ⟨w.heap.size, 18, none⟩ = some (.slice b.ao b.no b.co) := cells_of (orig HBX.out HA4.out hge hgx) 18
  have hw1 : IntKind.i64.wrap ((b.no : Int) + 1) = (b.no : Int) + 1 := by have := HL.out.2.2.2.1; unfold IntKind.wrap; simp [IntKind.signed, IntKind.bits]; omega
  go_wp2_with fail
  go_ret
  exact ⟨rfl, HWX.out.trans (HA4.out.below HWX.out.size (fun k hk => by omega))⟩
end Go.Proofs.Ytmlhbfkmnbhoeaa.Br
