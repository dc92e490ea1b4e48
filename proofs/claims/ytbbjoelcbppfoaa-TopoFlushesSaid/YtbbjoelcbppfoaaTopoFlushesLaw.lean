/- Law TopoFlushes of chapter 17: the walk joined with the plain law. -/
import Derived.Test.YtbbjoelcbppfoaaToOn
import Derived.Test.YtbbjoelcbppfoaaOpen
set_option linter.unusedSimpArgs false
set_option linter.unusedVariables false
namespace Go.Proofs.Ytbbjoelcbppfoaa.Br
open Go.RowKit
/-- What three steps do to the law's port. -/
theorem flushes_law (b : Bri) (q : Rec) (hT : TimesOk b) (h13 : 0 ≤ q.i 13) (hh : 1 ≤ b.r.i 4) (hm : 1 ≤ b.r.i 3) : ∃ p1 p2 p3 : Rec, p1 = ((((((((q.setI 21 2).setI 87 4).setB 32 false).setB 25 false).setB 39 false).setB 41 false).setB 40 false).setB 49 true) ∧ topoB b p1 = (p2, false, false, true) ∧ topoB b p2 = (p3, false, true, true) ∧ topoB b p3 = (p3, false, false, false) ∧ 0 < p3.i 13 ∧ p3.b 49 = false := by
  have hd := hT 2 (by omega)
  simp only [Nat.reduceAdd] at hd
  have key : ∀ p1 : Rec, p1.i 21 = 2 → p1.i 87 = 4 → p1.b 32 = false → p1.b 25 = false → p1.b 39 = false → p1.b 41 = false → p1.b 40 = false → p1.b 49 = true → 0 ≤ p1.i 13 → ∃ p2 p3 : Rec, topoB b p1 = (p2, false, false, true) ∧ topoB b p2 = (p3, false, true, true) ∧ topoB b p3 = (p3, false, false, false) ∧ 0 < p3.i 13 ∧ p3.b 49 = false := by
    intro p1 e21 e87 e32 e25 e39 e41 e40 e49 e13
    obtain ⟨r, hr, r21, r87, r32, r39, r41, r40, r13⟩ : ∃ r, r = beginF (b.r.i 4) (b.r.i 3) (b.r.i 5) p1 ∧ r.i 21 = 2 ∧ r.i 87 = 4 ∧ r.b 32 = false ∧ r.b 39 = false ∧ r.b 41 = false ∧ r.b 40 = false ∧ 0 < r.i 13 := by
      refine ⟨_, rfl, ?_⟩
      unfold beginF
      split
      · rename_i h
        have : p1.i 13 ≠ 0 := by simpa using h
        exact ⟨e21, e87, e32, e39, e41, e40, by omega⟩
      · split
        · exact ⟨e21, e87, e32, e39, e41, e40, by show 0 < b.r.i 4 + 1; omega⟩
        · exact ⟨e21, e87, e32, e39, e41, e40, by show 0 < b.r.i 3 + b.r.i 5; omega⟩
    refine ⟨(r.setB 25 true).setB 49 false, ((r.setB 25 true).setB 49 false).setB 25 false, ?_, ?_, ?_, r13, rfl⟩
    · unfold topoB topoP activeP
      simp [e25, e21, e87, e32, e41, e39, e49, countsF, hr]
    · unfold topoB topoP
      simp [Rec.setB_b]
    · unfold topoB topoP activeP
      simp [Rec.setB_b, Rec.setB_i, r21, r87, r32, r41, r39, r40, countsF]
  obtain ⟨p2, p3, h⟩ := key (((((((((q.setI 21 2).setI 87 4).setB 32 false).setB 25 false).setB 39 false).setB 41 false).setB 40 false).setB 49 true)) rfl rfl rfl rfl rfl rfl rfl rfl h13
  exact ⟨_, p2, p3, rfl, h⟩
attribute [local go_sem] zeroBr
set_option maxRecDepth 100000 in
set_option maxHeartbeats 8000000 in
theorem flushes_any (b : Bri) (ps ss : Nat → Rec) (fs : Nat → Int) (w : World) (i : Nat) (hi : i ≤ 255) (h : Reads0 w b ps ss fs) :
    Calls Try.prog 6 #[.agg (rowB b), .int .u8 i] w fun e w' => e = .returned (.bool true) ∧ Below w.heap.size w w' := by
  have HR := Lib.hid h
  clear h
  go_enter Try.func6, Try.ntmps6
  go_wp2_with fail
  refine (awake_any _).mono ?_
  rintro e w1 ⟨rfl, hb1⟩
  have HB : Hid (w1.heap[w.heap.size]? = some (.cells (rowB b) 33 (0, 0))) := (hb1.block _ (by simp)).trans (at_new rfl)
  have HW1 := Lib.hid (andthen (more (Below.refl w.heap.size w) _) hb1)
  clear hb1
  go_wp2_with (first | (refine loadB rfl rfl _ rfl w.heap.size rfl b HB.out ?_; simp only [Act.put, List.setIfInBounds_toArray, List.set_cons_zero, List.set_cons_succ]) | fail)
  refine (few_any b ps _ (HR.out.below HW1.out).p).mono ?_
  rintro e w2 ⟨r, rfl, hr, hb2⟩
  have HB' : Hid (w2.heap[w.heap.size]? = some (.cells (rowB b) 33 (0, 0))) := (hb2.block _ (Array.getElem?_eq_some_iff.1 HB.out).1).trans HB.out
  have HW2 := Lib.hid (andthen HW1.out hb2)
  have Hr := Lib.hid hr
  clear hb2 hr HB HW1
  cases r
  · go_wp2_with fail
    go_ret
    exact ⟨rfl, HW2.out⟩
  have HL := Lib.hid (Hr.out rfl)
  clear Hr
  have HB := HB'
  clear HB'
  have hn1 : 0 < b.n := HL.out.2.1
  have hn8 : b.n ≤ 8 := HL.out.2.2.1
  go_wp2_with (first | (refine loadB rfl rfl _ rfl w.heap.size rfl b HB.out ?_; simp only [Act.put, List.setIfInBounds_toArray, List.set_cons_zero, List.set_cons_succ]) | fail)
  refine (at_any b i _ hi hn1 hn8).mono ?_
  rintro e w3 ⟨rfl, hb3⟩
  have HB' : Hid (w3.heap[w.heap.size]? = some (.cells (rowB b) 33 (0, 0))) := (hb3.block _ (Array.getElem?_eq_some_iff.1 HB.out).1).trans HB.out
  have HW3 := Lib.hid (andthen HW2.out hb3)
  clear hb3 HB HW2
  have HB := HB'
  clear HB'
  obtain ⟨k, hk⟩ : ∃ k, k = i % b.n := ⟨_, rfl⟩
  have hkn : k < b.n := by rw [hk]; exact Nat.mod_lt _ hn1
  rw [← hk]
  have Hk := Lib.hid hk
  clear hk
  go_wp2_with (first | (refine loadB rfl rfl _ rfl w.heap.size rfl b HB.out ?_; simp only [Act.put, List.setIfInBounds_toArray, List.set_cons_zero, List.set_cons_succ]) | fail)
  refine (clone_any b ps ss fs _ ((HR.out.below HW3.out).looked HL.out)).mono ?_
  rintro e w4 ⟨gp, cp, go, co, gf, cf, rfl, hp1, hp2, hp3, op, os, of, hb⟩
  go_upto_region 7 with (first | (refine wpList_store_at rfl 33 _ _ rfl _ (rowB zeroBri) 33 (rowB (b.at gp cp go co gf cf)) _ rfl rfl rfl rfl (sizeB _) rfl (rowB_one _) ?_; simp only [Act.put]) | fail)
  refine ((?_ : ∀ x, x = w4.alloc (.cells (rowB (b.at gp cp go co gf cf)) 33) → Code.wp _ _ _ _ x) _ rfl)
  intro wx hwx
  obtain ⟨bb, bx, hbx, hX, hgx, hSd, hwx'⟩ := clone_bst op os of hp2 hp3 hwx
  rw [← hbx]
  have hw4 := HW3.out.size
  have HX := Lib.hid hX
  have HSD := Lib.hid hSd
  have HWX := Lib.hid (andthen (andthen HW3.out hb) hwx')
  have hlt3 : w.heap.size < w3.heap.size := (Array.getElem?_eq_some_iff.1 HB.out).1
  have hge : w.heap.size < gp := Nat.lt_of_lt_of_le hlt3 hp1
  have HBX := Lib.hid ((hwx'.block _ (Nat.lt_of_lt_of_le hlt3 hb.size)).trans ((hb.block _ hlt3).trans HB.out))
  have HTO := Lib.hid (times_ok HL.out)
  have hn1000 : b.n ≤ 1000 := by omega
  have hnf20 : b.nf ≤ 20 := HL.out.2.2.2.2
  have hnn : bb.n = b.n := hSd.2.1
  have HNN := Lib.hid hnn
  have hkb : k < bb.n := by rw [hnn]; exact hkn
  have hk0 : (0 : Int) ≤ k := by omega
  have hk1 : (k : Int) < b.n := by omega
  obtain ⟨cpx, d17⟩ := hX.c17s hSd
  have hgl := hX.p.lt
  have hbl := hX.lt
  have nbg : ¬ bx = gp := hX.ne
  have ngb : ¬ gp = bx := fun e => hX.ne e.symm
  clear op os of hb hp1 hp2 hp3 HB hX hwx hwx' hbx hSd hw4 hlt3 hnn
  have c21 : wx.cell? ⟨gp, k * 89 + 15 + 6, none⟩ = some (.int .i64 ((ps k).i 21)) := (HX.out.p.cell hkb (j := 21) (by omega)).trans (by first | rfl | (rw [upd_same]; rfl))
  have fc21 : wx.frozen? ⟨gp, k * 89 + 15 + 6, none⟩ = false := HX.out.p.free _
  have c87 : wx.cell? ⟨gp, k * 89 + 87, none⟩ = some (.int .i64 ((ps k).i 87)) := (HX.out.p.cell hkb (j := 87) (by omega)).trans (by first | rfl | (rw [upd_same]; rfl))
  have fc87 : wx.frozen? ⟨gp, k * 89 + 87, none⟩ = false := HX.out.p.free _
  have c32 : wx.cell? ⟨gp, k * 89 + 22 + 10, none⟩ = some (.bool ((ps k).b 32)) := (HX.out.p.cell hkb (j := 32) (by omega)).trans (by first | rfl | (rw [upd_same]; rfl))
  have fc32 : wx.frozen? ⟨gp, k * 89 + 22 + 10, none⟩ = false := HX.out.p.free _
  have c25 : wx.cell? ⟨gp, k * 89 + 22 + 3, none⟩ = some (.bool ((ps k).b 25)) := (HX.out.p.cell hkb (j := 25) (by omega)).trans (by first | rfl | (rw [upd_same]; rfl))
  have fc25 : wx.frozen? ⟨gp, k * 89 + 22 + 3, none⟩ = false := HX.out.p.free _
  have c39 : wx.cell? ⟨gp, k * 89 + 22 + 17, none⟩ = some (.bool ((ps k).b 39)) := (HX.out.p.cell hkb (j := 39) (by omega)).trans (by first | rfl | (rw [upd_same]; rfl))
  have fc39 : wx.frozen? ⟨gp, k * 89 + 22 + 17, none⟩ = false := HX.out.p.free _
  have c41 : wx.cell? ⟨gp, k * 89 + 22 + 19, none⟩ = some (.bool ((ps k).b 41)) := (HX.out.p.cell hkb (j := 41) (by omega)).trans (by first | rfl | (rw [upd_same]; rfl))
  have fc41 : wx.frozen? ⟨gp, k * 89 + 22 + 19, none⟩ = false := HX.out.p.free _
  have c40 : wx.cell? ⟨gp, k * 89 + 22 + 18, none⟩ = some (.bool ((ps k).b 40)) := (HX.out.p.cell hkb (j := 40) (by omega)).trans (by first | rfl | (rw [upd_same]; rfl))
  have fc40 : wx.frozen? ⟨gp, k * 89 + 22 + 18, none⟩ = false := HX.out.p.free _
  have c49 : wx.cell? ⟨gp, k * 89 + 22 + 27, none⟩ = some (.bool ((ps k).b 49)) := (HX.out.p.cell hkb (j := 49) (by omega)).trans (by first | rfl | (rw [upd_same]; rfl))
  have fc49 : wx.frozen? ⟨gp, k * 89 + 22 + 27, none⟩ = false := HX.out.p.free _
  have hPk := (HL.out.1.2.2.2.2.2.2.2.2 k hkn).1 7 (by omega)
  have hr4 := HL.out.1.1
  simp only [right4, decide_eq_true_eq] at hr4
  obtain ⟨p1, p2, p3, hp1, hF1, hF2, hF3, h13, h49⟩ := flushes_law b (ps k) HTO.out hPk.1 (by omega) (by omega)
  clear hPk hr4
  have hS : Bst (((((((((wx.setCell ⟨gp, k * 89 + 15 + 6, none⟩ (.int .i64 2)).setCell ⟨gp, k * 89 + 87, none⟩ (.int .i64 4)).setCell ⟨gp, k * 89 + 22 + 10, none⟩ (.bool false)).setCell ⟨gp, k * 89 + 22 + 3, none⟩ (.bool false)).setCell ⟨gp, k * 89 + 22 + 17, none⟩ (.bool false)).setCell ⟨gp, k * 89 + 22 + 19, none⟩ (.bool false)).setCell ⟨gp, k * 89 + 22 + 18, none⟩ (.bool false)).setCell ⟨gp, k * 89 + 22 + 27, none⟩ (.bool true))) bx gp bb (upd ps k p1) ss fs := by
    rw [hp1]
    exact ((((((((HX.out.start k).put (j := 21) (by omega) (rowP_put_21 _ _)).put (j := 87) (by omega) (rowP_put_87 _ _)).put (j := 32) (by omega) (rowP_put_32 _ _)).put (j := 25) (by omega) (rowP_put_25 _ _)).put (j := 39) (by omega) (rowP_put_39 _ _)).put (j := 41) (by omega) (rowP_put_41 _ _)).put (j := 40) (by omega) (rowP_put_40 _ _)).put (j := 49) (by omega) (rowP_put_49 _ _)
  have HS := Lib.hid hS
  have F1 := Lib.hid hF1
  have F2 := Lib.hid hF2
  have F3 := Lib.hid hF3
  have H13 := Lib.hid h13
  have H49 := Lib.hid h49
  clear hS hp1 hF1 hF2 hF3 h13 h49
  go_wp2_with fail
  refine (step_is b HTO.out _ bx gp k (0) bb (ps) _ (fs) p1 _ _ _ _ F1.out (HS.out) HSD.out hkn hn1000 (by omega)).mono ?_
  rintro e w51 ⟨bb1, rfl, hX1, hO1, hS1⟩
  have HX1 := Lib.hid hX1
  have HSD1 := Lib.hid hS1
  have HA1 := Lib.hid ((((((((((Only.refl (fun x => x = gp ∨ x = bx) wx).setCell (Or.inl (.inl rfl)) _).setCell (Or.inl (.inl rfl)) _).setCell (Or.inl (.inl rfl)) _).setCell (Or.inl (.inl rfl)) _).setCell (Or.inl (.inl rfl)) _).setCell (Or.inl (.inl rfl)) _).setCell (Or.inl (.inl rfl)) _).setCell (Or.inl (.inl rfl)) _).trans hO1)
  have hkb1 : k < bb1.n := by rw [hS1.2.1]; exact hkn
  obtain ⟨cpx1, d171⟩ := hX1.c17s hS1
  clear hX1 hO1 hS1
  clear d17 c21 fc21 c87 fc87 c32 fc32 c25 fc25 c39 fc39 c41 fc41 c40 fc40 c49 fc49
  go_wp2_with fail
  refine (step_is b HTO.out _ bx gp k (flN false 0) bb1 (tellF false k ps) _ (flF false (b.nf + 0) fs k) p2 _ _ _ _ F2.out (HX1.out) HSD1.out hkn hn1000 (by show b.nf + 0 ≤ 100000; omega)).mono ?_
  rintro e w52 ⟨bb2, rfl, hX2, hO2, hS2⟩
  have HX2 := Lib.hid hX2
  have HSD2 := Lib.hid hS2
  have HA2 := Lib.hid ((HA1.out).trans hO2)
  have hkb2 : k < bb2.n := by rw [hS2.2.1]; exact hkn
  obtain ⟨cpx2, d172⟩ := hX2.c17s hS2
  clear hX2 hO2 hS2
  clear d171
  go_wp2_with fail
  refine (step_is b HTO.out _ bx gp k (flN true (flN false 0)) bb2 (tellF false k (tellF false k ps)) _ (flF true (b.nf + flN false 0) (flF false (b.nf + 0) fs k) k) p3 _ _ _ _ F3.out (HX2.out) HSD2.out hkn hn1000 (by show b.nf + 1 ≤ 100000; omega)).mono ?_
  rintro e w53 ⟨bb3, rfl, hX3, hO3, hS3⟩
  have HX3 := Lib.hid hX3
  have HSD3 := Lib.hid hS3
  have HA3 := Lib.hid ((HA2.out).trans hO3)
  have hkb3 : k < bb3.n := by rw [hS3.2.1]; exact hkn
  obtain ⟨cpx3, d173⟩ := hX3.c17s hS3
  clear hX3 hO3 hS3
  clear d172
  obtain ⟨ga, oa, cfx, d19, hfl⟩ := HX3.out.c19s HSD3.out
  have hk19 : w53.cell? ⟨ga, oa + b.nf, none⟩ = some (.int .i64 k) := (hfl b.nf (by show b.nf < b.nf + 1; omega)).trans (by
    show some (Value.int .i64 (snocI b.nf (flF false (b.nf + 0) fs k) k b.nf)) = _
    unfold snocI
    rw [if_pos rfl])
  have d19' : w53.cell? ⟨bx, 19, none⟩ = some (.slice (some ⟨ga, oa, none⟩) (b.nf + 1) cfx) := d19
  have o19 : w53.cell? ⟨w.heap.size, 19, none⟩ = some (.slice b.af b.nf b.cf) := cells_of (orig HBX.out HA3.out hge hgx) 19
  have hw1 : IntKind.i64.wrap ((b.nf : Int) + 1) = (b.nf : Int) + 1 := by unfold IntKind.wrap; simp [IntKind.signed, IntKind.bits]; omega
  have c13 : w53.cell? ⟨gp, k * 89 + 6 + 7, none⟩ = some (.int .i64 (p3.i 13)) := (HX3.out.p.cell hkb3 (j := 13) (by omega)).trans (by rw [upd_same]; rfl)
  have c49 : w53.cell? ⟨gp, k * 89 + 22 + 27, none⟩ = some (.bool false) := (HX3.out.p.cell hkb3 (j := 49) (by omega)).trans (by rw [upd_same]; show some (Value.bool (p3.b 49)) = _; rw [H49.out])
  have dd13 : decide (0 < p3.i 13) = true := decide_eq_true H13.out
  clear d19 hfl
  go_wp2_with fail
  go_ret
  exact ⟨rfl, HWX.out.trans (HA3.out.below HWX.out.size (fun k hk => by omega))⟩
end Go.Proofs.Ytbbjoelcbppfoaa.Br
