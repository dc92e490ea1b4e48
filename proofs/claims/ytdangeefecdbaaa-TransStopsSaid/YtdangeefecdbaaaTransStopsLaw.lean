/- Law TransStops of chapter 15: the walk joined with the plain law. -/
import Derived.Test.YtdangeefecdbaaaTrF
import Derived.Test.YtdangeefecdbaaaOpen
set_option linter.unusedSimpArgs false
set_option linter.unusedVariables false
namespace Go.Proofs.Ytdangeefecdbaaa.Br
open Go.RowKit
theorem law_flags : ∃ f : Rec, (∀ w, Sem.run Try.prog (Instr.build 43 #[(22, .bool true), (24, .bool true), (6, .bool true), (4, .bool true), (7, .bool true), (5, .bool true)]) w = .ok (.agg (rowF f)) w) ∧ ∀ j, f.b j = (j == 44 || j == 46 || j == 28 || j == 26 || j == 29 || j == 27) :=
  ⟨⟨fun _ => 0, fun j => (j == 44 || j == 46 || j == 28 || j == 26 || j == 29 || j == 27)⟩, fun w => by kernel_rfl, fun _ => rfl⟩
/-- What three steps make of the law's port. -/
theorem stops_law (b : Bri) (p f : Rec) (hf : ∀ j, f.b j = (j == 44 || j == 46 || j == 28 || j == 26 || j == 29 || j == 27)) (hj : ∀ j, 22 ≤ j → j < 51 → p.b j = f.b j) (h87 : p.i 87 = 4) (h88 : p.i 88 = 4) (h19 : p.i 19 = 3) :
    ∃ p2 p3 p4 p5 : Rec, p3 = (p2.setB 29 false).setB 27 false ∧ firstOn (desR b p) = some p2 ∧ firstOn (desR b p3) = some p4 ∧ firstOn (desR b p4) = some p5 ∧ (∀ k ps, nextT b k (upd ps k p) = (firstOn (desR b p)).map (upd ps k)) ∧ (∀ k ps, nextT b k (upd ps k p3) = (firstOn (desR b p3)).map (upd ps k)) ∧ (∀ k ps, nextT b k (upd ps k p4) = (firstOn (desR b p4)).map (upd ps k)) ∧ p2.b 28 = false ∧ p2.b 26 = false ∧ p2.b 47 = false ∧ p5.b 47 = true ∧ p5.b 46 = false ∧ p5.b 34 = true := by
  have e : ∀ j, 22 ≤ j → j < 51 → p.b j = (j == 44 || j == 46 || j == 28 || j == 26 || j == 29 || j == 27) := fun j h1 h2 => (hj j h1 h2).trans (hf j)
  have e23 : p.b 23 = false := e 23 (by omega) (by omega)
  have e24 : p.b 24 = false := e 24 (by omega) (by omega)
  have e26 : p.b 26 = true := e 26 (by omega) (by omega)
  have e27 : p.b 27 = true := e 27 (by omega) (by omega)
  have e28 : p.b 28 = true := e 28 (by omega) (by omega)
  have e29 : p.b 29 = true := e 29 (by omega) (by omega)
  have e32 : p.b 32 = false := e 32 (by omega) (by omega)
  have e34 : p.b 34 = false := e 34 (by omega) (by omega)
  have e42 : p.b 42 = false := e 42 (by omega) (by omega)
  have e44 : p.b 44 = true := e 44 (by omega) (by omega)
  have e45 : p.b 45 = false := e 45 (by omega) (by omega)
  have e46 : p.b 46 = true := e 46 (by omega) (by omega)
  have e47 : p.b 47 = false := e 47 (by omega) (by omega)
  have e50 : p.b 50 = false := e 50 (by omega) (by omega)
  have s1 : firstOn (desR b p) = some (stopF b p) := by
    simp [desR, firstOn, quietF, onD, stopD, e23, e24, e26, e27, e28, e29, e32, e34, e42, e44, e45, e46, e47, e50]
  have s2 : firstOn (desR b (((stopF b p).setB 29 false).setB 27 false)) = some (propF b (((stopF b p).setB 29 false).setB 27 false)) := by
    simp [desR, firstOn, quietF, onD, stopD, stopF, Rec.setB_b, Rec.setI_b, Rec.setB_i, Rec.setI_i, e23, e24, e26, e27, e28, e29, e32, e34, e42, e44, e45, e46, e47, e50]
  have s3 : firstOn (desR b (propF b (((stopF b p).setB 29 false).setB 27 false))) = some (syncedF (propF b (((stopF b p).setB 29 false).setB 27 false))) := by
    simp [desR, firstOn, quietF, onD, stopD, stopF, propF, Rec.setB_b, Rec.setI_b, Rec.setB_i, Rec.setI_i, e23, e24, e26, e27, e28, e29, e32, e34, e42, e44, e45, e46, e47, e50]
  exact ⟨_, _, _, _, rfl, s1, s2, s3, fun k ps => next_des b k ps p e44 e50 (h87.trans h88.symm) h19, fun k ps => next_des b k ps _ e44 e50 (h87.trans h88.symm) h19, fun k ps => next_des b k ps _ e44 e50 (h87.trans h88.symm) h19, rfl, rfl, e47, rfl, rfl, rfl⟩
attribute [local go_sem] zeroBr rowF_size rowF_0
set_option maxRecDepth 100000 in
set_option maxHeartbeats 8000000 in
theorem stops_any (b : Bri) (ps ss : Nat → Rec) (fs : Nat → Int) (w : World) (i : Nat) (hi : i ≤ 255) (h : Reads0 w b ps ss fs) :
    Calls Try.prog 9 #[.agg (rowB b), .int .u8 i] w fun e w' => e = .returned (.bool true) ∧ Below w.heap.size w w' := by
  have HR := Lib.hid h
  clear h
  go_enter Try.func9, Try.ntmps9
  go_wp2_with fail
  refine (awake_any _).mono ?_
  rintro e w1 ⟨rfl, hb1⟩
  have HB : Hid (w1.heap[w.heap.size]? = some (.cells (rowB b) 33 (0, 0))) := (hb1.block _ (by simp)).trans (at_new rfl)
  have HW1 := Lib.hid (andthen (more (Below.refl w.heap.size w) _) hb1)
  clear hb1
  go_wp2_with (first | (refine loadB rfl rfl _ rfl w.heap.size rfl b HB.out ?_; simp only [Act.put, List.setIfInBounds_toArray, List.set_cons_zero, List.set_cons_succ]) | fail)
  refine (few_any b ps _ (HR.out.below HW1.out).p).mono ?_
  rintro e w2 ⟨r, rfl, hr, hb2⟩
  have HB' : Hid (w2.heap[w.heap.size]? = some (.cells (rowB b) 33 (0, 0))) := (hb2.block _ (Array.getElem?_eq_some_iff.1 HB.out).1).trans HB.out
  have HW2 := Lib.hid (andthen HW1.out hb2)
  have Hr := Lib.hid hr
  clear hb2 hr HB HW1
  cases r
  · go_wp2_with fail
    go_ret
    exact ⟨rfl, HW2.out⟩
  have HL := Lib.hid (Hr.out rfl)
  clear Hr
  have HB := HB'
  clear HB'
  have hn1 : 0 < b.n := HL.out.2.1
  have hn8 : b.n ≤ 8 := HL.out.2.2.1
  go_wp2_with (first | (refine loadB rfl rfl _ rfl w.heap.size rfl b HB.out ?_; simp only [Act.put, List.setIfInBounds_toArray, List.set_cons_zero, List.set_cons_succ]) | fail)
  refine (at_any b i _ hi hn1 hn8).mono ?_
  rintro e w3 ⟨rfl, hb3⟩
  have HB' : Hid (w3.heap[w.heap.size]? = some (.cells (rowB b) 33 (0, 0))) := (hb3.block _ (Array.getElem?_eq_some_iff.1 HB.out).1).trans HB.out
  have HW3 := Lib.hid (andthen HW2.out hb3)
  clear hb3 HB HW2
  have HB := HB'
  clear HB'
  obtain ⟨k, hk⟩ : ∃ k, k = i % b.n := ⟨_, rfl⟩
  have hkn : k < b.n := by rw [hk]; exact Nat.mod_lt _ hn1
  rw [← hk]
  have Hk := Lib.hid hk
  clear hk
  go_wp2_with (first | (refine loadB rfl rfl _ rfl w.heap.size rfl b HB.out ?_; simp only [Act.put, List.setIfInBounds_toArray, List.set_cons_zero, List.set_cons_succ]) | fail)
  refine (clone_any b ps ss fs _ ((HR.out.below HW3.out).looked HL.out)).mono ?_
  rintro e w4 ⟨gp, cp, go, co, gf, cf, rfl, hp1, hp2, hp3, op, os, of, hb⟩
  go_upto_region 7 with (first | (refine wpList_store_at rfl 33 _ _ rfl _ (rowB zeroBri) 33 (rowB (b.at gp cp go co gf cf)) _ rfl rfl rfl rfl (sizeB _) rfl (rowB_one _) ?_; simp only [Act.put]) | fail)
  refine ((?_ : ∀ x, x = w4.alloc (.cells (rowB (b.at gp cp go co gf cf)) 33) → Code.wp _ _ _ _ x) _ rfl)
  intro wx hwx
  obtain ⟨bb, bx, hbx, hX, hgx, hSd, hwx'⟩ := clone_bst op os of hp2 hp3 hwx
  rw [← hbx]
  have hw4 := HW3.out.size
  have HX := Lib.hid hX
  have HWX := Lib.hid (andthen (andthen HW3.out hb) hwx')
  have hlt3 : w.heap.size < w3.heap.size := (Array.getElem?_eq_some_iff.1 HB.out).1
  have hge : w.heap.size < gp := Nat.lt_of_lt_of_le hlt3 hp1
  have HTO := Lib.hid (show TimesOk bb from fun x hx => by rw [hSd.1]; exact times_ok HL.out x hx)
  have hn1000 : bb.n ≤ 1000 := by rw [hSd.2.1]; omega
  have hkb : k < bb.n := by rw [hSd.2.1]; exact hkn
  have hk0 : (0 : Int) ≤ k := by omega
  have hk1 : (k : Int) < bb.n := by omega
  have HSD := Lib.hid hSd
  have d17 := hX.c17
  have hgl := hX.p.lt
  have hbl := hX.lt
  have nbg : ¬ bx = gp := hX.ne
  have ngb : ¬ gp = bx := fun e => hX.ne e.symm
  clear op os of hb hp1 hp2 hp3 HB hX hwx hwx' hbx hSd hw4 hlt3
  obtain ⟨f1, hfb, hff⟩ := law_flags
  have HFB := Lib.hid hfb
  have HFF := Lib.hid hff
  clear hfb hff
  obtain ⟨w2, hst, hX2, hO2⟩ := store_flags HX.out hkb f1
  have HX2 := Lib.hid hX2
  have HO2 := Lib.hid (show Only (· = gp) wx w2 from hO2)
  have e17 := hX2.c17
  clear hX2 hO2
  have c87 : w2.cell? ⟨gp, k * 89 + 87, none⟩ = some (.int .i64 ((putF (ps k) f1).i 87)) := (HX2.out.p.cell hkb (j := 87) (by omega)).trans (by first | rfl | (rw [upd_same]; rfl))
  have fc87 : w2.frozen? ⟨gp, k * 89 + 87, none⟩ = false := HX2.out.p.free _
  have c88 : w2.cell? ⟨gp, k * 89 + 88, none⟩ = some (.int .i64 ((putF (ps k) f1).i 88)) := (HX2.out.p.cell hkb (j := 88) (by omega)).trans (by first | rfl | (rw [upd_same]; rfl))
  have fc88 : w2.frozen? ⟨gp, k * 89 + 88, none⟩ = false := HX2.out.p.free _
  have c19 : w2.cell? ⟨gp, k * 89 + 15 + 4, none⟩ = some (.int .i64 ((putF (ps k) f1).i 19)) := (HX2.out.p.cell hkb (j := 19) (by omega)).trans (by first | rfl | (rw [upd_same]; rfl))
  have fc19 : w2.frozen? ⟨gp, k * 89 + 15 + 4, none⟩ = false := HX2.out.p.free _
  go_upto_region 9 with (first | (refine wpList_build rfl 43 _ rfl _ _ (HFB.out _) (by kernel_rfl) ?_; simp only [Act.put, List.setIfInBounds_toArray, List.set_cons_zero, List.set_cons_succ]) | fail)
  go_upto_region 12 with (fail)
  obtain ⟨p1, hp1⟩ : ∃ x, x = ((((putF (ps k) f1).setI 87 4).setI 88 4).setI 19 3) := ⟨_, rfl⟩
  have HS := Lib.hid (show Bst (((w2.setCell ⟨gp, k * 89 + 87, none⟩ (.int .i64 4)).setCell ⟨gp, k * 89 + 88, none⟩ (.int .i64 4)).setCell ⟨gp, k * 89 + 15 + 4, none⟩ (.int .i64 3)) bx gp bb (upd ps k p1) ss fs by rw [hp1]; exact (((HX2.out).put (j := 87) (by omega) (rowP_put_87 _ _)).put (j := 88) (by omega) (rowP_put_88 _ _)).put (j := 19) (by omega) (rowP_put_19 _ _))
  have HOS := Lib.hid (show Only (· = gp) wx (((w2.setCell ⟨gp, k * 89 + 87, none⟩ (.int .i64 4)).setCell ⟨gp, k * 89 + 88, none⟩ (.int .i64 4)).setCell ⟨gp, k * 89 + 15 + 4, none⟩ (.int .i64 3)) from (((HO2.out).setCell (Or.inl rfl) _).setCell (Or.inl rfl) _).setCell (Or.inl rfl) _)
  have hj : ∀ j, 22 ≤ j → j < 51 → p1.b j = f1.b j := fun j h1 h2 => by rw [hp1]; exact if_pos ⟨h1, h2⟩
  have h87 : p1.i 87 = 4 := by rw [hp1]; rfl
  have h88 : p1.i 88 = 4 := by rw [hp1]; rfl
  have h19 : p1.i 19 = 3 := by rw [hp1]; rfl
  clear hp1 d17 hst c87 c88 c19 fc87 fc88 fc19
  obtain ⟨p2, p3, p4, p5, hp3, s1, s2, s3, n1, n2, n3, q28, q26, q47, r47, r46, r34⟩ := stops_law bb p1 f1 HFF.out hj h87 h88 h19
  have N1 := Lib.hid (show nextT bb k (upd ps k p1) = some (upd ps k p2) by rw [n1 k ps, s1]; rfl)
  have N2 := Lib.hid (show nextT bb k (upd ps k p3) = some (upd ps k p4) by rw [n2 k ps, s2]; rfl)
  have N3 := Lib.hid (show nextT bb k (upd ps k p4) = some (upd ps k p5) by rw [n3 k ps, s3]; rfl)
  have HQ := Lib.hid (And.intro q28 (And.intro q26 q47))
  have HRR := Lib.hid (And.intro r47 (And.intro r46 r34))
  have HP3 := Lib.hid hp3
  clear hp3 s1 s2 s3 n1 n2 n3 q28 q26 q47 r47 r46 r34 hj h87 h88 h19 HFF
  go_wp2_with fail
  refine (step_ps _ bx gp k bb (upd ps k p1) ss fs HS.out hkb HTO.out hn1000).mono ?_
  rintro e w51 ⟨rfl, hX1, hO1⟩
  rw [N1.out] at hX1 ⊢
  have HX1 := Lib.hid (show Bst w51 bx gp bb (upd ps k p2) ss fs from hX1)
  have HA1 := Lib.hid (HOS.out.trans hO1)
  have d171 := hX1.c17
  clear hX1 hO1
  clear e17
  have hr2 := rangeF HX1.out.p hkb
  go_upto_region 14 with (first | (refine wpList_row rfl 43 _ rfl gp (k * 89 + 22) rfl (rowF p2) _ hr2 Try.underlying43 rfl (sizeF _) ?_; simp only [Act.put, List.setIfInBounds_toArray, List.set_cons_zero, List.set_cons_succ]) | (refine wpList_store_new rfl 43 _ _ rfl w51 (rowF zeroR) 43 _ rfl rfl rfl (sizeF _) rfl (rowF_one _) ?_; simp only [Act.put]) | fail)
  refine ((?_ : ∀ x, x = w51.alloc (.cells (rowF p2) 43) → Code.wp _ _ _ _ x) _ rfl)
  intro w62 hw6
  have hv : w62.heap[w51.heap.size]? = some (.cells (rowF p2) 43 (0, 0)) := by rw [hw6]; exact heap_alloc_new _ _
  have hb6 : Below w51.heap.size w51 w62 := by rw [hw6]; exact more (Below.refl _ _) _
  have HY2 := Lib.hid (HX1.out.below hb6)
  have HB2 := Lib.hid (HA1.out.trans (Only.of_below hb6))
  have HV2 := Lib.hid hv
  have nv2 : ¬ w51.heap.size = gp := by have := HX1.out.p.lt; omega
  have g172 := HY2.out.c17
  clear hr2 hw6 hv hb6
  have c29 : w62.cell? ⟨gp, k * 89 + 22 + 7, none⟩ = some (.bool (p2.b 29)) := (HY2.out.p.cell hkb (j := 29) (by omega)).trans (by first | rfl | (rw [upd_same]; rfl))
  have fc29 : w62.frozen? ⟨gp, k * 89 + 22 + 7, none⟩ = false := HY2.out.p.free _
  have c27 : w62.cell? ⟨gp, k * 89 + 22 + 5, none⟩ = some (.bool (p2.b 27)) := (HY2.out.p.cell hkb (j := 27) (by omega)).trans (by first | rfl | (rw [upd_same]; rfl))
  have fc27 : w62.frozen? ⟨gp, k * 89 + 22 + 5, none⟩ = false := HY2.out.p.free _
  clear d171
  go_upto_region 16 with (fail)
  have HS3 := Lib.hid (show Bst ((w62.setCell ⟨gp, k * 89 + 22 + 7, none⟩ (.bool false)).setCell ⟨gp, k * 89 + 22 + 5, none⟩ (.bool false)) bx gp bb (upd ps k p3) ss fs by rw [HP3.out]; exact ((HY2.out).put (j := 29) (by omega) (rowP_put_29 _ _)).put (j := 27) (by omega) (rowP_put_27 _ _))
  have HO3 := Lib.hid (show Only (· = gp) wx ((w62.setCell ⟨gp, k * 89 + 22 + 7, none⟩ (.bool false)).setCell ⟨gp, k * 89 + 22 + 5, none⟩ (.bool false)) from ((HB2.out).setCell (Or.inl rfl) _).setCell (Or.inl rfl) _)
  have HL3 := Lib.hid (show Only (· = gp) w62 ((w62.setCell ⟨gp, k * 89 + 22 + 7, none⟩ (.bool false)).setCell ⟨gp, k * 89 + 22 + 5, none⟩ (.bool false)) from (((Only.refl (· = gp) w62)).setCell (Or.inl rfl) _).setCell (Or.inl rfl) _)
  clear c29 c27 fc29 fc27
  go_wp2_with fail
  refine (step_ps _ bx gp k bb (upd ps k p3) ss fs HS3.out hkb HTO.out hn1000).mono ?_
  rintro e w53 ⟨rfl, hX3, hO3⟩
  rw [N2.out] at hX3 ⊢
  have HX3 := Lib.hid (show Bst w53 bx gp bb (upd ps k p4) ss fs from hX3)
  have HL4 := Lib.hid (HL3.out.trans hO3)
  have HA3 := Lib.hid (HO3.out.trans hO3)
  have d173 := hX3.c17
  clear hX3 hO3
  clear g172
  go_wp2_with fail
  refine (step_ps _ bx gp k bb (upd ps k p4) ss fs HX3.out hkb HTO.out hn1000).mono ?_
  rintro e w54 ⟨rfl, hX4, hO4⟩
  rw [N3.out] at hX4 ⊢
  have HX4 := Lib.hid (show Bst w54 bx gp bb (upd ps k p5) ss fs from hX4)
  have HL5 := Lib.hid (HL4.out.trans hO4)
  have HA4 := Lib.hid (HA3.out.trans hO4)
  have d174 := hX4.c17
  clear hX4 hO4
  clear d173
  have hr6 := rangeF HX4.out.p hkb
  go_upto_region 19 with (first | (refine wpList_row rfl 43 _ rfl gp (k * 89 + 22) rfl (rowF p5) _ hr6 Try.underlying43 rfl (sizeF _) ?_; simp only [Act.put, List.setIfInBounds_toArray, List.set_cons_zero, List.set_cons_succ]) | (refine wpList_store_new rfl 43 _ _ rfl w54 (rowF zeroR) 43 _ rfl rfl rfl (sizeF _) rfl (rowF_one _) ?_; simp only [Act.put]) | fail)
  refine ((?_ : ∀ x, x = w54.alloc (.cells (rowF p5) 43) → Code.wp _ _ _ _ x) _ rfl)
  intro w66 hw6
  have hv : w66.heap[w54.heap.size]? = some (.cells (rowF p5) 43 (0, 0)) := by rw [hw6]; exact heap_alloc_new _ _
  have hb6 : Below w54.heap.size w54 w66 := by rw [hw6]; exact more (Below.refl _ _) _
  have HBB := Lib.hid hb6
  have HY6 := Lib.hid (HX4.out.below hb6)
  have HB6 := Lib.hid (HA4.out.trans (Only.of_below hb6))
  have HV6 := Lib.hid hv
  have nv6 : ¬ w54.heap.size = gp := by have := HX4.out.p.lt; omega
  have g176 := HY6.out.c17
  clear hr6 hw6 hv hb6
  clear d174
  have hs5 := HL5.out.size
  have lv : w51.heap.size < w62.heap.size := (Array.getElem?_eq_some_iff.1 HV2.out).1
  have hb46 := Only.of_below (S := (· = gp)) (show Below w54.heap.size w54 w66 from HBB.out)
  have v28 : w66.cell? ⟨w51.heap.size, 6, none⟩ = some (.bool false) := ((HL5.out.trans hb46).cell (p := ⟨w51.heap.size, 6, none⟩) lv nv2).trans ((cells_of HV2.out 6).trans (by show some (Value.bool (p2.b 28)) = _; rw [HQ.out.1]))
  have v26 : w66.cell? ⟨w51.heap.size, 4, none⟩ = some (.bool false) := ((HL5.out.trans hb46).cell (p := ⟨w51.heap.size, 4, none⟩) lv nv2).trans ((cells_of HV2.out 4).trans (by show some (Value.bool (p2.b 26)) = _; rw [HQ.out.2.1]))
  have v47 : w66.cell? ⟨w51.heap.size, 25, none⟩ = some (.bool false) := ((HL5.out.trans hb46).cell (p := ⟨w51.heap.size, 25, none⟩) lv nv2).trans ((cells_of HV2.out 25).trans (by show some (Value.bool (p2.b 47)) = _; rw [HQ.out.2.2]))
  have u47 : w66.cell? ⟨w54.heap.size, 25, none⟩ = some (.bool true) := (cells_of HV6.out 25).trans (by show some (Value.bool (p5.b 47)) = _; rw [HRR.out.1])
  have u46 : w66.cell? ⟨w54.heap.size, 24, none⟩ = some (.bool false) := (cells_of HV6.out 24).trans (by show some (Value.bool (p5.b 46)) = _; rw [HRR.out.2.1])
  have u34 : w66.cell? ⟨w54.heap.size, 12, none⟩ = some (.bool true) := (cells_of HV6.out 12).trans (by show some (Value.bool (p5.b 34)) = _; rw [HRR.out.2.2])
  clear hs5 lv hb46 g176
  go_wp2_with fail
  go_ret
  exact ⟨rfl, HWX.out.trans (HB6.out.below HWX.out.size (fun k hk => by omega))⟩
end Go.Proofs.Ytdangeefecdbaaa.Br
