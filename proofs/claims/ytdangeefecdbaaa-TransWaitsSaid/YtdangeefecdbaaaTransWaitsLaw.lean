/- Law TransWaits of chapter 15: the walk joined with the plain law. -/
import Derived.Test.YtdangeefecdbaaaTrOn
import Derived.Test.YtdangeefecdbaaaOpen
set_option linter.unusedSimpArgs false
set_option linter.unusedVariables false
namespace Go.Proofs.Ytdangeefecdbaaa.Br
open Go.RowKit
theorem loadBg {P : Program} {ops : Array Oper} {rest : List Oper} {o : Oper} {a : Act} {w : World} {Q : Exit → Act → World → Prop} (hP : P = Try.prog) (hw : Region.wanted o (yielded ops a.tmps) = true) (x : Operand) (ho : o.op = .load 33 x) (g : Nat) (hx : a.eval x = .pointer (some ⟨g, 0, none⟩)) (b : Bri)
    (hg : w.heap[g]? = some (.cells (rowB b) 33 (0, 0))) (h : wpList P ops Q rest (a.put o.dst (.agg (rowB b))) w) : wpList P ops Q (o :: rest) a w := by
  subst hP
  exact wpList_step fun _ hK => by
    rw [if_pos hw]
    exact wp_load_row 33 x ho g hx 33 (rowB b) (0, 0) _ hg Try.underlying33 rfl (sizeB b) (hK _ _ h)
theorem waits_44 (b : Bri) (k : Nat) (p : Rec) (ps : Nat → Rec) : transT b k (p.setB 44 false) ps = none := by
  unfold transT
  exact if_pos (Or.inl rfl)
theorem waits_50 (b : Bri) (k : Nat) (p : Rec) (ps : Nat → Rec) : transT b k (p.setB 50 true) ps = none := by
  unfold transT
  exact if_pos (Or.inr rfl)
attribute [local go_sem] zeroBr
set_option maxRecDepth 100000 in
set_option maxHeartbeats 8000000 in
theorem waits_any (b : Bri) (ps ss : Nat → Rec) (fs : Nat → Int) (w : World) (i : Nat) (hi : i ≤ 255) (h : Reads0 w b ps ss fs) :
    Calls Try.prog 4 #[.agg (rowB b), .int .u8 i] w fun e w' => e = .returned (.bool true) ∧ Below w.heap.size w w' := by
  have HR := Lib.hid h
  clear h
  go_enter Try.func4, Try.ntmps4
  go_wp2_with fail
  refine (awake_any _).mono ?_
  rintro e w1 ⟨rfl, hb1⟩
  have HB : Hid (w1.heap[w.heap.size]? = some (.cells (rowB b) 33 (0, 0))) := (hb1.block _ (by simp)).trans (at_new rfl)
  have HW1 := Lib.hid (andthen (more (Below.refl w.heap.size w) _) hb1)
  clear hb1
  go_wp2_with (first | (refine loadB rfl rfl _ rfl w.heap.size rfl b HB.out ?_; simp only [Act.put, List.setIfInBounds_toArray, List.set_cons_zero, List.set_cons_succ]) | fail)
  refine (few_any b ps _ (HR.out.below HW1.out).p).mono ?_
  rintro e w2 ⟨r, rfl, hr, hb2⟩
  have HB' : Hid (w2.heap[w.heap.size]? = some (.cells (rowB b) 33 (0, 0))) := (hb2.block _ (Array.getElem?_eq_some_iff.1 HB.out).1).trans HB.out
  have HW2 := Lib.hid (andthen HW1.out hb2)
  have Hr := Lib.hid hr
  clear hb2 hr HB HW1
  cases r
  · go_wp2_with fail
    go_ret
    exact ⟨rfl, HW2.out⟩
  have HL := Lib.hid (Hr.out rfl)
  clear Hr
  have HB := HB'
  clear HB'
  have hn1 : 0 < b.n := HL.out.2.1
  have hn8 : b.n ≤ 8 := HL.out.2.2.1
  go_wp2_with (first | (refine loadB rfl rfl _ rfl w.heap.size rfl b HB.out ?_; simp only [Act.put, List.setIfInBounds_toArray, List.set_cons_zero, List.set_cons_succ]) | fail)
  refine (at_any b i _ hi hn1 hn8).mono ?_
  rintro e w3 ⟨rfl, hb3⟩
  have HB' : Hid (w3.heap[w.heap.size]? = some (.cells (rowB b) 33 (0, 0))) := (hb3.block _ (Array.getElem?_eq_some_iff.1 HB.out).1).trans HB.out
  have HW3 := Lib.hid (andthen HW2.out hb3)
  clear hb3 HB HW2
  have HB := HB'
  clear HB'
  obtain ⟨k, hk⟩ : ∃ k, k = i % b.n := ⟨_, rfl⟩
  have hkn : k < b.n := by rw [hk]; exact Nat.mod_lt _ hn1
  rw [← hk]
  have Hk := Lib.hid hk
  clear hk
  go_wp2_with (first | (refine loadB rfl rfl _ rfl w.heap.size rfl b HB.out ?_; simp only [Act.put, List.setIfInBounds_toArray, List.set_cons_zero, List.set_cons_succ]) | fail)
  refine (clone_any b ps ss fs _ ((HR.out.below HW3.out).looked HL.out)).mono ?_
  rintro e w4 ⟨gp, cp, go, co, gf, cf, rfl, hp1, hp2, hp3, op, os, of, hb⟩
  go_upto_region 7 with (first | (refine wpList_store_at rfl 33 _ _ rfl _ (rowB zeroBri) 33 (rowB (b.at gp cp go co gf cf)) _ rfl rfl rfl rfl (sizeB _) rfl (rowB_one _) ?_; simp only [Act.put]) | fail)
  refine ((?_ : ∀ x, x = w4.alloc (.cells (rowB (b.at gp cp go co gf cf)) 33) → Code.wp _ _ _ _ x) _ rfl)
  intro wx hwx
  obtain ⟨bx, hbx⟩ : ∃ x, x = w4.heap.size := ⟨_, rfl⟩
  have hlt3 : w.heap.size < w3.heap.size := (Array.getElem?_eq_some_iff.1 HB.out).1
  have hBw : Below w4.heap.size w4 wx := by rw [hwx]; exact more (Below.refl _ _) _
  have hX : Bst wx bx gp (b.at gp cp go co gf cf) ps ss fs := by rw [hbx]; exact Bst.of_clone op os of hp2 hp3 _ hBw (Nat.le_refl _) (by rw [hwx]; exact heap_alloc_new _ _)
  have l1 := op.lt
  have l3 := of.lt
  have hge : w3.heap.size ≤ gp := hp1
  have hgfb : gf < bx := by omega
  have hgpf : gp < gf := by omega
  have hgof : go < gf := hp3
  have hgpo : gp < go := hp2
  rw [← hbx]
  have HX := Lib.hid hX
  have HWX := Lib.hid (andthen (andthen HW3.out hb) hBw)
  have HBX := Lib.hid ((hBw.block _ (Nat.lt_of_lt_of_le hlt3 hb.size)).trans ((hb.block _ hlt3).trans HB.out))
  clear op os of hb hp1 hp2 hp3 HB hX hwx hBw hbx l1 l3
  go_wp2_with (first | (refine loadB rfl rfl _ rfl w.heap.size rfl b HBX.out ?_; simp only [Act.put, List.setIfInBounds_toArray, List.set_cons_zero, List.set_cons_succ]) | fail)
  refine (clone_any b ps ss fs _ ((HR.out.below HWX.out).looked HL.out)).mono ?_
  rintro e w5 ⟨gp5, cp5, go5, co5, gf5, cf5, rfl, q1, q2, q3, op5, os5, of5, hb5⟩
  go_upto_region 8 with (first | (refine wpList_store_at rfl 33 _ _ rfl _ (rowB zeroBri) 33 (rowB (b.at gp5 cp5 go5 co5 gf5 cf5)) _ rfl rfl rfl rfl (sizeB _) rfl (rowB_one _) ?_; simp only [Act.put]) | fail)
  refine ((?_ : ∀ x, x = w5.alloc (.cells (rowB (b.at gp5 cp5 go5 co5 gf5 cf5)) 33) → Code.wp _ _ _ _ x) _ rfl)
  intro wy hwy
  obtain ⟨bY, hbY⟩ : ∃ x, x = w5.heap.size := ⟨_, rfl⟩
  have hBw : Below w5.heap.size w5 wy := by rw [hwy]; exact more (Below.refl _ _) _
  have hY : Bst wy bY gp5 (b.at gp5 cp5 go5 co5 gf5 cf5) ps ss fs := by rw [hbY]; exact Bst.of_clone op5 os5 of5 q2 q3 _ hBw (Nat.le_refl _) (by rw [hwy]; exact heap_alloc_new _ _)
  have l1 := op5.lt
  have l3 := of5.lt
  have l4 := HX.out.lt
  have hgf5 : gf5 < bY := by omega
  have hgo5 : go5 < gf5 := q3
  have hgpo5 : gp5 < go5 := q2
  have hbg : bx < gp5 := by omega
  have hwyy := hY.lt
  rw [← hbY]
  have hXy := HX.out.below (andthen hb5 hBw)
  have HWY := Lib.hid (HWX.out.trans ((andthen hb5 hBw).mono HWX.out.size))
  have HY := Lib.hid hY
  have HXY := Lib.hid hXy
  have HTO := Lib.hid (times_ok HL.out)
  have hno20 : b.no ≤ 20 := HL.out.2.2.2.1
  have hnf20 : b.nf ≤ 20 := HL.out.2.2.2.2
  clear op5 os5 of5 hb5 q1 q2 q3 hY hXy hwy hBw hbY l1 l3 l4 HX
  have hk0 : (0 : Int) ≤ k := by omega
  have hk1 : (k : Int) < b.n := by omega
  have hn1 : b.n ≤ 1000 := by omega
  have d17 : wy.cell? ⟨bx, 17, none⟩ = some (.slice (some ⟨gp, 0, none⟩) b.n cp) := HXY.out.c17
  have hwgp : w.heap.size < gp := by omega
  have c44 : wy.cell? ⟨gp, k * 89 + 22 + 22, none⟩ = some (.bool ((ps k).b 44)) := (HXY.out.p.cell hkn (j := 44) (by omega)).trans (by first | rfl | (rw [upd_same]; rfl))
  have fc44 : wy.frozen? ⟨gp, k * 89 + 22 + 22, none⟩ = false := HXY.out.p.free _
  go_upto_region 9 with (fail)
  refine ((?_ : ∀ x, x = wy.setCell ⟨gp, k * 89 + 22 + 22, none⟩ (.bool false) → Code.wp _ _ _ _ x) _ rfl)
  intro wa hwa
  have HXA := Lib.hid (show Bst wa bx gp (b.at gp cp go co gf cf) (upd ps k ((ps k).setB 44 false)) ss fs by rw [hwa]; exact (HXY.out.start k).put (j := 44) (by omega) (rowP_put_44 _ _))
  have hOa : Only (· = gp) wy wa := by rw [hwa]; exact (Only.refl (· = gp) wy).setCell (Or.inl rfl) _
  have HYA := Lib.hid (HY.out.only hOa (show ¬ bY = gp by omega) (show ¬ gp5 = gp by omega) (fun g' o e => by cases e; show ¬ go5 = gp; omega) (fun g' o e => by cases e; show ¬ gf5 = gp; omega))
  have HOA := Lib.hid hOa
  clear hwa hOa d17 c44 fc44 HXY HY
  have e17 : wa.cell? ⟨bY, 17, none⟩ = some (.slice (some ⟨gp5, 0, none⟩) b.n cp5) := HYA.out.c17
  have c50 : wa.cell? ⟨gp5, k * 89 + 22 + 28, none⟩ = some (.bool ((ps k).b 50)) := (HYA.out.p.cell hkn (j := 50) (by omega)).trans (by first | rfl | (rw [upd_same]; rfl))
  have fc50 : wa.frozen? ⟨gp5, k * 89 + 22 + 28, none⟩ = false := HYA.out.p.free _
  go_upto_region 10 with (fail)
  refine ((?_ : ∀ x, x = wa.setCell ⟨gp5, k * 89 + 22 + 28, none⟩ (.bool true) → Code.wp _ _ _ _ x) _ rfl)
  intro wb hwb
  have HYB := Lib.hid (show Bst wb bY gp5 (b.at gp5 cp5 go5 co5 gf5 cf5) (upd ps k ((ps k).setB 50 true)) ss fs by rw [hwb]; exact (HYA.out.start k).put (j := 50) (by omega) (rowP_put_50 _ _))
  have hOb : Only (· = gp5) wa wb := by rw [hwb]; exact (Only.refl (· = gp5) wa).setCell (Or.inl rfl) _
  have HXB := Lib.hid (HXA.out.only hOb (show ¬ bx = gp5 by omega) (show ¬ gp = gp5 by omega) (fun g' o e => by cases e; show ¬ go = gp5; omega) (fun g' o e => by cases e; show ¬ gf = gp5; omega))
  have hAB : Only (fun x => x = gp ∨ x = gp5) wy wb := (HOA.out.mono fun _ h => .inl h).trans (hOb.mono fun _ h => .inr h)
  have HWB := Lib.hid (HWY.out.trans (hAB.below (B := w.heap.size) HWY.out.size (fun x hx => by omega)))
  have hsb := hAB.size
  clear hwb hOb hAB e17 c50 fc50 HXA HYA HOA
  go_wp2_with (first | (refine loadB rfl rfl _ rfl bx rfl (b.at gp cp go co gf cf) HXB.out.h ?_; simp only [Act.put, List.setIfInBounds_toArray, List.set_cons_zero, List.set_cons_succ]) | fail)
  refine (clone_any (b.at gp cp go co gf cf) (upd ps k ((ps k).setB 44 false)) ss fs _ (HXB.out.reads hn1 (show b.no ≤ 1000 by omega) (show b.nf ≤ 1000 by omega))).mono ?_
  rintro e wc ⟨gp6, cp6, go6, co6, gf6, cf6, rfl, r1, r2, r3, op6, os6, of6, hb6⟩
  go_upto_region 11 with (first | (refine wpList_store_at rfl 33 _ _ rfl _ (rowB zeroBri) 33 (rowB ((b.at gp cp go co gf cf).at gp6 cp6 go6 co6 gf6 cf6)) _ rfl rfl rfl rfl (sizeB _) rfl (rowB_one _) ?_; simp only [Act.put]) | fail)
  refine ((?_ : ∀ x, x = wc.alloc (.cells (rowB ((b.at gp cp go co gf cf).at gp6 cp6 go6 co6 gf6 cf6)) 33) → Code.wp _ _ _ _ x) _ rfl)
  intro wu hwu
  obtain ⟨bu, hbu⟩ : ∃ x, x = wc.heap.size := ⟨_, rfl⟩
  have hBw : Below wc.heap.size wc wu := by rw [hwu]; exact more (Below.refl _ _) _
  have hU : Bst wu bu gp6 ((b.at gp cp go co gf cf).at gp6 cp6 go6 co6 gf6 cf6) (upd ps k ((ps k).setB 44 false)) ss fs := by rw [hbu]; exact Bst.of_clone op6 os6 of6 r2 r3 _ hBw (Nat.le_refl _) (by rw [hwu]; exact heap_alloc_new _ _)
  have l1 := op6.lt
  have l3 := of6.lt
  have l4 := HYB.out.lt
  have hx6 : bY < gp6 := by omega
  have hgf6 : gf6 < bu := by omega
  have hgo6 : go6 < gf6 := r3
  have hgpo6 : gp6 < go6 := r2
  rw [← hbu]
  have hbb := andthen hb6 hBw
  have HXU := Lib.hid (HXB.out.below hbb)
  have HYU := Lib.hid (HYB.out.below hbb)
  have HU := Lib.hid hU
  have HWU := Lib.hid (HWB.out.trans (hbb.mono HWB.out.size))
  clear op6 os6 of6 hb6 r1 r2 r3 hU hwu hBw hbb hbu l1 l3 l4 HXB HYB
  go_wp2_with (first | (refine loadB rfl rfl _ rfl bY rfl (b.at gp5 cp5 go5 co5 gf5 cf5) HYU.out.h ?_; simp only [Act.put, List.setIfInBounds_toArray, List.set_cons_zero, List.set_cons_succ]) | fail)
  refine (clone_any (b.at gp5 cp5 go5 co5 gf5 cf5) (upd ps k ((ps k).setB 50 true)) ss fs _ (HYU.out.reads hn1 (show b.no ≤ 1000 by omega) (show b.nf ≤ 1000 by omega))).mono ?_
  rintro e wd ⟨gp7, cp7, go7, co7, gf7, cf7, rfl, r1, r2, r3, op7, os7, of7, hb7⟩
  go_upto_region 12 with (first | (refine wpList_store_at rfl 33 _ _ rfl _ (rowB zeroBri) 33 (rowB ((b.at gp5 cp5 go5 co5 gf5 cf5).at gp7 cp7 go7 co7 gf7 cf7)) _ rfl rfl rfl rfl (sizeB _) rfl (rowB_one _) ?_; simp only [Act.put]) | fail)
  refine ((?_ : ∀ x, x = wd.alloc (.cells (rowB ((b.at gp5 cp5 go5 co5 gf5 cf5).at gp7 cp7 go7 co7 gf7 cf7)) 33) → Code.wp _ _ _ _ x) _ rfl)
  intro wv hwv
  obtain ⟨bv, hbv⟩ : ∃ x, x = wd.heap.size := ⟨_, rfl⟩
  have hBw : Below wd.heap.size wd wv := by rw [hwv]; exact more (Below.refl _ _) _
  have hV : Bst wv bv gp7 ((b.at gp5 cp5 go5 co5 gf5 cf5).at gp7 cp7 go7 co7 gf7 cf7) (upd ps k ((ps k).setB 50 true)) ss fs := by rw [hbv]; exact Bst.of_clone op7 os7 of7 r2 r3 _ hBw (Nat.le_refl _) (by rw [hwv]; exact heap_alloc_new _ _)
  have l1 := op7.lt
  have l3 := of7.lt
  have l4 := HU.out.lt
  have hx7 : bu < gp7 := by omega
  have hgf7 : gf7 < bv := by omega
  have hgo7 : go7 < gf7 := r3
  have hgpo7 : gp7 < go7 := r2
  rw [← hbv]
  have hbb := andthen hb7 hBw
  have HXV := Lib.hid (HXU.out.below hbb)
  have HYV := Lib.hid (HYU.out.below hbb)
  have HUV := Lib.hid (HU.out.below hbb)
  have HV := Lib.hid hV
  have HWV := Lib.hid (HWU.out.trans (hbb.mono HWU.out.size))
  clear op7 os7 of7 hb7 r1 r2 r3 hV hwv hBw hbb hbv l1 l3 l4 HXU HYU HU
  go_wp2_with fail
  refine (step_any wv bx gp k (b.at gp cp go co gf cf) ps ss fs ((ps k).setB 44 false) HXV.out hkn HTO.out (show b.n ≤ 1000 by omega)).mono ?_
  rintro e w6 ⟨rfl, hX6, hO6⟩
  rw [waits_44] at hX6
  rw [waits_44]
  have HX6 := Lib.hid (show Bst w6 bx gp (b.at gp cp go co gf cf) (upd ps k ((ps k).setB 44 false)) ss fs from hX6)
  have HY6 := Lib.hid (HYV.out.only hO6 (show ¬ bY = gp by omega) (show ¬ gp5 = gp by omega) (fun g' o e => by cases e; show ¬ go5 = gp; omega) (fun g' o e => by cases e; show ¬ gf5 = gp; omega))
  have HU6 := Lib.hid (HUV.out.only hO6 (show ¬ bu = gp by omega) (show ¬ gp6 = gp by omega) (fun g' o e => by cases e; show ¬ go6 = gp; omega) (fun g' o e => by cases e; show ¬ gf6 = gp; omega))
  have HV6 := Lib.hid (HV.out.only hO6 (show ¬ bv = gp by omega) (show ¬ gp7 = gp by omega) (fun g' o e => by cases e; show ¬ go7 = gp; omega) (fun g' o e => by cases e; show ¬ gf7 = gp; omega))
  have HO6 := Lib.hid hO6
  clear hX6 hO6 HXV HYV HUV HV
  go_wp2_with fail
  refine (step_any w6 bY gp5 k (b.at gp5 cp5 go5 co5 gf5 cf5) ps ss fs ((ps k).setB 50 true) HY6.out hkn HTO.out (show b.n ≤ 1000 by omega)).mono ?_
  rintro e w7 ⟨rfl, hY7, hO7⟩
  rw [waits_50] at hY7
  rw [waits_50]
  have HY7 := Lib.hid (show Bst w7 bY gp5 (b.at gp5 cp5 go5 co5 gf5 cf5) (upd ps k ((ps k).setB 50 true)) ss fs from hY7)
  have HX7 := Lib.hid (HX6.out.only hO7 (show ¬ bx = gp5 by omega) (show ¬ gp = gp5 by omega) (fun g' o e => by cases e; show ¬ go = gp5; omega) (fun g' o e => by cases e; show ¬ gf = gp5; omega))
  have HU7 := Lib.hid (HU6.out.only hO7 (show ¬ bu = gp5 by omega) (show ¬ gp6 = gp5 by omega) (fun g' o e => by cases e; show ¬ go6 = gp5; omega) (fun g' o e => by cases e; show ¬ gf6 = gp5; omega))
  have HV7 := Lib.hid (HV6.out.only hO7 (show ¬ bv = gp5 by omega) (show ¬ gp7 = gp5 by omega) (fun g' o e => by cases e; show ¬ go7 = gp5; omega) (fun g' o e => by cases e; show ¬ gf7 = gp5; omega))
  have hA : Only (fun x => x = gp ∨ x = gp5) wv w7 := (HO6.out.mono fun _ h => .inl h).trans (hO7.mono fun _ h => .inr h)
  have HW7 := Lib.hid (HWV.out.trans (hA.below (B := w.heap.size) HWV.out.size (fun x hx => by omega)))
  clear hY7 hO7 hA HX6 HY6 HU6 HV6 HO6
  have R1 := Lib.hid (HX7.out.reads hn1 (show b.no ≤ 1000 by omega) (show b.nf ≤ 1000 by omega))
  have R2 := Lib.hid (HU7.out.reads hn1 (show b.no ≤ 1000 by omega) (show b.nf ≤ 1000 by omega))
  have R3 := Lib.hid (HY7.out.reads hn1 (show b.no ≤ 1000 by omega) (show b.nf ≤ 1000 by omega))
  have R4 := Lib.hid (HV7.out.reads hn1 (show b.no ≤ 1000 by omega) (show b.nf ≤ 1000 by omega))
  go_wp2_with (first | (refine loadBg rfl (by rfl) _ rfl bx rfl _ HX7.out.h ?_; simp only [Act.put, List.setIfInBounds_toArray, List.set_cons_zero, List.set_cons_succ]) | (refine loadBg rfl (by rfl) _ rfl bu rfl _ HU7.out.h ?_; simp only [Act.put, List.setIfInBounds_toArray, List.set_cons_zero, List.set_cons_succ]) | fail)
  refine (same_any (b.at gp cp go co gf cf) (some ⟨gp6, 0, none⟩) cp6 (some ⟨go6, 0, none⟩) co6 (some ⟨gf6, 0, none⟩) cf6 _ _ _ _ R1.out R2.out).mono ?_
  rintro e w8 ⟨rfl, hb8⟩
  have HY8 := Lib.hid (HY7.out.below hb8)
  have HV8 := Lib.hid (HV7.out.below hb8)
  have R5 := Lib.hid (R3.out.below hb8)
  have R6 := Lib.hid (R4.out.below hb8)
  have HW8 := Lib.hid (andthen HW7.out hb8)
  clear hb8 R1 R2 R3 R4
  go_wp2_with (first | (refine loadBg rfl (by rfl) _ rfl bY rfl _ HY8.out.h ?_; simp only [Act.put, List.setIfInBounds_toArray, List.set_cons_zero, List.set_cons_succ]) | (refine loadBg rfl (by rfl) _ rfl bv rfl _ HV8.out.h ?_; simp only [Act.put, List.setIfInBounds_toArray, List.set_cons_zero, List.set_cons_succ]) | fail)
  refine (same_any (b.at gp5 cp5 go5 co5 gf5 cf5) (some ⟨gp7, 0, none⟩) cp7 (some ⟨go7, 0, none⟩) co7 (some ⟨gf7, 0, none⟩) cf7 _ _ _ _ R5.out R6.out).mono ?_
  rintro e w9 ⟨rfl, hb9⟩
  have HW9 := Lib.hid (andthen HW8.out hb9)
  clear hb9
  go_wp2_with fail
  go_ret
  exact ⟨rfl, HW9.out⟩
end Go.Proofs.Ytdangeefecdbaaa.Br
