/- Law TransSteps of chapter 15: the walk joined with the plain law. -/
import Derived.Test.YtdangeefecdbaaaTrOn
import Derived.Test.YtdangeefecdbaaaOpen
set_option linter.unusedSimpArgs false
set_option linter.unusedVariables false
namespace Go.Proofs.Ytdangeefecdbaaa.Br
open Go.RowKit
theorem loadBg {P : Program} {ops : Array Oper} {rest : List Oper} {o : Oper} {a : Act} {w : World} {Q : Exit → Act → World → Prop} (hP : P = Try.prog) (hw : Region.wanted o (yielded ops a.tmps) = true) (x : Operand) (ho : o.op = .load 33 x) (g : Nat) (hx : a.eval x = .pointer (some ⟨g, 0, none⟩)) (b : Bri)
    (hg : w.heap[g]? = some (.cells (rowB b) 33 (0, 0))) (h : wpList P ops Q rest (a.put o.dst (.agg (rowB b))) w) : wpList P ops Q (o :: rest) a w := by
  subst hP
  exact wpList_step fun _ hK => by
    rw [if_pos hw]
    exact wp_load_row 33 x ho g hx 33 (rowB b) (0, 0) _ hg Try.underlying33 rfl (sizeB b) (hK _ _ h)
theorem transT_at (b : Bri) (gp cp go co gf cf k : Nat) (p : Rec) (ps : Nat → Rec) : transT (b.at gp cp go co gf cf) k p ps = transT b k p ps := rfl
attribute [local go_sem] zeroBr
set_option maxRecDepth 100000 in
set_option maxHeartbeats 8000000 in
theorem steps_any (b : Bri) (ps ss : Nat → Rec) (fs : Nat → Int) (w : World) (i : Nat) (hi : i ≤ 255) (h : Reads0 w b ps ss fs) :
    Calls Try.prog 3 #[.agg (rowB b), .int .u8 i] w fun e w' => e = .returned (.bool true) ∧ Below w.heap.size w w' := by
  have HR := Lib.hid h
  clear h
  go_enter Try.func3, Try.ntmps3
  go_wp2_with fail
  refine (awake_any _).mono ?_
  rintro e w1 ⟨rfl, hb1⟩
  have HB : Hid (w1.heap[w.heap.size]? = some (.cells (rowB b) 33 (0, 0))) := (hb1.block _ (by simp)).trans (at_new rfl)
  have HW1 := Lib.hid (andthen (more (Below.refl w.heap.size w) _) hb1)
  clear hb1
  go_wp2_with (first | (refine loadB rfl rfl _ rfl w.heap.size rfl b HB.out ?_; simp only [Act.put, List.setIfInBounds_toArray, List.set_cons_zero, List.set_cons_succ]) | fail)
  refine (few_any b ps _ (HR.out.below HW1.out).p).mono ?_
  rintro e w2 ⟨r, rfl, hr, hb2⟩
  have HB' : Hid (w2.heap[w.heap.size]? = some (.cells (rowB b) 33 (0, 0))) := (hb2.block _ (Array.getElem?_eq_some_iff.1 HB.out).1).trans HB.out
  have HW2 := Lib.hid (andthen HW1.out hb2)
  have Hr := Lib.hid hr
  clear hb2 hr HB HW1
  cases r
  · go_wp2_with fail
    go_ret
    exact ⟨rfl, HW2.out⟩
  have HL := Lib.hid (Hr.out rfl)
  clear Hr
  have HB := HB'
  clear HB'
  have hn1 : 0 < b.n := HL.out.2.1
  have hn8 : b.n ≤ 8 := HL.out.2.2.1
  go_wp2_with (first | (refine loadB rfl rfl _ rfl w.heap.size rfl b HB.out ?_; simp only [Act.put, List.setIfInBounds_toArray, List.set_cons_zero, List.set_cons_succ]) | fail)
  refine (at_any b i _ hi hn1 hn8).mono ?_
  rintro e w3 ⟨rfl, hb3⟩
  have HB' : Hid (w3.heap[w.heap.size]? = some (.cells (rowB b) 33 (0, 0))) := (hb3.block _ (Array.getElem?_eq_some_iff.1 HB.out).1).trans HB.out
  have HW3 := Lib.hid (andthen HW2.out hb3)
  clear hb3 HB HW2
  have HB := HB'
  clear HB'
  obtain ⟨k, hk⟩ : ∃ k, k = i % b.n := ⟨_, rfl⟩
  have hkn : k < b.n := by rw [hk]; exact Nat.mod_lt _ hn1
  rw [← hk]
  have Hk := Lib.hid hk
  clear hk
  go_wp2_with (first | (refine loadB rfl rfl _ rfl w.heap.size rfl b HB.out ?_; simp only [Act.put, List.setIfInBounds_toArray, List.set_cons_zero, List.set_cons_succ]) | fail)
  refine (clone_any b ps ss fs _ ((HR.out.below HW3.out).looked HL.out)).mono ?_
  rintro e w4 ⟨gp, cp, go, co, gf, cf, rfl, hp1, hp2, hp3, op, os, of, hb⟩
  go_upto_region 7 with (first | (refine wpList_store_at rfl 33 _ _ rfl _ (rowB zeroBri) 33 (rowB (b.at gp cp go co gf cf)) _ rfl rfl rfl rfl (sizeB _) rfl (rowB_one _) ?_; simp only [Act.put]) | fail)
  refine ((?_ : ∀ x, x = w4.alloc (.cells (rowB (b.at gp cp go co gf cf)) 33) → Code.wp _ _ _ _ x) _ rfl)
  intro wx hwx
  obtain ⟨bx, hbx⟩ : ∃ x, x = w4.heap.size := ⟨_, rfl⟩
  have hlt3 : w.heap.size < w3.heap.size := (Array.getElem?_eq_some_iff.1 HB.out).1
  have hBw : Below w4.heap.size w4 wx := by rw [hwx]; exact more (Below.refl _ _) _
  have hX : Bst wx bx gp (b.at gp cp go co gf cf) ps ss fs := by rw [hbx]; exact Bst.of_clone op os of hp2 hp3 _ hBw (Nat.le_refl _) (by rw [hwx]; exact heap_alloc_new _ _)
  have l1 := op.lt
  have l3 := of.lt
  have hge : w3.heap.size ≤ gp := hp1
  have hgfb : gf < bx := by omega
  have hgpf : gp < gf := by omega
  have hgof : go < gf := hp3
  have hgpo : gp < go := hp2
  rw [← hbx]
  have HX := Lib.hid hX
  have HWX := Lib.hid (andthen (andthen HW3.out hb) hBw)
  have HBX := Lib.hid ((hBw.block _ (Nat.lt_of_lt_of_le hlt3 hb.size)).trans ((hb.block _ hlt3).trans HB.out))
  clear op os of hb hp1 hp2 hp3 HB hX hwx hBw hbx l1 l3
  go_wp2_with (first | (refine loadB rfl rfl _ rfl w.heap.size rfl b HBX.out ?_; simp only [Act.put, List.setIfInBounds_toArray, List.set_cons_zero, List.set_cons_succ]) | fail)
  refine (clone_any b ps ss fs _ ((HR.out.below HWX.out).looked HL.out)).mono ?_
  rintro e w5 ⟨gp5, cp5, go5, co5, gf5, cf5, rfl, q1, q2, q3, op5, os5, of5, hb5⟩
  go_upto_region 8 with (first | (refine wpList_store_at rfl 33 _ _ rfl _ (rowB zeroBri) 33 (rowB (b.at gp5 cp5 go5 co5 gf5 cf5)) _ rfl rfl rfl rfl (sizeB _) rfl (rowB_one _) ?_; simp only [Act.put]) | fail)
  refine ((?_ : ∀ x, x = w5.alloc (.cells (rowB (b.at gp5 cp5 go5 co5 gf5 cf5)) 33) → Code.wp _ _ _ _ x) _ rfl)
  intro wy hwy
  obtain ⟨bY, hbY⟩ : ∃ x, x = w5.heap.size := ⟨_, rfl⟩
  have hBw : Below w5.heap.size w5 wy := by rw [hwy]; exact more (Below.refl _ _) _
  have hY : Bst wy bY gp5 (b.at gp5 cp5 go5 co5 gf5 cf5) ps ss fs := by rw [hbY]; exact Bst.of_clone op5 os5 of5 q2 q3 _ hBw (Nat.le_refl _) (by rw [hwy]; exact heap_alloc_new _ _)
  have l1 := op5.lt
  have l3 := of5.lt
  have l4 := HX.out.lt
  have hgf5 : gf5 < bY := by omega
  have hgo5 : go5 < gf5 := q3
  have hgpo5 : gp5 < go5 := q2
  have hbg : bx < gp5 := by omega
  have hwyy := hY.lt
  rw [← hbY]
  have hXy := HX.out.below (andthen hb5 hBw)
  have HWY := Lib.hid (HWX.out.trans ((andthen hb5 hBw).mono HWX.out.size))
  have HY := Lib.hid hY
  have HXY := Lib.hid hXy
  have HTO := Lib.hid (times_ok HL.out)
  have hno20 : b.no ≤ 20 := HL.out.2.2.2.1
  have hnf20 : b.nf ≤ 20 := HL.out.2.2.2.2
  clear op5 os5 of5 hb5 q1 q2 q3 hY hXy hwy hBw hbY l1 l3 l4 HX
  go_wp2_with fail
  refine (step_any wy bx gp k (b.at gp cp go co gf cf) ps ss fs (ps k) (HXY.out.start k) hkn HTO.out (show b.n ≤ 1000 by omega)).mono ?_
  rintro e w6 ⟨rfl, hX6, hO6⟩
  rw [transT_at, upd_self] at hX6
  rw [transT_at]
  have HX6 := Lib.hid hX6
  have hs6 := hO6.size
  have HY6 := Lib.hid (HY.out.only hO6 (show ¬ bY = gp by omega) (show ¬ gp5 = gp by omega) (fun g' o e => by cases e; show ¬ go5 = gp; omega) (fun g' o e => by cases e; show ¬ gf5 = gp; omega))
  have HO6 := Lib.hid hO6
  clear hX6 hO6 HY HXY
  go_wp2_with fail
  refine (refstep_any w6 bY gp5 k (b.at gp5 cp5 go5 co5 gf5 cf5) ps ss fs (ps k) (HY6.out.start k) hkn HTO.out (show b.n ≤ 1000 by omega) (fun j hj => by rw [upd_self]; exact (HL.out.1.2.2.2.2.2.2.2.2 j hj).1 6 (by omega))).mono ?_
  rintro e w7 ⟨rfl, hY7, hO7⟩
  rw [transT_at, upd_self] at hY7
  rw [transT_at]
  have HX7 := Lib.hid (HX6.out.only hO7 (show ¬ bx = gp5 by omega) (show ¬ gp = gp5 by omega) (fun g' o e => by cases e; show ¬ go = gp5; omega) (fun g' o e => by cases e; show ¬ gf = gp5; omega))
  have HY7 := Lib.hid hY7
  have HO7 := Lib.hid hO7
  clear hY7 hO7 HX6 HY6
  have Hr1 := Lib.hid (HX7.out.reads (show b.n ≤ 1000 by omega) (show b.no ≤ 1000 by omega) (show b.nf ≤ 1000 by omega))
  have Hr2 := Lib.hid (HY7.out.reads (show b.n ≤ 1000 by omega) (show b.no ≤ 1000 by omega) (show b.nf ≤ 1000 by omega))
  obtain ⟨dd, hdd⟩ : ∃ x, x = (transT b k (ps k) ps).isSome := ⟨_, rfl⟩
  rw [← hdd]
  clear hdd
  go_wp2_with (first | (refine loadBg rfl (by rfl) _ rfl bx rfl _ HX7.out.h ?_; simp only [Act.put, List.setIfInBounds_toArray, List.set_cons_zero, List.set_cons_succ]) | (refine loadBg rfl (by rfl) _ rfl bY rfl _ HY7.out.h ?_; simp only [Act.put, List.setIfInBounds_toArray, List.set_cons_zero, List.set_cons_succ]) | fail)
  refine (same_any (b.at gp cp go co gf cf) (some ⟨gp5, 0, none⟩) cp5 (some ⟨go5, 0, none⟩) co5 (some ⟨gf5, 0, none⟩) cf5 _ _ _ _ Hr1.out Hr2.out).mono ?_
  rintro e w8 ⟨rfl, hb8⟩
  go_wp2_with fail
  go_ret
  have hA : Only (fun x => x = gp ∨ x = gp5) wy w7 := (HO6.out.mono fun _ h => .inl h).trans (HO7.out.mono fun _ h => .inr h)
  have hs7 := hA.size
  exact ⟨rfl, HWY.out.trans ((hA.below (B := w.heap.size) HWY.out.size (fun x hx => by omega)).trans (hb8.mono (Nat.le_trans HWY.out.size hs7)))⟩
end Go.Proofs.Ytdangeefecdbaaa.Br
