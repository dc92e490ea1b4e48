/- Law TopoSteps of chapter 17: the walk joined with the plain law. -/
import Derived.Test.YtbbjoelcbppfoaaToOn
import Derived.Test.YtbbjoelcbppfoaaOpen
set_option linter.unusedSimpArgs false
set_option linter.unusedVariables false
namespace Go.Proofs.Ytbbjoelcbppfoaa.Br
open Go.RowKit
theorem loadBg {P : Program} {ops : Array Oper} {rest : List Oper} {o : Oper} {a : Act} {w : World} {Q : Exit → Act → World → Prop} (hP : P = Try.prog) (hw : Region.wanted o (yielded ops a.tmps) = true) (x : Operand) (ho : o.op = .load 33 x) (g : Nat) (hx : a.eval x = .pointer (some ⟨g, 0, none⟩)) (b : Bri)
    (hg : w.heap[g]? = some (.cells (rowB b) 33 (0, 0))) (h : wpList P ops Q rest (a.put o.dst (.agg (rowB b))) w) : wpList P ops Q (o :: rest) a w := by
  subst hP
  exact wpList_step fun _ hK => by
    rw [if_pos hw]
    exact wp_load_row 33 x ho g hx 33 (rowB b) (0, 0) _ hg Try.underlying33 rfl (sizeB b) (hK _ _ h)
theorem topoB_at (b : Bri) (gp cp go co gf cf : Nat) (p : Rec) : topoB (b.at gp cp go co gf cf) p = topoB b p := rfl
theorem stepped_at {b : Bri} {ps ss : Nat → Rec} {fs : Nat → Int} {bx gp k cp go co gf cf : Nat} {p : Rec} {w w' : World} {e : Ending} (h : Stepped (b.at gp cp go co gf cf) ps ss fs bx gp k p w e w') :
    ∃ af cf', e = .returned (.bool (topoB b p).2.2.2) ∧ Bst w' bx gp { b.at gp cp go co gf cf with af := af, nf := flN (topoB b p).2.2.1 b.nf, cf := cf' } (upd (tellF (topoB b p).2.1 k ps) k (topoB b p).1) ss (flF (topoB b p).2.2.1 b.nf fs k) ∧
      Only (fun x => x = gp ∨ x = bx) w w' ∧ (af = some ⟨gf, 0, none⟩ ∨ ∃ g', af = some ⟨g', 0, none⟩ ∧ w.heap.size ≤ g') := h
theorem flN_le (f : Bool) (n : Nat) : flN f n ≤ n + 1 := by
  unfold flN
  split <;> omega
attribute [local go_sem] zeroBr
set_option maxRecDepth 100000 in
set_option maxHeartbeats 8000000 in
theorem steps_any (b : Bri) (ps ss : Nat → Rec) (fs : Nat → Int) (w : World) (i : Nat) (hi : i ≤ 255) (h : Reads0 w b ps ss fs) :
    Calls Try.prog 3 #[.agg (rowB b), .int .u8 i] w fun e w' => e = .returned (.bool true) ∧ Below w.heap.size w w' := by
  have HR := Lib.hid h
  clear h
  go_enter Try.func3, Try.ntmps3
  go_wp2_with fail
  refine (awake_any _).mono ?_
  rintro e w1 ⟨rfl, hb1⟩
  have HB : Hid (w1.heap[w.heap.size]? = some (.cells (rowB b) 33 (0, 0))) := (hb1.block _ (by simp)).trans (at_new rfl)
  have HW1 := Lib.hid (andthen (more (Below.refl w.heap.size w) _) hb1)
  clear hb1
  go_wp2_with (first | (refine loadB rfl rfl _ rfl w.heap.size rfl b HB.out ?_; simp only [Act.put, List.setIfInBounds_toArray, List.set_cons_zero, List.set_cons_succ]) | fail)
  refine (few_any b ps _ (HR.out.below HW1.out).p).mono ?_
  rintro e w2 ⟨r, rfl, hr, hb2⟩
  have HB' : Hid (w2.heap[w.heap.size]? = some (.cells (rowB b) 33 (0, 0))) := (hb2.block _ (Array.getElem?_eq_some_iff.1 HB.out).1).trans HB.out
  have HW2 := Lib.hid (andthen HW1.out hb2)
  have Hr := Lib.hid hr
  clear hb2 hr HB HW1
  cases r
  · go_wp2_with fail
    go_ret
    exact ⟨rfl, HW2.out⟩
  have HL := Lib.hid (Hr.out rfl)
  clear Hr
  have HB := HB'
  clear HB'
  have hn1 : 0 < b.n := HL.out.2.1
  have hn8 : b.n ≤ 8 := HL.out.2.2.1
  go_wp2_with (first | (refine loadB rfl rfl _ rfl w.heap.size rfl b HB.out ?_; simp only [Act.put, List.setIfInBounds_toArray, List.set_cons_zero, List.set_cons_succ]) | fail)
  refine (at_any b i _ hi hn1 hn8).mono ?_
  rintro e w3 ⟨rfl, hb3⟩
  have HB' : Hid (w3.heap[w.heap.size]? = some (.cells (rowB b) 33 (0, 0))) := (hb3.block _ (Array.getElem?_eq_some_iff.1 HB.out).1).trans HB.out
  have HW3 := Lib.hid (andthen HW2.out hb3)
  clear hb3 HB HW2
  have HB := HB'
  clear HB'
  obtain ⟨k, hk⟩ : ∃ k, k = i % b.n := ⟨_, rfl⟩
  have hkn : k < b.n := by rw [hk]; exact Nat.mod_lt _ hn1
  rw [← hk]
  have Hk := Lib.hid hk
  clear hk
  go_wp2_with (first | (refine loadB rfl rfl _ rfl w.heap.size rfl b HB.out ?_; simp only [Act.put, List.setIfInBounds_toArray, List.set_cons_zero, List.set_cons_succ]) | fail)
  refine (clone_any b ps ss fs _ ((HR.out.below HW3.out).looked HL.out)).mono ?_
  rintro e w4 ⟨gp, cp, go, co, gf, cf, rfl, hp1, hp2, hp3, op, os, of, hb⟩
  go_upto_region 7 with (first | (refine wpList_store_at rfl 33 _ _ rfl _ (rowB zeroBri) 33 (rowB (b.at gp cp go co gf cf)) _ rfl rfl rfl rfl (sizeB _) rfl (rowB_one _) ?_; simp only [Act.put]) | fail)
  refine ((?_ : ∀ x, x = w4.alloc (.cells (rowB (b.at gp cp go co gf cf)) 33) → Code.wp _ _ _ _ x) _ rfl)
  intro wx hwx
  obtain ⟨bx, hbx⟩ : ∃ x, x = w4.heap.size := ⟨_, rfl⟩
  have hlt3 : w.heap.size < w3.heap.size := (Array.getElem?_eq_some_iff.1 HB.out).1
  have hBw : Below w4.heap.size w4 wx := by rw [hwx]; exact more (Below.refl _ _) _
  have hX : Bst wx bx gp (b.at gp cp go co gf cf) ps ss fs := by rw [hbx]; exact Bst.of_clone op os of hp2 hp3 _ hBw (Nat.le_refl _) (by rw [hwx]; exact heap_alloc_new _ _)
  have l1 := op.lt
  have l3 := of.lt
  have hge : w3.heap.size ≤ gp := hp1
  have hgfb : gf < bx := by omega
  have hgpf : gp < gf := by omega
  have hgof : go < gf := hp3
  rw [← hbx]
  have HX := Lib.hid hX
  have HWX := Lib.hid (andthen (andthen HW3.out hb) hBw)
  have HBX := Lib.hid ((hBw.block _ (Nat.lt_of_lt_of_le hlt3 hb.size)).trans ((hb.block _ hlt3).trans HB.out))
  clear op os of hb hp1 hp2 hp3 HB hX hwx hBw hbx l1 l3
  go_wp2_with (first | (refine loadB rfl rfl _ rfl w.heap.size rfl b HBX.out ?_; simp only [Act.put, List.setIfInBounds_toArray, List.set_cons_zero, List.set_cons_succ]) | fail)
  refine (clone_any b ps ss fs _ ((HR.out.below HWX.out).looked HL.out)).mono ?_
  rintro e w5 ⟨gp5, cp5, go5, co5, gf5, cf5, rfl, q1, q2, q3, op5, os5, of5, hb5⟩
  go_upto_region 8 with (first | (refine wpList_store_at rfl 33 _ _ rfl _ (rowB zeroBri) 33 (rowB (b.at gp5 cp5 go5 co5 gf5 cf5)) _ rfl rfl rfl rfl (sizeB _) rfl (rowB_one _) ?_; simp only [Act.put]) | fail)
  refine ((?_ : ∀ x, x = w5.alloc (.cells (rowB (b.at gp5 cp5 go5 co5 gf5 cf5)) 33) → Code.wp _ _ _ _ x) _ rfl)
  intro wy hwy
  obtain ⟨bY, hbY⟩ : ∃ x, x = w5.heap.size := ⟨_, rfl⟩
  have hBw : Below w5.heap.size w5 wy := by rw [hwy]; exact more (Below.refl _ _) _
  have hY : Bst wy bY gp5 (b.at gp5 cp5 go5 co5 gf5 cf5) ps ss fs := by rw [hbY]; exact Bst.of_clone op5 os5 of5 q2 q3 _ hBw (Nat.le_refl _) (by rw [hwy]; exact heap_alloc_new _ _)
  have l1 := op5.lt
  have l3 := of5.lt
  have l4 := HX.out.lt
  have hgf5 : gf5 < bY := by omega
  have hgo5 : go5 < gf5 := q3
  have hgpo5 : gp5 < go5 := q2
  have hbg : bx < gp5 := by omega
  have hwyy := hY.lt
  rw [← hbY]
  have hXy := HX.out.below (andthen hb5 hBw)
  have HWY := Lib.hid (HWX.out.trans ((andthen hb5 hBw).mono HWX.out.size))
  have HY := Lib.hid hY
  have HXY := Lib.hid hXy
  have HTO := Lib.hid (times_ok HL.out)
  have hno20 : b.no ≤ 20 := HL.out.2.2.2.1
  have hnf20 : b.nf ≤ 20 := HL.out.2.2.2.2
  clear op5 os5 of5 hb5 q1 q2 q3 hY hXy hwy hBw hbY l1 l3 l4 HX
  go_wp2_with fail
  refine (step_any wy bx gp k (b.at gp cp go co gf cf) ps ss fs (ps k) (HXY.out.start k) hkn HTO.out (show b.n ≤ 1000 by omega) (show b.nf ≤ 100000 by omega) (fun _ => ⟨gf, 0, rfl⟩)).mono ?_
  intro e w6 hst
  obtain ⟨af1, cf1, rfl, hX6, hO6, hfr⟩ := stepped_at hst
  have HX6 := Lib.hid hX6
  have hs6 := hO6.size
  have HY6 := Lib.hid (HY.out.only hO6 (by omega) (by omega) (fun g' o e => by cases e; omega) (fun g' o e => by cases e; omega))
  have HO6 := Lib.hid hO6
  have Hfr := Lib.hid hfr
  clear hX6 hO6 hfr HY HXY hst
  go_wp2_with fail
  refine (refstep_any w6 bY gp5 k (b.at gp5 cp5 go5 co5 gf5 cf5) ps ss fs (ps k) (HY6.out.start k) hkn HTO.out (show b.n ≤ 1000 by omega) (show b.nf ≤ 100000 by omega) (fun _ => ⟨gf5, 0, rfl⟩)).mono ?_
  intro e w7 hst
  obtain ⟨af2, cf2, rfl, hY7, hO7, _⟩ := stepped_at hst
  have HX7 := Lib.hid (HX6.out.only hO7 (by omega) (by omega) (fun g' o e => by cases e; omega) (fun g' o e => by
    rcases Hfr.out with h | ⟨g1, h, h1⟩
    · rw [show af1 = some ⟨g', o, none⟩ from e] at h
      cases h
      omega
    · rw [show af1 = some ⟨g', o, none⟩ from e] at h
      cases h
      omega))
  have HY7 := Lib.hid hY7
  have HO7 := Lib.hid hO7
  clear hY7 hO7 HX6 HY6 Hfr hst
  obtain ⟨N, hN⟩ : ∃ x, x = flN (topoB b (ps k)).2.2.1 b.nf := ⟨_, rfl⟩
  have hsn := flN_le (topoB b (ps k)).2.2.1 b.nf
  rw [← hN] at HX7 HY7 hsn
  have Hr1 := Lib.hid (HX7.out.reads (show b.n ≤ 1000 by omega) (show b.no ≤ 1000 by omega) (show N ≤ 1000 by omega))
  have Hr2 := Lib.hid (HY7.out.reads (show b.n ≤ 1000 by omega) (show b.no ≤ 1000 by omega) (show N ≤ 1000 by omega))
  obtain ⟨dd, hdd⟩ : ∃ x, x = (topoB b (ps k)).2.2.2 := ⟨_, rfl⟩
  rw [← hdd]
  clear hdd hsn hN
  go_wp2_with (first | (refine loadBg rfl (by rfl) _ rfl bx rfl _ HX7.out.h ?_; simp only [Act.put, List.setIfInBounds_toArray, List.set_cons_zero, List.set_cons_succ]) | (refine loadBg rfl (by rfl) _ rfl bY rfl _ HY7.out.h ?_; simp only [Act.put, List.setIfInBounds_toArray, List.set_cons_zero, List.set_cons_succ]) | fail)
  refine (same_any { b.at gp cp go co gf cf with af := af1, nf := N, cf := cf1 } (some ⟨gp5, 0, none⟩) cp5 (some ⟨go5, 0, none⟩) co5 af2 cf2 _ _ _ _ Hr1.out Hr2.out).mono ?_
  rintro e w8 ⟨rfl, hb8⟩
  go_wp2_with fail
  go_ret
  have hA : Only (fun x => (x = gp ∨ x = bx) ∨ (x = gp5 ∨ x = bY)) wy w7 := (HO6.out.mono fun _ h => .inl h).trans (HO7.out.mono fun _ h => .inr h)
  have hs7 := hA.size
  exact ⟨rfl, HWY.out.trans ((hA.below (B := w.heap.size) HWY.out.size (fun x hx => by omega)).trans (hb8.mono (Nat.le_trans HWY.out.size hs7)))⟩
end Go.Proofs.Ytbbjoelcbppfoaa.Br
