/- Law PassageOrder of the passage machine: the walk joined with the plain law. -/
import Derived.Test.YthijhbdaojmgmaaAwake16
import Derived.Test.YthijhbdaojmgmaaOpen
import Derived.Test.YthijhbdaojmgmaaWhole
import Derived.StillTailTactics
import Derived.BigQuiet
namespace Go.Proofs.Ythijhbdaojmgmaa.Br
set_option linter.unusedSimpArgs false
open Go.RowKit
theorem at_17 (b : Bri) (gp cp go co gf cf : Nat) : (rowB (b.at gp cp go co gf cf))[17]? = some (.slice (some ⟨gp, 0, none⟩) b.n cp) := rfl
theorem zeroFl (w : World) : Sem.run Try.prog (zeroValue 48) w = .ok (.agg (rowFl zeroR)) w := by kernel_rfl
theorem rowFl_one (p : Rec) : (rowFl p).all (·.oneCell') = true := by kernel_rfl
theorem rowFl_7 (p : Rec) : (rowFl p)[7]? = some (.bool (p.b 29)) := rfl
theorem rowFl_5 (p : Rec) : (rowFl p)[5]? = some (.bool (p.b 27)) := rfl
attribute [local go_sem] zeroP zeroBr at_17 rowFl_5 rowFl_7 zeroFl
/-- Who forwards has learned, and learns just if it is in no first state. -/
def OrdG (p : Rec) : Prop := p.b 29 = (p.i 20 != 0) ∧ (p.b 27 = true → p.b 29 = true)
theorem good_step (p : Rec) (h : OrdG p) (x y : Bool) : OrdG (passF ((p.setB 28 x).setB 26 y)).1 := by
  obtain ⟨h1, h2⟩ := h
  unfold OrdG passF
  by_cases e0 : p.i 20 = 0
  · have h3 : p.b 27 = false := by
      cases h : p.b 27
      · rfl
      · have := h2 h
        rw [h1, e0] at this
        cases this
    cases x <;> simp [fires, e0, Rec.setB_b, Rec.setI_b, Rec.setI_i, Rec.setB_i, h1, h3]
  · by_cases e1 : p.i 20 = 1
    · cases x <;> cases y <;> simp [fires, e1, Rec.setB_b, Rec.setI_b, Rec.setI_i, Rec.setB_i, h1]
    · by_cases e2 : p.i 20 = 2
      · cases x <;> cases y <;> simp [fires, e2, Rec.setB_b, Rec.setI_b, Rec.setI_i, Rec.setB_i, h1]
      · simp [fires, e0, e1, e2, Rec.setB_b, Rec.setB_i, h1]
set_option maxRecDepth 100000 in
set_option maxHeartbeats 8000000 in
theorem order_any (b : Bri) (ps ss : Nat → Rec) (fs : Nat → Int) (w : World) (i : Nat) (hi : i ≤ 255) (la : Option Addr) (ln lc : Nat) (lf : Nat → Int) (hV : View w la 1 ln fun k _ => .int .u8 (lf k)) (hB8 : ∀ k, k < ln → 0 ≤ lf k ∧ lf k ≤ 255) (h : Reads0 w b ps ss fs) :
    Calls Try.prog 7 #[.agg (rowB b), .int .u8 i, .slice la ln lc] w fun e w' => e = .returned (.bool true) ∧ Below w.heap.size w w' := by
  have HR := Lib.hid h
  clear h
  go_enter Try.func7, Try.ntmps7
  go_wp2_with fail
  refine (awake_any _).mono ?_
  rintro e w1 ⟨rfl, hb1⟩
  have HB : Hid (w1.heap[w.heap.size]? = some (.cells (rowB b) 33 (0, 0))) := (hb1.block _ (by simp)).trans (at_new rfl)
  have HW1 := Lib.hid (andthen (more (Below.refl w.heap.size w) _) hb1)
  clear hb1
  go_wp2_with (first | (refine loadB rfl rfl _ rfl w.heap.size rfl b HB.out ?_; simp only [Act.put, List.setIfInBounds_toArray, List.set_cons_zero, List.set_cons_succ]) | fail)
  refine (few_any b ps _ (HR.out.below HW1.out).p).mono ?_
  rintro e w2 ⟨r, rfl, hr, hb2⟩
  have HB' : Hid (w2.heap[w.heap.size]? = some (.cells (rowB b) 33 (0, 0))) := (hb2.block _ (Array.getElem?_eq_some_iff.1 HB.out).1).trans HB.out
  have HW2 := Lib.hid (andthen HW1.out hb2)
  have Hr := Lib.hid hr
  clear hb2 hr HB HW1
  cases r
  · go_wp2_with fail
    go_ret
    exact ⟨rfl, HW2.out⟩
  have HL := Lib.hid (Hr.out rfl)
  clear Hr
  have HB := HB'
  clear HB'
  have hn1 : 0 < b.n := HL.out.2.1
  have hn8 : b.n ≤ 8 := HL.out.2.2.1
  go_wp2_with (first | (refine loadB rfl rfl _ rfl w.heap.size rfl b HB.out ?_; simp only [Act.put, List.setIfInBounds_toArray, List.set_cons_zero, List.set_cons_succ]) | fail)
  refine (at_any b i _ hi hn1 hn8).mono ?_
  rintro e w3 ⟨rfl, hb3⟩
  have HB' : Hid (w3.heap[w.heap.size]? = some (.cells (rowB b) 33 (0, 0))) := (hb3.block _ (Array.getElem?_eq_some_iff.1 HB.out).1).trans HB.out
  have HW3 := Lib.hid (andthen HW2.out hb3)
  clear hb3 HB HW2
  have HB := HB'
  clear HB'
  obtain ⟨k, hk⟩ : ∃ k, k = i % b.n := ⟨_, rfl⟩
  have hkn : k < b.n := by rw [hk]; exact Nat.mod_lt _ hn1
  rw [← hk]
  have Hk := Lib.hid hk
  clear hk
  go_wp2_with (first | (refine loadB rfl rfl _ rfl w.heap.size rfl b HB.out ?_; simp only [Act.put, List.setIfInBounds_toArray, List.set_cons_zero, List.set_cons_succ]) | fail)
  refine (clone_any b ps ss fs _ ((HR.out.below HW3.out).looked HL.out)).mono ?_
  rintro e w4 ⟨gp, cp, go, co, gf, cf, rfl, hp1, hp2, hp3, op, os, of, hb⟩
  have HP := Lib.hid op.ports
  have hgl := op.lt
  have HW4 := Lib.hid (andthen HW3.out hb)
  have hge : w.heap.size ≤ gp := Nat.le_trans HW3.out.size hp1
  have c20 : w4.cell? ⟨gp, k * 89 + 15 + 5, none⟩ = some (.int .i64 ((ps k).i 20)) := HP.out.cell hkn (j := 20) (by omega)
  have f20 := HP.out.free (k * 89 + 15 + 5)
  have c29 : w4.cell? ⟨gp, k * 89 + 22 + 7, none⟩ = some (.bool ((ps k).b 29)) := HP.out.cell hkn (j := 29) (by omega)
  have f29 := HP.out.free (k * 89 + 22 + 7)
  have c27 : w4.cell? ⟨gp, k * 89 + 22 + 5, none⟩ = some (.bool ((ps k).b 27)) := HP.out.cell hkn (j := 27) (by omega)
  have f27 := HP.out.free (k * 89 + 22 + 5)
  clear op os of hb hp1 hp2 hp3 HB
  by_cases hlen : ln ≤ 60
  rotate_left
  · have d60 : decide ((60 : Int) < ln) = true := decide_eq_true (by omega)
    go_wp2_with (first | (refine wpList_store_at rfl 33 _ _ rfl _ (rowB zeroBri) 33 (rowB (b.at gp cp go co gf cf)) _ rfl rfl rfl rfl (sizeB _) rfl (rowB_one _) ?_; simp only [Act.put]) | fail)
    go_ret
    exact ⟨rfl, more HW4.out _⟩
  have d60 : decide ((60 : Int) < ln) = false := decide_eq_false (by omega)
  go_wp2_with (first | (refine wpList_store_at rfl 33 _ _ rfl _ (rowB zeroBri) 33 (rowB (b.at gp cp go co gf cf)) _ rfl rfl rfl rfl (sizeB _) rfl (rowB_one _) ?_; simp only [Act.put]) | fail)
  have hg0 : OrdG ((((ps k).setI 20 0).setB 29 false).setB 27 false) := ⟨rfl, fun h => by cases h⟩
  go_loopw [11] (fun i wr => ∃ m : Nat, m ≤ ln ∧ i = .int .i64 m ∧ Hid (∃ p, OrdG p ∧ Ports wr gp b.n (upd ps k p)) ∧ Hid (Only (· = gp) w4 wr) ∧ Hid (wr.cell? ⟨w4.heap.size, 17, none⟩ = some (.slice (some ⟨gp, 0, none⟩) b.n cp)) ∧ Hid (w4.heap.size < wr.heap.size)) (fun i _ => ln - (intOf i).toNat)
  case atStart => exact ⟨0, by omega, rfl, Lib.hid ⟨_, hg0, (((((HP.out.start k).step (j := 20) (by omega) (rowP_put_20 _ _)).step (j := 29) (by omega) (rowP_put_29 _ _)).step (j := 27) (by omega) (rowP_put_27 _ _)).alloc _)⟩, Lib.hid ((((Only.refl (· = gp) w4).setCell (Or.inl rfl) _).setCell (Or.inl rfl) _).setCell (Or.inl rfl) _ |>.alloc _), Lib.hid (by simp [go_sem]), Lib.hid (by simp)⟩
  case round =>
    clear hg0 c20 f20 c29 f29 c27 f27
    obtain ⟨m, hm, rfl, hPp, hO, hX, hS⟩ := hrel
    by_cases hlt : m < ln
    rotate_left
    · have dl : decide ((m : Int) < ln) = false := decide_eq_false (by omega)
      go_wp2_with fail
      go_ret
      exact ⟨rfl, HW4.out.trans (hO.out.below (B := w.heap.size) HW4.out.size (fun k hk => by omega))⟩
    · have dl : decide ((m : Int) < ln) = true := decide_eq_true (by omega)
      obtain ⟨p, hgood, hP⟩ := hPp.out
      have HGood := Lib.hid hgood
      have hS' := hS.out
      clear hgood hPp
      rcases hV with h0 | ⟨lg, lo, hla, hcl⟩
      · omega
      subst hla
      have hlg : lg < w.heap.size := cell_lt (hcl m hlt 0 (by omega))
      have hlv : wr.cell? ⟨lg, lo + m, none⟩ = some (.int .u8 (lf m)) := by
        have h1 := hcl m hlt 0 (by omega)
        rw [Nat.mul_one, Nat.add_zero] at h1
        rw [hO.out.cell (p := ⟨lg, lo + m, none⟩) (show lg < w4.heap.size by have := HW4.out.size; omega) (show ¬ lg = gp by omega), HW4.out.cell (p := ⟨lg, lo + m, none⟩) hlg]
        exact h1
      have hb0 := (hB8 m hlt).1
      have hb255 := (hB8 m hlt).2
      have HB8 := Lib.hid hB8
      have Hcl := Lib.hid hcl
      clear hB8 hcl
      have hk0 : (0 : Int) ≤ k := by omega
      have hk1 : (k : Int) < b.n := by omega
      have hm0 : (0 : Int) ≤ m := by omega
      have hm1 : (m : Int) < ln := by omega
      have hX' := hX.out
      have c28 := hP.cell hkn (j := 28) (by omega)
      have f28 := hP.free (k * 89 + 22 + 6)
      have n1 : ¬ gp = w4.heap.size := by omega
      have n3 : ¬ gp = lg := by omega
      have n4 : ¬ w4.heap.size = gp := by omega
      have n6 : ¬ lg = gp := by omega
      go_wp2_with fail
      go_still_tail 12, (by kernel_rfl)
      change wpList _ _ _ _ _ (World.drew _)
      go_wp2_with fail
      obtain ⟨w5, hw5⟩ : ∃ x, x = (wr.setCell ⟨gp, k * 89 + 22 + 6, none⟩ (.bool (lf m % 2 == 1))).drew := ⟨_, rfl⟩
      rw [← hw5]
      have hO5 : Only (· = gp) wr w5 := by
        rw [hw5]
        exact ((Only.refl (· = gp) wr).setCell (Or.inl rfl) _).drew
      have hp5 : Ports w5 gp b.n (upd ps k (p.setB 28 (lf m % 2 == 1))) := by
        rw [hw5]
        exact (hP.step (j := 28) (by omega) (rowP_put_28 _ _)).drew
      have hs5 : wr.heap.size ≤ w5.heap.size := hO5.size
      have hX5 := (hO5.cell (p := ⟨w4.heap.size, 17, none⟩) hS' n4).trans hX'
      have hlv5 := (hO5.cell (p := ⟨lg, lo + m, none⟩) (cell_lt hlv) n6).trans hlv
      have c26 := hp5.cell hkn (j := 26) (by omega)
      have f26 := hp5.free (k * 89 + 22 + 4)
      clear hw5 c28 f28 hX' hlv hP
      go_wp2_with fail
      go_still_tail 13, (by kernel_rfl)
      change wpList _ _ _ _ _ (World.drew _)
      go_wp2_with fail
      obtain ⟨w6, hw6⟩ : ∃ x, x = (w5.setCell ⟨gp, k * 89 + 22 + 4, none⟩ (.bool (lf m / 2 % 2 == 1))).drew := ⟨_, rfl⟩
      rw [← hw6]
      have hO6 : Only (· = gp) w5 w6 := by
        rw [hw6]
        exact ((Only.refl (· = gp) w5).setCell (Or.inl rfl) _).drew
      have hp6 : Ports w6 gp b.n (upd ps k ((p.setB 28 (lf m % 2 == 1)).setB 26 (lf m / 2 % 2 == 1))) := by
        rw [hw6]
        exact (hp5.step (j := 26) (by omega) (rowP_put_26 _ _)).drew
      have hs6 : w5.heap.size ≤ w6.heap.size := hO6.size
      have hX6 := (hO6.cell (p := ⟨w4.heap.size, 17, none⟩) (by show w4.heap.size < _; omega) n4).trans hX5
      have hG6 := good_step p HGood.out (lf m % 2 == 1) (lf m / 2 % 2 == 1)
      have HO6 := Lib.hid ((hO.out.trans hO5).trans hO6)
      clear hw6 c26 f26 hX5 hlv5 hp5 hO5 hO6
      refine (step_on w6 w4.heap.size gp b.n cp k ps _ hkn (by omega) n4 hX6 hp6).mono ?_
      rintro e w7 ⟨rfl, hp7, ho7, hb7⟩
      have hs7 : w6.heap.size ≤ w7.heap.size := ho7.size
      obtain ⟨q, hq⟩ : ∃ q, q = (passF ((p.setB 28 (lf m % 2 == 1)).setB 26 (lf m / 2 % 2 == 1))).1 := ⟨_, rfl⟩
      rw [← hq] at hG6 hp7
      clear hq hp6 hX6
      have hr := flagsP hp7 hkn
      rw [upd_same] at hr
      have HO7 := Lib.hid (HO6.out.trans ho7)
      have HG := Lib.hid hG6
      have HP7 := Lib.hid hp7
      clear hp7 ho7 hG6 HO6
      go_wp2_with (first | (refine wpList_row rfl 48 _ rfl gp (k * 89 + 22) rfl _ _ hr Try.underlying48 rfl (sizeFl _) ?_; simp only [Act.put, List.setIfInBounds_toArray, List.set_cons_zero, List.set_cons_succ]) | (refine wpList_store_new rfl 48 _ _ rfl w7 (rowFl zeroR) 48 _ rfl rfl rfl (sizeFl _) rfl (rowFl_one _) ?_; simp only [Act.put]) | fail)
      obtain ⟨w8, hw8⟩ : ∃ x, x = w7.alloc (.cells (rowFl q) 48) := ⟨_, rfl⟩
      rw [← hw8]
      have hs8 : w7.heap.size ≤ w8.heap.size := by rw [hw8]; simp
      have c5 : w8.cell? ⟨w7.heap.size, 5, none⟩ = some (.bool (q.b 27)) := by rw [hw8]; exact cells_of (heap_alloc_new _ _) 5
      have c7 : w8.cell? ⟨w7.heap.size, 7, none⟩ = some (.bool (q.b 29)) := by rw [hw8]; exact cells_of (heap_alloc_new _ _) 7
      have HP8 := Lib.hid (show Ports w8 gp b.n (upd ps k q) by rw [hw8]; exact HP7.out.alloc _)
      have HO8 := Lib.hid (show Only (· = gp) w4 w8 by rw [hw8]; exact HO7.out.alloc _)
      have c20 : w8.cell? ⟨gp, k * 89 + 15 + 5, none⟩ = some (.int .i64 (q.i 20)) := by
        have h := HP8.out.cell hkn (j := 20) (by omega)
        rw [upd_same] at h
        exact h
      have x17 : w8.cell? ⟨w4.heap.size, 17, none⟩ = some (.slice (some ⟨gp, 0, none⟩) b.n cp) := by rw [hw8]; exact ((Below.refl w7.heap.size w7).alloc (Nat.le_refl _) _ |>.cell (cell_lt hb7)).trans hb7
      clear hw8 hb7 hr HP7 HO7
      obtain ⟨g1, g2⟩ := HG.out
      rw [g1] at c7 g2
      have hway : ((q.i 20 != 0) = false ∧ q.b 27 = false) ∨ ((q.i 20 != 0) = true ∧ q.b 27 = false) ∨ ((q.i 20 != 0) = true ∧ q.b 27 = true) := by
        cases h27 : q.b 27
        · cases hz : (q.i 20 != 0) <;> simp
        · exact .inr (.inr ⟨g2 h27, rfl⟩)
      clear g1 g2
      rcases hway with ⟨e1, e2⟩ | ⟨e1, e2⟩ | ⟨e1, e2⟩
      all_goals
        rw [e1] at c7
        rw [e2] at c5
        go_quiet (fail)
        go_wp2_with fail
        go_roundw
        case rel => exact ⟨m + 1, by omega, by go_num, Lib.hid ⟨q, HG.out, HP8.out⟩, Lib.hid (HO8.out.trans (⟨rfl, rfl, rfl, Nat.le_refl _, fun _ _ _ => rfl⟩)), Lib.hid x17, Lib.hid (by show w4.heap.size < w8.heap.size; omega)⟩
        case measure => simp [intOf]; omega
end Go.Proofs.Ythijhbdaojmgmaa.Br
