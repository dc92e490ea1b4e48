/- Law TopoTells of chapter 17: the walk joined with the plain law. -/
import Derived.Test.YtbbjoelcbppfoaaToOn
import Derived.Test.YtbbjoelcbppfoaaOpen
set_option linter.unusedSimpArgs false
set_option linter.unusedVariables false
namespace Go.Proofs.Ytbbjoelcbppfoaa.Br
open Go.RowKit
theorem tells_r (b : Bri) (q : Rec) : ∃ p1 p2 : Rec, p1 = ((((((((q.setB 49 false).setI 21 2).setI 87 4).setI 87 3).setB 32 false).setB 25 false).setB 48 false).setB 39 true) ∧ topoB b p1 = (p2, true, false, true) ∧ p2.b 48 = false ∧ p2.b 39 = false ∧ p2.b 49 = false := by
  obtain ⟨p1, hp1⟩ : ∃ p1, p1 = ((((((((q.setB 49 false).setI 21 2).setI 87 4).setI 87 3).setB 32 false).setB 25 false).setB 48 false).setB 39 true) := ⟨_, rfl⟩
  have e21 : p1.i 21 = 2 := by rw [hp1]; rfl
  have e87 : p1.i 87 = 3 := by rw [hp1]; rfl
  have e32 : p1.b 32 = false := by rw [hp1]; rfl
  have e25 : p1.b 25 = false := by rw [hp1]; rfl
  have e48 : p1.b 48 = false := by rw [hp1]; rfl
  have e39 : p1.b 39 = true := by rw [hp1]; rfl
  have e49 : p1.b 49 = false := by rw [hp1]; rfl
  cases e41 : p1.b 41 with
  | true =>
    refine ⟨p1, noteF (beginF (b.r.i 4) (b.r.i 3) (b.r.i 5) p1), hp1, ?_, ?_, ?_, ?_⟩
    · unfold topoB topoP activeP
      simp [e25, e21, e87, e32, e41, countsF]
    · show ((beginF (b.r.i 4) (b.r.i 3) (b.r.i 5) p1).b 48 || (beginF (b.r.i 4) (b.r.i 3) (b.r.i 5) p1).i 87 == 4) = _
      rw [begin_87, begin_48, e48, e87]
      rfl
    · rfl
    · show (beginF (b.r.i 4) (b.r.i 3) (b.r.i 5) p1).b 49 = false
      unfold beginF
      split
      · exact e49
      · split <;> exact e49
  | false =>
    refine ⟨p1, noteF p1, hp1, ?_, ?_, ?_, ?_⟩
    · unfold topoB topoP activeP
      simp [e25, e21, e87, e32, e41, e39, countsF]
    · show (p1.b 48 || p1.i 87 == 4) = _
      rw [e48, e87]
      rfl
    · rfl
    · exact e49
theorem tells_d (b : Bri) (q : Rec) : ∃ p1 p2 : Rec, p1 = (((((((q.setB 49 false).setI 21 2).setI 87 4).setB 32 false).setB 25 false).setB 48 false).setB 39 true) ∧ topoB b p1 = (p2, true, false, true) ∧ p2.b 48 = true ∧ p2.b 39 = false ∧ p2.b 49 = false := by
  obtain ⟨p1, hp1⟩ : ∃ p1, p1 = (((((((q.setB 49 false).setI 21 2).setI 87 4).setB 32 false).setB 25 false).setB 48 false).setB 39 true) := ⟨_, rfl⟩
  have e21 : p1.i 21 = 2 := by rw [hp1]; rfl
  have e87 : p1.i 87 = 4 := by rw [hp1]; rfl
  have e32 : p1.b 32 = false := by rw [hp1]; rfl
  have e25 : p1.b 25 = false := by rw [hp1]; rfl
  have e48 : p1.b 48 = false := by rw [hp1]; rfl
  have e39 : p1.b 39 = true := by rw [hp1]; rfl
  have e49 : p1.b 49 = false := by rw [hp1]; rfl
  cases e41 : p1.b 41 with
  | true =>
    refine ⟨p1, noteF (beginF (b.r.i 4) (b.r.i 3) (b.r.i 5) p1), hp1, ?_, ?_, ?_, ?_⟩
    · unfold topoB topoP activeP
      simp [e25, e21, e87, e32, e41, countsF]
    · show ((beginF (b.r.i 4) (b.r.i 3) (b.r.i 5) p1).b 48 || (beginF (b.r.i 4) (b.r.i 3) (b.r.i 5) p1).i 87 == 4) = _
      rw [begin_87, begin_48, e48, e87]
      rfl
    · rfl
    · show (beginF (b.r.i 4) (b.r.i 3) (b.r.i 5) p1).b 49 = false
      unfold beginF
      split
      · exact e49
      · split <;> exact e49
  | false =>
    refine ⟨p1, noteF p1, hp1, ?_, ?_, ?_, ?_⟩
    · unfold topoB topoP activeP
      simp [e25, e21, e87, e32, e41, e39, countsF]
    · show (p1.b 48 || p1.i 87 == 4) = _
      rw [e48, e87]
      rfl
    · rfl
    · exact e49
attribute [local go_sem] zeroBr
set_option maxRecDepth 100000 in
set_option maxHeartbeats 8000000 in
theorem tells_any (b : Bri) (ps ss : Nat → Rec) (fs : Nat → Int) (w : World) (i : Nat) (hi : i ≤ 255) (root : Bool) (h : Reads0 w b ps ss fs) :
    Calls Try.prog 5 #[.agg (rowB b), .int .u8 i, .bool root] w fun e w' => e = .returned (.bool true) ∧ Below w.heap.size w w' := by
  have HR := Lib.hid h
  clear h
  go_enter Try.func5, Try.ntmps5
  go_wp2_with fail
  refine (awake_any _).mono ?_
  rintro e w1 ⟨rfl, hb1⟩
  have HB : Hid (w1.heap[w.heap.size]? = some (.cells (rowB b) 33 (0, 0))) := (hb1.block _ (by simp)).trans (at_new rfl)
  have HW1 := Lib.hid (andthen (more (Below.refl w.heap.size w) _) hb1)
  clear hb1
  go_wp2_with (first | (refine loadB rfl rfl _ rfl w.heap.size rfl b HB.out ?_; simp only [Act.put, List.setIfInBounds_toArray, List.set_cons_zero, List.set_cons_succ]) | fail)
  refine (few_any b ps _ (HR.out.below HW1.out).p).mono ?_
  rintro e w2 ⟨r, rfl, hr, hb2⟩
  have HB' : Hid (w2.heap[w.heap.size]? = some (.cells (rowB b) 33 (0, 0))) := (hb2.block _ (Array.getElem?_eq_some_iff.1 HB.out).1).trans HB.out
  have HW2 := Lib.hid (andthen HW1.out hb2)
  have Hr := Lib.hid hr
  clear hb2 hr HB HW1
  cases r
  · go_wp2_with fail
    go_ret
    exact ⟨rfl, HW2.out⟩
  have HL := Lib.hid (Hr.out rfl)
  clear Hr
  have HB := HB'
  clear HB'
  have hn1 : 0 < b.n := HL.out.2.1
  have hn8 : b.n ≤ 8 := HL.out.2.2.1
  go_wp2_with (first | (refine loadB rfl rfl _ rfl w.heap.size rfl b HB.out ?_; simp only [Act.put, List.setIfInBounds_toArray, List.set_cons_zero, List.set_cons_succ]) | fail)
  refine (at_any b i _ hi hn1 hn8).mono ?_
  rintro e w3 ⟨rfl, hb3⟩
  have HB' : Hid (w3.heap[w.heap.size]? = some (.cells (rowB b) 33 (0, 0))) := (hb3.block _ (Array.getElem?_eq_some_iff.1 HB.out).1).trans HB.out
  have HW3 := Lib.hid (andthen HW2.out hb3)
  clear hb3 HB HW2
  have HB := HB'
  clear HB'
  obtain ⟨k, hk⟩ : ∃ k, k = i % b.n := ⟨_, rfl⟩
  have hkn : k < b.n := by rw [hk]; exact Nat.mod_lt _ hn1
  rw [← hk]
  have Hk := Lib.hid hk
  clear hk
  go_wp2_with (first | (refine loadB rfl rfl _ rfl w.heap.size rfl b HB.out ?_; simp only [Act.put, List.setIfInBounds_toArray, List.set_cons_zero, List.set_cons_succ]) | fail)
  refine (clone_any b ps ss fs _ ((HR.out.below HW3.out).looked HL.out)).mono ?_
  rintro e w4 ⟨gp, cp, go, co, gf, cf, rfl, hp1, hp2, hp3, op, os, of, hb⟩
  go_upto_region 7 with (first | (refine wpList_store_at rfl 33 _ _ rfl _ (rowB zeroBri) 33 (rowB (b.at gp cp go co gf cf)) _ rfl rfl rfl rfl (sizeB _) rfl (rowB_one _) ?_; simp only [Act.put]) | fail)
  refine ((?_ : ∀ x, x = w4.alloc (.cells (rowB (b.at gp cp go co gf cf)) 33) → Code.wp _ _ _ _ x) _ rfl)
  intro wx hwx
  obtain ⟨bb, bx, hbx, hX, hgx, hSd, hwx'⟩ := clone_bst op os of hp2 hp3 hwx
  rw [← hbx]
  have hw4 := HW3.out.size
  have HX := Lib.hid hX
  have HSD := Lib.hid hSd
  have HWX := Lib.hid (andthen (andthen HW3.out hb) hwx')
  have hlt3 : w.heap.size < w3.heap.size := (Array.getElem?_eq_some_iff.1 HB.out).1
  have hge : w.heap.size < gp := Nat.lt_of_lt_of_le hlt3 hp1
  have HBX := Lib.hid ((hwx'.block _ (Nat.lt_of_lt_of_le hlt3 hb.size)).trans ((hb.block _ hlt3).trans HB.out))
  have HTO := Lib.hid (times_ok HL.out)
  have hn1000 : b.n ≤ 1000 := by omega
  have hnf20 : b.nf ≤ 20 := HL.out.2.2.2.2
  have hnn : bb.n = b.n := hSd.2.1
  have HNN := Lib.hid hnn
  have hkb : k < bb.n := by rw [hnn]; exact hkn
  have hk0 : (0 : Int) ≤ k := by omega
  have hk1 : (k : Int) < b.n := by omega
  obtain ⟨cpx, d17⟩ := hX.c17s hSd
  have hgl := hX.p.lt
  have hbl := hX.lt
  have nbg : ¬ bx = gp := hX.ne
  have ngb : ¬ gp = bx := fun e => hX.ne e.symm
  clear op os of hb hp1 hp2 hp3 HB hX hwx hwx' hbx hSd hw4 hlt3 hnn
  go_wp2_with fail
  go_loopw [11] (fun i wr => ∃ m : Nat, m ≤ b.n ∧ i = .int .i64 m ∧ Hid (Bst wr bx gp bb (fun j => if j < m then (ps j).setB 49 false else ps j) ss fs) ∧ Hid (Only (fun x => x = gp ∨ x = bx) wx wr)) (fun i _ => b.n - (intOf i).toNat)
  case atStart => exact ⟨0, by omega, rfl, Lib.hid (Bst.cong (fun j _ => by simp) (HX.out)), Lib.hid (Only.refl _ _)⟩
  case round =>
    obtain ⟨m, hm, rfl, hPm, hO⟩ := hrel
    have hm0 : (0 : Int) ≤ m := by omega
    obtain ⟨cpr, r17⟩ := hPm.out.c17s HSD.out
    by_cases hlt : m < b.n
    · have dl : decide ((m : Int) < b.n) = true := decide_eq_true (by omega)
      have hm1 : (m : Int) < b.n := by omega
      have hwm : IntKind.i64.wrap ((m : Int) + 1) = (m + 1 : Nat) := by unfold IntKind.wrap; simp [IntKind.signed, IntKind.bits]; omega
      have hmb : m < bb.n := by rw [HNN.out]; exact hlt
      have c49 : wr.cell? ⟨gp, m * 89 + 22 + 27, none⟩ = some (.bool ((ps m).b 49)) := (hPm.out.p.cell hmb (j := 49) (by omega)).trans (by rw [if_neg (Nat.lt_irrefl _)]; rfl)
      have f49 : wr.frozen? ⟨gp, m * 89 + 22 + 27, none⟩ = false := hPm.out.p.free _
      have HB2 := Lib.hid (Bst.cong (qs := fun j => if j < m + 1 then (ps j).setB 49 false else ps j) (fun j hj => by
        by_cases e : j = m
        · subst e
          rw [upd_same, if_pos (Nat.lt_succ_self _)]
        · rw [upd_other _ _ e]
          by_cases h : j < m
          · rw [if_pos h, if_pos (by omega)]
          · rw [if_neg h, if_neg (by omega)]) ((hPm.out.start m).put (j := 49) (p' := (ps m).setB 49 false) (by omega) (by rw [if_neg (Nat.lt_irrefl _)]; exact rowP_put_49 _ _)))
      go_wp2_with fail
      exact ⟨⟨m + 1, by omega, rfl, HB2, Lib.hid (hO.out.setCell (Or.inl (.inl rfl)) _)⟩, by simp [intOf]; omega⟩
    · have dl : decide ((m : Int) < b.n) = false := decide_eq_false (by omega)
      obtain rfl : m = b.n := by omega
      have HZ := Lib.hid (Bst.cong (qs := (fun j => (ps j).setB 49 false)) (fun j hj => by
        rw [HNN.out] at hj
        rw [if_pos hj]) hPm.out)
      have HO := hO
      clear hPm hO hm0
      cases root with
      | true =>
        have c21 : wr.cell? ⟨gp, k * 89 + 15 + 6, none⟩ = some (.int .i64 (((ps k).setB 49 false).i 21)) := (HZ.out.p.cell hkb (j := 21) (by omega)).trans (by first | rfl | (rw [upd_same]; rfl))
        have fc21 : wr.frozen? ⟨gp, k * 89 + 15 + 6, none⟩ = false := HZ.out.p.free _
        have c25 : wr.cell? ⟨gp, k * 89 + 22 + 3, none⟩ = some (.bool (((ps k).setB 49 false).b 25)) := (HZ.out.p.cell hkb (j := 25) (by omega)).trans (by first | rfl | (rw [upd_same]; rfl))
        have fc25 : wr.frozen? ⟨gp, k * 89 + 22 + 3, none⟩ = false := HZ.out.p.free _
        have c32 : wr.cell? ⟨gp, k * 89 + 22 + 10, none⟩ = some (.bool (((ps k).setB 49 false).b 32)) := (HZ.out.p.cell hkb (j := 32) (by omega)).trans (by first | rfl | (rw [upd_same]; rfl))
        have fc32 : wr.frozen? ⟨gp, k * 89 + 22 + 10, none⟩ = false := HZ.out.p.free _
        have c39 : wr.cell? ⟨gp, k * 89 + 22 + 17, none⟩ = some (.bool (((ps k).setB 49 false).b 39)) := (HZ.out.p.cell hkb (j := 39) (by omega)).trans (by first | rfl | (rw [upd_same]; rfl))
        have fc39 : wr.frozen? ⟨gp, k * 89 + 22 + 17, none⟩ = false := HZ.out.p.free _
        have c48 : wr.cell? ⟨gp, k * 89 + 22 + 26, none⟩ = some (.bool (((ps k).setB 49 false).b 48)) := (HZ.out.p.cell hkb (j := 48) (by omega)).trans (by first | rfl | (rw [upd_same]; rfl))
        have fc48 : wr.frozen? ⟨gp, k * 89 + 22 + 26, none⟩ = false := HZ.out.p.free _
        have c87 : wr.cell? ⟨gp, k * 89 + 87, none⟩ = some (.int .i64 (((ps k).setB 49 false).i 87)) := (HZ.out.p.cell hkb (j := 87) (by omega)).trans (by first | rfl | (rw [upd_same]; rfl))
        have fc87 : wr.frozen? ⟨gp, k * 89 + 87, none⟩ = false := HZ.out.p.free _
        obtain ⟨p1, p2, hp1, hF1, h48, h39, h49⟩ := tells_r b (ps k)
        have hS : Bst ((((((((wr.setCell ⟨gp, k * 89 + 15 + 6, none⟩ (.int .i64 2)).setCell ⟨gp, k * 89 + 87, none⟩ (.int .i64 4)).setCell ⟨gp, k * 89 + 87, none⟩ (.int .i64 3)).setCell ⟨gp, k * 89 + 22 + 10, none⟩ (.bool false)).setCell ⟨gp, k * 89 + 22 + 3, none⟩ (.bool false)).setCell ⟨gp, k * 89 + 22 + 26, none⟩ (.bool false)).setCell ⟨gp, k * 89 + 22 + 17, none⟩ (.bool true))) bx gp bb (upd (fun j => (ps j).setB 49 false) k p1) ss fs := by
          rw [hp1]
          exact (((((((HZ.out.start k).put (j := 21) (by omega) (rowP_put_21 _ _)).put (j := 87) (by omega) (rowP_put_87 _ _)).put (j := 87) (by omega) (rowP_put_87 _ _)).put (j := 32) (by omega) (rowP_put_32 _ _)).put (j := 25) (by omega) (rowP_put_25 _ _)).put (j := 48) (by omega) (rowP_put_48 _ _)).put (j := 39) (by omega) (rowP_put_39 _ _)
        have HS := Lib.hid hS
        have F1 := Lib.hid hF1
        have H48 := Lib.hid h48
        have H39 := Lib.hid h39
        have H49 := Lib.hid h49
        clear hS hp1 hF1 h48 h39 h49 hlt dl hm
        go_wp2_with fail
        refine (step_is b HTO.out _ bx gp k (0) bb ((fun j => (ps j).setB 49 false)) _ (fs) p1 _ _ _ _ F1.out (HS.out) HSD.out hkn hn1000 (by omega)).mono ?_
        rintro e w51 ⟨bb1, rfl, hX1, hO1, hS1⟩
        have HX1 := Lib.hid hX1
        have HSD1 := Lib.hid hS1
        have HA1 := Lib.hid (((((((((HO.out).setCell (Or.inl (.inl rfl)) _).setCell (Or.inl (.inl rfl)) _).setCell (Or.inl (.inl rfl)) _).setCell (Or.inl (.inl rfl)) _).setCell (Or.inl (.inl rfl)) _).setCell (Or.inl (.inl rfl)) _).setCell (Or.inl (.inl rfl)) _).trans hO1)
        have hkb1 : k < bb1.n := by rw [hS1.2.1]; exact hkn
        obtain ⟨cpx1, d171⟩ := hX1.c17s hS1
        clear hX1 hO1 hS1
        clear d17 r17 c21 fc21 c25 fc25 c32 fc32 c39 fc39 c48 fc48 c87 fc87
        go_wp2_with fail
        go_loop [14] (fun i => ∃ m : Nat, m ≤ b.n ∧ i = .int .i64 m) (fun i => b.n - (intOf i).toNat)
        case atStart => exact ⟨0, by omega, rfl⟩
        case round =>
          obtain ⟨m, hm, rfl⟩ := hrel
          have hm0 : (0 : Int) ≤ m := by omega
          by_cases hlt : m < b.n
          · have dl : decide ((m : Int) < b.n) = true := decide_eq_true (by omega)
            have hm1 : (m : Int) < b.n := by omega
            have hwm : IntKind.i64.wrap ((m : Int) + 1) = (m + 1 : Nat) := by unfold IntKind.wrap; simp [IntKind.signed, IntKind.bits]; omega
            have hmb : m < bb1.n := by rw [HSD1.out.2.1]; exact hlt
            by_cases e : m = k
            · have dk : ((m : Int) != k) = false := by simp [e]
              have c49 : w51.cell? ⟨gp, m * 89 + 22 + 27, none⟩ = some (.bool false) := (HX1.out.p.cell hmb (j := 49) (by omega)).trans (by
                rw [e, upd_same]
                show some (Value.bool (p2.b 49)) = _
                rw [H49.out])
              clear e
              go_wp2_with fail
              exact ⟨⟨m + 1, by omega, rfl⟩, by simp [intOf]; omega⟩
            · have dk : ((m : Int) != k) = true := by simp; omega
              have c49 : w51.cell? ⟨gp, m * 89 + 22 + 27, none⟩ = some (.bool true) := (HX1.out.p.cell hmb (j := 49) (by omega)).trans (by
                rw [upd_other _ _ e]
                unfold tellF toldF
                rw [if_pos rfl, if_neg e]
                rfl)
              clear e
              go_wp2_with fail
              exact ⟨⟨m + 1, by omega, rfl⟩, by simp [intOf]; omega⟩
          · have dl : decide ((m : Int) < b.n) = false := decide_eq_false (by omega)
            have c48 : w51.cell? ⟨gp, k * 89 + 22 + 26, none⟩ = some (.bool false) := (HX1.out.p.cell hkb1 (j := 48) (by omega)).trans (by rw [upd_same]; show some (Value.bool (p2.b 48)) = _; rw [H48.out])
            have c39 : w51.cell? ⟨gp, k * 89 + 22 + 17, none⟩ = some (.bool false) := (HX1.out.p.cell hkb1 (j := 39) (by omega)).trans (by rw [upd_same]; show some (Value.bool (p2.b 39)) = _; rw [H39.out])
            go_wp2_with fail
            go_ret
            exact ⟨rfl, HWX.out.trans (HA1.out.below HWX.out.size (fun k hk => by omega))⟩
      | false =>
        have c21 : wr.cell? ⟨gp, k * 89 + 15 + 6, none⟩ = some (.int .i64 (((ps k).setB 49 false).i 21)) := (HZ.out.p.cell hkb (j := 21) (by omega)).trans (by first | rfl | (rw [upd_same]; rfl))
        have fc21 : wr.frozen? ⟨gp, k * 89 + 15 + 6, none⟩ = false := HZ.out.p.free _
        have c25 : wr.cell? ⟨gp, k * 89 + 22 + 3, none⟩ = some (.bool (((ps k).setB 49 false).b 25)) := (HZ.out.p.cell hkb (j := 25) (by omega)).trans (by first | rfl | (rw [upd_same]; rfl))
        have fc25 : wr.frozen? ⟨gp, k * 89 + 22 + 3, none⟩ = false := HZ.out.p.free _
        have c32 : wr.cell? ⟨gp, k * 89 + 22 + 10, none⟩ = some (.bool (((ps k).setB 49 false).b 32)) := (HZ.out.p.cell hkb (j := 32) (by omega)).trans (by first | rfl | (rw [upd_same]; rfl))
        have fc32 : wr.frozen? ⟨gp, k * 89 + 22 + 10, none⟩ = false := HZ.out.p.free _
        have c39 : wr.cell? ⟨gp, k * 89 + 22 + 17, none⟩ = some (.bool (((ps k).setB 49 false).b 39)) := (HZ.out.p.cell hkb (j := 39) (by omega)).trans (by first | rfl | (rw [upd_same]; rfl))
        have fc39 : wr.frozen? ⟨gp, k * 89 + 22 + 17, none⟩ = false := HZ.out.p.free _
        have c48 : wr.cell? ⟨gp, k * 89 + 22 + 26, none⟩ = some (.bool (((ps k).setB 49 false).b 48)) := (HZ.out.p.cell hkb (j := 48) (by omega)).trans (by first | rfl | (rw [upd_same]; rfl))
        have fc48 : wr.frozen? ⟨gp, k * 89 + 22 + 26, none⟩ = false := HZ.out.p.free _
        have c87 : wr.cell? ⟨gp, k * 89 + 87, none⟩ = some (.int .i64 (((ps k).setB 49 false).i 87)) := (HZ.out.p.cell hkb (j := 87) (by omega)).trans (by first | rfl | (rw [upd_same]; rfl))
        have fc87 : wr.frozen? ⟨gp, k * 89 + 87, none⟩ = false := HZ.out.p.free _
        obtain ⟨p1, p2, hp1, hF1, h48, h39, h49⟩ := tells_d b (ps k)
        have hS : Bst (((((((wr.setCell ⟨gp, k * 89 + 15 + 6, none⟩ (.int .i64 2)).setCell ⟨gp, k * 89 + 87, none⟩ (.int .i64 4)).setCell ⟨gp, k * 89 + 22 + 10, none⟩ (.bool false)).setCell ⟨gp, k * 89 + 22 + 3, none⟩ (.bool false)).setCell ⟨gp, k * 89 + 22 + 26, none⟩ (.bool false)).setCell ⟨gp, k * 89 + 22 + 17, none⟩ (.bool true))) bx gp bb (upd (fun j => (ps j).setB 49 false) k p1) ss fs := by
          rw [hp1]
          exact ((((((HZ.out.start k).put (j := 21) (by omega) (rowP_put_21 _ _)).put (j := 87) (by omega) (rowP_put_87 _ _)).put (j := 32) (by omega) (rowP_put_32 _ _)).put (j := 25) (by omega) (rowP_put_25 _ _)).put (j := 48) (by omega) (rowP_put_48 _ _)).put (j := 39) (by omega) (rowP_put_39 _ _)
        have HS := Lib.hid hS
        have F1 := Lib.hid hF1
        have H48 := Lib.hid h48
        have H39 := Lib.hid h39
        have H49 := Lib.hid h49
        clear hS hp1 hF1 h48 h39 h49 hlt dl hm
        go_wp2_with fail
        refine (step_is b HTO.out _ bx gp k (0) bb ((fun j => (ps j).setB 49 false)) _ (fs) p1 _ _ _ _ F1.out (HS.out) HSD.out hkn hn1000 (by omega)).mono ?_
        rintro e w51 ⟨bb1, rfl, hX1, hO1, hS1⟩
        have HX1 := Lib.hid hX1
        have HSD1 := Lib.hid hS1
        have HA1 := Lib.hid ((((((((HO.out).setCell (Or.inl (.inl rfl)) _).setCell (Or.inl (.inl rfl)) _).setCell (Or.inl (.inl rfl)) _).setCell (Or.inl (.inl rfl)) _).setCell (Or.inl (.inl rfl)) _).setCell (Or.inl (.inl rfl)) _).trans hO1)
        have hkb1 : k < bb1.n := by rw [hS1.2.1]; exact hkn
        obtain ⟨cpx1, d171⟩ := hX1.c17s hS1
        clear hX1 hO1 hS1
        clear d17 r17 c21 fc21 c25 fc25 c32 fc32 c39 fc39 c48 fc48 c87 fc87
        go_wp2_with fail
        go_loop [14] (fun i => ∃ m : Nat, m ≤ b.n ∧ i = .int .i64 m) (fun i => b.n - (intOf i).toNat)
        case atStart => exact ⟨0, by omega, rfl⟩
        case round =>
          obtain ⟨m, hm, rfl⟩ := hrel
          have hm0 : (0 : Int) ≤ m := by omega
          by_cases hlt : m < b.n
          · have dl : decide ((m : Int) < b.n) = true := decide_eq_true (by omega)
            have hm1 : (m : Int) < b.n := by omega
            have hwm : IntKind.i64.wrap ((m : Int) + 1) = (m + 1 : Nat) := by unfold IntKind.wrap; simp [IntKind.signed, IntKind.bits]; omega
            have hmb : m < bb1.n := by rw [HSD1.out.2.1]; exact hlt
            by_cases e : m = k
            · have dk : ((m : Int) != k) = false := by simp [e]
              have c49 : w51.cell? ⟨gp, m * 89 + 22 + 27, none⟩ = some (.bool false) := (HX1.out.p.cell hmb (j := 49) (by omega)).trans (by
                rw [e, upd_same]
                show some (Value.bool (p2.b 49)) = _
                rw [H49.out])
              clear e
              go_wp2_with fail
              exact ⟨⟨m + 1, by omega, rfl⟩, by simp [intOf]; omega⟩
            · have dk : ((m : Int) != k) = true := by simp; omega
              have c49 : w51.cell? ⟨gp, m * 89 + 22 + 27, none⟩ = some (.bool true) := (HX1.out.p.cell hmb (j := 49) (by omega)).trans (by
                rw [upd_other _ _ e]
                unfold tellF toldF
                rw [if_pos rfl, if_neg e]
                rfl)
              clear e
              go_wp2_with fail
              exact ⟨⟨m + 1, by omega, rfl⟩, by simp [intOf]; omega⟩
          · have dl : decide ((m : Int) < b.n) = false := decide_eq_false (by omega)
            have c48 : w51.cell? ⟨gp, k * 89 + 22 + 26, none⟩ = some (.bool true) := (HX1.out.p.cell hkb1 (j := 48) (by omega)).trans (by rw [upd_same]; show some (Value.bool (p2.b 48)) = _; rw [H48.out])
            have c39 : w51.cell? ⟨gp, k * 89 + 22 + 17, none⟩ = some (.bool false) := (HX1.out.p.cell hkb1 (j := 39) (by omega)).trans (by rw [upd_same]; show some (Value.bool (p2.b 39)) = _; rw [H39.out])
            go_wp2_with fail
            go_ret
            exact ⟨rfl, HWX.out.trans (HA1.out.below HWX.out.size (fun k hk => by omega))⟩
end Go.Proofs.Ytbbjoelcbppfoaa.Br
