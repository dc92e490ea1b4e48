/- Law TransAgrees of chapter 15: the walk joined with the plain law. -/
import Derived.Test.YtdangeefecdbaaaTrOn
import Derived.Test.YtdangeefecdbaaaOpen
set_option linter.unusedSimpArgs false
set_option linter.unusedVariables false
namespace Go.Proofs.Ytdangeefecdbaaa.Br
open Go.RowKit
/-- What the law makes of each port ahead of the second step. -/
def fixF (q : Rec) : Rec := ((q.setB 44 true).setI 88 (q.i 87)).setB 47 true
theorem next_root (b : Bri) (k : Nat) (ps : Nat → Rec) (h1 : (ps k).b 44 = true) (h2 : (ps k).b 50 = false) (h3 : (ps k).i 87 = (ps k).i 88) (h4 : (ps k).i 19 = 2) : nextT b k ps = firstOn (rootL b k (ps k) ps) := by
  unfold nextT
  rw [transT_same b k _ _ h1 h2 h3]
  unfold statesL
  rw [if_neg (by omega), if_neg (by omega), if_neg (by omega), if_neg (by omega), if_pos h4]
theorem first_agrees (b : Bri) (k : Nat) (ps : Nat → Rec) (h1 : (ps k).b 44 = true) (h2 : (ps k).b 50 = false) (h3 : (ps k).i 87 = (ps k).i 88) (h4 : (ps k).i 19 = 2) (hP : (ps k).b 33 = true) (hA : (ps k).b 22 = true) : nextT b k ps = some (upd ps k ((agreeF (ps k)).setB 46 false)) := by
  rw [next_root b k ps h1 h2 h3 h4]
  show (bif ((ps k).b 33 && !(ps k).b 22) then _ else bif ((syncedAll b (upd ps k (ps k)) && !(ps k).b 22) || ((ps k).b 33 && (ps k).b 22)) then _ else _) = _
  rw [hP, hA]
  simp
theorem first_syncs (b : Bri) (k : Nat) (ps : Nat → Rec) (h1 : (ps k).b 44 = true) (h2 : (ps k).b 50 = false) (h3 : (ps k).i 87 = (ps k).i 88) (h4 : (ps k).i 19 = 2) (hP : (ps k).b 33 = true) (hA : (ps k).b 22 = false) : nextT b k ps = some (upd (allB 46 ps) k (((ps k).setB 46 true).setB 33 false)) := by
  rw [next_root b k ps h1 h2 h3 h4]
  show (bif ((ps k).b 33 && !(ps k).b 22) then _ else _) = _
  rw [hP, hA]
  rfl
theorem second_agrees (b : Bri) (k : Nat) (ps : Nat → Rec) (hS : ∀ j, j < b.n → unsynced (ps j) = false) (h1 : (ps k).b 44 = true) (h2 : (ps k).b 50 = false) (h3 : (ps k).i 87 = (ps k).i 88) (h4 : (ps k).i 19 = 2) (hP : (ps k).b 33 = false) (hA : (ps k).b 22 = false) : nextT b k ps = some (upd ps k ((agreeF (ps k)).setB 46 false)) := by
  have hs : syncedAll b (upd ps k (ps k)) = true := by
    unfold syncedAll
    rw [anyR_no (fun j hj => by rw [upd_self]; exact hS j hj)]
    rfl
  rw [next_root b k ps h1 h2 h3 h4]
  show (bif ((ps k).b 33 && !(ps k).b 22) then _ else bif ((syncedAll b (upd ps k (ps k)) && !(ps k).b 22) || ((ps k).b 33 && (ps k).b 22)) then _ else _) = _
  rw [hP, hA, hs]
  rfl
theorem fixed (q : Rec) : unsynced (fixF q) = false := by
  show (!true || (q.i 87 != q.i 87) || ((q.i 87 != 3) && !true)) = false
  simp
attribute [local go_sem] zeroBr zeroP
set_option maxRecDepth 100000 in
set_option maxHeartbeats 8000000 in
theorem agrees_law_any (b : Bri) (ps ss : Nat → Rec) (fs : Nat → Int) (w : World) (i : Nat) (hi : i ≤ 255) (h : Reads0 w b ps ss fs) :
    Calls Try.prog 7 #[.agg (rowB b), .int .u8 i] w fun e w' => e = .returned (.bool true) ∧ Below w.heap.size w w' := by
  have HR := Lib.hid h
  clear h
  go_enter Try.func7, Try.ntmps7
  go_wp2_with fail
  refine (awake_any _).mono ?_
  rintro e w1 ⟨rfl, hb1⟩
  have HB : Hid (w1.heap[w.heap.size]? = some (.cells (rowB b) 33 (0, 0))) := (hb1.block _ (by simp)).trans (at_new rfl)
  have HW1 := Lib.hid (andthen (more (Below.refl w.heap.size w) _) hb1)
  clear hb1
  go_wp2_with (first | (refine loadB rfl rfl _ rfl w.heap.size rfl b HB.out ?_; simp only [Act.put, List.setIfInBounds_toArray, List.set_cons_zero, List.set_cons_succ]) | fail)
  refine (few_any b ps _ (HR.out.below HW1.out).p).mono ?_
  rintro e w2 ⟨r, rfl, hr, hb2⟩
  have HB' : Hid (w2.heap[w.heap.size]? = some (.cells (rowB b) 33 (0, 0))) := (hb2.block _ (Array.getElem?_eq_some_iff.1 HB.out).1).trans HB.out
  have HW2 := Lib.hid (andthen HW1.out hb2)
  have Hr := Lib.hid hr
  clear hb2 hr HB HW1
  cases r
  · go_wp2_with fail
    go_ret
    exact ⟨rfl, HW2.out⟩
  have HL := Lib.hid (Hr.out rfl)
  clear Hr
  have HB := HB'
  clear HB'
  have hn1 : 0 < b.n := HL.out.2.1
  have hn8 : b.n ≤ 8 := HL.out.2.2.1
  go_wp2_with (first | (refine loadB rfl rfl _ rfl w.heap.size rfl b HB.out ?_; simp only [Act.put, List.setIfInBounds_toArray, List.set_cons_zero, List.set_cons_succ]) | fail)
  refine (at_any b i _ hi hn1 hn8).mono ?_
  rintro e w3 ⟨rfl, hb3⟩
  have HB' : Hid (w3.heap[w.heap.size]? = some (.cells (rowB b) 33 (0, 0))) := (hb3.block _ (Array.getElem?_eq_some_iff.1 HB.out).1).trans HB.out
  have HW3 := Lib.hid (andthen HW2.out hb3)
  clear hb3 HB HW2
  have HB := HB'
  clear HB'
  obtain ⟨k, hk⟩ : ∃ k, k = i % b.n := ⟨_, rfl⟩
  have hkn : k < b.n := by rw [hk]; exact Nat.mod_lt _ hn1
  rw [← hk]
  have Hk := Lib.hid hk
  clear hk
  go_wp2_with (first | (refine loadB rfl rfl _ rfl w.heap.size rfl b HB.out ?_; simp only [Act.put, List.setIfInBounds_toArray, List.set_cons_zero, List.set_cons_succ]) | fail)
  refine (clone_any b ps ss fs _ ((HR.out.below HW3.out).looked HL.out)).mono ?_
  rintro e w4 ⟨gp, cp, go, co, gf, cf, rfl, hp1, hp2, hp3, op, os, of, hb⟩
  go_upto_region 7 with (first | (refine wpList_store_at rfl 33 _ _ rfl _ (rowB zeroBri) 33 (rowB (b.at gp cp go co gf cf)) _ rfl rfl rfl rfl (sizeB _) rfl (rowB_one _) ?_; simp only [Act.put]) | fail)
  refine ((?_ : ∀ x, x = w4.alloc (.cells (rowB (b.at gp cp go co gf cf)) 33) → Code.wp _ _ _ _ x) _ rfl)
  intro wx hwx
  obtain ⟨bb, bx, hbx, hX, hgx, hSd, hwx'⟩ := clone_bst op os of hp2 hp3 hwx
  rw [← hbx]
  have hw4 := HW3.out.size
  have HX := Lib.hid hX
  have HWX := Lib.hid (andthen (andthen HW3.out hb) hwx')
  have hlt3 : w.heap.size < w3.heap.size := (Array.getElem?_eq_some_iff.1 HB.out).1
  have hge : w.heap.size < gp := Nat.lt_of_lt_of_le hlt3 hp1
  have HTO := Lib.hid (show TimesOk bb from fun x hx => by rw [hSd.1]; exact times_ok HL.out x hx)
  have hn1000 : bb.n ≤ 1000 := by rw [hSd.2.1]; omega
  have hkb : k < bb.n := by rw [hSd.2.1]; exact hkn
  have hk0 : (0 : Int) ≤ k := by omega
  have hk1 : (k : Int) < bb.n := by omega
  have HSD := Lib.hid hSd
  have d17 := hX.c17
  have hgl := hX.p.lt
  have hbl := hX.lt
  have nbg : ¬ bx = gp := hX.ne
  have ngb : ¬ gp = bx := fun e => hX.ne e.symm
  clear op os of hb hp1 hp2 hp3 HB hX hwx hwx' hbx hSd hw4 hlt3
  have c44 : wx.cell? ⟨gp, k * 89 + 22 + 22, none⟩ = some (.bool ((ps k).b 44)) := (HX.out.p.cell hkb (j := 44) (by omega)).trans (by first | rfl | (rw [upd_same]; rfl))
  have fc44 : wx.frozen? ⟨gp, k * 89 + 22 + 22, none⟩ = false := HX.out.p.free _
  have c50 : wx.cell? ⟨gp, k * 89 + 22 + 28, none⟩ = some (.bool ((ps k).b 50)) := (HX.out.p.cell hkb (j := 50) (by omega)).trans (by first | rfl | (rw [upd_same]; rfl))
  have fc50 : wx.frozen? ⟨gp, k * 89 + 22 + 28, none⟩ = false := HX.out.p.free _
  have c88 : wx.cell? ⟨gp, k * 89 + 88, none⟩ = some (.int .i64 ((ps k).i 88)) := (HX.out.p.cell hkb (j := 88) (by omega)).trans (by first | rfl | (rw [upd_same]; rfl))
  have fc88 : wx.frozen? ⟨gp, k * 89 + 88, none⟩ = false := HX.out.p.free _
  have c87 : wx.cell? ⟨gp, k * 89 + 87, none⟩ = some (.int .i64 ((ps k).i 87)) := (HX.out.p.cell hkb (j := 87) (by omega)).trans (by first | rfl | (rw [upd_same]; rfl))
  have fc87 : wx.frozen? ⟨gp, k * 89 + 87, none⟩ = false := HX.out.p.free _
  have c19 : wx.cell? ⟨gp, k * 89 + 15 + 4, none⟩ = some (.int .i64 ((ps k).i 19)) := (HX.out.p.cell hkb (j := 19) (by omega)).trans (by first | rfl | (rw [upd_same]; rfl))
  have fc19 : wx.frozen? ⟨gp, k * 89 + 15 + 4, none⟩ = false := HX.out.p.free _
  have c33 : wx.cell? ⟨gp, k * 89 + 22 + 11, none⟩ = some (.bool ((ps k).b 33)) := (HX.out.p.cell hkb (j := 33) (by omega)).trans (by first | rfl | (rw [upd_same]; rfl))
  have fc33 : wx.frozen? ⟨gp, k * 89 + 22 + 11, none⟩ = false := HX.out.p.free _
  have c22 : wx.cell? ⟨gp, k * 89 + 22, none⟩ = some (.bool ((ps k).b 22)) := (HX.out.p.cell hkb (j := 22) (by omega)).trans (by first | rfl | (rw [upd_same]; rfl))
  go_upto_region 15 with (fail)
  obtain ⟨p1, hp1⟩ : ∃ x, x = (((((((ps k).setB 44 true).setB 50 false).setI 88 3).setI 87 3).setI 19 2).setB 33 true) := ⟨_, rfl⟩
  have HS := Lib.hid (show Bst ((((((wx.setCell ⟨gp, k * 89 + 22 + 22, none⟩ (.bool true)).setCell ⟨gp, k * 89 + 22 + 28, none⟩ (.bool false)).setCell ⟨gp, k * 89 + 88, none⟩ (.int .i64 3)).setCell ⟨gp, k * 89 + 87, none⟩ (.int .i64 3)).setCell ⟨gp, k * 89 + 15 + 4, none⟩ (.int .i64 2)).setCell ⟨gp, k * 89 + 22 + 11, none⟩ (.bool true)) bx gp bb (upd ps k p1) ss fs by rw [hp1]; exact (((((((HX.out.start k)).put (j := 44) (by omega) (rowP_put_44 _ _)).put (j := 50) (by omega) (rowP_put_50 _ _)).put (j := 88) (by omega) (rowP_put_88 _ _)).put (j := 87) (by omega) (rowP_put_87 _ _)).put (j := 19) (by omega) (rowP_put_19 _ _)).put (j := 33) (by omega) (rowP_put_33 _ _))
  have HOS := Lib.hid (show Only (· = gp) wx ((((((wx.setCell ⟨gp, k * 89 + 22 + 22, none⟩ (.bool true)).setCell ⟨gp, k * 89 + 22 + 28, none⟩ (.bool false)).setCell ⟨gp, k * 89 + 88, none⟩ (.int .i64 3)).setCell ⟨gp, k * 89 + 87, none⟩ (.int .i64 3)).setCell ⟨gp, k * 89 + 15 + 4, none⟩ (.int .i64 2)).setCell ⟨gp, k * 89 + 22 + 11, none⟩ (.bool true)) from (((((((Only.refl (· = gp) wx)).setCell (Or.inl rfl) _).setCell (Or.inl rfl) _).setCell (Or.inl rfl) _).setCell (Or.inl rfl) _).setCell (Or.inl rfl) _).setCell (Or.inl rfl) _)
  have h44 : (upd ps k p1 k).b 44 = true := by rw [upd_same, hp1]; rfl
  have h50 : (upd ps k p1 k).b 50 = false := by rw [upd_same, hp1]; rfl
  have h88 : (upd ps k p1 k).i 87 = (upd ps k p1 k).i 88 := by rw [upd_same, hp1]; rfl
  have h19 : (upd ps k p1 k).i 19 = 2 := by rw [upd_same, hp1]; rfl
  have h33 : (upd ps k p1 k).b 33 = true := by rw [upd_same, hp1]; rfl
  have h22 : (upd ps k p1 k).b 22 = (ps k).b 22 := by rw [upd_same, hp1]; rfl
  clear hp1 d17 c22 c44 fc44 c50 fc50 c88 fc88 c87 fc87 c19 fc19 c33 fc33
  cases ha : (ps k).b 22
  case true =>
    rw [ha] at h22
    have F1 := Lib.hid (first_agrees bb k (upd ps k p1) h44 h50 h88 h19 h33 h22)
    clear h44 h50 h88 h19 h33 h22 ha
    go_wp2_with fail
    refine (step_ps _ bx gp k bb (upd ps k p1) ss fs HS.out hkb HTO.out hn1000).mono ?_
    rintro e w51 ⟨rfl, hX1, hO1⟩
    rw [F1.out] at hX1 ⊢
    have HX1 := Lib.hid (show Bst w51 bx gp bb (upd (upd ps k p1) k ((agreeF (upd ps k p1 k)).setB 46 false)) ss fs from hX1)
    have HA1 := Lib.hid (HOS.out.trans hO1)
    have d171 := hX1.c17
    clear hX1 hO1
    have c33 : w51.cell? ⟨gp, k * 89 + 22 + 11, none⟩ = some (.bool false) := (HX1.out.p.cell hkb (j := 33) (by omega)).trans (by rw [upd_same]; rfl)
    have c22 : w51.cell? ⟨gp, k * 89 + 22, none⟩ = some (.bool true) := (HX1.out.p.cell hkb (j := 22) (by omega)).trans (by rw [upd_same]; rfl)
    have c31 : w51.cell? ⟨gp, k * 89 + 22 + 9, none⟩ = some (.bool true) := (HX1.out.p.cell hkb (j := 31) (by omega)).trans (by rw [upd_same]; rfl)
    go_wp2_with fail
    go_ret
    exact ⟨rfl, HWX.out.trans (HA1.out.below HWX.out.size (fun k hk => by omega))⟩
  case false =>
    rw [ha] at h22
    have F1 := Lib.hid (first_syncs bb k (upd ps k p1) h44 h50 h88 h19 h33 h22)
    obtain ⟨Q1, hQ1⟩ : ∃ x, x = upd (allB 46 (upd ps k p1)) k (((upd ps k p1 k).setB 46 true).setB 33 false) := ⟨_, rfl⟩
    rw [← hQ1] at F1
    have q46 : ∀ j, (Q1 j).b 46 = true := fun j => by
      rw [hQ1]
      by_cases e : j = k
      · rw [e, upd_same]
        rfl
      · rw [upd_other _ _ e]
        rfl
    have q33 : (Q1 k).b 33 = false := by rw [hQ1, upd_same]; rfl
    have q50 : (Q1 k).b 50 = false := by rw [hQ1, upd_same]; exact h50
    have q19 : (Q1 k).i 19 = 2 := by rw [hQ1, upd_same]; exact h19
    have q22 : (Q1 k).b 22 = false := by rw [hQ1, upd_same]; exact h22
    have HQ := Lib.hid (And.intro q46 (And.intro q33 (And.intro q50 (And.intro q19 q22))))
    clear h44 h50 h88 h19 h33 h22 ha q46 q33 q50 q19 q22 hQ1
    go_wp2_with fail
    refine (step_ps _ bx gp k bb (upd ps k p1) ss fs HS.out hkb HTO.out hn1000).mono ?_
    rintro e w51 ⟨rfl, hX1, hO1⟩
    rw [F1.out] at hX1 ⊢
    have HX1 := Lib.hid (show Bst w51 bx gp bb (Q1) ss fs from hX1)
    have HA1 := Lib.hid (HOS.out.trans hO1)
    have d171 := hX1.c17
    clear hX1 hO1
    have c33 : w51.cell? ⟨gp, k * 89 + 22 + 11, none⟩ = some (.bool false) := (HX1.out.p.cell hkb (j := 33) (by omega)).trans (by show some (Value.bool (_)) = _; rw [HQ.out.2.1])
    go_upto_region 20 with (fail)
    clear c33 d171
    go_wp2_with fail
    go_loopw [12] (fun i wr => ∃ m : Nat, m ≤ bb.n ∧ i = .int .i64 m ∧ Hid (Bst wr bx gp bb (fun j => if j < m then fixF (Q1 j) else Q1 j) ss fs) ∧ Hid (Only (· = gp) wx wr)) (fun i _ => bb.n - (intOf i).toNat)
    case atStart => exact ⟨0, by omega, rfl, Lib.hid (Bst.cong (fun j _ => by simp) HX1.out), HA1⟩
    case round =>
      obtain ⟨m, hm, rfl, hPm, hO⟩ := hrel
      have hm0 : (0 : Int) ≤ m := by omega
      have r17 := hPm.out.c17
      by_cases hlt : m < bb.n
      · have dl : decide ((m : Int) < bb.n) = true := decide_eq_true (by omega)
        have hm1 : (m : Int) < bb.n := by omega
        have hwm : IntKind.i64.wrap ((m : Int) + 1) = (m + 1 : Nat) := by unfold IntKind.wrap; simp [IntKind.signed, IntKind.bits]; omega
        have HM := Lib.hid (show Bst wr bx gp bb (upd (fun j => if j < m then fixF (Q1 j) else Q1 j) m (Q1 m)) ss fs by
          have h := hPm.out.start m
          rw [if_neg (Nat.lt_irrefl _)] at h
          exact h)
        have m44 : wr.cell? ⟨gp, m * 89 + 22 + 22, none⟩ = some (.bool ((Q1 m).b 44)) := (HM.out.p.cell hlt (j := 44) (by omega)).trans (by rw [upd_same]; rfl)
        have fm44 : wr.frozen? ⟨gp, m * 89 + 22 + 22, none⟩ = false := HM.out.p.free _
        have m46 : wr.cell? ⟨gp, m * 89 + 22 + 24, none⟩ = some (.bool true) := (HM.out.p.cell hlt (j := 46) (by omega)).trans (by rw [upd_same]; show some (Value.bool (_)) = _; rw [HQ.out.1])
        go_upto_region 26 with (fail)
        refine ((?_ : ∀ x, x = wr.setCell ⟨gp, m * 89 + 22 + 22, none⟩ (.bool true) → Code.wp _ _ _ _ x) _ rfl)
        intro w7 hw7
        have H7 := Lib.hid (show Bst w7 bx gp bb (upd (fun j => if j < m then fixF (Q1 j) else Q1 j) m ((Q1 m).setB 44 true)) ss fs by rw [hw7]; exact HM.out.put (j := 44) (by omega) (rowP_put_44 _ _))
        have HO7 := Lib.hid (show Only (· = gp) wx w7 by rw [hw7]; exact hO.out.setCell (Or.inl rfl) _)
        have s17 := H7.out.c17
        clear hw7 r17 m44 fm44 m46 hPm hO
        have m87 : w7.cell? ⟨gp, m * 89 + 87, none⟩ = some (.int .i64 (((Q1 m).setB 44 true).i 87)) := (H7.out.p.cell hlt (j := 87) (by omega)).trans (by rw [upd_same]; rfl)
        have fm87 : w7.frozen? ⟨gp, m * 89 + 87, none⟩ = false := H7.out.p.free _
        have m88 : w7.cell? ⟨gp, m * 89 + 88, none⟩ = some (.int .i64 (((Q1 m).setB 44 true).i 88)) := (H7.out.p.cell hlt (j := 88) (by omega)).trans (by rw [upd_same]; rfl)
        have fm88 : w7.frozen? ⟨gp, m * 89 + 88, none⟩ = false := H7.out.p.free _
        have m47 : w7.cell? ⟨gp, m * 89 + 22 + 25, none⟩ = some (.bool (((Q1 m).setB 44 true).b 47)) := (H7.out.p.cell hlt (j := 47) (by omega)).trans (by rw [upd_same]; rfl)
        have fm47 : w7.frozen? ⟨gp, m * 89 + 22 + 25, none⟩ = false := H7.out.p.free _
        have HB2 := Lib.hid (show Bst ((w7.setCell ⟨gp, m * 89 + 88, none⟩ (.int .i64 ((Q1 m).i 87))).setCell ⟨gp, m * 89 + 22 + 25, none⟩ (.bool true)).drew bx gp bb (fun j => if j < m + 1 then fixF (Q1 j) else Q1 j) ss fs from
          (Bst.cong (qs := fun j => if j < m + 1 then fixF (Q1 j) else Q1 j) (fun j hj => by
            by_cases e : j = m
            · rw [e, upd_same, if_pos (Nat.lt_succ_self _)]
              rfl
            · rw [upd_other _ _ e]
              by_cases h : j < m
              · rw [if_pos h, if_pos (by omega)]
              · rw [if_neg h, if_neg (by omega)]) ((H7.out.put (j := 88) (by omega) (rowP_put_88 _ ((Q1 m).i 87))).put (j := 47) (by omega) (rowP_put_47 _ true))).below (Below.refl _ _).drew)
        have HO2 := Lib.hid (show Only (· = gp) wx ((w7.setCell ⟨gp, m * 89 + 88, none⟩ (.int .i64 ((Q1 m).i 87))).setCell ⟨gp, m * 89 + 22 + 25, none⟩ (.bool true)).drew from ((HO7.out.setCell (Or.inl rfl) _).setCell (Or.inl rfl) _).drew)
        go_still_tail 11, (by kernel_rfl)
        change wpList _ _ _ _ _ w7.drew
        go_wp2_with fail
        exact ⟨⟨m + 1, by omega, rfl, HB2, HO2⟩, by simp [intOf]; omega⟩
      · have dl : decide ((m : Int) < bb.n) = false := decide_eq_false (by omega)
        obtain rfl : m = bb.n := by omega
        have HZ := Lib.hid (Bst.cong (qs := fun j => fixF (Q1 j)) (fun j hj => by rw [if_pos hj]) hPm.out)
        have HOZ := hO
        have F2 := Lib.hid (second_agrees bb k (fun j => fixF (Q1 j)) (fun j _ => fixed (Q1 j)) rfl (show (Q1 k).b 50 = false from HQ.out.2.2.1) rfl (show (Q1 k).i 19 = 2 from HQ.out.2.2.2.1) (show (Q1 k).b 33 = false from HQ.out.2.1) (show (Q1 k).b 22 = false from HQ.out.2.2.2.2))
        clear hPm hO hm0
        go_wp2_with fail
        refine (step_ps _ bx gp k bb (fun j => fixF (Q1 j)) ss fs HZ.out hkb HTO.out hn1000).mono ?_
        rintro e w52 ⟨rfl, hX2, hO2⟩
        rw [F2.out] at hX2 ⊢
        have HX2 := Lib.hid (show Bst w52 bx gp bb (upd (fun j => fixF (Q1 j)) k ((agreeF (fixF (Q1 k))).setB 46 false)) ss fs from hX2)
        have HA2 := Lib.hid (HOZ.out.trans hO2)
        have d172 := hX2.c17
        clear hX2 hO2
        have hr : w52.rangeAt gp (k * 89) (rowP ((agreeF (fixF (Q1 k))).setB 46 false)).toList := by
          have := HX2.out.p.range hkb
          rw [upd_same] at this
          exact this
        clear r17
        go_upto_region 30 with (first | (refine wpList_row rfl 51 _ rfl gp (k * 89) rfl (rowP ((agreeF (fixF (Q1 k))).setB 46 false)) _ hr Try.underlying51 rfl (sizeP _) ?_; simp only [Act.put, List.setIfInBounds_toArray, List.set_cons_zero, List.set_cons_succ]) | (refine wpList_store_new rfl 51 _ _ rfl w52 (rowP zeroR) 51 _ rfl rfl rfl (sizeP _) rfl (rowP_one _) ?_; simp only [Act.put]) | fail)
        refine ((?_ : ∀ x, x = w52.alloc (.cells (rowP ((agreeF (fixF (Q1 k))).setB 46 false)) 51) → Code.wp _ _ _ _ x) _ rfl)
        intro w8 hw8
        have hv : w8.heap[w52.heap.size]? = some (.cells (rowP ((agreeF (fixF (Q1 k))).setB 46 false)) 51 (0, 0)) := by rw [hw8]; exact heap_alloc_new _ _
        have hb8 : Below w52.heap.size w52 w8 := by rw [hw8]; exact more (Below.refl _ _) _
        have HO8 := Lib.hid (HA2.out.trans (Only.of_below hb8))
        have u22 : w8.cell? ⟨w52.heap.size, 22, none⟩ = some (.bool true) := cells_of hv 22
        have u31 : w8.cell? ⟨w52.heap.size, 22 + 9, none⟩ = some (.bool true) := cells_of hv 31
        have u46 : w8.cell? ⟨w52.heap.size, 22 + 24, none⟩ = some (.bool false) := cells_of hv 46
        clear hw8 hv hb8 hr d172
        go_wp2_with fail
        go_ret
        exact ⟨rfl, HWX.out.trans (HO8.out.below HWX.out.size (fun k hk => by omega))⟩
end Go.Proofs.Ytdangeefecdbaaa.Br
