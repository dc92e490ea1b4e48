/- Law ClockRooted of chapter 8: the walk joined with the plain law. -/
import Derived.Test.YtpnlblkeckpmnaaCk12
import Derived.Test.YtpnlblkeckpmnaaCk13
import Derived.Test.YtpnlblkeckpmnaaOpen
set_option linter.unusedSimpArgs false
namespace Go.Proofs.Ytpnlblkeckpmnaa.Br
open Go.RowKit
theorem at_17 (b : Bri) (gp cp go co gf cf : Nat) : (rowB (b.at gp cp go co gf cf))[17]? = some (.slice (some ⟨gp, 0, none⟩) b.n cp) := rfl
theorem row_old {W : World} {g B : Nat} {C : Array Value} {T : TypeId} {fr : Nat × Nat} (h : W.heap[g]? = some (.cells C T fr)) (hB : g < B) (z : Old B W) : z.w.rangeAt g 0 C.toList := fun j v hv => by
  rw [Nat.zero_add, cells_of ((z.h.block g hB).trans h) j]
  simpa using hv
attribute [local go_sem] zeroBr at_17
theorem rooted_1 (ps : Nat → Rec) (a n : Nat) : anyR (lately (fun j => (ps j).setI 12 0) a) n = false := anyR_no fun j _ => by
  unfold lately
  simp [Rec.setI_i]
theorem rooted_2 (ps : Nat → Rec) (a c n : Nat) (hc : c < n) (h : a ≠ c) : anyR (lately (upd (fun j => (ps j).setI 12 0) c (((ps c).setI 12 0).setI 12 5)) a) n = true := anyR_yes hc (by
  unfold lately
  rw [upd_same]
  simp [Rec.setI_i]
  omega)
theorem rooted_3 (ps : Nat → Rec) (c n : Nat) : anyR (lately (upd (fun j => (ps j).setI 12 0) c (((ps c).setI 12 0).setI 12 5)) c) n = false := anyR_no fun j _ => by
  unfold lately
  by_cases e : j = c
  · simp [e]
  · rw [upd_other _ _ e]
    simp [Rec.setI_i]
set_option maxRecDepth 100000 in
set_option maxHeartbeats 8000000 in
theorem rooted_any (b : Bri) (ps ss : Nat → Rec) (fs : Nat → Int) (w : World) (i : Nat) (hi : i ≤ 255) (j : Nat) (hj : j ≤ 255) (h : Reads0 w b ps ss fs) :
    Calls Try.prog 5 #[.agg (rowB b), .int .u8 i, .int .u8 j] w fun e w' => e = .returned (.bool true) ∧ Below w.heap.size w w' := by
  have HR := Lib.hid h
  clear h
  go_enter Try.func5, Try.ntmps5
  go_wp2_with fail
  refine (awake_any _).mono ?_
  rintro e w1 ⟨rfl, hb1⟩
  have HB : Hid (w1.heap[w.heap.size]? = some (.cells (rowB b) 33 (0, 0))) := (hb1.block _ (by simp)).trans (at_new rfl)
  have HW1 := Lib.hid (andthen (more (Below.refl w.heap.size w) _) hb1)
  clear hb1
  go_wp2_with (first | (refine loadB rfl rfl _ rfl w.heap.size rfl b HB.out ?_; simp only [Act.put, List.setIfInBounds_toArray, List.set_cons_zero, List.set_cons_succ]) | fail)
  refine (few_any b ps _ (HR.out.below HW1.out).p).mono ?_
  rintro e w2 ⟨r, rfl, hr, hb2⟩
  have HB' : Hid (w2.heap[w.heap.size]? = some (.cells (rowB b) 33 (0, 0))) := (hb2.block _ (Array.getElem?_eq_some_iff.1 HB.out).1).trans HB.out
  have HW2 := Lib.hid (andthen HW1.out hb2)
  have Hr := Lib.hid hr
  clear hb2 hr HB HW1
  cases r
  · go_wp2_with fail
    go_ret
    exact ⟨rfl, HW2.out⟩
  have HL := Lib.hid (Hr.out rfl)
  clear Hr
  have HB := HB'
  clear HB'
  have hn1 : 0 < b.n := HL.out.2.1
  have hn8 : b.n ≤ 8 := HL.out.2.2.1
  go_wp2_with (first | (refine loadB rfl rfl _ rfl w.heap.size rfl b HB.out ?_; simp only [Act.put, List.setIfInBounds_toArray, List.set_cons_zero, List.set_cons_succ]) | fail)
  refine (clone_any b ps ss fs _ ((HR.out.below HW2.out).looked HL.out)).mono ?_
  rintro e w4 ⟨gp, cp, go, co, gf, cf, rfl, hp1, hp2, hp3, op, os, of, hb⟩
  go_upto_region 6 with (first | (refine wpList_store_at rfl 33 _ _ rfl _ (rowB zeroBri) 33 (rowB (b.at gp cp go co gf cf)) _ rfl rfl rfl rfl (sizeB _) rfl (rowB_one _) ?_; simp only [Act.put]) | fail)
  refine ((?_ : ∀ x, x = w4.alloc (.cells (rowB (b.at gp cp go co gf cf)) 33) → Code.wp _ _ _ _ x) _ rfl)
  intro wx hwx
  obtain ⟨bx, hbx⟩ : ∃ x, x = w4.heap.size := ⟨_, rfl⟩
  have l1 := op.lt
  have hlt3 := (Array.getElem?_eq_some_iff.1 HB.out).1
  have HX := Lib.hid (show wx.heap[bx]? = some (.cells (rowB (b.at gp cp go co gf cf)) 33 (0, 0)) by rw [hwx, hbx]; exact heap_alloc_new _ _)
  have HP := Lib.hid (show Ports wx gp b.n ps by rw [hwx]; exact op.ports.alloc _)
  have hwx' : Below w4.heap.size w4 wx := by rw [hwx]; exact more (Below.refl _ _) _
  have HWX := Lib.hid (andthen (andthen HW2.out hb) hwx')
  have HBX := Lib.hid ((hwx'.block _ (Nat.lt_of_lt_of_le hlt3 hb.size)).trans ((hb.block _ hlt3).trans HB.out))
  have hgx : gp < bx := by omega
  have nbg : ¬ bx = gp := by omega
  have ngb : ¬ gp = bx := by omega
  have hwg : w.heap.size < gp := by omega
  have hbxl : bx < wx.heap.size := (Array.getElem?_eq_some_iff.1 HX.out).1
  have hs4 : Hid (View wx (some ⟨go, 0, none⟩) 18 b.no fun k j => cellS (ss k) j) := os.view.below hwx'
  have hf4 : Hid (View wx (some ⟨gf, 0, none⟩) 1 b.nf fun k _ => .int .i64 (fs k)) := of.view.below hwx'
  have hgo := os.lt
  have hgf := of.lt
  rw [← hbx]
  clear op os of hb HB hwx hwx' hbx l1 hlt3
  have b17 : wx.cell? ⟨bx, 17, none⟩ = some (.slice (some ⟨gp, 0, none⟩) b.n cp) := cells_of HX.out 17
  have hwl : w.heap.size < wx.heap.size := by omega
  go_wp2_with fail
  go_loopw [10] (fun i wr => ∃ m : Nat, m ≤ b.n ∧ i = .int .i64 m ∧ Hid (Ports wr gp b.n (fun j => if j < m then (ps j).setI 12 0 else ps j)) ∧ Hid (Only (· = gp) wx wr)) (fun i _ => b.n - (intOf i).toNat)
  case atStart => exact ⟨0, by omega, rfl, Lib.hid (Ports.cong2 (fun j _ => by simp) HP.out), Lib.hid (Only.refl _ _)⟩
  case round =>
    obtain ⟨m, hm, rfl, hPm, hO⟩ := hrel
    have hm0 : (0 : Int) ≤ m := by omega
    have r17 : wr.cell? ⟨bx, 17, none⟩ = some (.slice (some ⟨gp, 0, none⟩) b.n cp) := (hO.out.cell (p := ⟨bx, 17, none⟩) hbxl (by show ¬ bx = gp; omega)).trans b17
    clear b17
    by_cases hlt : m < b.n
    · have dl : decide ((m : Int) < b.n) = true := decide_eq_true (by omega)
      have hm1 : (m : Int) < b.n := by omega
      have hwm : IntKind.i64.wrap ((m : Int) + 1) = (m + 1 : Nat) := by unfold IntKind.wrap; simp [IntKind.signed, IntKind.bits]; omega
      have c12 : wr.cell? ⟨gp, m * 89 + 6 + 6, none⟩ = some (.int .i64 ((ps m).i 12)) := (hPm.out.cell hlt (j := 12) (by omega)).trans (by rw [if_neg (Nat.lt_irrefl _)]; rfl)
      have f12 : wr.frozen? ⟨gp, m * 89 + 6 + 6, none⟩ = false := hPm.out.free _
      go_wp2_with fail
      exact ⟨⟨m + 1, by omega, rfl, Lib.hid (Ports.cong2 (ps := upd (fun j => if j < m then (ps j).setI 12 0 else ps j) m ((ps m).setI 12 0)) (fun j hj => by
              by_cases e : j = m
              · subst e
                rw [upd_same, if_pos (Nat.lt_succ_self _)]
              · unfold upd
                rw [if_neg e]
                show (if j < m then (ps j).setI 12 0 else ps j) = _
                by_cases h : j < m
                · rw [if_pos h, if_pos (by omega)]
                · rw [if_neg h, if_neg (by omega)]) ((hPm.out.start m).step (j := 12) (by omega) (by rw [if_neg (Nat.lt_irrefl _)]; exact rowP_put_12 _ _))), Lib.hid (hO.out.setCell (Or.inl rfl) _)⟩, by simp [intOf]; omega⟩
    · have dl : decide ((m : Int) < b.n) = false := decide_eq_false (by omega)
      obtain rfl : m = b.n := by omega
      have HPz := Lib.hid (Ports.cong2 (qs := fun j => (ps j).setI 12 0) (fun j hj => by simp [hj]) hPm.out)
      have HBr := Lib.hid ((hO.out.block _ hwl (by omega)).trans HBX.out)
      have HXr := Lib.hid ((hO.out.block _ hbxl (by omega)).trans HX.out)
      have HWr := Lib.hid (HWX.out.trans (hO.out.below (B := w.heap.size) HWX.out.size (fun x hx => by omega)))
      have hsr := hO.out.size
      clear hPm hO HP
      have HPr := HPz
      clear HPz
      go_wp2_with (first | (refine loadB rfl rfl _ rfl w.heap.size rfl (b) HBr.out ?_; simp only [Act.put, List.setIfInBounds_toArray, List.set_cons_zero, List.set_cons_succ]) | fail)
      refine (at_any b i _ hi hn1 hn8).mono ?_
      rintro e w6 ⟨rfl, hb6⟩
      have HX6 := Lib.hid ((hb6.block _ (Array.getElem?_eq_some_iff.1 HXr.out).1).trans HXr.out)
      have HB6 := Lib.hid ((hb6.block _ (Array.getElem?_eq_some_iff.1 HBr.out).1).trans HBr.out)
      have HP6 := Lib.hid (HPr.out.below hb6 HPr.out.lt)
      have HW6 := Lib.hid (HWr.out.trans (hb6.mono HWr.out.size))
      clear hb6
      obtain ⟨a, ha⟩ : ∃ a, a = i % b.n := ⟨_, rfl⟩
      have han : a < b.n := by rw [ha]; exact Nat.mod_lt _ hn1
      rw [← ha]
      clear ha
      go_wp2_with (first | (refine loadB rfl rfl _ rfl w.heap.size rfl (b) HB6.out ?_; simp only [Act.put, List.setIfInBounds_toArray, List.set_cons_zero, List.set_cons_succ]) | fail)
      refine (at_any b j _ hj hn1 hn8).mono ?_
      rintro e w7 ⟨rfl, hb7⟩
      have HX7 := Lib.hid ((hb7.block _ (Array.getElem?_eq_some_iff.1 HX6.out).1).trans HX6.out)
      have HP7 := Lib.hid (HP6.out.below hb7 HP6.out.lt)
      have HW7 := Lib.hid (HW6.out.trans (hb7.mono HW6.out.size))
      clear hb7
      obtain ⟨c, hc⟩ : ∃ c, c = j % b.n := ⟨_, rfl⟩
      have hcn : c < b.n := by rw [hc]; exact Nat.mod_lt _ hn1
      rw [← hc]
      clear hc
      go_wp2_with (first | (refine loadB rfl rfl _ rfl bx rfl (b.at gp cp go co gf cf) HX7.out ?_; simp only [Act.put, List.setIfInBounds_toArray, List.set_cons_zero, List.set_cons_succ]) | fail)
      refine (rerooted_any (b.at gp cp go co gf cf) _ a w7 HP7.out.view (by show b.n ≤ 1000; omega)).mono ?_
      rw [rooted_1]
      rintro e w8 ⟨rfl, hb8⟩
      have HX8 := Lib.hid ((hb8.block _ (Array.getElem?_eq_some_iff.1 HX7.out).1).trans HX7.out)
      have HP8 := Lib.hid (HP7.out.below hb8 HP7.out.lt)
      have HW8 := Lib.hid (HW7.out.trans (hb8.mono HW7.out.size))
      clear hb8
      have e17 : w8.cell? ⟨bx, 17, none⟩ = some (.slice (some ⟨gp, 0, none⟩) b.n cp) := cells_of HX8.out 17
      have c12 : w8.cell? ⟨gp, c * 89 + 6 + 6, none⟩ = some (.int .i64 0) := HP8.out.cell hcn (j := 12) (by omega)
      have f12 : w8.frozen? ⟨gp, c * 89 + 6 + 6, none⟩ = false := HP8.out.free _
      have hc0 : (0 : Int) ≤ c := by omega
      have hc1 : (c : Int) < b.n := by omega
      go_upto_region 14 with (fail)
      refine ((?_ : ∀ x, x = w8.setCell ⟨gp, c * 89 + 6 + 6, none⟩ (.int .i64 5) → Code.wp _ _ _ _ x) _ rfl)
      intro w9 hw9
      have HX9 := Lib.hid (show w9.heap[bx]? = some (.cells (rowB (b.at gp cp go co gf cf)) 33 (0, 0)) by rw [hw9]; exact at_far (by show bx ≠ gp; omega) HX8.out)
      have HP9 := Lib.hid (show Ports w9 gp b.n (upd (fun j => (ps j).setI 12 0) c (((ps c).setI 12 0).setI 12 5)) by rw [hw9]; exact (HP8.out.start c).step (j := 12) (by omega) (rowP_put_12 _ _))
      have HW9 := Lib.hid (HW8.out.trans (show Below w.heap.size w8 w9 by rw [hw9]; exact ((Only.refl (· = gp) w8).setCell (Or.inl rfl) _).below HW8.out.size (fun x hx => by omega)))
      clear hw9 c12 f12 e17
      by_cases hac : a = c
      · subst hac
        have da : ((a : Int) == (a : Int)) = true := by simp
        go_wp2_with (first | (refine loadBg rfl (by rfl) _ rfl bx rfl (b.at gp cp go co gf cf) HX9.out ?_; simp only [Act.put, List.setIfInBounds_toArray, List.set_cons_zero, List.set_cons_succ]) | fail)
        refine (rerooted_any (b.at gp cp go co gf cf) _ a w9 HP9.out.view (by show b.n ≤ 1000; omega)).mono ?_
        rw [rooted_3]
        rintro e w10 ⟨rfl, hb10⟩
        have HX10 := Lib.hid ((hb10.block _ (Array.getElem?_eq_some_iff.1 HX9.out).1).trans HX9.out)
        have HP10 := Lib.hid (HP9.out.below hb10 HP9.out.lt)
        have HW10 := Lib.hid (HW9.out.trans (hb10.mono HW9.out.size))
        clear hb10
        go_wp2_with (first | (refine loadBg rfl (by rfl) _ rfl bx rfl (b.at gp cp go co gf cf) HX10.out ?_; simp only [Act.put, List.setIfInBounds_toArray, List.set_cons_zero, List.set_cons_succ]) | fail)
        refine (rerooted_any (b.at gp cp go co gf cf) _ a w10 HP10.out.view (by show b.n ≤ 1000; omega)).mono ?_
        rw [rooted_3]
        rintro e w11 ⟨rfl, hb11⟩
        have HW11 := Lib.hid (HW10.out.trans (hb11.mono HW10.out.size))
        clear hb11
        go_wp2_with fail
        go_ret
        exact ⟨rfl, HW11.out⟩
      · have da : ((a : Int) == (c : Int)) = false := by simp; omega
        go_wp2_with (first | (refine loadBg rfl (by rfl) _ rfl bx rfl (b.at gp cp go co gf cf) HX9.out ?_; simp only [Act.put, List.setIfInBounds_toArray, List.set_cons_zero, List.set_cons_succ]) | fail)
        refine (rerooted_any (b.at gp cp go co gf cf) _ a w9 HP9.out.view (by show b.n ≤ 1000; omega)).mono ?_
        rw [show (b.at gp cp go co gf cf).n = b.n from rfl, rooted_2 ps a c _ hcn hac]
        rintro e w10 ⟨rfl, hb10⟩
        have HX10 := Lib.hid ((hb10.block _ (Array.getElem?_eq_some_iff.1 HX9.out).1).trans HX9.out)
        have HP10 := Lib.hid (HP9.out.below hb10 HP9.out.lt)
        have HW10 := Lib.hid (HW9.out.trans (hb10.mono HW9.out.size))
        clear hb10
        go_wp2_with (first | (refine loadBg rfl (by rfl) _ rfl bx rfl (b.at gp cp go co gf cf) HX10.out ?_; simp only [Act.put, List.setIfInBounds_toArray, List.set_cons_zero, List.set_cons_succ]) | fail)
        refine (rerooted_any (b.at gp cp go co gf cf) _ c w10 HP10.out.view (by show b.n ≤ 1000; omega)).mono ?_
        rw [rooted_3]
        rintro e w11 ⟨rfl, hb11⟩
        have HW11 := Lib.hid (HW10.out.trans (hb11.mono HW10.out.size))
        clear hb11
        go_wp2_with fail
        go_ret
        exact ⟨rfl, HW11.out⟩
end Go.Proofs.Ytpnlblkeckpmnaa.Br
