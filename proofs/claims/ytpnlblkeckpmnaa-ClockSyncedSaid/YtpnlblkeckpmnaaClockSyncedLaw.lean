/- Law ClockSynced of chapter 8: the walk joined with the plain law. -/
import Derived.Test.YtpnlblkeckpmnaaCk12
import Derived.Test.YtpnlblkeckpmnaaCk13
import Derived.Test.YtpnlblkeckpmnaaOpen
set_option linter.unusedSimpArgs false
namespace Go.Proofs.Ytpnlblkeckpmnaa.Br
open Go.RowKit
theorem at_17 (b : Bri) (gp cp go co gf cf : Nat) : (rowB (b.at gp cp go co gf cf))[17]? = some (.slice (some ⟨gp, 0, none⟩) b.n cp) := rfl
theorem row_old {W : World} {g B : Nat} {C : Array Value} {T : TypeId} {fr : Nat × Nat} (h : W.heap[g]? = some (.cells C T fr)) (hB : g < B) (z : Old B W) : z.w.rangeAt g 0 C.toList := fun j v hv => by
  rw [Nat.zero_add, cells_of ((z.h.block g hB).trans h) j]
  simpa using hv
attribute [local go_sem] zeroBr at_17
theorem synced_1 (ps : Nat → Rec) (n : Nat) : anyR (fun j => unsynced ((fun j => (((ps j).setB 44 true).setB 47 true).setI 88 ((ps j).i 87)) j)) n = false := anyR_no fun j _ => by
  unfold unsynced
  simp [Rec.setI_i, Rec.setB_b, Rec.setI_b, Rec.setB_i]
theorem synced_2 (ps : Nat → Rec) (k n : Nat) (h : (ps k).i 87 = 3) : anyR (fun j => unsynced (upd (fun j => (((ps j).setB 44 true).setB 47 true).setI 88 ((ps j).i 87)) k (((((ps k).setB 44 true).setB 47 true).setI 88 ((ps k).i 87)).setB 47 false) j)) n = false := anyR_no fun j _ => by
  by_cases e : j = k
  · subst e
    rw [upd_same]
    unfold unsynced
    simp [Rec.setI_i, Rec.setB_b, Rec.setI_b, Rec.setB_i, h]
  · rw [upd_other _ _ e]
    unfold unsynced
    simp [Rec.setI_i, Rec.setB_b, Rec.setI_b, Rec.setB_i]
theorem synced_3 (ps : Nat → Rec) (k n : Nat) (hk : k < n) (h : (ps k).i 87 ≠ 3) : anyR (fun j => unsynced (upd (fun j => (((ps j).setB 44 true).setB 47 true).setI 88 ((ps j).i 87)) k (((((ps k).setB 44 true).setB 47 true).setI 88 ((ps k).i 87)).setB 47 false) j)) n = true := anyR_yes hk (by
  rw [upd_same]
  unfold unsynced
  simp [Rec.setI_i, Rec.setB_b, Rec.setI_b, Rec.setB_i, h])
theorem synced_4 (ps : Nat → Rec) (k n : Nat) (hk : k < n) : anyR (fun j => unsynced (upd (fun j => (((ps j).setB 44 true).setB 47 true).setI 88 ((ps j).i 87)) k (((((((ps k).setB 44 true).setB 47 true).setI 88 ((ps k).i 87)).setB 47 false).setB 47 true).setB 44 false) j)) n = true := anyR_yes hk (by
  rw [upd_same]
  unfold unsynced
  simp [Rec.setI_i, Rec.setB_b, Rec.setI_b, Rec.setB_i])
set_option maxRecDepth 100000 in
set_option maxHeartbeats 8000000 in
theorem synced_law_any (b : Bri) (ps ss : Nat → Rec) (fs : Nat → Int) (w : World) (i : Nat) (hi : i ≤ 255) (h : Reads0 w b ps ss fs) :
    Calls Try.prog 7 #[.agg (rowB b), .int .u8 i] w fun e w' => e = .returned (.bool true) ∧ Below w.heap.size w w' := by
  have HR := Lib.hid h
  clear h
  go_enter Try.func7, Try.ntmps7
  go_wp2_with fail
  refine (awake_any _).mono ?_
  rintro e w1 ⟨rfl, hb1⟩
  have HB : Hid (w1.heap[w.heap.size]? = some (.cells (rowB b) 33 (0, 0))) := (hb1.block _ (by simp)).trans (at_new rfl)
  have HW1 := Lib.hid (andthen (more (Below.refl w.heap.size w) _) hb1)
  clear hb1
  go_wp2_with (first | (refine loadB rfl rfl _ rfl w.heap.size rfl b HB.out ?_; simp only [Act.put, List.setIfInBounds_toArray, List.set_cons_zero, List.set_cons_succ]) | fail)
  refine (few_any b ps _ (HR.out.below HW1.out).p).mono ?_
  rintro e w2 ⟨r, rfl, hr, hb2⟩
  have HB' : Hid (w2.heap[w.heap.size]? = some (.cells (rowB b) 33 (0, 0))) := (hb2.block _ (Array.getElem?_eq_some_iff.1 HB.out).1).trans HB.out
  have HW2 := Lib.hid (andthen HW1.out hb2)
  have Hr := Lib.hid hr
  clear hb2 hr HB HW1
  cases r
  · go_wp2_with fail
    go_ret
    exact ⟨rfl, HW2.out⟩
  have HL := Lib.hid (Hr.out rfl)
  clear Hr
  have HB := HB'
  clear HB'
  have hn1 : 0 < b.n := HL.out.2.1
  have hn8 : b.n ≤ 8 := HL.out.2.2.1
  go_wp2_with (first | (refine loadB rfl rfl _ rfl w.heap.size rfl b HB.out ?_; simp only [Act.put, List.setIfInBounds_toArray, List.set_cons_zero, List.set_cons_succ]) | fail)
  refine (at_any b i _ hi hn1 hn8).mono ?_
  rintro e w3 ⟨rfl, hb3⟩
  have HB' : Hid (w3.heap[w.heap.size]? = some (.cells (rowB b) 33 (0, 0))) := (hb3.block _ (Array.getElem?_eq_some_iff.1 HB.out).1).trans HB.out
  have HW3 := Lib.hid (andthen HW2.out hb3)
  clear hb3 HB HW2
  have HB := HB'
  clear HB'
  obtain ⟨k, hk⟩ : ∃ k, k = i % b.n := ⟨_, rfl⟩
  have hkn : k < b.n := by rw [hk]; exact Nat.mod_lt _ hn1
  rw [← hk]
  have Hk := Lib.hid hk
  clear hk
  go_wp2_with (first | (refine loadB rfl rfl _ rfl w.heap.size rfl b HB.out ?_; simp only [Act.put, List.setIfInBounds_toArray, List.set_cons_zero, List.set_cons_succ]) | fail)
  refine (clone_any b ps ss fs _ ((HR.out.below HW3.out).looked HL.out)).mono ?_
  rintro e w4 ⟨gp, cp, go, co, gf, cf, rfl, hp1, hp2, hp3, op, os, of, hb⟩
  go_upto_region 7 with (first | (refine wpList_store_at rfl 33 _ _ rfl _ (rowB zeroBri) 33 (rowB (b.at gp cp go co gf cf)) _ rfl rfl rfl rfl (sizeB _) rfl (rowB_one _) ?_; simp only [Act.put]) | fail)
  refine ((?_ : ∀ x, x = w4.alloc (.cells (rowB (b.at gp cp go co gf cf)) 33) → Code.wp _ _ _ _ x) _ rfl)
  intro wx hwx
  obtain ⟨bx, hbx⟩ : ∃ x, x = w4.heap.size := ⟨_, rfl⟩
  have l1 := op.lt
  have hlt3 := (Array.getElem?_eq_some_iff.1 HB.out).1
  have HX := Lib.hid (show wx.heap[bx]? = some (.cells (rowB (b.at gp cp go co gf cf)) 33 (0, 0)) by rw [hwx, hbx]; exact heap_alloc_new _ _)
  have HP := Lib.hid (show Ports wx gp b.n ps by rw [hwx]; exact op.ports.alloc _)
  have hwx' : Below w4.heap.size w4 wx := by rw [hwx]; exact more (Below.refl _ _) _
  have HWX := Lib.hid (andthen (andthen HW3.out hb) hwx')
  have HBX := Lib.hid ((hwx'.block _ (Nat.lt_of_lt_of_le hlt3 hb.size)).trans ((hb.block _ hlt3).trans HB.out))
  have hgx : gp < bx := by omega
  have nbg : ¬ bx = gp := by omega
  have ngb : ¬ gp = bx := by omega
  have hwg : w.heap.size < gp := by omega
  have hbxl : bx < wx.heap.size := (Array.getElem?_eq_some_iff.1 HX.out).1
  have hs4 : Hid (View wx (some ⟨go, 0, none⟩) 18 b.no fun k j => cellS (ss k) j) := os.view.below hwx'
  have hf4 : Hid (View wx (some ⟨gf, 0, none⟩) 1 b.nf fun k _ => .int .i64 (fs k)) := of.view.below hwx'
  have hgo := os.lt
  have hgf := of.lt
  rw [← hbx]
  clear op os of hb HB hwx hwx' hbx l1 hlt3
  have b17 : wx.cell? ⟨bx, 17, none⟩ = some (.slice (some ⟨gp, 0, none⟩) b.n cp) := cells_of HX.out 17
  have hwl : w.heap.size < wx.heap.size := by omega
  go_wp2_with fail
  go_loopw [9] (fun i wr => ∃ m : Nat, m ≤ b.n ∧ i = .int .i64 m ∧ Hid (Ports wr gp b.n (fun j => if j < m then (((ps j).setB 44 true).setB 47 true).setI 88 ((ps j).i 87) else ps j)) ∧ Hid (Only (· = gp) wx wr)) (fun i _ => b.n - (intOf i).toNat)
  case atStart => exact ⟨0, by omega, rfl, Lib.hid (Ports.cong2 (fun j _ => by simp) HP.out), Lib.hid (Only.refl _ _)⟩
  case round =>
    obtain ⟨m, hm, rfl, hPm, hO⟩ := hrel
    have hm0 : (0 : Int) ≤ m := by omega
    have r17 : wr.cell? ⟨bx, 17, none⟩ = some (.slice (some ⟨gp, 0, none⟩) b.n cp) := (hO.out.cell (p := ⟨bx, 17, none⟩) hbxl (by show ¬ bx = gp; omega)).trans b17
    clear b17
    by_cases hlt : m < b.n
    · have dl : decide ((m : Int) < b.n) = true := decide_eq_true (by omega)
      have hm1 : (m : Int) < b.n := by omega
      have hwm : IntKind.i64.wrap ((m : Int) + 1) = (m + 1 : Nat) := by unfold IntKind.wrap; simp [IntKind.signed, IntKind.bits]; omega
      have c44 : wr.cell? ⟨gp, m * 89 + 22 + 22, none⟩ = some (.bool ((ps m).b 44)) := (hPm.out.cell hlt (j := 44) (by omega)).trans (by rw [if_neg (Nat.lt_irrefl _)]; rfl)
      have f44 : wr.frozen? ⟨gp, m * 89 + 22 + 22, none⟩ = false := hPm.out.free _
      have c47 : wr.cell? ⟨gp, m * 89 + 22 + 25, none⟩ = some (.bool ((ps m).b 47)) := (hPm.out.cell hlt (j := 47) (by omega)).trans (by rw [if_neg (Nat.lt_irrefl _)]; rfl)
      have f47 : wr.frozen? ⟨gp, m * 89 + 22 + 25, none⟩ = false := hPm.out.free _
      go_upto_region 12 with (fail)
      refine ((?_ : ∀ x, x = (wr.setCell ⟨gp, m * 89 + 22 + 22, none⟩ (.bool true)).setCell ⟨gp, m * 89 + 22 + 25, none⟩ (.bool true) → Code.wp _ _ _ _ x) _ rfl)
      intro wq hwq
      have HPq := Lib.hid (show Ports wq gp b.n (upd (fun j => if j < m then (((ps j).setB 44 true).setB 47 true).setI 88 ((ps j).i 87) else ps j) m (((ps m).setB 44 true).setB 47 true)) by rw [hwq]; exact ((hPm.out.start m).step (j := 44) (by omega) (by rw [if_neg (Nat.lt_irrefl _)]; exact rowP_put_44 _ _)).step (j := 47) (by omega) (rowP_put_47 _ _))
      have HOq := Lib.hid (show Only (· = gp) wx wq by rw [hwq]; exact (hO.out.setCell (Or.inl rfl) _).setCell (Or.inl rfl) _)
      have q17 : wq.cell? ⟨bx, 17, none⟩ = some (.slice (some ⟨gp, 0, none⟩) b.n cp) := (HOq.out.cell (p := ⟨bx, 17, none⟩) hbxl (by show ¬ bx = gp; omega)).trans (cells_of HX.out 17)
      have c87 : wq.cell? ⟨gp, m * 89 + 87, none⟩ = some (.int .i64 ((ps m).i 87)) := (HPq.out.cell hlt (j := 87) (by omega)).trans (by rw [upd_same]; rfl)
      have c88 : wq.cell? ⟨gp, m * 89 + 88, none⟩ = some (.int .i64 ((ps m).i 88)) := (HPq.out.cell hlt (j := 88) (by omega)).trans (by rw [upd_same]; rfl)
      have f88 : wq.frozen? ⟨gp, m * 89 + 88, none⟩ = false := HPq.out.free _
      clear hwq c44 f44 c47 f47 r17
      go_wp2_with fail
      go_still_tail 11, (by kernel_rfl)
      change wpList _ _ _ _ _ (World.drew _)
      go_wp2_with fail
      exact ⟨⟨m + 1, by omega, rfl, Lib.hid (Ports.cong2 (ps := upd (fun j => if j < m then (((ps j).setB 44 true).setB 47 true).setI 88 ((ps j).i 87) else ps j) m ((((ps m).setB 44 true).setB 47 true).setI 88 ((ps m).i 87))) (fun j hj => by
              by_cases e : j = m
              · subst e
                rw [upd_same, if_pos (Nat.lt_succ_self _)]
              · unfold upd
                rw [if_neg e]
                show (if j < m then (((ps j).setB 44 true).setB 47 true).setI 88 ((ps j).i 87) else ps j) = _
                by_cases h : j < m
                · rw [if_pos h, if_pos (by omega)]
                · rw [if_neg h, if_neg (by omega)]) ((HPq.out.drew).step (j := 88) (by omega) (rowP_put_88 _ _))), Lib.hid ((HOq.out.drew).setCell (Or.inl rfl) _)⟩, by simp [intOf]; omega⟩
    · have dl : decide ((m : Int) < b.n) = false := decide_eq_false (by omega)
      obtain rfl : m = b.n := by omega
      have HPz := Lib.hid (Ports.cong2 (qs := fun j => (((ps j).setB 44 true).setB 47 true).setI 88 ((ps j).i 87)) (fun j hj => by simp [hj]) hPm.out)
      have HBr := Lib.hid ((hO.out.block _ hwl (by omega)).trans HBX.out)
      have HXr := Lib.hid ((hO.out.block _ hbxl (by omega)).trans HX.out)
      have HWr := Lib.hid (HWX.out.trans (hO.out.below (B := w.heap.size) HWX.out.size (fun x hx => by omega)))
      have hsr := hO.out.size
      clear hPm hO HP
      have HPr := HPz
      clear HPz
      go_wp2_with (first | (refine loadB rfl rfl _ rfl bx rfl (b.at gp cp go co gf cf) HXr.out ?_; simp only [Act.put, List.setIfInBounds_toArray, List.set_cons_zero, List.set_cons_succ]) | fail)
      refine (synced_any (b.at gp cp go co gf cf) _ wr HPr.out.view (by show b.n ≤ 1000; omega)).mono ?_
      rw [synced_1]
      rintro e w6 ⟨rfl, hb6⟩
      have HX6 := Lib.hid ((hb6.block _ (Array.getElem?_eq_some_iff.1 HXr.out).1).trans HXr.out)
      have HP6 := Lib.hid (HPr.out.below hb6 HPr.out.lt)
      have HW6 := Lib.hid (HWr.out.trans (hb6.mono HWr.out.size))
      clear hb6
      have e17 : w6.cell? ⟨bx, 17, none⟩ = some (.slice (some ⟨gp, 0, none⟩) b.n cp) := cells_of HX6.out 17
      have c47 : w6.cell? ⟨gp, k * 89 + 22 + 25, none⟩ = some (.bool true) := HP6.out.cell hkn (j := 47) (by omega)
      have f47 : w6.frozen? ⟨gp, k * 89 + 22 + 25, none⟩ = false := HP6.out.free _
      have hk0 : (0 : Int) ≤ k := by omega
      have hk1 : (k : Int) < b.n := by omega
      go_upto_region 15 with (fail)
      refine ((?_ : ∀ x, x = w6.setCell ⟨gp, k * 89 + 22 + 25, none⟩ (.bool false) → Code.wp _ _ _ _ x) _ rfl)
      intro w7 hw7
      have HX7 := Lib.hid (show w7.heap[bx]? = some (.cells (rowB (b.at gp cp go co gf cf)) 33 (0, 0)) by rw [hw7]; exact at_far (by show bx ≠ gp; omega) HX6.out)
      have HP7 := Lib.hid (show Ports w7 gp b.n (upd (fun j => (((ps j).setB 44 true).setB 47 true).setI 88 ((ps j).i 87)) k (((((ps k).setB 44 true).setB 47 true).setI 88 ((ps k).i 87)).setB 47 false)) by rw [hw7]; exact (HP6.out.start k).step (j := 47) (by omega) (rowP_put_47 _ _))
      have HW7 := Lib.hid (HW6.out.trans (show Below w.heap.size w6 w7 by rw [hw7]; exact ((Only.refl (· = gp) w6).setCell (Or.inl rfl) _).below HW6.out.size (fun x hx => by omega)))
      clear hw7 c47 f47 e17
      obtain ⟨vv, hvv⟩ : ∃ x, x = anyR (fun j => unsynced (upd (fun j => (((ps j).setB 44 true).setB 47 true).setI 88 ((ps j).i 87)) k (((((ps k).setB 44 true).setB 47 true).setI 88 ((ps k).i 87)).setB 47 false) j)) b.n := ⟨_, rfl⟩
      have hvr : vv = !((ps k).i 87 == 3) := by
        rw [hvv]
        by_cases h3 : (ps k).i 87 = 3
        · rw [synced_2 ps k _ h3, h3]; rfl
        · rw [synced_3 ps k _ hkn h3]; simp [h3]
      have Hvv := Lib.hid hvv
      have Hvr := Lib.hid hvr
      clear hvv hvr
      go_wp2_with (first | (refine loadB rfl rfl _ rfl bx rfl (b.at gp cp go co gf cf) HX7.out ?_; simp only [Act.put, List.setIfInBounds_toArray, List.set_cons_zero, List.set_cons_succ]) | fail)
      refine (synced_any (b.at gp cp go co gf cf) _ w7 HP7.out.view (by show b.n ≤ 1000; omega)).mono ?_
      rw [show (b.at gp cp go co gf cf).n = b.n from rfl, ← Hvv.out]
      rintro e w8 ⟨rfl, hb8⟩
      have HX8 := Lib.hid ((hb8.block _ (Array.getElem?_eq_some_iff.1 HX7.out).1).trans HX7.out)
      have HP8 := Lib.hid (HP7.out.below hb8 HP7.out.lt)
      have HW8 := Lib.hid (HW7.out.trans (hb8.mono HW7.out.size))
      clear hb8
      have e17 : w8.cell? ⟨bx, 17, none⟩ = some (.slice (some ⟨gp, 0, none⟩) b.n cp) := cells_of HX8.out 17
      have c47 : w8.cell? ⟨gp, k * 89 + 22 + 25, none⟩ = some (.bool false) := (HP8.out.cell hkn (j := 47) (by omega)).trans (by rw [upd_same]; rfl)
      have f47 : w8.frozen? ⟨gp, k * 89 + 22 + 25, none⟩ = false := HP8.out.free _
      have c44 : w8.cell? ⟨gp, k * 89 + 22 + 22, none⟩ = some (.bool true) := (HP8.out.cell hkn (j := 44) (by omega)).trans (by rw [upd_same]; rfl)
      have f44 : w8.frozen? ⟨gp, k * 89 + 22 + 22, none⟩ = false := HP8.out.free _
      go_upto_region 18 with (fail)
      refine ((?_ : ∀ x, x = (w8.setCell ⟨gp, k * 89 + 22 + 25, none⟩ (.bool true)).setCell ⟨gp, k * 89 + 22 + 22, none⟩ (.bool false) → Code.wp _ _ _ _ x) _ rfl)
      intro w9 hw9
      have HX9 := Lib.hid (show w9.heap[bx]? = some (.cells (rowB (b.at gp cp go co gf cf)) 33 (0, 0)) by rw [hw9]; exact at_far (by show bx ≠ gp; omega) (at_far (by show bx ≠ gp; omega) HX8.out))
      have HP9 := Lib.hid (show Ports w9 gp b.n (upd (fun j => (((ps j).setB 44 true).setB 47 true).setI 88 ((ps j).i 87)) k (((((((ps k).setB 44 true).setB 47 true).setI 88 ((ps k).i 87)).setB 47 false).setB 47 true).setB 44 false)) by rw [hw9]; exact (HP8.out.step (j := 47) (by omega) (rowP_put_47 _ _)).step (j := 44) (by omega) (rowP_put_44 _ _))
      have HW9 := Lib.hid (HW8.out.trans (show Below w.heap.size w8 w9 by rw [hw9]; exact (((Only.refl (· = gp) w8).setCell (Or.inl rfl) _).setCell (Or.inl rfl) _).below HW8.out.size (fun x hx => by omega)))
      clear hw9 c47 f47 c44 f44 e17
      have e17 : w9.cell? ⟨bx, 17, none⟩ = some (.slice (some ⟨gp, 0, none⟩) b.n cp) := cells_of HX9.out 17
      have c87 : w9.cell? ⟨gp, k * 89 + 87, none⟩ = some (.int .i64 ((ps k).i 87)) := (HP9.out.cell hkn (j := 87) (by omega)).trans (by rw [upd_same]; rfl)
      have hvr := Hvr.out
      cases h3 : ((ps k).i 87 == 3) <;> rw [h3] at hvr <;> subst hvr
      all_goals
        clear Hvv Hvr
        go_wp2_with (first | (refine loadBg rfl (by rfl) _ rfl bx rfl (b.at gp cp go co gf cf) HX9.out ?_; simp only [Act.put, List.setIfInBounds_toArray, List.set_cons_zero, List.set_cons_succ]) | fail)
        refine (synced_any (b.at gp cp go co gf cf) _ w9 HP9.out.view (by show b.n ≤ 1000; omega)).mono ?_
        rw [show (b.at gp cp go co gf cf).n = b.n from rfl, synced_4 ps k _ hkn]
        rintro e w10 ⟨rfl, hb10⟩
        have HW10 := Lib.hid (HW9.out.trans (hb10.mono HW9.out.size))
        clear hb10
        go_wp2_with fail
        go_ret
        exact ⟨rfl, HW10.out⟩
end Go.Proofs.Ytpnlblkeckpmnaa.Br
