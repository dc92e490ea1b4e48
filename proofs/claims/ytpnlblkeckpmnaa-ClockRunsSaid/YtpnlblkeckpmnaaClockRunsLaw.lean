/- Law ClockRuns of chapter 8: the walk joined with the plain law. -/
import Derived.Test.YtpnlblkeckpmnaaCk12
import Derived.Test.YtpnlblkeckpmnaaCk13
import Derived.Test.YtpnlblkeckpmnaaOpen
import Derived.StillTailTactics
import Derived.BigQuiet
import Derived.Deep.RegionHeld
set_option linter.unusedSimpArgs false
namespace Go.Proofs.Ytpnlblkeckpmnaa.Br
open Go.RowKit
theorem at_17 (b : Bri) (gp cp go co gf cf : Nat) : (rowB (b.at gp cp go co gf cf))[17]? = some (.slice (some ⟨gp, 0, none⟩) b.n cp) := rfl
theorem row_old {W : World} {g B : Nat} {C : Array Value} {T : TypeId} {fr : Nat × Nat} (h : W.heap[g]? = some (.cells C T fr)) (hB : g < B) (z : Old B W) : z.w.rangeAt g 0 C.toList := fun j v hv => by
  rw [Nat.zero_add, cells_of ((z.h.block g hB).trans h) j]
  simpa using hv
attribute [local go_sem] zeroBr at_17
theorem row_held {W : World} {g B : Nat} {C : Array Value} {T : TypeId} {fr : Nat × Nat} (h : W.heap[g]? = some (.cells C T fr)) (hB : g < B) : ∀ w, Below B W w → w.rangeAt g 0 C.toList := fun w hw j v hv => by
  rw [Nat.zero_add, cells_of ((hw.block g hB).trans h) j]
  simpa using hv
theorem View.only {S : Nat → Prop} {w w' : World} {a : Option Addr} {sz n : Nat} {c : Nat → Nat → Value} (h : View w a sz n c) (hb : Only S w w') (hn : ∀ g o, a = some ⟨g, o, none⟩ → ¬ S g) : View w' a sz n c := by
  rcases h with h | ⟨g, o, ha, hc⟩
  · exact .inl h
  · exact .inr ⟨g, o, ha, fun k hk j hj => by rw [hb.cell (p := ⟨g, _, none⟩) (cell_lt (hc k hk j hj)) (hn g o ha)]; exact hc k hk j hj⟩
theorem Reads.at {w w' : World} {b : Bri} {ps qs ss : Nat → Rec} {fs : Nat → Int} {gp cp go co gf cf : Nat} (hr : Reads w b ps ss fs) (hp : Ports w' gp b.n qs) (hs : View w' (some ⟨go, 0, none⟩) 18 b.no fun k j => cellS (ss k) j)
    (hf : View w' (some ⟨gf, 0, none⟩) 1 b.nf fun k _ => .int .i64 (fs k)) : Reads w' (b.at gp cp go co gf cf) qs ss fs :=
  ⟨.inr ⟨gp, 0, rfl, fun k hk j hj => by rw [Nat.zero_add]; exact hp.cell hk hj⟩, hs, hf, (fun h => by cases h), (fun h => by cases h), (fun h => by cases h), hr.pb, hr.sb, hr.fb⟩
theorem put_block {w : World} {g : Nat} {C : Array Value} {T : TypeId} (h : w.heap[g]? = some (.cells C T (0, 0))) (j : Nat) (v : Value) : (w.setCell ⟨g, j, none⟩ v).heap[g]? = some (.cells (C.setIfInBounds j v) T (0, 0)) := by
  simp [World.setCell, Array.getElem?_modify, h]
theorem free_block {w : World} {g : Nat} {C : Array Value} {T : TypeId} (h : w.heap[g]? = some (.cells C T (0, 0))) (j : Nat) : w.frozen? ⟨g, j, none⟩ = false := by
  simp [World.frozen?, h]
/-- A port some seconds later. -/
def tickN (m : Nat) (p : Rec) : Rec := ⟨fun j => if 6 ≤ j ∧ j < 15 then max (p.i j - m) 0 else p.i j, p.b⟩
theorem tickN_0 (p : Rec) (h : ∀ x, x < 9 → 0 ≤ p.i (6 + x) ∧ p.i (6 + x) ≤ 1000) : tickN 0 p = p := by
  unfold tickN
  have e : (fun j => if 6 ≤ j ∧ j < 15 then max (p.i j - ((0 : Nat) : Int)) 0 else p.i j) = p.i := by
    funext j
    split
    · rename_i hj
      have := h (j - 6) (by omega)
      rw [show 6 + (j - 6) = j by omega] at this
      omega
    · rfl
  rw [e]
theorem tickN_succ (m : Nat) (p : Rec) : tickF (tickN m p) = tickN (m + 1) p := by
  unfold tickF tickN
  simp only [Rec.mk.injEq, and_true]
  funext j
  split
  · omega
  · rfl
theorem tickN_i (m : Nat) (p : Rec) (j : Nat) (h : 6 ≤ j ∧ j < 15) : (tickN m p).i j = max (p.i j - m) 0 := if_pos h
theorem tickN_in {m : Nat} {p : Rec} (h : ∀ x, x < 9 → 0 ≤ p.i (6 + x) ∧ p.i (6 + x) ≤ 1000) : ∀ x, x < 9 → 0 ≤ (tickN m p).i (6 + x) ∧ (tickN m p).i (6 + x) ≤ 1000 := fun x hx => by
  have := h x hx
  rw [tickN_i m p (6 + x) (by omega)]
  omega
theorem tickN_good {b : Bri} {ps : Nat → Rec} {gp cp go co gf cf : Nat} (m : Nat) (h : Good b ps) : Good (b.at gp cp go co gf cf) (fun q => tickN m (ps q)) := by
  obtain ⟨h1, h2, h3, h4, h5, h6, h7, h8, h9⟩ := h
  exact ⟨h1, h2, h3, h4, h5, h6, h7, h8, fun k hk => ⟨tickN_in (h9 k hk).1, (h9 k hk).2⟩⟩
theorem tick_back (m : Nat) (p : Rec) : (((((((((tickN m p).setI 6 (p.i 6)).setI 7 (p.i 7)).setI 8 (p.i 8)).setI 9 (p.i 9)).setI 10 (p.i 10)).setI 11 (p.i 11)).setI 12 (p.i 12)).setI 13 (p.i 13)).setI 14 (p.i 14) = p := by
  cases p with
  | mk pi pb =>
  unfold tickN
  simp only [Rec.setI, Rec.mk.injEq, and_true]
  funext j
  by_cases h : 6 ≤ j ∧ j < 15
  · rcases (show j = 6 ∨ j = 7 ∨ j = 8 ∨ j = 9 ∨ j = 10 ∨ j = 11 ∨ j = 12 ∨ j = 13 ∨ j = 14 by omega) with rfl | rfl | rfl | rfl | rfl | rfl | rfl | rfl | rfl <;> simp
  · rw [if_neg (by omega), if_neg (by omega), if_neg (by omega), if_neg (by omega), if_neg (by omega), if_neg (by omega), if_neg (by omega), if_neg (by omega), if_neg (by omega), if_neg h]
theorem clocks_row {w : World} {g m : Nat} {q : Rec} (h : Ports w g 1 (fun _ => tickN m q)) : Ports (w.setCells g 6 (#[.int .i64 (q.i 6), .int .i64 (q.i 7), .int .i64 (q.i 8), .int .i64 (q.i 9), .int .i64 (q.i 10), .int .i64 (q.i 11), .int .i64 (q.i 12), .int .i64 (q.i 13), .int .i64 (q.i 14)] : Array Value).toList) g 1 (fun _ => q) := by
  have h0 := h.start 0
  have h1 := (((((((((h0.step (j := 6) (by omega) (rowP_put_6 _ (q.i 6))).step (j := 7) (by omega) (rowP_put_7 _ (q.i 7))).step (j := 8) (by omega) (rowP_put_8 _ (q.i 8))).step (j := 9) (by omega) (rowP_put_9 _ (q.i 9))).step (j := 10) (by omega) (rowP_put_10 _ (q.i 10))).step (j := 11) (by omega) (rowP_put_11 _ (q.i 11))).step (j := 12) (by omega) (rowP_put_12 _ (q.i 12))).step (j := 13) (by omega) (rowP_put_13 _ (q.i 13))).step (j := 14) (by omega) (rowP_put_14 _ (q.i 14)))
  rw [tick_back] at h1
  refine Ports.cong2 (ps := upd (fun _ => tickN m q) 0 q) (fun j hj => ?_) ?_
  · obtain rfl : j = 0 := by omega
    exact upd_same _ _ _
  · simpa [World.setCells] using h1
attribute [local go_sem] zeroP
set_option maxRecDepth 100000 in
set_option maxHeartbeats 8000000 in
theorem runs_any (b : Bri) (ps ss : Nat → Rec) (fs : Nat → Int) (w : World) (j : Nat) (hj : j ≤ 255)  (h : Reads0 w b ps ss fs) :
    Calls Try.prog 4 #[.agg (rowB b), .int .u8 j] w fun e w' => e = .returned (.bool true) ∧ Below w.heap.size w w' := by
  have HR := Lib.hid h
  clear h
  go_enter Try.func4, Try.ntmps4
  go_wp2_with fail
  refine (awake_any _).mono ?_
  rintro e w1 ⟨rfl, hb1⟩
  have HB : Hid (w1.heap[w.heap.size]? = some (.cells (rowB b) 33 (0, 0))) := (hb1.block _ (by simp)).trans (at_new rfl)
  have HW1 := Lib.hid (andthen (more (Below.refl w.heap.size w) _) hb1)
  clear hb1
  go_wp2_with (first | (refine loadB rfl rfl _ rfl w.heap.size rfl b HB.out ?_; simp only [Act.put, List.setIfInBounds_toArray, List.set_cons_zero, List.set_cons_succ]) | fail)
  refine (few_any b ps _ (HR.out.below HW1.out).p).mono ?_
  rintro e w2 ⟨r, rfl, hr, hb2⟩
  have HB' : Hid (w2.heap[w.heap.size]? = some (.cells (rowB b) 33 (0, 0))) := (hb2.block _ (Array.getElem?_eq_some_iff.1 HB.out).1).trans HB.out
  have HW2 := Lib.hid (andthen HW1.out hb2)
  have Hr := Lib.hid hr
  clear hb2 hr HB HW1
  cases r
  · go_wp2_with fail
    go_ret
    exact ⟨rfl, HW2.out⟩
  have HL := Lib.hid (Hr.out rfl)
  clear Hr
  have HB := HB'
  clear HB'
  have hn1 : 0 < b.n := HL.out.2.1
  have hn8 : b.n ≤ 8 := HL.out.2.2.1
  have HRng := Lib.hid (show ∀ k, k < b.n → ∀ x, x < 9 → 0 ≤ (ps k).i (6 + x) ∧ (ps k).i (6 + x) ≤ 1000 from fun k hk => (HL.out.1.2.2.2.2.2.2.2.2 k hk).1)
  go_wp2_with (first | (refine loadB rfl rfl _ rfl w.heap.size rfl b HB.out ?_; simp only [Act.put, List.setIfInBounds_toArray, List.set_cons_zero, List.set_cons_succ]) | fail)
  refine (clone_any b ps ss fs _ ((HR.out.below HW2.out).looked HL.out)).mono ?_
  rintro e w4 ⟨gp, cp, go, co, gf, cf, rfl, hp1, hp2, hp3, op, os, of, hb⟩
  go_upto_region 6 with (first | (refine wpList_store_at rfl 33 _ _ rfl _ (rowB zeroBri) 33 (rowB (b.at gp cp go co gf cf)) _ rfl rfl rfl rfl (sizeB _) rfl (rowB_one _) ?_; simp only [Act.put]) | fail)
  refine ((?_ : ∀ x, x = w4.alloc (.cells (rowB (b.at gp cp go co gf cf)) 33) → Code.wp _ _ _ _ x) _ rfl)
  intro wx hwx
  obtain ⟨bx, hbx⟩ : ∃ x, x = w4.heap.size := ⟨_, rfl⟩
  have l1 := op.lt
  have hlt3 := (Array.getElem?_eq_some_iff.1 HB.out).1
  have HX := Lib.hid (show wx.heap[bx]? = some (.cells (rowB (b.at gp cp go co gf cf)) 33 (0, 0)) by rw [hwx, hbx]; exact heap_alloc_new _ _)
  have HP := Lib.hid (show Ports wx gp b.n ps by rw [hwx]; exact op.ports.alloc _)
  have hwx' : Below w4.heap.size w4 wx := by rw [hwx]; exact more (Below.refl _ _) _
  have HWX := Lib.hid (andthen (andthen HW2.out hb) hwx')
  have HBX := Lib.hid ((hwx'.block _ (Nat.lt_of_lt_of_le hlt3 hb.size)).trans ((hb.block _ hlt3).trans HB.out))
  have hgx : gp < bx := by omega
  have nbg : ¬ bx = gp := by omega
  have ngb : ¬ gp = bx := by omega
  have hwg : w.heap.size < gp := by omega
  have hbxl : bx < wx.heap.size := (Array.getElem?_eq_some_iff.1 HX.out).1
  have hs4 : Hid (View wx (some ⟨go, 0, none⟩) 18 b.no fun k j => cellS (ss k) j) := os.view.below hwx'
  have hf4 : Hid (View wx (some ⟨gf, 0, none⟩) 1 b.nf fun k _ => .int .i64 (fs k)) := of.view.below hwx'
  have hgo : gp < go ∧ go < bx := ⟨hp2, by have := os.lt; omega⟩
  have hgf : gp < gf ∧ gf < bx := ⟨by omega, by have := of.lt; omega⟩
  rw [← hbx]
  clear op os of hb HB hwx hwx' hbx l1 hlt3
  have b17 : wx.cell? ⟨bx, 17, none⟩ = some (.slice (some ⟨gp, 0, none⟩) b.n cp) := cells_of HX.out 17
  have hwl : w.heap.size < wx.heap.size := by omega
  have hj0 : (0 : Int) ≤ j := by omega
  have hj1 : (j : Int) ≤ 255 := by omega
  go_wp2_with fail
  go_loopw [8] (fun i wr => ∃ m : Nat, m ≤ j ∧ i = .int .i64 m ∧ Hid (Ports wr gp b.n (fun q => tickN m (ps q))) ∧ Hid (Only (· = gp) wx wr)) (fun i _ => j - (intOf i).toNat)
  case atStart => exact ⟨0, by omega, rfl, Lib.hid (Ports.cong2 (fun q hq => (tickN_0 (ps q) (HRng.out q hq)).symm) HP.out), Lib.hid (Only.refl _ _)⟩
  case round =>
    obtain ⟨m, hm, rfl, hPm, hO⟩ := hrel
    have hm0 : (0 : Int) ≤ m := by omega
    have r17 : wr.cell? ⟨bx, 17, none⟩ = some (.slice (some ⟨gp, 0, none⟩) b.n cp) := (hO.out.cell (p := ⟨bx, 17, none⟩) hbxl (by show ¬ bx = gp; omega)).trans b17
    clear b17
    by_cases hlt : m < j
    · have dl : decide ((m : Int) < j) = true := decide_eq_true (by omega)
      have hwm : IntKind.i64.wrap ((m : Int) + 1) = (m + 1 : Nat) := by unfold IntKind.wrap; simp [IntKind.signed, IntKind.bits]; omega
      go_wp2_with fail
      refine (tick_any wr bx gp b.n cp _ r17 hPm.out (by omega) (by omega) (fun q hq x hx => tickN_in (HRng.out q hq) x hx)).mono ?_
      rintro e wt ⟨rfl, hpt, hot⟩
      have HPt := Lib.hid (Ports.cong2 (fun q _ => tickN_succ m (ps q)) hpt)
      have HOt := Lib.hid (hO.out.trans hot)
      clear hpt hot r17
      go_wp2_with fail
      exact ⟨⟨m + 1, by omega, rfl, HPt, HOt⟩, by simp [intOf]; omega⟩
    · have dl : decide ((m : Int) < j) = false := decide_eq_false (by omega)
      obtain rfl : m = j := by omega
      have HPr := hPm
      have HBr := Lib.hid ((hO.out.block _ hwl (by omega)).trans HBX.out)
      have HXr := Lib.hid ((hO.out.block _ hbxl (by omega)).trans HX.out)
      have HWr := Lib.hid (HWX.out.trans (hO.out.below (B := w.heap.size) HWX.out.size (fun x hx => by omega)))
      have HOr := hO
      have hsr := hO.out.size
      clear hPm hO HP
      go_wp2_with (first | (refine loadB rfl rfl _ rfl bx rfl (b.at gp cp go co gf cf) HXr.out ?_; simp only [Act.put, List.setIfInBounds_toArray, List.set_cons_zero, List.set_cons_succ]) | fail)
      refine (clockright_any (b.at gp cp go co gf cf) _ wr HPr.out.view (by show b.n ≤ 1000; omega)).mono ?_
      rw [goodB_iff.2 (tickN_good m HL.out.1)]
      rintro e w6 ⟨rfl, hb6⟩
      have HO6 := Lib.hid (HOr.out.trans (Only.of_below hb6))
      have HX6 := Lib.hid ((hb6.block _ (Array.getElem?_eq_some_iff.1 HXr.out).1).trans HXr.out)
      have HB6 := Lib.hid ((hb6.block _ (Array.getElem?_eq_some_iff.1 HBr.out).1).trans HBr.out)
      have HP6 := Lib.hid (HPr.out.below hb6 HPr.out.lt)
      have HW6 := Lib.hid (HWr.out.trans (hb6.mono HWr.out.size))
      clear hb6
      have e17 : w6.cell? ⟨bx, 17, none⟩ = some (.slice (some ⟨gp, 0, none⟩) b.n cp) := cells_of HX6.out 17
      rcases HR.out.p with h0 | ⟨g0, o0, hap, hc⟩
      · omega
      have hg0 : g0 < w.heap.size := cell_lt (hc 0 (by omega) 0 (by omega))
      have HC := Lib.hid hc
      have Hap := Lib.hid hap
      have d17 : w6.cell? ⟨w.heap.size, 17, none⟩ = some (.slice (some ⟨g0, o0, none⟩) b.n b.cp) := by rw [← hap]; exact cells_of HB6.out 17
      clear hap hc dl r17 hlt
      have dne : ((b.n : Int) != b.n) = false := by simp
      have lX := (Array.getElem?_eq_some_iff.1 HX6.out).1
      have lB := (Array.getElem?_eq_some_iff.1 HB6.out).1
      have lP := HP6.out.lt
      go_wp2_with fail
      obtain ⟨s, hs⟩ : ∃ s : Nat, s = m := ⟨_, rfl⟩
      rw [← hs] at HP6 HPr ⊢
      have hs255 : s ≤ 255 := by rw [hs]; exact hj
      clear hs
      go_loopw [9] (fun i wr => ∃ m : Nat, m ≤ b.n ∧ i = .int .i64 m ∧ Hid (Below w6.heap.size w6 wr)) (fun i _ => b.n - (intOf i).toNat)
      case atStart => exact ⟨0, by omega, rfl, Lib.hid (Below.refl _ _)⟩
      case round =>
        obtain ⟨m, hm, rfl, hWr⟩ := hrel
        have hm0 : (0 : Int) ≤ m := by omega
        have hsz := hWr.out.size
        have HXq := Lib.hid ((hWr.out.block _ lX).trans HX6.out)
        have HBq := Lib.hid ((hWr.out.block _ lB).trans HB6.out)
        have ex : wr.cell? ⟨bx, 17, none⟩ = some (.slice (some ⟨gp, 0, none⟩) b.n cp) := cells_of HXq.out 17
        have ey : wr.cell? ⟨w.heap.size, 17, none⟩ = some (.slice (some ⟨g0, o0, none⟩) b.n b.cp) := by rw [← Hap.out]; exact cells_of HBq.out 17
        clear e17 d17
        by_cases hlt : m < b.n
        · have dl : decide ((m : Int) < b.n) = true := decide_eq_true (by omega)
          have hm1 : (m : Int) < b.n := by omega
          have hwm : IntKind.i64.wrap ((m : Int) + 1) = (m + 1 : Nat) := by unfold IntKind.wrap; simp [IntKind.signed, IntKind.bits]; omega
          obtain ⟨q, hq⟩ : ∃ x, x = ps m := ⟨_, rfl⟩
          have hr : wr.rangeAt gp (m * 89) (rowP (tickN s q)).toList := by rw [hq]; exact (HP6.out.below hWr.out lP).range hlt
          have hqR := HRng.out m hlt
          rw [← hq] at hqR
          have hWw : Below w.heap.size w wr := HW6.out.trans (hWr.out.mono HW6.out.size)
          have Hq := Lib.hid hq
          have HQC := Lib.hid (show ∀ x, x < 89 → wr.cell? ⟨g0, o0 + (m * 89 + x), none⟩ = some (cellP q x) from fun x hx => by rw [hq]; exact (hWw.cell (p := ⟨g0, _, none⟩) hg0).trans (HC.out m hlt x hx))
          have HQR := Lib.hid hqR
          clear hq hqR
          go_upto_region 16 with (first | (refine wpList_row rfl 48 _ rfl gp (m * 89) rfl _ _ hr Try.underlying48 rfl (sizeP _) ?_; simp only [Act.put, List.setIfInBounds_toArray, List.set_cons_zero, List.set_cons_succ]) | (refine wpList_store_new rfl 48 _ _ rfl wr (rowP zeroR) 48 _ rfl rfl rfl (sizeP _) rfl (rowP_one _) ?_; simp only [Act.put]) | fail)
          refine ((?_ : ∀ x, x = wr.alloc (.cells (rowP (tickN s q)) 48) → Code.wp _ _ _ _ x) _ rfl)
          intro wp hwp
          obtain ⟨gr, hgr⟩ : ∃ x, x = wr.heap.size := ⟨_, rfl⟩
          have hG : wp.heap[gr]? = some (.cells (rowP (tickN s q)) 48 (0, 0)) := by rw [hwp, hgr]; exact heap_alloc_new _ _
          have hbp : Below wr.heap.size wr wp := by rw [hwp]; exact more (Below.refl _ _) _
          rw [← hgr]
          have Hgr := Lib.hid hgr
          have hgrl := (Array.getElem?_eq_some_iff.1 hG).1
          have hg0l : g0 < wp.heap.size := by omega
          have hbl : w.heap.size < wp.heap.size := by omega
          have y17 : wp.cell? ⟨w.heap.size, 17, none⟩ = some (.slice (some ⟨g0, o0, none⟩) b.n b.cp) := (hbp.cell (p := ⟨w.heap.size, 17, none⟩) (by show w.heap.size < _; omega)).trans ey
          have HK := Lib.hid (show ∀ x, x < 89 → wp.cell? ⟨g0, o0 + (m * 89 + x), none⟩ = some (cellP q x) from fun x hx => (hbp.cell (p := ⟨g0, _, none⟩) (by show g0 < _; omega)).trans (HQC.out x hx))
          have HbP := Lib.hid hbp
          have HG := Lib.hid hG
          have k7 : wp.cell? ⟨g0, o0 + m * 89 + 6 + 1, none⟩ = some (.int .i64 (q.i 7)) := by have h := HK.out 7 (by omega); rw [Nat.add_assoc, Nat.add_assoc]; exact h
          have g7 : wp.cell? ⟨gr, 6 + 1, none⟩ = some (.int .i64 ((tickN s q).i 7)) := cells_of HG.out 7
          have n7 : ((tickN s q).i 7 != max 0 (q.i 7 - s)) = false := by rw [tickN_i s q 7 (by omega), Int.max_comm]; exact bne_self_eq_false _
          have s7 : IntKind.i64.wrap (q.i 7 - s) = q.i 7 - s := by have := HQR.out 1 (by omega); unfold IntKind.wrap; simp [IntKind.signed, IntKind.bits] at this ⊢; omega
          have k13 : wp.cell? ⟨g0, o0 + m * 89 + 6 + 7, none⟩ = some (.int .i64 (q.i 13)) := by have h := HK.out 13 (by omega); rw [Nat.add_assoc, Nat.add_assoc]; exact h
          have g13 : wp.cell? ⟨gr, 6 + 7, none⟩ = some (.int .i64 ((tickN s q).i 13)) := cells_of HG.out 13
          have n13 : ((tickN s q).i 13 != max 0 (q.i 13 - s)) = false := by rw [tickN_i s q 13 (by omega), Int.max_comm]; exact bne_self_eq_false _
          have s13 : IntKind.i64.wrap (q.i 13 - s) = q.i 13 - s := by have := HQR.out 7 (by omega); unfold IntKind.wrap; simp [IntKind.signed, IntKind.bits] at this ⊢; omega
          have k14 : wp.cell? ⟨g0, o0 + m * 89 + 6 + 8, none⟩ = some (.int .i64 (q.i 14)) := by have h := HK.out 14 (by omega); rw [Nat.add_assoc, Nat.add_assoc]; exact h
          have g14 : wp.cell? ⟨gr, 6 + 8, none⟩ = some (.int .i64 ((tickN s q).i 14)) := cells_of HG.out 14
          have n14 : ((tickN s q).i 14 != max 0 (q.i 14 - s)) = false := by rw [tickN_i s q 14 (by omega), Int.max_comm]; exact bne_self_eq_false _
          have s14 : IntKind.i64.wrap (q.i 14 - s) = q.i 14 - s := by have := HQR.out 8 (by omega); unfold IntKind.wrap; simp [IntKind.signed, IntKind.bits] at this ⊢; omega
          have hwj : IntKind.i64.wrap (s : Int) = s := by unfold IntKind.wrap; simp [IntKind.signed, IntKind.bits]; omega
          clear hwp hbp hG hr hgr
          refine wp_region_held_drew (S := fun w' => Below wp.heap.size wp w') (by kernel_rfl) (Below.refl _ _).drew (fun hH => ?_)
          refine wpAnyH_take (i := 0) (v := .pointer (some ⟨gr, 6, none⟩)) rfl (by kernel_rfl) (by kernel_rfl) (by kernel_rfl) (fun _ _ _ h => h) (Or.inl ⟨by rfl, fun z _ => by simp [go_sem, execOp]⟩) hH ?_
          simp only [List.getElem_toArray, List.getElem_cons_succ, List.getElem_cons_zero, Act.put, List.setIfInBounds_toArray, List.set_cons_zero, List.set_cons_succ]
          refine wpAnyH_take (i := 1) (v := .pointer (some ⟨gr, 6 + 1, none⟩)) rfl (by kernel_rfl) (by kernel_rfl) (by kernel_rfl) (fun _ _ _ h => h) (Or.inl ⟨by rfl, fun z _ => by simp [go_sem, execOp]⟩) hH ?_
          simp only [List.getElem_toArray, List.getElem_cons_succ, List.getElem_cons_zero, Act.put, List.setIfInBounds_toArray, List.set_cons_zero, List.set_cons_succ]
          refine wpAnyH_take (i := 2) (v := .int .i64 ((tickN s q).i 7)) rfl (by kernel_rfl) (by kernel_rfl) (by kernel_rfl) (fun _ _ _ h => h) (Or.inl ⟨by rfl, fun z hz => by simp [go_sem, execOp, (show z.cell? ⟨gr, 6 + 1, none⟩ = some (.int .i64 ((tickN s q).i 7)) from (hz.cell (p := ⟨gr, 6 + 1, none⟩) hgrl).trans g7)]⟩) hH ?_
          simp only [List.getElem_toArray, List.getElem_cons_succ, List.getElem_cons_zero, Act.put, List.setIfInBounds_toArray, List.set_cons_zero, List.set_cons_succ]
          refine wpAnyH_take (i := 3) (v := .pointer (some ⟨w.heap.size, 17, none⟩)) rfl (by kernel_rfl) (by kernel_rfl) (by kernel_rfl) (fun _ _ _ h => h) (Or.inl ⟨by rfl, fun z _ => by simp [go_sem, execOp]⟩) hH ?_
          simp only [List.getElem_toArray, List.getElem_cons_succ, List.getElem_cons_zero, Act.put, List.setIfInBounds_toArray, List.set_cons_zero, List.set_cons_succ]
          refine wpAnyH_take (i := 4) (v := .slice (some ⟨g0, o0, none⟩) b.n b.cp) rfl (by kernel_rfl) (by kernel_rfl) (by kernel_rfl) (fun _ _ _ h => h) (Or.inl ⟨by rfl, fun z hz => by simp [go_sem, execOp, (show z.cell? ⟨w.heap.size, 17, none⟩ = some (.slice (some ⟨g0, o0, none⟩) b.n b.cp) from (hz.cell (p := ⟨w.heap.size, 17, none⟩) hbl).trans y17)]⟩) hH ?_
          simp only [List.getElem_toArray, List.getElem_cons_succ, List.getElem_cons_zero, Act.put, List.setIfInBounds_toArray, List.set_cons_zero, List.set_cons_succ]
          refine wpAnyH_take (i := 5) (v := .int .i64 m) rfl (by kernel_rfl) (by kernel_rfl) (by kernel_rfl) (fun _ _ _ h => h) (Or.inl ⟨by rfl, fun z _ => rfl⟩) hH ?_
          simp only [List.getElem_toArray, List.getElem_cons_succ, List.getElem_cons_zero, Act.put, List.setIfInBounds_toArray, List.set_cons_zero, List.set_cons_succ]
          refine wpAnyH_take (i := 6) (v := .pointer (some ⟨g0, o0 + m * 89, none⟩)) rfl (by kernel_rfl) (by kernel_rfl) (by kernel_rfl) (fun _ _ _ h => h) (Or.inl ⟨by rfl, fun z _ => by simp [go_sem, execOp, hm0, hm1]⟩) hH ?_
          simp only [List.getElem_toArray, List.getElem_cons_succ, List.getElem_cons_zero, Act.put, List.setIfInBounds_toArray, List.set_cons_zero, List.set_cons_succ]
          refine wpAnyH_take (i := 7) (v := .pointer (some ⟨g0, o0 + m * 89 + 6, none⟩)) rfl (by kernel_rfl) (by kernel_rfl) (by kernel_rfl) (fun _ _ _ h => h) (Or.inl ⟨by rfl, fun z _ => by simp [go_sem, execOp]⟩) hH ?_
          simp only [List.getElem_toArray, List.getElem_cons_succ, List.getElem_cons_zero, Act.put, List.setIfInBounds_toArray, List.set_cons_zero, List.set_cons_succ]
          refine wpAnyH_take (i := 8) (v := .pointer (some ⟨g0, o0 + m * 89 + 6 + 1, none⟩)) rfl (by kernel_rfl) (by kernel_rfl) (by kernel_rfl) (fun _ _ _ h => h) (Or.inl ⟨by rfl, fun z _ => by simp [go_sem, execOp]⟩) hH ?_
          simp only [List.getElem_toArray, List.getElem_cons_succ, List.getElem_cons_zero, Act.put, List.setIfInBounds_toArray, List.set_cons_zero, List.set_cons_succ]
          refine wpAnyH_take (i := 9) (v := .int .i64 (q.i 7)) rfl (by kernel_rfl) (by kernel_rfl) (by kernel_rfl) (fun _ _ _ h => h) (Or.inl ⟨by rfl, fun z hz => by simp [go_sem, execOp, (show z.cell? ⟨g0, o0 + m * 89 + 6 + 1, none⟩ = some (.int .i64 (q.i 7)) from (hz.cell (p := ⟨g0, o0 + m * 89 + 6 + 1, none⟩) hg0l).trans k7)]⟩) hH ?_
          simp only [List.getElem_toArray, List.getElem_cons_succ, List.getElem_cons_zero, Act.put, List.setIfInBounds_toArray, List.set_cons_zero, List.set_cons_succ]
          refine wpAnyH_take (i := 10) (v := .int .u8 s) rfl (by kernel_rfl) (by kernel_rfl) (by kernel_rfl) (fun _ _ _ h => h) (Or.inl ⟨by rfl, fun z _ => rfl⟩) hH ?_
          simp only [List.getElem_toArray, List.getElem_cons_succ, List.getElem_cons_zero, Act.put, List.setIfInBounds_toArray, List.set_cons_zero, List.set_cons_succ]
          refine wpAnyH_take (i := 11) (v := .int .i64 s) rfl (by kernel_rfl) (by kernel_rfl) (by kernel_rfl) (fun _ _ _ h => h) (Or.inl ⟨by rfl, fun z _ => by simp [go_sem, execOp, hwj]⟩) hH ?_
          simp only [List.getElem_toArray, List.getElem_cons_succ, List.getElem_cons_zero, Act.put, List.setIfInBounds_toArray, List.set_cons_zero, List.set_cons_succ]
          refine wpAnyH_take (i := 12) (v := .int .i64 (q.i 7 - s)) rfl (by kernel_rfl) (by kernel_rfl) (by kernel_rfl) (fun _ _ _ h => h) (Or.inl ⟨by rfl, fun z _ => by simp [go_sem, execOp, s7]⟩) hH ?_
          simp only [List.getElem_toArray, List.getElem_cons_succ, List.getElem_cons_zero, Act.put, List.setIfInBounds_toArray, List.set_cons_zero, List.set_cons_succ]
          refine wpAnyH_take (i := 13) (v := .int .i64 (max 0 (q.i 7 - s))) rfl (by kernel_rfl) (by kernel_rfl) (by kernel_rfl) (fun _ _ _ h => h) (Or.inl ⟨by rfl, fun z _ => exec_max _ _ _ _ rfl _ _ rfl rfl⟩) hH ?_
          simp only [List.getElem_toArray, List.getElem_cons_succ, List.getElem_cons_zero, Act.put, List.setIfInBounds_toArray, List.set_cons_zero, List.set_cons_succ]
          refine wpAnyH_take (i := 14) (v := .bool false) rfl (by kernel_rfl) (by kernel_rfl) (by kernel_rfl) (fun _ _ _ h => h) (Or.inl ⟨by rfl, fun z _ => by simp [go_sem, execOp, n7]⟩) hH ?_
          simp only [List.getElem_toArray, List.getElem_cons_succ, List.getElem_cons_zero, Act.put, List.setIfInBounds_toArray, List.set_cons_zero, List.set_cons_succ]
          refine wpAnyH_take (i := 15) (v := .bool false) rfl (by kernel_rfl) (by kernel_rfl) (by kernel_rfl) (fun _ _ _ h => h) (Or.inl ⟨by rfl, fun z _ => rfl⟩) hH ?_
          simp only [List.getElem_toArray, List.getElem_cons_succ, List.getElem_cons_zero, Act.put, List.setIfInBounds_toArray, List.set_cons_zero, List.set_cons_succ]
          refine wpAnyH_take (i := 16) (v := .pointer (some ⟨gr, 6, none⟩)) rfl (by kernel_rfl) (by kernel_rfl) (by kernel_rfl) (fun _ _ _ h => h) (Or.inl ⟨by rfl, fun z _ => by simp [go_sem, execOp]⟩) hH ?_
          simp only [List.getElem_toArray, List.getElem_cons_succ, List.getElem_cons_zero, Act.put, List.setIfInBounds_toArray, List.set_cons_zero, List.set_cons_succ]
          refine wpAnyH_take (i := 17) (v := .pointer (some ⟨gr, 6 + 7, none⟩)) rfl (by kernel_rfl) (by kernel_rfl) (by kernel_rfl) (fun _ _ _ h => h) (Or.inl ⟨by rfl, fun z _ => by simp [go_sem, execOp]⟩) hH ?_
          simp only [List.getElem_toArray, List.getElem_cons_succ, List.getElem_cons_zero, Act.put, List.setIfInBounds_toArray, List.set_cons_zero, List.set_cons_succ]
          refine wpAnyH_take (i := 18) (v := .int .i64 ((tickN s q).i 13)) rfl (by kernel_rfl) (by kernel_rfl) (by kernel_rfl) (fun _ _ _ h => h) (Or.inl ⟨by rfl, fun z hz => by simp [go_sem, execOp, (show z.cell? ⟨gr, 6 + 7, none⟩ = some (.int .i64 ((tickN s q).i 13)) from (hz.cell (p := ⟨gr, 6 + 7, none⟩) hgrl).trans g13)]⟩) hH ?_
          simp only [List.getElem_toArray, List.getElem_cons_succ, List.getElem_cons_zero, Act.put, List.setIfInBounds_toArray, List.set_cons_zero, List.set_cons_succ]
          refine wpAnyH_take (i := 19) (v := .pointer (some ⟨w.heap.size, 17, none⟩)) rfl (by kernel_rfl) (by kernel_rfl) (by kernel_rfl) (fun _ _ _ h => h) (Or.inl ⟨by rfl, fun z _ => by simp [go_sem, execOp]⟩) hH ?_
          simp only [List.getElem_toArray, List.getElem_cons_succ, List.getElem_cons_zero, Act.put, List.setIfInBounds_toArray, List.set_cons_zero, List.set_cons_succ]
          refine wpAnyH_take (i := 20) (v := .slice (some ⟨g0, o0, none⟩) b.n b.cp) rfl (by kernel_rfl) (by kernel_rfl) (by kernel_rfl) (fun _ _ _ h => h) (Or.inl ⟨by rfl, fun z hz => by simp [go_sem, execOp, (show z.cell? ⟨w.heap.size, 17, none⟩ = some (.slice (some ⟨g0, o0, none⟩) b.n b.cp) from (hz.cell (p := ⟨w.heap.size, 17, none⟩) hbl).trans y17)]⟩) hH ?_
          simp only [List.getElem_toArray, List.getElem_cons_succ, List.getElem_cons_zero, Act.put, List.setIfInBounds_toArray, List.set_cons_zero, List.set_cons_succ]
          refine wpAnyH_take (i := 21) (v := .int .i64 m) rfl (by kernel_rfl) (by kernel_rfl) (by kernel_rfl) (fun _ _ _ h => h) (Or.inl ⟨by rfl, fun z _ => rfl⟩) hH ?_
          simp only [List.getElem_toArray, List.getElem_cons_succ, List.getElem_cons_zero, Act.put, List.setIfInBounds_toArray, List.set_cons_zero, List.set_cons_succ]
          refine wpAnyH_take (i := 22) (v := .pointer (some ⟨g0, o0 + m * 89, none⟩)) rfl (by kernel_rfl) (by kernel_rfl) (by kernel_rfl) (fun _ _ _ h => h) (Or.inl ⟨by rfl, fun z _ => by simp [go_sem, execOp, hm0, hm1]⟩) hH ?_
          simp only [List.getElem_toArray, List.getElem_cons_succ, List.getElem_cons_zero, Act.put, List.setIfInBounds_toArray, List.set_cons_zero, List.set_cons_succ]
          refine wpAnyH_take (i := 23) (v := .pointer (some ⟨g0, o0 + m * 89 + 6, none⟩)) rfl (by kernel_rfl) (by kernel_rfl) (by kernel_rfl) (fun _ _ _ h => h) (Or.inl ⟨by rfl, fun z _ => by simp [go_sem, execOp]⟩) hH ?_
          simp only [List.getElem_toArray, List.getElem_cons_succ, List.getElem_cons_zero, Act.put, List.setIfInBounds_toArray, List.set_cons_zero, List.set_cons_succ]
          refine wpAnyH_take (i := 24) (v := .pointer (some ⟨g0, o0 + m * 89 + 6 + 7, none⟩)) rfl (by kernel_rfl) (by kernel_rfl) (by kernel_rfl) (fun _ _ _ h => h) (Or.inl ⟨by rfl, fun z _ => by simp [go_sem, execOp]⟩) hH ?_
          simp only [List.getElem_toArray, List.getElem_cons_succ, List.getElem_cons_zero, Act.put, List.setIfInBounds_toArray, List.set_cons_zero, List.set_cons_succ]
          refine wpAnyH_take (i := 25) (v := .int .i64 (q.i 13)) rfl (by kernel_rfl) (by kernel_rfl) (by kernel_rfl) (fun _ _ _ h => h) (Or.inl ⟨by rfl, fun z hz => by simp [go_sem, execOp, (show z.cell? ⟨g0, o0 + m * 89 + 6 + 7, none⟩ = some (.int .i64 (q.i 13)) from (hz.cell (p := ⟨g0, o0 + m * 89 + 6 + 7, none⟩) hg0l).trans k13)]⟩) hH ?_
          simp only [List.getElem_toArray, List.getElem_cons_succ, List.getElem_cons_zero, Act.put, List.setIfInBounds_toArray, List.set_cons_zero, List.set_cons_succ]
          refine wpAnyH_take (i := 26) (v := .int .u8 s) rfl (by kernel_rfl) (by kernel_rfl) (by kernel_rfl) (fun _ _ _ h => h) (Or.inl ⟨by rfl, fun z _ => rfl⟩) hH ?_
          simp only [List.getElem_toArray, List.getElem_cons_succ, List.getElem_cons_zero, Act.put, List.setIfInBounds_toArray, List.set_cons_zero, List.set_cons_succ]
          refine wpAnyH_take (i := 27) (v := .int .i64 s) rfl (by kernel_rfl) (by kernel_rfl) (by kernel_rfl) (fun _ _ _ h => h) (Or.inl ⟨by rfl, fun z _ => by simp [go_sem, execOp, hwj]⟩) hH ?_
          simp only [List.getElem_toArray, List.getElem_cons_succ, List.getElem_cons_zero, Act.put, List.setIfInBounds_toArray, List.set_cons_zero, List.set_cons_succ]
          refine wpAnyH_take (i := 28) (v := .int .i64 (q.i 13 - s)) rfl (by kernel_rfl) (by kernel_rfl) (by kernel_rfl) (fun _ _ _ h => h) (Or.inl ⟨by rfl, fun z _ => by simp [go_sem, execOp, s13]⟩) hH ?_
          simp only [List.getElem_toArray, List.getElem_cons_succ, List.getElem_cons_zero, Act.put, List.setIfInBounds_toArray, List.set_cons_zero, List.set_cons_succ]
          refine wpAnyH_take (i := 29) (v := .int .i64 (max 0 (q.i 13 - s))) rfl (by kernel_rfl) (by kernel_rfl) (by kernel_rfl) (fun _ _ _ h => h) (Or.inl ⟨by rfl, fun z _ => exec_max _ _ _ _ rfl _ _ rfl rfl⟩) hH ?_
          simp only [List.getElem_toArray, List.getElem_cons_succ, List.getElem_cons_zero, Act.put, List.setIfInBounds_toArray, List.set_cons_zero, List.set_cons_succ]
          refine wpAnyH_take (i := 30) (v := .bool false) rfl (by kernel_rfl) (by kernel_rfl) (by kernel_rfl) (fun _ _ _ h => h) (Or.inl ⟨by rfl, fun z _ => by simp [go_sem, execOp, n13]⟩) hH ?_
          simp only [List.getElem_toArray, List.getElem_cons_succ, List.getElem_cons_zero, Act.put, List.setIfInBounds_toArray, List.set_cons_zero, List.set_cons_succ]
          refine wpAnyH_take (i := 31) rfl (by kernel_rfl) (by kernel_rfl) (by kernel_rfl) (fun _ _ _ h => h) (Or.inl ⟨by rfl, fun z _ => rfl⟩) hH ?_
          simp only [List.getElem_toArray, List.getElem_cons_succ, List.getElem_cons_zero, Act.put, List.setIfInBounds_toArray, List.set_cons_zero, List.set_cons_succ]
          refine wpAnyH_take (i := 32) rfl (by kernel_rfl) (by kernel_rfl) (by kernel_rfl) (fun _ _ _ h => h) (Or.inl ⟨by rfl, fun z _ => rfl⟩) hH ?_
          simp only [List.getElem_toArray, List.getElem_cons_succ, List.getElem_cons_zero, Act.put, List.setIfInBounds_toArray, List.set_cons_zero, List.set_cons_succ]
          refine wpAnyH_take (i := 33) (v := .pointer (some ⟨gr, 6, none⟩)) rfl (by kernel_rfl) (by kernel_rfl) (by kernel_rfl) (fun _ _ _ h => h) (Or.inl ⟨by rfl, fun z _ => by simp [go_sem, execOp]⟩) hH ?_
          simp only [List.getElem_toArray, List.getElem_cons_succ, List.getElem_cons_zero, Act.put, List.setIfInBounds_toArray, List.set_cons_zero, List.set_cons_succ]
          refine wpAnyH_take (i := 34) (v := .pointer (some ⟨gr, 6 + 8, none⟩)) rfl (by kernel_rfl) (by kernel_rfl) (by kernel_rfl) (fun _ _ _ h => h) (Or.inl ⟨by rfl, fun z _ => by simp [go_sem, execOp]⟩) hH ?_
          simp only [List.getElem_toArray, List.getElem_cons_succ, List.getElem_cons_zero, Act.put, List.setIfInBounds_toArray, List.set_cons_zero, List.set_cons_succ]
          refine wpAnyH_take (i := 35) (v := .int .i64 ((tickN s q).i 14)) rfl (by kernel_rfl) (by kernel_rfl) (by kernel_rfl) (fun _ _ _ h => h) (Or.inl ⟨by rfl, fun z hz => by simp [go_sem, execOp, (show z.cell? ⟨gr, 6 + 8, none⟩ = some (.int .i64 ((tickN s q).i 14)) from (hz.cell (p := ⟨gr, 6 + 8, none⟩) hgrl).trans g14)]⟩) hH ?_
          simp only [List.getElem_toArray, List.getElem_cons_succ, List.getElem_cons_zero, Act.put, List.setIfInBounds_toArray, List.set_cons_zero, List.set_cons_succ]
          refine wpAnyH_take (i := 36) (v := .pointer (some ⟨w.heap.size, 17, none⟩)) rfl (by kernel_rfl) (by kernel_rfl) (by kernel_rfl) (fun _ _ _ h => h) (Or.inl ⟨by rfl, fun z _ => by simp [go_sem, execOp]⟩) hH ?_
          simp only [List.getElem_toArray, List.getElem_cons_succ, List.getElem_cons_zero, Act.put, List.setIfInBounds_toArray, List.set_cons_zero, List.set_cons_succ]
          refine wpAnyH_take (i := 37) (v := .slice (some ⟨g0, o0, none⟩) b.n b.cp) rfl (by kernel_rfl) (by kernel_rfl) (by kernel_rfl) (fun _ _ _ h => h) (Or.inl ⟨by rfl, fun z hz => by simp [go_sem, execOp, (show z.cell? ⟨w.heap.size, 17, none⟩ = some (.slice (some ⟨g0, o0, none⟩) b.n b.cp) from (hz.cell (p := ⟨w.heap.size, 17, none⟩) hbl).trans y17)]⟩) hH ?_
          simp only [List.getElem_toArray, List.getElem_cons_succ, List.getElem_cons_zero, Act.put, List.setIfInBounds_toArray, List.set_cons_zero, List.set_cons_succ]
          refine wpAnyH_take (i := 38) (v := .int .i64 m) rfl (by kernel_rfl) (by kernel_rfl) (by kernel_rfl) (fun _ _ _ h => h) (Or.inl ⟨by rfl, fun z _ => rfl⟩) hH ?_
          simp only [List.getElem_toArray, List.getElem_cons_succ, List.getElem_cons_zero, Act.put, List.setIfInBounds_toArray, List.set_cons_zero, List.set_cons_succ]
          refine wpAnyH_take (i := 39) (v := .pointer (some ⟨g0, o0 + m * 89, none⟩)) rfl (by kernel_rfl) (by kernel_rfl) (by kernel_rfl) (fun _ _ _ h => h) (Or.inl ⟨by rfl, fun z _ => by simp [go_sem, execOp, hm0, hm1]⟩) hH ?_
          simp only [List.getElem_toArray, List.getElem_cons_succ, List.getElem_cons_zero, Act.put, List.setIfInBounds_toArray, List.set_cons_zero, List.set_cons_succ]
          refine wpAnyH_take (i := 40) (v := .pointer (some ⟨g0, o0 + m * 89 + 6, none⟩)) rfl (by kernel_rfl) (by kernel_rfl) (by kernel_rfl) (fun _ _ _ h => h) (Or.inl ⟨by rfl, fun z _ => by simp [go_sem, execOp]⟩) hH ?_
          simp only [List.getElem_toArray, List.getElem_cons_succ, List.getElem_cons_zero, Act.put, List.setIfInBounds_toArray, List.set_cons_zero, List.set_cons_succ]
          refine wpAnyH_take (i := 41) (v := .pointer (some ⟨g0, o0 + m * 89 + 6 + 8, none⟩)) rfl (by kernel_rfl) (by kernel_rfl) (by kernel_rfl) (fun _ _ _ h => h) (Or.inl ⟨by rfl, fun z _ => by simp [go_sem, execOp]⟩) hH ?_
          simp only [List.getElem_toArray, List.getElem_cons_succ, List.getElem_cons_zero, Act.put, List.setIfInBounds_toArray, List.set_cons_zero, List.set_cons_succ]
          refine wpAnyH_take (i := 42) (v := .int .i64 (q.i 14)) rfl (by kernel_rfl) (by kernel_rfl) (by kernel_rfl) (fun _ _ _ h => h) (Or.inl ⟨by rfl, fun z hz => by simp [go_sem, execOp, (show z.cell? ⟨g0, o0 + m * 89 + 6 + 8, none⟩ = some (.int .i64 (q.i 14)) from (hz.cell (p := ⟨g0, o0 + m * 89 + 6 + 8, none⟩) hg0l).trans k14)]⟩) hH ?_
          simp only [List.getElem_toArray, List.getElem_cons_succ, List.getElem_cons_zero, Act.put, List.setIfInBounds_toArray, List.set_cons_zero, List.set_cons_succ]
          refine wpAnyH_take (i := 43) (v := .int .u8 s) rfl (by kernel_rfl) (by kernel_rfl) (by kernel_rfl) (fun _ _ _ h => h) (Or.inl ⟨by rfl, fun z _ => rfl⟩) hH ?_
          simp only [List.getElem_toArray, List.getElem_cons_succ, List.getElem_cons_zero, Act.put, List.setIfInBounds_toArray, List.set_cons_zero, List.set_cons_succ]
          refine wpAnyH_take (i := 44) (v := .int .i64 s) rfl (by kernel_rfl) (by kernel_rfl) (by kernel_rfl) (fun _ _ _ h => h) (Or.inl ⟨by rfl, fun z _ => by simp [go_sem, execOp, hwj]⟩) hH ?_
          simp only [List.getElem_toArray, List.getElem_cons_succ, List.getElem_cons_zero, Act.put, List.setIfInBounds_toArray, List.set_cons_zero, List.set_cons_succ]
          refine wpAnyH_take (i := 45) (v := .int .i64 (q.i 14 - s)) rfl (by kernel_rfl) (by kernel_rfl) (by kernel_rfl) (fun _ _ _ h => h) (Or.inl ⟨by rfl, fun z _ => by simp [go_sem, execOp, s14]⟩) hH ?_
          simp only [List.getElem_toArray, List.getElem_cons_succ, List.getElem_cons_zero, Act.put, List.setIfInBounds_toArray, List.set_cons_zero, List.set_cons_succ]
          refine wpAnyH_take (i := 46) (v := .int .i64 (max 0 (q.i 14 - s))) rfl (by kernel_rfl) (by kernel_rfl) (by kernel_rfl) (fun _ _ _ h => h) (Or.inl ⟨by rfl, fun z _ => exec_max _ _ _ _ rfl _ _ rfl rfl⟩) hH ?_
          simp only [List.getElem_toArray, List.getElem_cons_succ, List.getElem_cons_zero, Act.put, List.setIfInBounds_toArray, List.set_cons_zero, List.set_cons_succ]
          refine wpAnyH_take (i := 47) (v := .bool false) rfl (by kernel_rfl) (by kernel_rfl) (by kernel_rfl) (fun _ _ _ h => h) (Or.inl ⟨by rfl, fun z _ => by simp [go_sem, execOp, n14]⟩) hH ?_
          simp only [List.getElem_toArray, List.getElem_cons_succ, List.getElem_cons_zero, Act.put, List.setIfInBounds_toArray, List.set_cons_zero, List.set_cons_succ]
          refine wpAnyH_take (i := 48) rfl (by kernel_rfl) (by kernel_rfl) (by kernel_rfl) (fun _ _ _ h => h) (Or.inl ⟨by rfl, fun z _ => rfl⟩) hH ?_
          simp only [List.getElem_toArray, List.getElem_cons_succ, List.getElem_cons_zero, Act.put, List.setIfInBounds_toArray, List.set_cons_zero, List.set_cons_succ]
          refine wpAnyH_done (by kernel_rfl) ?_ _
          refine ((?_ : ∀ x, x = wp.drew → Exit.then _ _ _ _ x) _ rfl)
          intro w8 hw8
          have hb8 : Below wp.heap.size wp w8 := by rw [hw8]; exact (Below.refl _ _).drew
          clear hw8
          have HG8 := Lib.hid ((hb8.block _ hgrl).trans HG.out)
          have HP8 := Lib.hid (show Ports w8 gr 1 (fun _ => tickN s q) from ⟨_, HG8.out, fun k hk x hx => by
            obtain rfl : k = 0 := by omega
            rw [Nat.zero_mul, Nat.zero_add]
            exact rowP_get hx⟩)
          have hth : w8.there gr 6 (#[.int .i64 (q.i 6), .int .i64 (q.i 7), .int .i64 (q.i 8), .int .i64 (q.i 9), .int .i64 (q.i 10), .int .i64 (q.i 11), .int .i64 (q.i 12), .int .i64 (q.i 13), .int .i64 (q.i 14)] : Array Value).size := fun j hj => by
            have hj9 : j < 9 := hj
            have h := HP8.out.cell (k := 0) (j := 6 + j) (by omega) (by omega)
            rw [Nat.zero_mul, Nat.zero_add] at h
            exact ⟨by rw [h]; rfl, HP8.out.free _⟩
          have z17 : w8.cell? ⟨w.heap.size, 17, none⟩ = some (.slice (some ⟨g0, o0, none⟩) b.n b.cp) := (hb8.cell (p := ⟨w.heap.size, 17, none⟩) hbl).trans y17
          have z6 : w8.cell? ⟨g0, o0 + m * 89 + 6, none⟩ = some (.int .i64 (q.i 6)) := by have h := (hb8.cell (p := ⟨g0, o0 + (m * 89 + 6), none⟩) hg0l).trans (HK.out 6 (by omega)); rw [Nat.add_assoc]; exact h
          have z7 : w8.cell? ⟨g0, o0 + m * 89 + 6 + 1, none⟩ = some (.int .i64 (q.i 7)) := by have h := (hb8.cell (p := ⟨g0, o0 + (m * 89 + 7), none⟩) hg0l).trans (HK.out 7 (by omega)); rw [Nat.add_assoc, Nat.add_assoc]; exact h
          have z8 : w8.cell? ⟨g0, o0 + m * 89 + 6 + 2, none⟩ = some (.int .i64 (q.i 8)) := by have h := (hb8.cell (p := ⟨g0, o0 + (m * 89 + 8), none⟩) hg0l).trans (HK.out 8 (by omega)); rw [Nat.add_assoc, Nat.add_assoc]; exact h
          have z9 : w8.cell? ⟨g0, o0 + m * 89 + 6 + 3, none⟩ = some (.int .i64 (q.i 9)) := by have h := (hb8.cell (p := ⟨g0, o0 + (m * 89 + 9), none⟩) hg0l).trans (HK.out 9 (by omega)); rw [Nat.add_assoc, Nat.add_assoc]; exact h
          have z10 : w8.cell? ⟨g0, o0 + m * 89 + 6 + 4, none⟩ = some (.int .i64 (q.i 10)) := by have h := (hb8.cell (p := ⟨g0, o0 + (m * 89 + 10), none⟩) hg0l).trans (HK.out 10 (by omega)); rw [Nat.add_assoc, Nat.add_assoc]; exact h
          have z11 : w8.cell? ⟨g0, o0 + m * 89 + 6 + 5, none⟩ = some (.int .i64 (q.i 11)) := by have h := (hb8.cell (p := ⟨g0, o0 + (m * 89 + 11), none⟩) hg0l).trans (HK.out 11 (by omega)); rw [Nat.add_assoc, Nat.add_assoc]; exact h
          have z12 : w8.cell? ⟨g0, o0 + m * 89 + 6 + 6, none⟩ = some (.int .i64 (q.i 12)) := by have h := (hb8.cell (p := ⟨g0, o0 + (m * 89 + 12), none⟩) hg0l).trans (HK.out 12 (by omega)); rw [Nat.add_assoc, Nat.add_assoc]; exact h
          have z13 : w8.cell? ⟨g0, o0 + m * 89 + 6 + 7, none⟩ = some (.int .i64 (q.i 13)) := by have h := (hb8.cell (p := ⟨g0, o0 + (m * 89 + 13), none⟩) hg0l).trans (HK.out 13 (by omega)); rw [Nat.add_assoc, Nat.add_assoc]; exact h
          have z14 : w8.cell? ⟨g0, o0 + m * 89 + 6 + 8, none⟩ = some (.int .i64 (q.i 14)) := by have h := (hb8.cell (p := ⟨g0, o0 + (m * 89 + 14), none⟩) hg0l).trans (HK.out 14 (by omega)); rw [Nat.add_assoc, Nat.add_assoc]; exact h
          go_upto_region 19 with (first | (refine wpList_store_mid rfl 40 _ _ rfl gr 6 #[.int .i64 (q.i 6), .int .i64 (q.i 7), .int .i64 (q.i 8), .int .i64 (q.i 9), .int .i64 (q.i 10), .int .i64 (q.i 11), .int .i64 (q.i 12), .int .i64 (q.i 13), .int .i64 (q.i 14)] rfl rfl hth (by kernel_rfl) (by kernel_rfl) ?_; simp only [Act.put]) | fail)
          refine ((?_ : ∀ x, x = w8.setCells gr 6 [.int .i64 (q.i 6), .int .i64 (q.i 7), .int .i64 (q.i 8), .int .i64 (q.i 9), .int .i64 (q.i 10), .int .i64 (q.i 11), .int .i64 (q.i 12), .int .i64 (q.i 13), .int .i64 (q.i 14)] → Code.wp _ _ _ _ x) _ rfl)
          intro w9 hw9
          have hb9 : Below wr.heap.size wr w9 := by
            rw [hw9]
            have h := Only.setCells (S := (· = gr)) rfl (#[.int .i64 (q.i 6), .int .i64 (q.i 7), .int .i64 (q.i 8), .int .i64 (q.i 9), .int .i64 (q.i 10), .int .i64 (q.i 11), .int .i64 (q.i 12), .int .i64 (q.i 13), .int .i64 (q.i 14)] : Array Value).toList 6 w8
            exact (HbP.out.trans (hb8.mono HbP.out.size)).trans (h.below (HbP.out.trans (hb8.mono HbP.out.size)).size (fun x hx => by have h2 := Hgr.out; omega))
          have HP9 := Lib.hid (show Ports w9 gr 1 (fun _ => q) by rw [hw9]; exact clocks_row (m := s) HP8.out)
          have HB9 := Lib.hid hb9
          clear hw9 hb8 hb9 y17 hth z17 z6 z7 z8 z9 z10 z11 z12 z13 z14 k7 g7 k13 g13 k14 g14
          have g9 : gr < w9.heap.size := HP9.out.lt
          have l9 : wr.heap.size ≤ w9.heap.size := HB9.out.size
          have Rx := Lib.hid (fun z : Old w9.heap.size w9 => show z.w.rangeAt gr 0 (rowP q).toList by
            have h := (HP9.out.below z.h g9).range (k := 0) (by omega)
            rw [Nat.zero_mul] at h
            exact h)
          have Ry := Lib.hid (fun z : Old w9.heap.size w9 => show z.w.rangeAt g0 (o0 + m * 89) (rowP q).toList from fun j v hj => by
            have hj' : j < 89 := by
              have := (List.getElem?_eq_some_iff.1 hj).1
              simpa [rowP_size] using this
            rw [Nat.add_assoc, z.h.cell (p := ⟨g0, _, none⟩) (by show g0 < _; omega), HB9.out.cell (p := ⟨g0, _, none⟩) (by show g0 < _; omega), HQC.out j hj', ← rowP_get hj']
            simpa using hj)
          have zy : ∀ z : Old w9.heap.size w9, z.w.cell? ⟨w.heap.size, 17, none⟩ = some (.slice (some ⟨g0, o0, none⟩) b.n b.cp) := fun z => (z.h.cell (p := ⟨w.heap.size, 17, none⟩) (by show w.heap.size < _; omega)).trans ((HB9.out.cell (p := ⟨w.heap.size, 17, none⟩) (by show w.heap.size < _; omega)).trans ey)
          have hne := Old.some w9.heap.size w9
          clear ex
          go_wp2_with fail
          refine wp_region_old w9.heap.size (by kernel_rfl) (by kernel_rfl) ?_
          repeat (first | go_big_quiet_skip | (go_big_quiet_want; first | (refine quiet_row 48 _ rfl gr 0 rfl (rowP q) _ (by rintro _ ⟨z, rfl⟩; exact Rx.out z) Try.underlying48 rfl (sizeP _) ?_; go_big_quiet_on; simp only [Act.put, List.setIfInBounds_toArray, List.set_cons_zero, List.set_cons_succ]) | (refine quiet_row 48 _ rfl g0 (o0 + m * 89) rfl (rowP q) _ (by rintro _ ⟨z, rfl⟩; exact Ry.out z) Try.underlying48 rfl (sizeP _) ?_; go_big_quiet_on; simp only [Act.put, List.setIfInBounds_toArray, List.set_cons_zero, List.set_cons_succ]) | (refine quiet_neqP _ _ rfl q rfl rfl ?_; go_big_quiet_on; simp only [Act.put, List.setIfInBounds_toArray, List.set_cons_zero, List.set_cons_succ]) | (go_big_quiet_op; go_big_quiet_on)))
          refine wpQuiet_nil ?_
          rintro _ ⟨z, rfl⟩
          have hz := HB9.out.trans (z.h.mono (by omega))
          obtain ⟨wz, hwz⟩ := z
          simp only [] at hz ⊢
          have Hz := Lib.hid (hWr.out.trans (hz.mono hsz))
          clear hz hwz hne zy ey Rx Ry
          go_wp2_with fail
          exact ⟨⟨m + 1, by omega, rfl, Hz⟩, by simp [intOf]; omega⟩
        · have dl : decide ((m : Int) < b.n) = false := decide_eq_false (by omega)
          have f17 := free_block HXq.out 17
          go_upto_region 22 with (fail)
          refine ((?_ : ∀ x, x = wr.setCell ⟨bx, 17, none⟩ (.slice (some ⟨g0, o0, none⟩) b.n b.cp) → Code.wp _ _ _ _ x) _ rfl)
          intro wz hwz
          have HX := Lib.hid (show wz.heap[bx]? = some (.cells (rowB { b.at gp cp go co gf cf with ap := some ⟨g0, o0, none⟩, n := b.n, cp := b.cp }) 33 (0, 0)) by
            rw [hwz, ← rowB_put_17]
            exact put_block HXq.out 17 _)
          have HB7 := Lib.hid (show wz.heap[w.heap.size]? = some (.cells (rowB b) 33 (0, 0)) by
            rw [hwz]
            exact (Below.heap_setCell _ _ _ _ (show w.heap.size ≠ bx by omega)).trans HBq.out)
          have HA7 := Lib.hid (show Only (fun x => x = gp ∨ x = bx) wx wz by
            rw [hwz]
            exact ((HO6.out.mono fun _ h => .inl h).trans (Only.of_below hWr.out)).setCell (Or.inl (.inr rfl)) _)
          have d7 : bx < wz.heap.size := (Array.getElem?_eq_some_iff.1 HX.out).1
          have d7' : w.heap.size < wz.heap.size := (Array.getElem?_eq_some_iff.1 HB7.out).1
          have s1 : wx.heap.size ≤ wz.heap.size := HA7.out.size
          have hWz : Below w.heap.size w wz := HWX.out.trans (HA7.out.below HWX.out.size (fun k hk => by rcases hk with hk | hk <;> omega))
          have HWz := Lib.hid hWz
          clear hwz f17 ex ey HXq HBq hWz
          refine wp_region_held_drew (S := fun w' => Below wz.heap.size wz w') (by kernel_rfl) (Below.refl _ _).drew (fun hH => ?_)
          refine wpAnyH_take (i := 0) rfl (by kernel_rfl) (by kernel_rfl) (by kernel_rfl) (fun _ _ _ h => h) (Or.inl ⟨by rfl, fun w _ => rfl⟩) hH ?_
          simp only [Act.put, List.setIfInBounds_toArray]
          refine wpAnyH_take (i := 1) rfl (by kernel_rfl) (by kernel_rfl) (by kernel_rfl) (fun _ _ _ h => h) (Or.inl ⟨by rfl, fun w _ => rfl⟩) hH ?_
          simp only [Act.put]
          refine wpAnyH_take (i := 2) rfl (by kernel_rfl) (by kernel_rfl) (by kernel_rfl) (fun _ _ _ h => h) (yieldsIf_load_mid (by rfl) 33 _ rfl bx 0 rfl (rowB { b.at gp cp go co gf cf with ap := some ⟨g0, o0, none⟩, n := b.n, cp := b.cp }).toList _ (row_held HX.out d7) Try.underlying33 rfl (sizeB _)) hH ?_
          simp only [Act.put]
          refine wpAnyH_take (i := 3) rfl (by kernel_rfl) (by kernel_rfl) (by kernel_rfl) (fun _ _ _ h => h) (yieldsIf_load_mid (by rfl) 33 _ rfl w.heap.size 0 rfl (rowB b).toList _ (row_held HB7.out d7') Try.underlying33 rfl (sizeB _)) hH ?_
          simp only [Act.put]
          refine wpAnyH_ready (rs := [4]) (by kernel_rfl) (by simp) (AllReadyH.cons rfl (fun K hK => ?_) AllReadyH.nil)
          go_simp
          have hR0 := HR.out
          have hRd := ((hR0.below HWz.out).looked HL.out).below ((Below.refl wz.heap.size wz).drew)
          refine (clone_any b ps ss fs _ hRd).mono ?_
          rintro e w8 ⟨gp8, cp8, go8, co8, gf8, cf8, rfl, q1, q2, q3, op8, os8, of8, hb8⟩
          have hb78 : Below wz.heap.size wz w8 := (Below.refl wz.heap.size wz).drew.trans hb8
          refine hK.out _ _ hb78 (fun hH8 => ?_)
          clear hK K
          have hr1 : Reads w8 { b.at gp cp go co gf cf with ap := some ⟨g0, o0, none⟩, n := b.n, cp := b.cp } ps ss fs := ⟨(by have h : View w8 b.ap 89 b.n fun k j => cellP (ps k) j := hRd.p.below hb8; rw [Hap.out] at h; exact h), (hs4.out.only HA7.out (by intro g o h; cases h; rintro (h | h) <;> omega)).below hb78, (hf4.out.only HA7.out (by intro g o h; cases h; rintro (h | h) <;> omega)).below hb78, (fun h => by cases h), (fun h => by cases h), (fun h => by cases h), hRd.pb, hRd.sb, hRd.fb⟩
          have hr2 : Reads w8 (b.at gp8 cp8 go8 co8 gf8 cf8) ps ss fs := Reads.at hRd op8.ports os8.view of8.view
          refine wpAnyH_ready (rs := [5]) (by kernel_rfl) (by simp) (AllReadyH.cons rfl (fun K hK => ?_) AllReadyH.nil)
          go_simp
          refine (same_any { b.at gp cp go co gf cf with ap := some ⟨g0, o0, none⟩, n := b.n, cp := b.cp } (some ⟨gp8, 0, none⟩) cp8 (some ⟨go8, 0, none⟩) co8 (some ⟨gf8, 0, none⟩) cf8 ps ss fs _ hr1 hr2).mono ?_
          rintro e w9 ⟨rfl, hb9⟩
          have hb79 : Below wz.heap.size wz w9 := hb78.trans (hb9.mono hb78.size)
          refine hK.out _ _ hb79 (fun hH9 => ?_)
          clear hK K
          refine wpAnyH_ready (rs := [6]) (by kernel_rfl) (by simp) (AllReadyH.cons rfl (fun K hK => ?_) AllReadyH.nil)
          go_simp
          refine hK.out _ _ hb79 (fun _ => ?_)
          clear hK K
          refine wpAnyH_ready (rs := [7]) (by kernel_rfl) (by simp) (AllReadyH.cons rfl (fun K hK => ?_) AllReadyH.nil)
          go_simp
          refine hK.out _ _ hb79 (fun _ => ?_)
          clear hK K
          refine wpAnyH_done (by kernel_rfl) ?_ _
          go_wp2_with fail
          go_ret
          exact ⟨rfl, HWz.out.trans (hb79.mono HWz.out.size)⟩
end Go.Proofs.Ytpnlblkeckpmnaa.Br
