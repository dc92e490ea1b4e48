/- Law TxHold of the sending machine: the walk joined with the plain law. -/
import Derived.Test.YtmlhbfkmnbhoeaaTxOn
import Derived.Test.YtmlhbfkmnbhoeaaOpen
import Derived.Deep.RegionHeld
set_option linter.unusedSimpArgs false
namespace Go.Proofs.Ytmlhbfkmnbhoeaa.Br
open Go.RowKit
theorem row_held1 {W : World} {g B : Nat} {C : Array Value} {T : TypeId} {fr : Nat × Nat} (h : W.heap[g]? = some (.cells C T fr)) (hB : g < B) : ∀ w, Below B W w → w.rangeAt g 0 C.toList := fun w hw j v hv => by
  rw [Nat.zero_add, cells_of ((hw.block g hB).trans h) j]
  simpa using hv

theorem hold_step (b : Bri) (p : Rec) : (txF b p).1.i 14 = p.i 14 + cntR b p ∧ (cntR b p = 0 ∨ (cntR b p = 1 ∧ p.i 14 < b.r.i 6)) := by
  unfold cntR txF
  by_cases h1 : (!p.b 44 || p.b 50) = true
  · rw [if_pos h1]
    exact ⟨by simp, .inl rfl⟩
  rw [if_neg h1]
  by_cases h2 : p.i 8 = 0
  · rw [if_pos h2]
    exact ⟨by simp [Rec.setB_i, Rec.setI_i], .inl rfl⟩
  rw [if_neg h2]
  by_cases h3 : (!p.b 31 || decide (b.r.i 6 ≤ p.i 14) || !(kindF p).2) = true
  · rw [if_pos h3]
    exact ⟨by simp, .inl rfl⟩
  rw [if_neg h3]
  refine ⟨by simp [Rec.setB_i, Rec.setI_i], .inr ⟨rfl, ?_⟩⟩
  simp only [Bool.or_eq_true, not_or, decide_eq_true_eq] at h3
  omega
theorem hold_next {b : Bri} {p : Rec} {x : Int} {s : Nat} (h : p.i 14 = x + s) (h2 : s = 0 ∨ x + s ≤ b.r.i 6) : (txF b p).1.i 14 = x + (s + cntR b p : Nat) ∧ (s + cntR b p = 0 ∨ x + (s + cntR b p : Nat) ≤ b.r.i 6) := by
  obtain ⟨e, hc | ⟨hc, hl⟩⟩ := hold_step b p
  · rw [e, h, hc]
    exact ⟨by omega, by omega⟩
  · rw [e, h, hc]
    exact ⟨by omega, by omega⟩
theorem last_law (b : Bri) (p : Rec) (h4 : b.r.i 4 ≠ 0) : (txF b (txF b (txF b p).1).1).2.1 = false := by
  have A : ∀ q : Rec, q.i 8 ≠ 0 → (txF b (txF b q).1).2.1 = false ∧ (txF b q).1.i 8 ≠ 0 := fun q hq => by
    have idle : txF b q = (q, false, none) → (txF b (txF b q).1).2.1 = false ∧ (txF b q).1.i 8 ≠ 0 := fun e => by
      rw [e]
      exact ⟨by rw [e], hq⟩
    by_cases h1 : (!q.b 44 || q.b 50) = true
    · exact idle (by unfold txF; rw [if_pos h1])
    by_cases h3 : (!q.b 31 || decide (b.r.i 6 ≤ q.i 14) || !(kindF q).2) = true
    · exact idle (by unfold txF; rw [if_neg h1, if_neg hq, if_pos h3])
    have e : txF b q = ((((q.setB 31 false).setI 14 (q.i 14 + 1)).setB 48 (q.b 48 && (kindF q).1 == 1)).setI 8 (b.r.i 4), true, some (kindF q).1) := by unfold txF; rw [if_neg h1, if_neg hq, if_neg h3]
    rw [e]
    refine ⟨?_, by simpa [Rec.setB_i, Rec.setI_i] using h4⟩
    unfold txF
    rw [if_neg (by simpa [Rec.setB_b, Rec.setI_b] using h1), if_neg (by simpa [Rec.setB_i, Rec.setI_i] using h4), if_pos (by simp [Rec.setB_b, Rec.setI_b])]
  by_cases h1 : (!p.b 44 || p.b 50) = true
  · have e : txF b p = (p, false, none) := by unfold txF; rw [if_pos h1]
    simp only [e]
  by_cases h2 : p.i 8 = 0
  · have e : txF b p = ((p.setB 31 (p.b 31 || p.i 87 == 4 || (p.i 87 == 3 && p.i 13 != 0))).setI 8 (b.r.i 4), true, none) := by unfold txF; rw [if_neg h1, if_pos h2]
    rw [e]
    exact (A _ (by simpa [Rec.setB_i, Rec.setI_i] using h4)).1
  · exact (A _ (A p h2).2).1
/-- A bridge whose port has sent s more. -/
def Held (b : Bri) (ps : Nat → Rec) (fs : Nat → Int) (bx gp k : Nat) (wr : World) (s : Nat) (p : Rec) (b' : Bri) (ss' : Nat → Rec) : Prop :=
  Bst wr bx gp b' (upd ps k p) ss' fs ∧ b'.r = b.r ∧ b'.n = b.n ∧ b'.no = b.no + s ∧ p.i 14 = (ps k).i 14 + s ∧ (s = 0 ∨ (ps k).i 14 + s ≤ b.r.i 6)
theorem cntR_r {b b' : Bri} (h : b'.r = b.r) (p : Rec) : cntR b' p = cntR b p := by unfold cntR; rw [txF_r h]
theorem held_on {b : Bri} {ps ss' : Nat → Rec} {fs : Nat → Int} {bx gp k s : Nat} {wr : World} {p : Rec} {b' : Bri} (h : Held b ps fs bx gp k wr s p b' ss') (hk : k < b.n) (h0 : 0 ≤ (ps k).i 14) (h1 : (ps k).i 14 ≤ 1000) (h6 : b.r.i 6 ≤ 10) (hno : b.no ≤ 20) :
    Calls Try.prog 13 #[.pointer (some ⟨bx, 0, none⟩), .int .i64 k] wr fun e w' => e = .returned (.bool (txF b p).2.1) ∧ Only (fun x => x = gp ∨ x = bx) wr w' ∧ ∃ s b'' ss'', Held b ps fs bx gp k w' s (txF b p).1 b'' ss'' := by
  obtain ⟨hB, hr, hn, ho, h14, hs⟩ := h
  refine (step_on wr bx gp k b' ps ss' fs p hB (by rw [hn]; exact hk) ⟨by omega, by omega⟩ (by omega)).mono ?_
  rintro e w' ⟨b'', rfl, hB', hO, hr', hn', ho', _⟩
  rw [txF_r hr] at hB' ⊢
  rw [cntR_r hr] at ho'
  obtain ⟨e1, e2⟩ := hold_next (b := b) h14 hs
  exact ⟨rfl, hO, s + cntR b p, b'', _, hB', hr'.trans hr, hn'.trans hn, by omega, e1, e2⟩
attribute [local go_sem] zeroBr
set_option maxRecDepth 100000 in
set_option maxHeartbeats 8000000 in
theorem hold_any (b : Bri) (ps ss : Nat → Rec) (fs : Nat → Int) (w : World) (i : Nat) (hi : i ≤ 255) (n : Nat) (hn : n ≤ 255) (h : Reads0 w b ps ss fs) :
    Calls Try.prog 5 #[.agg (rowB b), .int .u8 i, .int .u8 n] w fun e w' => e = .returned (.bool true) ∧ Below w.heap.size w w' := by
  have HR := Lib.hid h
  clear h
  go_enter Try.func5, Try.ntmps5
  go_wp2_with fail
  refine (awake_any _).mono ?_
  rintro e w1 ⟨rfl, hb1⟩
  have HB : Hid (w1.heap[w.heap.size]? = some (.cells (rowB b) 33 (0, 0))) := (hb1.block _ (by simp)).trans (at_new rfl)
  have HW1 := Lib.hid (andthen (more (Below.refl w.heap.size w) _) hb1)
  clear hb1
  go_wp2_with (first | (refine loadB rfl rfl _ rfl w.heap.size rfl b HB.out ?_; simp only [Act.put, List.setIfInBounds_toArray, List.set_cons_zero, List.set_cons_succ]) | fail)
  refine (few_any b ps _ (HR.out.below HW1.out).p).mono ?_
  rintro e w2 ⟨r, rfl, hr, hb2⟩
  have HB' : Hid (w2.heap[w.heap.size]? = some (.cells (rowB b) 33 (0, 0))) := (hb2.block _ (Array.getElem?_eq_some_iff.1 HB.out).1).trans HB.out
  have HW2 := Lib.hid (andthen HW1.out hb2)
  have Hr := Lib.hid hr
  clear hb2 hr HB HW1
  cases r
  · go_wp2_with fail
    go_ret
    exact ⟨rfl, HW2.out⟩
  have HL := Lib.hid (Hr.out rfl)
  clear Hr
  have HB := HB'
  clear HB'
  have hn1 : 0 < b.n := HL.out.2.1
  have hn8 : b.n ≤ 8 := HL.out.2.2.1
  go_wp2_with (first | (refine loadB rfl rfl _ rfl w.heap.size rfl b HB.out ?_; simp only [Act.put, List.setIfInBounds_toArray, List.set_cons_zero, List.set_cons_succ]) | fail)
  refine (at_any b i _ hi hn1 hn8).mono ?_
  rintro e w3 ⟨rfl, hb3⟩
  have HB' : Hid (w3.heap[w.heap.size]? = some (.cells (rowB b) 33 (0, 0))) := (hb3.block _ (Array.getElem?_eq_some_iff.1 HB.out).1).trans HB.out
  have HW3 := Lib.hid (andthen HW2.out hb3)
  clear hb3 HB HW2
  have HB := HB'
  clear HB'
  obtain ⟨k, hk⟩ : ∃ k, k = i % b.n := ⟨_, rfl⟩
  have hkn : k < b.n := by rw [hk]; exact Nat.mod_lt _ hn1
  rw [← hk]
  have Hk := Lib.hid hk
  clear hk
  go_wp2_with (first | (refine loadB rfl rfl _ rfl w.heap.size rfl b HB.out ?_; simp only [Act.put, List.setIfInBounds_toArray, List.set_cons_zero, List.set_cons_succ]) | fail)
  refine (clone_any b ps ss fs _ ((HR.out.below HW3.out).looked HL.out)).mono ?_
  rintro e w4 ⟨gp, cp, go, co, gf, cf, rfl, hp1, hp2, hp3, op, os, of, hb⟩
  go_upto_region 7 with (first | (refine wpList_store_at rfl 33 _ _ rfl _ (rowB zeroBri) 33 (rowB (b.at gp cp go co gf cf)) _ rfl rfl rfl rfl (sizeB _) rfl (rowB_one _) ?_; simp only [Act.put]) | fail)
  refine ((?_ : ∀ x, x = w4.alloc (.cells (rowB (b.at gp cp go co gf cf)) 33) → Code.wp _ _ _ _ x) _ rfl)
  intro wx hwx
  obtain ⟨bb, bx, hbx, hX, hgx, hbr, hbn, hbo, hbf, hwx'⟩ := clone_bst op os of hp2 hp3 hwx
  rw [← hbx]
  have hw4 := HW3.out.size
  have HX := Lib.hid hX
  have HWX := Lib.hid (andthen (andthen HW3.out hb) hwx')
  have hlt3 : w.heap.size < w3.heap.size := (Array.getElem?_eq_some_iff.1 HB.out).1
  have hge : w.heap.size < gp := Nat.lt_of_lt_of_le hlt3 hp1
  have HBX := Lib.hid ((hwx'.block _ (Nat.lt_of_lt_of_le hlt3 hb.size)).trans ((hb.block _ hlt3).trans HB.out))
  have HBR := Lib.hid hbr
  have HBN := Lib.hid hbn
  have HBO := Lib.hid hbo
  have HBF := Lib.hid hbf
  have hkb : k < bb.n := by rw [hbn]; exact hkn
  have hnob : bb.no ≤ 20 := by rw [hbo]; exact HL.out.2.2.2.1
  have hk0 : (0 : Int) ≤ k := by omega
  have hk1 : (k : Int) < bb.n := by omega
  clear op os of hb hp1 hp2 hp3 HB hX hwx hwx' hbx hbr hbn hbo hbf hw4 hlt3
  have d17 := HX.out.c17
  have hgl := HX.out.p.lt
  have hPk := HL.out.1.2.2.2.2.2.2.2.2 k hkn
  have ht0 : 0 ≤ (ps k).i 14 := (hPk.1 8 (by omega)).1
  have ht1 : (ps k).i 14 ≤ 1000 := (hPk.1 8 (by omega)).2
  have hh6 : b.r.i 6 ≤ 10 := HL.out.1.2.2.2.2.1
  have hh1 : 1 ≤ b.r.i 6 := HL.out.1.2.2.2.1
  have hno20 : b.no ≤ 20 := HL.out.2.2.2.1
  have Hh4 := Lib.hid (show b.r.i 4 ≠ 0 by
    have := HL.out.1.1
    simp only [right4, Bool.and_eq_true, decide_eq_true_eq] at this
    omega)
  clear hPk d17
  obtain ⟨nn, hnn⟩ : ∃ x : Nat, x = n % 40 := ⟨_, rfl⟩
  have hnn' : (n : Int) % 40 = nn := by omega
  have hnn40 : nn < 40 := by omega
  clear hnn
  go_wp2_with fail
  go_loopw [11] (fun i wr => ∃ m : Nat, m ≤ nn ∧ i = .int .i64 m ∧ Hid (∃ s p b' ss', Held b ps fs bx gp k wr s p b' ss') ∧ Hid (Only (fun x => x = gp ∨ x = bx) wx wr)) (fun i _ => nn - (intOf i).toNat)
  case atStart => exact ⟨0, by omega, rfl, Lib.hid ⟨0, _, bb, ss, HX.out.start k, HBR.out, HBN.out, HBO.out, by omega, .inl rfl⟩, Lib.hid (Only.refl _ _)⟩
  case round =>
    obtain ⟨m, hm, rfl, hPp, hO⟩ := hrel
    obtain ⟨s, p, b', ss', hH⟩ := hPp.out
    have HH := Lib.hid hH
    have d17 := hH.1.c17
    have hkb' : (k : Int) < b'.n := by rw [hH.2.2.1]; omega
    have hkb2 : k < b'.n := by omega
    by_cases hlt : m < nn
    · have dl : decide ((m : Int) < nn) = true := decide_eq_true (by omega)
      have c31 : wr.cell? ⟨gp, k * 89 + 22 + 9, none⟩ = some (.bool (p.b 31)) := (hH.1.p.cell hkb2 (j := 31) (by omega)).trans (by rw [upd_same]; rfl)
      have f31 : wr.frozen? ⟨gp, k * 89 + 22 + 9, none⟩ = false := hH.1.p.free _
      have hm0 : (0 : Int) ≤ m := by omega
      have hwm : IntKind.i64.wrap ((m : Int) + 1) = (m + 1 : Nat) := by unfold IntKind.wrap; simp [IntKind.signed, IntKind.bits]; omega
      clear hH hPp
      go_wp2_with fail
      have hH2 : Held b ps fs bx gp k (wr.setCell ⟨gp, k * 89 + 31, none⟩ (.bool true)) s (p.setB 31 true) b' ss' :=
        ⟨HH.out.1.put (j := 31) (by omega) (rowP_put_31 _ _), HH.out.2.1, HH.out.2.2.1, HH.out.2.2.2.1, by simpa [Rec.setB_i] using HH.out.2.2.2.2.1, HH.out.2.2.2.2.2⟩
      refine (held_on hH2 hkn ht0 ht1 hh6 hno20).mono ?_
      rintro e w5 ⟨rfl, hO5, s5, b5, ss5, hH5⟩
      have HH5 := Lib.hid hH5
      have HO5 := Lib.hid ((hO.out.setCell (Or.inl (.inl rfl)) _).trans hO5)
      clear hH2 hO5 hH5 hO
      go_wp2_with fail
      exact ⟨⟨m + 1, by omega, rfl, Lib.hid ⟨s5, _, b5, ss5, HH5.out⟩, HO5⟩, by simp [intOf]; omega⟩
    · have dl : decide ((m : Int) < nn) = false := decide_eq_false (by omega)
      clear hH hPp
      go_wp2_with fail
      refine (held_on HH.out hkn ht0 ht1 hh6 hno20).mono ?_
      rintro e w5 ⟨rfl, hO5, s5, b5, ss5, hH5⟩
      have HH5 := Lib.hid hH5
      have HO5 := Lib.hid (hO.out.trans hO5)
      clear hO5 hH5
      go_wp2_with fail
      refine (held_on HH5.out hkn ht0 ht1 hh6 hno20).mono ?_
      rintro e w6 ⟨rfl, hO6, s6, b6, ss6, hH6⟩
      have HH6 := Lib.hid hH6
      have HO6 := Lib.hid (HO5.out.trans hO6)
      clear hO6 hH6
      go_wp2_with fail
      refine (held_on HH6.out hkn ht0 ht1 hh6 hno20).mono ?_
      rintro e w7 ⟨rfl, hO7, s7, b7, ss7, hH7⟩
      have HH7 := Lib.hid hH7
      have HO7 := Lib.hid (HO6.out.trans hO7)
      clear hO7 hH7
      rw [last_law b p Hh4.out]
      have hno7 : b7.no = b.no + s7 := HH7.out.2.2.2.1
      have h147 := HH7.out.2.2.2.2.1
      have hs7 := HH7.out.2.2.2.2.2
      have d18 : w7.cell? ⟨bx, 18, none⟩ = some (.slice b7.ao b7.no b7.co) := cells_of HH7.out.1.h 18
      rw [hno7] at d18
      have e17 := HH7.out.1.c17
      have hkb7 : (k : Int) < b7.n := by rw [HH7.out.2.2.1]; omega
      have c14 : w7.cell? ⟨gp, k * 89 + 6 + 8, none⟩ = some (.int .i64 ((ps k).i 14 + s7)) := (HH7.out.1.p.cell (by rw [HH7.out.2.2.1]; exact hkn) (j := 14) (by omega)).trans (by rw [upd_same, ← h147]; rfl)
      have hB7 := orig HBX.out HO7.out hge hgx
      have o18 : w7.cell? ⟨w.heap.size, 18, none⟩ = some (.slice b.ao b.no b.co) := cells_of hB7 18
      have o6 : w7.cell? ⟨w.heap.size, 6, none⟩ = some (.int .i64 (b.r.i 6)) := cells_of hB7 6
      have hW7 := HWX.out.trans (HO7.out.below HWX.out.size (fun k hk => by omega))
      rcases (HR.out.below hW7).p with h0 | ⟨g0, o0, hap, hc0⟩
      · omega
      have o17 : w7.cell? ⟨w.heap.size, 17, none⟩ = some (.slice (some ⟨g0, o0, none⟩) b.n b.cp) := by rw [← hap]; exact cells_of hB7 17
      have o14 : w7.cell? ⟨g0, o0 + k * 89 + 6 + 8, none⟩ = some (.int .i64 ((ps k).i 14)) := by rw [Nat.add_assoc, Nat.add_assoc]; exact hc0 k hkn 14 (by omega)
      have hk1' : (k : Int) < b.n := by omega
      have hg0 : g0 < w7.heap.size := cell_lt o14
      have hwl : w.heap.size < w7.heap.size := cell_lt o17
      have hbl : bx < w7.heap.size := cell_lt d18
      have hpl : gp < w7.heap.size := cell_lt c14
      have hs10 : s7 ≤ 10 := by omega
      have hwa : IntKind.i64.wrap ((b.no : Int) + (s7 : Int) - b.no) = s7 := by unfold IntKind.wrap; simp [IntKind.signed, IntKind.bits]; omega
      have hwb : IntKind.i64.wrap (s7 : Int) = s7 := by unfold IntKind.wrap; simp [IntKind.signed, IntKind.bits]; omega
      have hwd : IntKind.i64.wrap (b.r.i 6 - (ps k).i 14) = b.r.i 6 - (ps k).i 14 := by unfold IntKind.wrap; simp [IntKind.signed, IntKind.bits]; omega
      have hwe : IntKind.i64.wrap ((ps k).i 14 + s7) = (ps k).i 14 + s7 := by unfold IntKind.wrap; simp [IntKind.signed, IntKind.bits]; omega
      have hle : decide ((s7 : Int) ≤ max 0 (b.r.i 6 - (ps k).i 14)) = true := decide_eq_true (by omega)
      have hge0 : decide ((0 : Int) ≤ s7) = true := decide_eq_true (by omega)
      have HW7 := Lib.hid hW7
      clear hno7 h147 hs7 hap hc0 hB7 hW7 ht0 ht1 hh6 hh1 hno20
      go_upto_region 16 with (fail)
      refine wp_region_held_drew (S := fun w' => Below w7.heap.size w7 w') (by kernel_rfl) (Below.refl _ _).drew (fun hH => ?_)
      refine wpAnyH_take (i := 0) (v := .bool true) rfl (by kernel_rfl) (by kernel_rfl) (by kernel_rfl) (fun _ _ _ h => h) (Or.inl ⟨by rfl, fun z _ => rfl⟩) hH ?_
      simp only [List.getElem_toArray, List.getElem_cons_succ, List.getElem_cons_zero, Act.put, List.setIfInBounds_toArray, List.set_cons_zero, List.set_cons_succ]
      refine wpAnyH_take (i := 1) (v := .bool true) rfl (by kernel_rfl) (by kernel_rfl) (by kernel_rfl) (fun _ _ _ h => h) (Or.inl ⟨by rfl, fun z _ => rfl⟩) hH ?_
      simp only [List.getElem_toArray, List.getElem_cons_succ, List.getElem_cons_zero, Act.put, List.setIfInBounds_toArray, List.set_cons_zero, List.set_cons_succ]
      refine wpAnyH_take (i := 2) (v := .bool false) rfl (by kernel_rfl) (by kernel_rfl) (by kernel_rfl) (fun _ _ _ h => h) (Or.inl ⟨by rfl, fun z _ => rfl⟩) hH ?_
      simp only [List.getElem_toArray, List.getElem_cons_succ, List.getElem_cons_zero, Act.put, List.setIfInBounds_toArray, List.set_cons_zero, List.set_cons_succ]
      refine wpAnyH_take (i := 3) (v := .bool true) rfl (by kernel_rfl) (by kernel_rfl) (by kernel_rfl) (fun _ _ _ h => h) (Or.inl ⟨by rfl, fun z _ => by simp [go_sem, execOp]⟩) hH ?_
      simp only [List.getElem_toArray, List.getElem_cons_succ, List.getElem_cons_zero, Act.put, List.setIfInBounds_toArray, List.set_cons_zero, List.set_cons_succ]
      refine wpAnyH_take (i := 4) rfl (by kernel_rfl) (by kernel_rfl) (by kernel_rfl) (fun _ _ _ h => h) (Or.inl ⟨by rfl, fun z _ => rfl⟩) hH ?_
      simp only [List.getElem_toArray, List.getElem_cons_succ, List.getElem_cons_zero, Act.put, List.setIfInBounds_toArray, List.set_cons_zero, List.set_cons_succ]
      refine wpAnyH_take (i := 5) rfl (by kernel_rfl) (by kernel_rfl) (by kernel_rfl) (fun _ _ _ h => h) (Or.inl ⟨by rfl, fun z _ => rfl⟩) hH ?_
      simp only [List.getElem_toArray, List.getElem_cons_succ, List.getElem_cons_zero, Act.put, List.setIfInBounds_toArray, List.set_cons_zero, List.set_cons_succ]
      refine wpAnyH_take (i := 6) (v := .int .i64 s7) rfl (by kernel_rfl) (by kernel_rfl) (by kernel_rfl) (fun _ _ _ h => h) (Or.inl ⟨by rfl, fun z _ => rfl⟩) hH ?_
      simp only [List.getElem_toArray, List.getElem_cons_succ, List.getElem_cons_zero, Act.put, List.setIfInBounds_toArray, List.set_cons_zero, List.set_cons_succ]
      refine wpAnyH_take (i := 7) (v := .bool true) rfl (by kernel_rfl) (by kernel_rfl) (by kernel_rfl) (fun _ _ _ h => h) (Or.inl ⟨by rfl, fun z _ => by simp [go_sem, execOp, hge0]⟩) hH ?_
      simp only [List.getElem_toArray, List.getElem_cons_succ, List.getElem_cons_zero, Act.put, List.setIfInBounds_toArray, List.set_cons_zero, List.set_cons_succ]
      refine wpAnyH_take (i := 8) rfl (by kernel_rfl) (by kernel_rfl) (by kernel_rfl) (fun _ _ _ h => h) (Or.inl ⟨by rfl, fun z _ => rfl⟩) hH ?_
      simp only [List.getElem_toArray, List.getElem_cons_succ, List.getElem_cons_zero, Act.put, List.setIfInBounds_toArray, List.set_cons_zero, List.set_cons_succ]
      refine wpAnyH_take (i := 9) rfl (by kernel_rfl) (by kernel_rfl) (by kernel_rfl) (fun _ _ _ h => h) (Or.inl ⟨by rfl, fun z _ => rfl⟩) hH ?_
      simp only [List.getElem_toArray, List.getElem_cons_succ, List.getElem_cons_zero, Act.put, List.setIfInBounds_toArray, List.set_cons_zero, List.set_cons_succ]
      refine wpAnyH_take (i := 10) (v := .int .i64 s7) rfl (by kernel_rfl) (by kernel_rfl) (by kernel_rfl) (fun _ _ _ h => h) (Or.inl ⟨by rfl, fun z _ => rfl⟩) hH ?_
      simp only [List.getElem_toArray, List.getElem_cons_succ, List.getElem_cons_zero, Act.put, List.setIfInBounds_toArray, List.set_cons_zero, List.set_cons_succ]
      refine wpAnyH_take (i := 11) (v := .pointer (some ⟨w.heap.size, 6, none⟩)) rfl (by kernel_rfl) (by kernel_rfl) (by kernel_rfl) (fun _ _ _ h => h) (Or.inl ⟨by rfl, fun z _ => by simp [go_sem, execOp]⟩) hH ?_
      simp only [List.getElem_toArray, List.getElem_cons_succ, List.getElem_cons_zero, Act.put, List.setIfInBounds_toArray, List.set_cons_zero, List.set_cons_succ]
      refine wpAnyH_take (i := 12) (v := .int .i64 (b.r.i 6)) rfl (by kernel_rfl) (by kernel_rfl) (by kernel_rfl) (fun _ _ _ h => h) (Or.inl ⟨by rfl, fun z hz => by simp [go_sem, execOp, (show z.cell? ⟨w.heap.size, 6, none⟩ = some (.int .i64 (b.r.i 6)) from (hz.cell (p := ⟨w.heap.size, 6, none⟩) hwl).trans o6)]⟩) hH ?_
      simp only [List.getElem_toArray, List.getElem_cons_succ, List.getElem_cons_zero, Act.put, List.setIfInBounds_toArray, List.set_cons_zero, List.set_cons_succ]
      refine wpAnyH_take (i := 13) (v := .pointer (some ⟨w.heap.size, 17, none⟩)) rfl (by kernel_rfl) (by kernel_rfl) (by kernel_rfl) (fun _ _ _ h => h) (Or.inl ⟨by rfl, fun z _ => by simp [go_sem, execOp]⟩) hH ?_
      simp only [List.getElem_toArray, List.getElem_cons_succ, List.getElem_cons_zero, Act.put, List.setIfInBounds_toArray, List.set_cons_zero, List.set_cons_succ]
      refine wpAnyH_take (i := 14) (v := .slice (some ⟨g0, o0, none⟩) b.n b.cp) rfl (by kernel_rfl) (by kernel_rfl) (by kernel_rfl) (fun _ _ _ h => h) (Or.inl ⟨by rfl, fun z hz => by simp [go_sem, execOp, (show z.cell? ⟨w.heap.size, 17, none⟩ = some (.slice (some ⟨g0, o0, none⟩) b.n b.cp) from (hz.cell (p := ⟨w.heap.size, 17, none⟩) hwl).trans o17)]⟩) hH ?_
      simp only [List.getElem_toArray, List.getElem_cons_succ, List.getElem_cons_zero, Act.put, List.setIfInBounds_toArray, List.set_cons_zero, List.set_cons_succ]
      refine wpAnyH_take (i := 15) (v := .int .i64 k) rfl (by kernel_rfl) (by kernel_rfl) (by kernel_rfl) (fun _ _ _ h => h) (Or.inl ⟨by rfl, fun z _ => rfl⟩) hH ?_
      simp only [List.getElem_toArray, List.getElem_cons_succ, List.getElem_cons_zero, Act.put, List.setIfInBounds_toArray, List.set_cons_zero, List.set_cons_succ]
      refine wpAnyH_take (i := 16) (v := .pointer (some ⟨g0, o0 + k * 89, none⟩)) rfl (by kernel_rfl) (by kernel_rfl) (by kernel_rfl) (fun _ _ _ h => h) (Or.inl ⟨by rfl, fun z _ => by simp [go_sem, execOp, hk0, hk1', hkb7]⟩) hH ?_
      simp only [List.getElem_toArray, List.getElem_cons_succ, List.getElem_cons_zero, Act.put, List.setIfInBounds_toArray, List.set_cons_zero, List.set_cons_succ]
      refine wpAnyH_take (i := 17) (v := .pointer (some ⟨g0, o0 + k * 89 + 6, none⟩)) rfl (by kernel_rfl) (by kernel_rfl) (by kernel_rfl) (fun _ _ _ h => h) (Or.inl ⟨by rfl, fun z _ => by simp [go_sem, execOp]⟩) hH ?_
      simp only [List.getElem_toArray, List.getElem_cons_succ, List.getElem_cons_zero, Act.put, List.setIfInBounds_toArray, List.set_cons_zero, List.set_cons_succ]
      refine wpAnyH_take (i := 18) (v := .pointer (some ⟨g0, o0 + k * 89 + 6 + 8, none⟩)) rfl (by kernel_rfl) (by kernel_rfl) (by kernel_rfl) (fun _ _ _ h => h) (Or.inl ⟨by rfl, fun z _ => by simp [go_sem, execOp]⟩) hH ?_
      simp only [List.getElem_toArray, List.getElem_cons_succ, List.getElem_cons_zero, Act.put, List.setIfInBounds_toArray, List.set_cons_zero, List.set_cons_succ]
      refine wpAnyH_take (i := 19) (v := .int .i64 ((ps k).i 14)) rfl (by kernel_rfl) (by kernel_rfl) (by kernel_rfl) (fun _ _ _ h => h) (Or.inl ⟨by rfl, fun z hz => by simp [go_sem, execOp, (show z.cell? ⟨g0, o0 + k * 89 + 6 + 8, none⟩ = some (.int .i64 ((ps k).i 14)) from (hz.cell (p := ⟨g0, o0 + k * 89 + 6 + 8, none⟩) hg0).trans o14)]⟩) hH ?_
      simp only [List.getElem_toArray, List.getElem_cons_succ, List.getElem_cons_zero, Act.put, List.setIfInBounds_toArray, List.set_cons_zero, List.set_cons_succ]
      refine wpAnyH_take (i := 20) (v := .int .i64 (b.r.i 6 - (ps k).i 14)) rfl (by kernel_rfl) (by kernel_rfl) (by kernel_rfl) (fun _ _ _ h => h) (Or.inl ⟨by rfl, fun z _ => by simp [go_sem, execOp, hwd]⟩) hH ?_
      simp only [List.getElem_toArray, List.getElem_cons_succ, List.getElem_cons_zero, Act.put, List.setIfInBounds_toArray, List.set_cons_zero, List.set_cons_succ]
      refine wpAnyH_take (i := 21) (v := .int .i64 (max 0 (b.r.i 6 - (ps k).i 14))) rfl (by kernel_rfl) (by kernel_rfl) (by kernel_rfl) (fun _ _ _ h => h) (Or.inl ⟨by rfl, fun z _ => by simp [go_sem, execOp]; split <;> omega⟩) hH ?_
      simp only [List.getElem_toArray, List.getElem_cons_succ, List.getElem_cons_zero, Act.put, List.setIfInBounds_toArray, List.set_cons_zero, List.set_cons_succ]
      refine wpAnyH_take (i := 22) (v := .bool true) rfl (by kernel_rfl) (by kernel_rfl) (by kernel_rfl) (fun _ _ _ h => h) (Or.inl ⟨by rfl, fun z _ => by simp [go_sem, execOp, hle]⟩) hH ?_
      simp only [List.getElem_toArray, List.getElem_cons_succ, List.getElem_cons_zero, Act.put, List.setIfInBounds_toArray, List.set_cons_zero, List.set_cons_succ]
      refine wpAnyH_take (i := 23) rfl (by kernel_rfl) (by kernel_rfl) (by kernel_rfl) (fun _ _ _ h => h) (Or.inl ⟨by rfl, fun z _ => rfl⟩) hH ?_
      simp only [List.getElem_toArray, List.getElem_cons_succ, List.getElem_cons_zero, Act.put, List.setIfInBounds_toArray, List.set_cons_zero, List.set_cons_succ]
      refine wpAnyH_take (i := 24) rfl (by kernel_rfl) (by kernel_rfl) (by kernel_rfl) (fun _ _ _ h => h) (Or.inl ⟨by rfl, fun z _ => rfl⟩) hH ?_
      simp only [List.getElem_toArray, List.getElem_cons_succ, List.getElem_cons_zero, Act.put, List.setIfInBounds_toArray, List.set_cons_zero, List.set_cons_succ]
      refine wpAnyH_take (i := 25) (v := .pointer (some ⟨bx, 17, none⟩)) rfl (by kernel_rfl) (by kernel_rfl) (by kernel_rfl) (fun _ _ _ h => h) (Or.inl ⟨by rfl, fun z _ => by simp [go_sem, execOp]⟩) hH ?_
      simp only [List.getElem_toArray, List.getElem_cons_succ, List.getElem_cons_zero, Act.put, List.setIfInBounds_toArray, List.set_cons_zero, List.set_cons_succ]
      refine wpAnyH_take (i := 26) (v := .slice (some ⟨gp, 0, none⟩) b7.n b7.cp) rfl (by kernel_rfl) (by kernel_rfl) (by kernel_rfl) (fun _ _ _ h => h) (Or.inl ⟨by rfl, fun z hz => by simp [go_sem, execOp, (show z.cell? ⟨bx, 17, none⟩ = some (.slice (some ⟨gp, 0, none⟩) b7.n b7.cp) from (hz.cell (p := ⟨bx, 17, none⟩) hbl).trans e17)]⟩) hH ?_
      simp only [List.getElem_toArray, List.getElem_cons_succ, List.getElem_cons_zero, Act.put, List.setIfInBounds_toArray, List.set_cons_zero, List.set_cons_succ]
      refine wpAnyH_take (i := 27) (v := .int .i64 k) rfl (by kernel_rfl) (by kernel_rfl) (by kernel_rfl) (fun _ _ _ h => h) (Or.inl ⟨by rfl, fun z _ => rfl⟩) hH ?_
      simp only [List.getElem_toArray, List.getElem_cons_succ, List.getElem_cons_zero, Act.put, List.setIfInBounds_toArray, List.set_cons_zero, List.set_cons_succ]
      refine wpAnyH_take (i := 28) (v := .pointer (some ⟨gp, k * 89, none⟩)) rfl (by kernel_rfl) (by kernel_rfl) (by kernel_rfl) (fun _ _ _ h => h) (Or.inl ⟨by rfl, fun z _ => by simp [go_sem, execOp, hk0, hk1', hkb7]⟩) hH ?_
      simp only [List.getElem_toArray, List.getElem_cons_succ, List.getElem_cons_zero, Act.put, List.setIfInBounds_toArray, List.set_cons_zero, List.set_cons_succ]
      refine wpAnyH_take (i := 29) (v := .pointer (some ⟨gp, k * 89 + 6, none⟩)) rfl (by kernel_rfl) (by kernel_rfl) (by kernel_rfl) (fun _ _ _ h => h) (Or.inl ⟨by rfl, fun z _ => by simp [go_sem, execOp]⟩) hH ?_
      simp only [List.getElem_toArray, List.getElem_cons_succ, List.getElem_cons_zero, Act.put, List.setIfInBounds_toArray, List.set_cons_zero, List.set_cons_succ]
      refine wpAnyH_take (i := 30) (v := .pointer (some ⟨gp, k * 89 + 6 + 8, none⟩)) rfl (by kernel_rfl) (by kernel_rfl) (by kernel_rfl) (fun _ _ _ h => h) (Or.inl ⟨by rfl, fun z _ => by simp [go_sem, execOp]⟩) hH ?_
      simp only [List.getElem_toArray, List.getElem_cons_succ, List.getElem_cons_zero, Act.put, List.setIfInBounds_toArray, List.set_cons_zero, List.set_cons_succ]
      refine wpAnyH_take (i := 31) (v := .int .i64 ((ps k).i 14 + s7)) rfl (by kernel_rfl) (by kernel_rfl) (by kernel_rfl) (fun _ _ _ h => h) (Or.inl ⟨by rfl, fun z hz => by simp [go_sem, execOp, (show z.cell? ⟨gp, k * 89 + 6 + 8, none⟩ = some (.int .i64 ((ps k).i 14 + s7)) from (hz.cell (p := ⟨gp, k * 89 + 6 + 8, none⟩) hpl).trans c14)]⟩) hH ?_
      simp only [List.getElem_toArray, List.getElem_cons_succ, List.getElem_cons_zero, Act.put, List.setIfInBounds_toArray, List.set_cons_zero, List.set_cons_succ]
      refine wpAnyH_take (i := 32) (v := .pointer (some ⟨w.heap.size, 17, none⟩)) rfl (by kernel_rfl) (by kernel_rfl) (by kernel_rfl) (fun _ _ _ h => h) (Or.inl ⟨by rfl, fun z _ => by simp [go_sem, execOp]⟩) hH ?_
      simp only [List.getElem_toArray, List.getElem_cons_succ, List.getElem_cons_zero, Act.put, List.setIfInBounds_toArray, List.set_cons_zero, List.set_cons_succ]
      refine wpAnyH_take (i := 33) (v := .slice (some ⟨g0, o0, none⟩) b.n b.cp) rfl (by kernel_rfl) (by kernel_rfl) (by kernel_rfl) (fun _ _ _ h => h) (Or.inl ⟨by rfl, fun z hz => by simp [go_sem, execOp, (show z.cell? ⟨w.heap.size, 17, none⟩ = some (.slice (some ⟨g0, o0, none⟩) b.n b.cp) from (hz.cell (p := ⟨w.heap.size, 17, none⟩) hwl).trans o17)]⟩) hH ?_
      simp only [List.getElem_toArray, List.getElem_cons_succ, List.getElem_cons_zero, Act.put, List.setIfInBounds_toArray, List.set_cons_zero, List.set_cons_succ]
      refine wpAnyH_take (i := 34) (v := .int .i64 k) rfl (by kernel_rfl) (by kernel_rfl) (by kernel_rfl) (fun _ _ _ h => h) (Or.inl ⟨by rfl, fun z _ => rfl⟩) hH ?_
      simp only [List.getElem_toArray, List.getElem_cons_succ, List.getElem_cons_zero, Act.put, List.setIfInBounds_toArray, List.set_cons_zero, List.set_cons_succ]
      refine wpAnyH_take (i := 35) (v := .pointer (some ⟨g0, o0 + k * 89, none⟩)) rfl (by kernel_rfl) (by kernel_rfl) (by kernel_rfl) (fun _ _ _ h => h) (Or.inl ⟨by rfl, fun z _ => by simp [go_sem, execOp, hk0, hk1', hkb7]⟩) hH ?_
      simp only [List.getElem_toArray, List.getElem_cons_succ, List.getElem_cons_zero, Act.put, List.setIfInBounds_toArray, List.set_cons_zero, List.set_cons_succ]
      refine wpAnyH_take (i := 36) (v := .pointer (some ⟨g0, o0 + k * 89 + 6, none⟩)) rfl (by kernel_rfl) (by kernel_rfl) (by kernel_rfl) (fun _ _ _ h => h) (Or.inl ⟨by rfl, fun z _ => by simp [go_sem, execOp]⟩) hH ?_
      simp only [List.getElem_toArray, List.getElem_cons_succ, List.getElem_cons_zero, Act.put, List.setIfInBounds_toArray, List.set_cons_zero, List.set_cons_succ]
      refine wpAnyH_take (i := 37) (v := .pointer (some ⟨g0, o0 + k * 89 + 6 + 8, none⟩)) rfl (by kernel_rfl) (by kernel_rfl) (by kernel_rfl) (fun _ _ _ h => h) (Or.inl ⟨by rfl, fun z _ => by simp [go_sem, execOp]⟩) hH ?_
      simp only [List.getElem_toArray, List.getElem_cons_succ, List.getElem_cons_zero, Act.put, List.setIfInBounds_toArray, List.set_cons_zero, List.set_cons_succ]
      refine wpAnyH_take (i := 38) (v := .int .i64 ((ps k).i 14)) rfl (by kernel_rfl) (by kernel_rfl) (by kernel_rfl) (fun _ _ _ h => h) (Or.inl ⟨by rfl, fun z hz => by simp [go_sem, execOp, (show z.cell? ⟨g0, o0 + k * 89 + 6 + 8, none⟩ = some (.int .i64 ((ps k).i 14)) from (hz.cell (p := ⟨g0, o0 + k * 89 + 6 + 8, none⟩) hg0).trans o14)]⟩) hH ?_
      simp only [List.getElem_toArray, List.getElem_cons_succ, List.getElem_cons_zero, Act.put, List.setIfInBounds_toArray, List.set_cons_zero, List.set_cons_succ]
      refine wpAnyH_take (i := 39) (v := .int .i64 s7) rfl (by kernel_rfl) (by kernel_rfl) (by kernel_rfl) (fun _ _ _ h => h) (Or.inl ⟨by rfl, fun z _ => rfl⟩) hH ?_
      simp only [List.getElem_toArray, List.getElem_cons_succ, List.getElem_cons_zero, Act.put, List.setIfInBounds_toArray, List.set_cons_zero, List.set_cons_succ]
      refine wpAnyH_take (i := 40) (v := .int .i64 ((ps k).i 14 + s7)) rfl (by kernel_rfl) (by kernel_rfl) (by kernel_rfl) (fun _ _ _ h => h) (Or.inl ⟨by rfl, fun z _ => by simp [go_sem, execOp, hwe]⟩) hH ?_
      simp only [List.getElem_toArray, List.getElem_cons_succ, List.getElem_cons_zero, Act.put, List.setIfInBounds_toArray, List.set_cons_zero, List.set_cons_succ]
      refine wpAnyH_take (i := 41) (v := .bool true) rfl (by kernel_rfl) (by kernel_rfl) (by kernel_rfl) (fun _ _ _ h => h) (Or.inl ⟨by rfl, fun z _ => by simp [go_sem, execOp]⟩) hH ?_
      simp only [List.getElem_toArray, List.getElem_cons_succ, List.getElem_cons_zero, Act.put, List.setIfInBounds_toArray, List.set_cons_zero, List.set_cons_succ]
      refine wpAnyH_take (i := 42) rfl (by kernel_rfl) (by kernel_rfl) (by kernel_rfl) (fun _ _ _ h => h) (Or.inl ⟨by rfl, fun z _ => rfl⟩) hH ?_
      simp only [List.getElem_toArray, List.getElem_cons_succ, List.getElem_cons_zero, Act.put, List.setIfInBounds_toArray, List.set_cons_zero, List.set_cons_succ]
      refine wpAnyH_take (i := 43) rfl (by kernel_rfl) (by kernel_rfl) (by kernel_rfl) (fun _ _ _ h => h) (Or.inl ⟨by rfl, fun z _ => rfl⟩) hH ?_
      simp only [List.getElem_toArray, List.getElem_cons_succ, List.getElem_cons_zero, Act.put, List.setIfInBounds_toArray, List.set_cons_zero, List.set_cons_succ]
      refine wpAnyH_done (by kernel_rfl) ?_ _
      go_wp2_with fail
      go_ret
      exact ⟨rfl, HW7.out.trans (hH.mono HW7.out.size)⟩
end Go.Proofs.Ytmlhbfkmnbhoeaa.Br
