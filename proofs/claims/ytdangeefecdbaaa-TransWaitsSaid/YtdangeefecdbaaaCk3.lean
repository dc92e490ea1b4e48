/- Chapter 8: whether another port was a root lately: the program's function and the document's. Conditions: the ports can be read; there aren't very many; the document's: their clocks aren't below 0, nor very much. -/
import Derived.Test.YtdangeefecdbaaaCk1
import Derived.Deep.RegionHeld
import Derived.Deep.CutRange
set_option linter.unusedSimpArgs false
namespace Go.Proofs.Ytdangeefecdbaaa.Br
open Go.RowKit
/-- A port but k that was a root lately. -/
def lately (ps : Nat → Rec) (k j : Nat) : Bool := j != k && (ps j).i 12 != 0
set_option maxRecDepth 100000 in
set_option maxHeartbeats 8000000 in
theorem rerooted_any (b : Bri) (ps : Nat → Rec) (k : Nat) (w : World) (hv : PortsV w b ps) (hn : b.n ≤ 1000) : Calls Try.prog 43 #[.agg (rowB b), .int .i64 k] w fun e w' => e = .returned (.bool (!anyR (lately ps k) b.n)) ∧ Below w.heap.size w w' := by
  go_enter Try.func43, Try.ntmps43
  go_upto_region 1 with (fail)
  refine ((?_ : ∀ x, x = w.alloc (.cells (rowB b) 33) → Code.wp _ _ _ _ x) _ rfl)
  intro w1 hw1
  obtain ⟨gb, hgb⟩ : ∃ x, x = w.heap.size := ⟨_, rfl⟩
  rw [← hgb]
  have hb1 : Below w.heap.size w w1 := by rw [hw1]; exact more (Below.refl _ _) _
  have hB1 : w1.heap[gb]? = some (.cells (rowB b) 33 (0, 0)) := by rw [hw1, hgb]; exact heap_alloc_new _ _
  have HB1 := Lib.hid hB1
  have Hb1 := Lib.hid hb1
  have hV1 := Lib.hid (hv.below hb1)
  have hgl := (Array.getElem?_eq_some_iff.1 hB1).1
  clear hw1 hgb hb1 hB1 hv
  have c17 : w1.cell? ⟨gb, 17, none⟩ = some (.slice b.ap b.n b.cp) := cells_of HB1.out 17
  go_wp2_with fail
  have hB0 : Below w1.heap.size w1 w1 := Below.refl _ _
  go_loopw [9] (fun i wr => ∃ m : Nat, m ≤ b.n ∧ i = .int .i64 m ∧ Hid (∀ j, j < m → lately ps k j = false) ∧ Hid (Below w1.heap.size w1 wr)) (fun i _ => b.n - (intOf i).toNat)
  case atStart => exact ⟨0, by omega, rfl, Lib.hid (fun j hj => by omega), Lib.hid hB0⟩
  case round =>
    clear hB0
    obtain ⟨m, hm, rfl, hF, hBr⟩ := hrel
    have hm0 : (0 : Int) ≤ m := by omega
    have r17 : wr.cell? ⟨gb, 17, none⟩ = some (.slice b.ap b.n b.cp) := (hBr.out.cell (p := ⟨gb, 17, none⟩) hgl).trans c17
    by_cases hlt : m < b.n
    · have dl : decide ((m : Int) < b.n) = true := decide_eq_true (by omega)
      have hm1 : (m : Int) < b.n := by omega
      have hwm : IntKind.i64.wrap ((m : Int) + 1) = (m + 1 : Nat) := by unfold IntKind.wrap; simp [IntKind.signed, IntKind.bits]; omega
      rcases hV1.out with h0 | ⟨g, o, hap, hc⟩
      · omega
      have hg1 : g < w1.heap.size := cell_lt (hc m hlt 0 (by omega))
      have c12 : wr.cell? ⟨g, o + m * 89 + 6 + 6, none⟩ = some (.int .i64 ((ps m).i 12)) := by
        have h := hc m hlt 12 (by omega)
        rw [Nat.add_assoc, Nat.add_assoc]
        exact (hBr.out.cell (p := ⟨g, _, none⟩) hg1).trans h
      rw [hap] at r17
      clear hc hap
      have HBw := Lib.hid (Hb1.out.trans (hBr.out.mono Hb1.out.size))
      by_cases hmk : m = k
      · have dk : ((m : Int) != k) = false := by simp [hmk]
        have hU : lately ps k m = false := by unfold lately; simp [hmk]
        have HU := Lib.hid hU
        clear hU hmk
        go_wp2_with fail
        exact ⟨⟨m + 1, by omega, rfl, Lib.hid (fun j hj => by
          by_cases e : j = m
          · rw [e]; exact HU.out
          · exact hF.out j (by omega)), hBr⟩, by simp [intOf]; omega⟩
      · have dk : ((m : Int) != k) = true := by simp; omega
        have dk' : (m != k) = true := by simp [hmk]
        cases hz : ((ps m).i 12 != 0) with
        | true =>
          have hU : lately ps k m = true := by unfold lately; rw [dk', hz]; rfl
          have HU := Lib.hid (anyR_yes (f := lately ps k) hlt hU)
          clear hU hmk dk'
          go_wp2_with fail
          go_ret
          exact ⟨by rw [HU.out]; rfl, HBw.out⟩
        | false =>
          have hU : lately ps k m = false := by unfold lately; rw [dk', hz]; rfl
          have HU := Lib.hid hU
          clear hU hmk dk'
          go_wp2_with fail
          exact ⟨⟨m + 1, by omega, rfl, Lib.hid (fun j hj => by
            by_cases e : j = m
            · rw [e]; exact HU.out
            · exact hF.out j (by omega)), hBr⟩, by simp [intOf]; omega⟩
    · have dl : decide ((m : Int) < b.n) = false := decide_eq_false (by omega)
      have hA := Lib.hid (anyR_no (f := lately ps k) (n := b.n) (fun j hj => hF.out j (by omega)))
      go_wp2_with fail
      go_ret
      exact ⟨by rw [hA.out]; rfl, Hb1.out.trans (hBr.out.mono Hb1.out.size)⟩
set_option maxRecDepth 100000 in
set_option maxHeartbeats 8000000 in
theorem refrerooted_any (b : Bri) (ps : Nat → Rec) (k : Nat) (w : World) (hv : PortsV w b ps) (hn : b.n ≤ 1000) (hR : ∀ j, j < b.n → 0 ≤ (ps j).i 12 ∧ (ps j).i 12 ≤ 1000) : Calls Try.prog 36 #[.agg (rowB b), .int .i64 k] w fun e w' => e = .returned (.bool (!anyR (lately ps k) b.n)) ∧ Below w.heap.size w w' := by
  have HR := Lib.hid hR
  clear hR
  go_enter Try.func36, Try.ntmps36
  go_upto_region 1 with (fail)
  refine ((?_ : ∀ x, x = w.alloc (.cells (rowB b) 33) → Code.wp _ _ _ _ x) _ rfl)
  intro w1 hw1
  obtain ⟨gb, hgb⟩ : ∃ x, x = w.heap.size := ⟨_, rfl⟩
  rw [← hgb]
  have hb1 : Below w.heap.size w w1 := by rw [hw1]; exact more (Below.refl _ _) _
  have hB1 : w1.heap[gb]? = some (.cells (rowB b) 33 (0, 0)) := by rw [hw1, hgb]; exact heap_alloc_new _ _
  have HB1 := Lib.hid hB1
  have Hb1 := Lib.hid hb1
  have hV1 := Lib.hid (hv.below hb1)
  have hgl := (Array.getElem?_eq_some_iff.1 hB1).1
  clear hw1 hgb hb1 hB1 hv
  have c17 : w1.cell? ⟨gb, 17, none⟩ = some (.slice b.ap b.n b.cp) := cells_of HB1.out 17
  go_wp2_with fail
  have hB0 : Below w1.heap.size w1 w1 := Below.refl _ _
  go_loopw [5, 6] (fun s i wr => ∃ m sm : Nat, m ≤ b.n ∧ s = .int .i64 sm ∧ i = .int .i64 m ∧ Hid (sm ≤ 1000 * m ∧ (sm = 0 → ∀ j, j < m → lately ps k j = false) ∧ (0 < sm → ∃ j, j < m ∧ lately ps k j = true)) ∧ Hid (Below w1.heap.size w1 wr)) (fun _ i _ => b.n - (intOf i).toNat)
  case atStart => exact ⟨0, 0, by omega, rfl, rfl, Lib.hid ⟨by omega, fun _ j hj => by omega, fun h => by omega⟩, Lib.hid hB0⟩
  case round =>
    clear hB0
    obtain ⟨m, sm, hm, rfl, rfl, hF, hBr⟩ := hrel
    have hm0 : (0 : Int) ≤ m := by omega
    have r17 : wr.cell? ⟨gb, 17, none⟩ = some (.slice b.ap b.n b.cp) := (hBr.out.cell (p := ⟨gb, 17, none⟩) hgl).trans c17
    by_cases hlt : m < b.n
    · have dl : decide ((m : Int) < b.n) = true := decide_eq_true (by omega)
      have hm1 : (m : Int) < b.n := by omega
      have hwm : IntKind.i64.wrap ((m : Int) + 1) = (m + 1 : Nat) := by unfold IntKind.wrap; simp [IntKind.signed, IntKind.bits]; omega
      rcases hV1.out with h0 | ⟨g, o, hap, hc⟩
      · omega
      have hg1 : g < w1.heap.size := cell_lt (hc m hlt 0 (by omega))
      have c12 : wr.cell? ⟨g, o + m * 89 + 6 + 6, none⟩ = some (.int .i64 ((ps m).i 12)) := by
        have h := hc m hlt 12 (by omega)
        rw [Nat.add_assoc, Nat.add_assoc]
        exact (hBr.out.cell (p := ⟨g, _, none⟩) hg1).trans h
      rw [hap] at r17
      clear hc hap
      by_cases hmk : m = k
      · have dk : ((m : Int) != k) = false := by simp [hmk]
        have hU : lately ps k m = false := by unfold lately; simp [hmk]
        have HU := Lib.hid hU
        clear hU hmk
        go_wp2_with fail
        exact ⟨⟨m + 1, sm, by omega, rfl, rfl, Lib.hid ⟨by have := hF.out.1; omega, fun h j hj => by
          by_cases e : j = m
          · rw [e]; exact HU.out
          · exact hF.out.2.1 h j (by omega), fun h => by
          obtain ⟨j, hj, hl⟩ := hF.out.2.2 h
          exact ⟨j, by omega, hl⟩⟩, hBr⟩, by simp [intOf]; omega⟩
      · have dk : ((m : Int) != k) = true := by simp; omega
        have dk' : (m != k) = true := by simp [hmk]
        obtain ⟨hz0, hz1⟩ := HR.out m hlt
        obtain ⟨x, hx⟩ := Int.eq_ofNat_of_zero_le hz0
        rw [hx] at hz1 c12
        have hU : lately ps k m = (x != 0) := by unfold lately; rw [dk', hx]; cases x <;> rfl
        have HU := Lib.hid hU
        have hsm := hF.out.1
        have hws : IntKind.i64.wrap ((sm : Int) + x) = (sm + x : Nat) := by unfold IntKind.wrap; simp [IntKind.signed, IntKind.bits]; omega
        clear hU hmk dk' hx hz0
        go_wp2_with fail
        exact ⟨⟨m + 1, sm + x, by omega, rfl, rfl, Lib.hid ⟨by omega, fun h j hj => by
          by_cases e : j = m
          · rw [e, HU.out, show x = 0 by omega]; rfl
          · exact hF.out.2.1 (by omega) j (by omega), fun h => by
          by_cases h0 : x = 0
          · obtain ⟨j, hj, hl⟩ := hF.out.2.2 (by omega)
            exact ⟨j, by omega, hl⟩
          · exact ⟨m, by omega, by rw [HU.out]; simpa using h0⟩⟩, hBr⟩, by simp [intOf]; omega⟩
    · have dl : decide ((m : Int) < b.n) = false := decide_eq_false (by omega)
      obtain rfl : m = b.n := by omega
      have HBw := Lib.hid (Hb1.out.trans (hBr.out.mono Hb1.out.size))
      by_cases hs : sm = 0
      · have hA := Lib.hid (anyR_no (f := lately ps k) (n := b.n) (fun j hj => hF.out.2.1 hs j hj))
        subst hs
        go_wp2_with fail
        go_ret
        exact ⟨by rw [hA.out]; rfl, HBw.out⟩
      · obtain ⟨j, hj, hl⟩ := hF.out.2.2 (by omega)
        have hA := Lib.hid (anyR_yes (f := lately ps k) (n := b.n) hj hl)
        have ds : ((sm : Int) == 0) = false := by simp [hs]
        clear hl
        go_wp2_with fail
        go_ret
        exact ⟨by rw [hA.out]; rfl, HBw.out⟩
end Go.Proofs.Ytdangeefecdbaaa.Br
