/- Chapter 8: for how long a port waits, whether all are synced, whether another was a root lately: the program's functions and the document's. Conditions: the ports can be read; there aren't very many. -/
import Derived.Test.YtdangeefecdbaaaCk1
import Derived.Deep.RegionHeld
import Derived.Deep.CutRange
set_option linter.unusedSimpArgs false
namespace Go.Proofs.Ytdangeefecdbaaa.Br
open Go.RowKit
theorem enters {f : Nat} {fn : Func} {c : Code} (hf : Try.prog.funcs[f]? = some fn) (hname : (fn.name == "runtime.NumGoroutine") = false) (hb : fn.body = some c) (args : Array Value) (w : World) : Sem.run Try.prog (callFunc f args) w = .ok (.enter f args) w := by
  have h1 : fn.name ≠ "runtime.NumGoroutine" := by simpa using hname
  simp [callFunc, hf, h1, hb, mark]
attribute [local go_sem] rowP_44 rowP_47 rowP_87 rowP_88 zeroP
/-- A port that isn't synced. -/
def unsynced (q : Rec) : Bool := !q.b 44 || q.i 87 != q.i 88 || (q.i 87 != 3 && !q.b 47)
theorem synced_cl : Asks 59 unsynced := ⟨enters Try.func59 (by kernel_rfl) rfl, fun q w => by
  unfold unsynced
  cases h44 : q.b 44 <;> cases h1 : (q.i 87 != q.i 88) <;> cases h3 : (q.i 87 != 3) <;> cases h47 : q.b 47 <;>
    (go_enter Try.func59, Try.ntmps59
     go_wp2_with fail
     go_ret
     exact ⟨rfl, more (Below.refl _ _) _⟩)⟩
theorem edge_any (b : Bri) (ps : Nat → Rec) (k : Nat) (w : World) (hv : PortsV w b ps) (hk : k < b.n) : Calls Try.prog 51 #[.agg (rowB b), .int .i64 k] w fun e w' => e = .returned (.int .i64 (if (ps k).b 3 = true then b.r.i 3 else 3)) ∧ Below w.heap.size w w' := by
  obtain ⟨vv, hvv⟩ : ∃ x : Int, x = (if (ps k).b 3 = true then b.r.i 3 else 3) := ⟨_, rfl⟩
  rw [← hvv]
  have HVV := Lib.hid hvv
  clear hvv
  go_enter Try.func51, Try.ntmps51
  go_upto_region 1 with (fail)
  refine ((?_ : ∀ x, x = w.alloc (.cells (rowB b) 33) → Code.wp _ _ _ _ x) _ rfl)
  intro w1 hw1
  obtain ⟨gb, hgb⟩ : ∃ x, x = w.heap.size := ⟨_, rfl⟩
  rw [← hgb]
  have hb1 : Below w.heap.size w w1 := by rw [hw1]; exact more (Below.refl _ _) _
  have hB1 : w1.heap[gb]? = some (.cells (rowB b) 33 (0, 0)) := by rw [hw1, hgb]; exact heap_alloc_new _ _
  have HB1 := Lib.hid hB1
  have Hb1 := Lib.hid hb1
  have hV1 := Lib.hid (hv.below hb1)
  have hgl := (Array.getElem?_eq_some_iff.1 hB1).1
  clear hw1 hgb hb1 hB1 hv
  have hk0 : (0 : Int) ≤ k := by omega
  have hk1 : (k : Int) < b.n := by omega
  rcases hV1.out with h0 | ⟨g, o, hap, hc⟩
  · omega
  have c17 : w1.cell? ⟨gb, 17, none⟩ = some (.slice (some ⟨g, o, none⟩) b.n b.cp) := by rw [← hap]; exact cells_of HB1.out 17
  have cp : w1.cell? ⟨g, o + k * 89 + 3, none⟩ = some (.bool ((ps k).b 3)) := by
    have h := hc k hk 3 (by omega)
    rw [← Nat.add_assoc] at h
    exact h
  clear hc hap
  have d3 : w1.cell? ⟨gb, 2 + 1, none⟩ = some (.int .i64 (b.r.i 3)) := cells_of HB1.out 3
  cases hp : (ps k).b 3 with
  | true =>
    rw [hp] at cp
    have HE := Lib.hid (HVV.out.trans (if_pos hp))
    clear hp HVV
    go_wp2_with fail
    go_ret
    exact ⟨by rw [HE.out]; rfl, Hb1.out⟩
  | false =>
    rw [hp] at cp
    have HE := Lib.hid (HVV.out.trans (if_neg (by rw [hp]; simp)))
    clear hp HVV
    go_wp2_with fail
    go_ret
    exact ⟨by rw [HE.out]; rfl, Hb1.out⟩
theorem refedge_any (b : Bri) (ps : Nat → Rec) (k : Nat) (w : World) (hv : PortsV w b ps) (hk : k < b.n) : Calls Try.prog 37 #[.agg (rowB b), .int .i64 k] w fun e w' => e = .returned (.int .i64 (if (ps k).b 3 = true then b.r.i 3 else 3)) ∧ Below w.heap.size w w' := by
  obtain ⟨vv, hvv⟩ : ∃ x : Int, x = (if (ps k).b 3 = true then b.r.i 3 else 3) := ⟨_, rfl⟩
  rw [← hvv]
  have HVV := Lib.hid hvv
  clear hvv
  go_enter Try.func37, Try.ntmps37
  go_upto_region 1 with (fail)
  refine ((?_ : ∀ x, x = w.alloc (.cells (rowB b) 33) → Code.wp _ _ _ _ x) _ rfl)
  intro w1 hw1
  obtain ⟨gb, hgb⟩ : ∃ x, x = w.heap.size := ⟨_, rfl⟩
  rw [← hgb]
  have hb1 : Below w.heap.size w w1 := by rw [hw1]; exact more (Below.refl _ _) _
  have hB1 : w1.heap[gb]? = some (.cells (rowB b) 33 (0, 0)) := by rw [hw1, hgb]; exact heap_alloc_new _ _
  have HB1 := Lib.hid hB1
  have Hb1 := Lib.hid hb1
  have hV1 := Lib.hid (hv.below hb1)
  have hgl := (Array.getElem?_eq_some_iff.1 hB1).1
  clear hw1 hgb hb1 hB1 hv
  have hk0 : (0 : Int) ≤ k := by omega
  have hk1 : (k : Int) < b.n := by omega
  rcases hV1.out with h0 | ⟨g, o, hap, hc⟩
  · omega
  have c17 : w1.cell? ⟨gb, 17, none⟩ = some (.slice (some ⟨g, o, none⟩) b.n b.cp) := by rw [← hap]; exact cells_of HB1.out 17
  have cp : w1.cell? ⟨g, o + k * 89 + 3, none⟩ = some (.bool ((ps k).b 3)) := by
    have h := hc k hk 3 (by omega)
    rw [← Nat.add_assoc] at h
    exact h
  clear hc hap
  have d3 : w1.cell? ⟨gb, 2 + 1, none⟩ = some (.int .i64 (b.r.i 3)) := cells_of HB1.out 3
  cases hp : (ps k).b 3 with
  | true =>
    rw [hp] at cp
    have HE := Lib.hid (HVV.out.trans (if_pos hp))
    clear hp HVV
    go_wp2_with fail
    go_ret
    exact ⟨by rw [HE.out]; rfl, Hb1.out⟩
  | false =>
    rw [hp] at cp
    have HE := Lib.hid (HVV.out.trans (if_neg (by rw [hp]; simp)))
    clear hp HVV
    go_wp2_with fail
    go_ret
    exact ⟨by rw [HE.out]; rfl, Hb1.out⟩
theorem forward_any (b : Bri) (ps : Nat → Rec) (k : Nat) (w : World) (hv : PortsV w b ps) (hk : k < b.n) : Calls Try.prog 30 #[.agg (rowB b), .int .i64 k] w fun e w' => e = .returned (.int .i64 (if (ps k).b 45 = true then b.r.i 4 else b.r.i 5)) ∧ Below w.heap.size w w' := by
  obtain ⟨vv, hvv⟩ : ∃ x : Int, x = (if (ps k).b 45 = true then b.r.i 4 else b.r.i 5) := ⟨_, rfl⟩
  rw [← hvv]
  have HVV := Lib.hid hvv
  clear hvv
  go_enter Try.func30, Try.ntmps30
  go_upto_region 1 with (fail)
  refine ((?_ : ∀ x, x = w.alloc (.cells (rowB b) 33) → Code.wp _ _ _ _ x) _ rfl)
  intro w1 hw1
  obtain ⟨gb, hgb⟩ : ∃ x, x = w.heap.size := ⟨_, rfl⟩
  rw [← hgb]
  have hb1 : Below w.heap.size w w1 := by rw [hw1]; exact more (Below.refl _ _) _
  have hB1 : w1.heap[gb]? = some (.cells (rowB b) 33 (0, 0)) := by rw [hw1, hgb]; exact heap_alloc_new _ _
  have HB1 := Lib.hid hB1
  have Hb1 := Lib.hid hb1
  have hV1 := Lib.hid (hv.below hb1)
  have hgl := (Array.getElem?_eq_some_iff.1 hB1).1
  clear hw1 hgb hb1 hB1 hv
  have hk0 : (0 : Int) ≤ k := by omega
  have hk1 : (k : Int) < b.n := by omega
  rcases hV1.out with h0 | ⟨g, o, hap, hc⟩
  · omega
  have c17 : w1.cell? ⟨gb, 17, none⟩ = some (.slice (some ⟨g, o, none⟩) b.n b.cp) := by rw [← hap]; exact cells_of HB1.out 17
  have cp : w1.cell? ⟨g, o + k * 89 + 22 + 23, none⟩ = some (.bool ((ps k).b 45)) := by
    have h := hc k hk 45 (by omega)
    rw [← Nat.add_assoc] at h
    exact h
  clear hc hap
  have d4 : w1.cell? ⟨gb, 2 + 2, none⟩ = some (.int .i64 (b.r.i 4)) := cells_of HB1.out 4
  have d5 : w1.cell? ⟨gb, 2 + 3, none⟩ = some (.int .i64 (b.r.i 5)) := cells_of HB1.out 5
  cases hp : (ps k).b 45 with
  | true =>
    rw [hp] at cp
    have HE := Lib.hid (HVV.out.trans (if_pos hp))
    clear hp HVV
    go_wp2_with fail
    go_ret
    exact ⟨by rw [HE.out]; rfl, Hb1.out⟩
  | false =>
    rw [hp] at cp
    have HE := Lib.hid (HVV.out.trans (if_neg (by rw [hp]; simp)))
    clear hp HVV
    go_wp2_with fail
    go_ret
    exact ⟨by rw [HE.out]; rfl, Hb1.out⟩
theorem refforward_any (b : Bri) (ps : Nat → Rec) (k : Nat) (w : World) (hv : PortsV w b ps) (hk : k < b.n) : Calls Try.prog 20 #[.agg (rowB b), .int .i64 k] w fun e w' => e = .returned (.int .i64 (if (ps k).b 45 = true then b.r.i 4 else b.r.i 5)) ∧ Below w.heap.size w w' := by
  obtain ⟨vv, hvv⟩ : ∃ x : Int, x = (if (ps k).b 45 = true then b.r.i 4 else b.r.i 5) := ⟨_, rfl⟩
  rw [← hvv]
  have HVV := Lib.hid hvv
  clear hvv
  go_enter Try.func20, Try.ntmps20
  go_upto_region 1 with (fail)
  refine ((?_ : ∀ x, x = w.alloc (.cells (rowB b) 33) → Code.wp _ _ _ _ x) _ rfl)
  intro w1 hw1
  obtain ⟨gb, hgb⟩ : ∃ x, x = w.heap.size := ⟨_, rfl⟩
  rw [← hgb]
  have hb1 : Below w.heap.size w w1 := by rw [hw1]; exact more (Below.refl _ _) _
  have hB1 : w1.heap[gb]? = some (.cells (rowB b) 33 (0, 0)) := by rw [hw1, hgb]; exact heap_alloc_new _ _
  have HB1 := Lib.hid hB1
  have Hb1 := Lib.hid hb1
  have hV1 := Lib.hid (hv.below hb1)
  have hgl := (Array.getElem?_eq_some_iff.1 hB1).1
  clear hw1 hgb hb1 hB1 hv
  have hk0 : (0 : Int) ≤ k := by omega
  have hk1 : (k : Int) < b.n := by omega
  rcases hV1.out with h0 | ⟨g, o, hap, hc⟩
  · omega
  have c17 : w1.cell? ⟨gb, 17, none⟩ = some (.slice (some ⟨g, o, none⟩) b.n b.cp) := by rw [← hap]; exact cells_of HB1.out 17
  have cp : w1.cell? ⟨g, o + k * 89 + 22 + 23, none⟩ = some (.bool ((ps k).b 45)) := by
    have h := hc k hk 45 (by omega)
    rw [← Nat.add_assoc] at h
    exact h
  clear hc hap
  have d4 : w1.cell? ⟨gb, 2 + 2, none⟩ = some (.int .i64 (b.r.i 4)) := cells_of HB1.out 4
  have d5 : w1.cell? ⟨gb, 2 + 3, none⟩ = some (.int .i64 (b.r.i 5)) := cells_of HB1.out 5
  cases hp : (ps k).b 45 with
  | true =>
    rw [hp] at cp
    have HE := Lib.hid (HVV.out.trans (if_pos hp))
    clear hp HVV
    go_wp2_with fail
    go_ret
    exact ⟨by rw [HE.out]; rfl, Hb1.out⟩
  | false =>
    rw [hp] at cp
    have HE := Lib.hid (HVV.out.trans (if_neg (by rw [hp]; simp)))
    clear hp HVV
    go_wp2_with fail
    go_ret
    exact ⟨by rw [HE.out]; rfl, Hb1.out⟩
theorem synced_any (b : Bri) (ps : Nat → Rec) (w : World) (hv : PortsV w b ps) (hn : b.n ≤ 1000) : Calls Try.prog 57 #[.agg (rowB b)] w fun e w' => e = .returned (.bool (!anyR (fun j => unsynced (ps j)) b.n)) ∧ Below w.heap.size w w' := by
  go_enter Try.func57, Try.ntmps57
  go_upto_region 1 with (fail)
  refine ((?_ : ∀ x, x = w.alloc (.cells (rowB b) 33) → Code.wp _ _ _ _ x) _ rfl)
  intro w1 hw1
  obtain ⟨gb, hgb⟩ : ∃ x, x = w.heap.size := ⟨_, rfl⟩
  rw [← hgb]
  have hb1 : Below w.heap.size w w1 := by rw [hw1]; exact more (Below.refl _ _) _
  have hB1 : w1.heap[gb]? = some (.cells (rowB b) 33 (0, 0)) := by rw [hw1, hgb]; exact heap_alloc_new _ _
  have HB1 := Lib.hid hB1
  have Hb1 := Lib.hid hb1
  have hV1 := Lib.hid (hv.below hb1)
  have hgl := (Array.getElem?_eq_some_iff.1 hB1).1
  clear hw1 hgb hb1 hB1 hv
  have c17 : w1.cell? ⟨gb, 17, none⟩ = some (.slice b.ap b.n b.cp) := cells_of HB1.out 17
  go_wp2_with fail
  refine (contains_any _ unsynced synced_cl b.ap b.n b.cp ps w1 hV1.out hn).mono ?_
  rintro e w2 ⟨rfl, hb2⟩
  have HB2 := Lib.hid (Hb1.out.trans (hb2.mono Hb1.out.size))
  clear hb2
  go_wp2_with fail
  go_ret
  exact ⟨rfl, HB2.out⟩
set_option maxRecDepth 100000 in
set_option maxHeartbeats 8000000 in
theorem refsynced_any (b : Bri) (ps : Nat → Rec) (w : World) (hv : PortsV w b ps) (hn : b.n ≤ 1000) : Calls Try.prog 34 #[.agg (rowB b)] w fun e w' => e = .returned (.bool (!anyR (fun j => unsynced (ps j)) b.n)) ∧ Below w.heap.size w w' := by
  go_enter Try.func34, Try.ntmps34
  go_upto_region 1 with (fail)
  refine ((?_ : ∀ x, x = w.alloc (.cells (rowB b) 33) → Code.wp _ _ _ _ x) _ rfl)
  intro w1 hw1
  obtain ⟨gb, hgb⟩ : ∃ x, x = w.heap.size := ⟨_, rfl⟩
  rw [← hgb]
  have hb1 : Below w.heap.size w w1 := by rw [hw1]; exact more (Below.refl _ _) _
  have hB1 : w1.heap[gb]? = some (.cells (rowB b) 33 (0, 0)) := by rw [hw1, hgb]; exact heap_alloc_new _ _
  have HB1 := Lib.hid hB1
  have Hb1 := Lib.hid hb1
  have hV1 := Lib.hid (hv.below hb1)
  have hgl := (Array.getElem?_eq_some_iff.1 hB1).1
  clear hw1 hgb hb1 hB1 hv
  have c17 : w1.cell? ⟨gb, 17, none⟩ = some (.slice b.ap b.n b.cp) := cells_of HB1.out 17
  go_wp2_with fail
  have hB0 : Below w1.heap.size w1 w1 := Below.refl _ _
  go_loopw [3] (fun i wr => ∃ m : Nat, m ≤ b.n ∧ i = .int .i64 m ∧ Hid (∀ j, j < m → unsynced (ps j) = false) ∧ Hid (Below w1.heap.size w1 wr)) (fun i _ => b.n - (intOf i).toNat)
  case atStart => exact ⟨0, by omega, rfl, Lib.hid (fun j hj => by omega), Lib.hid hB0⟩
  case round =>
    clear hB0
    obtain ⟨m, hm, rfl, hF, hBr⟩ := hrel
    have hm0 : (0 : Int) ≤ m := by omega
    have r17 : wr.cell? ⟨gb, 17, none⟩ = some (.slice b.ap b.n b.cp) := (hBr.out.cell (p := ⟨gb, 17, none⟩) hgl).trans c17
    by_cases hlt : m < b.n
    · have dl : decide ((m : Int) < b.n) = true := decide_eq_true (by omega)
      have hm1 : (m : Int) < b.n := by omega
      have hwm : IntKind.i64.wrap ((m : Int) + 1) = (m + 1 : Nat) := by unfold IntKind.wrap; simp [IntKind.signed, IntKind.bits]; omega
      rcases hV1.out with h0 | ⟨g, o, hap, hc⟩
      · omega
      have hg1 : g < w1.heap.size := cell_lt (hc m hlt 0 (by omega))
      have hr : wr.rangeAt g (o + m * 89) (rowP (ps m)).toList := portV (fun k hk j hj => (hBr.out.cell (p := ⟨g, _, none⟩) hg1).trans (hc k hk j hj)) hlt
      rw [hap] at r17
      clear hc hap
      obtain ⟨q, hq⟩ : ∃ x, x = ps m := ⟨_, rfl⟩
      rw [← hq] at hr
      have hU : unsynced (ps m) = (!q.b 44 || q.i 87 != q.i 88 || (q.i 87 != 3 && !q.b 47)) := by rw [hq]; rfl
      have HU := Lib.hid hU
      have HBw := Lib.hid (Hb1.out.trans (hBr.out.mono Hb1.out.size))
      clear hq hU
      cases h44 : q.b 44 <;> cases h1 : (q.i 87 != q.i 88) <;> cases h3 : (q.i 87 != 3) <;> cases h47 : q.b 47
      all_goals
        have hU := HU.out
        simp only [h44, h1, h3, h47, Bool.not_true, Bool.not_false, Bool.true_or, Bool.or_true, Bool.false_or, Bool.or_false, Bool.and_true, Bool.and_false, Bool.true_and, Bool.false_and] at hU
        have HU2 := Lib.hid hU
        clear hU HU
        go_wp2_with (first | (refine wpList_row rfl 51 _ rfl g (o + m * 89) rfl _ _ hr Try.underlying51 rfl (sizeP _) ?_; simp only [Act.put, List.setIfInBounds_toArray, List.set_cons_zero, List.set_cons_succ]) | (refine wpList_store_new rfl 51 _ _ rfl wr (rowP zeroR) 51 _ rfl rfl rfl (sizeP _) rfl (rowP_one _) ?_; simp only [Act.put]) | fail)
        first
          | (go_ret
             exact ⟨by rw [anyR_yes (f := fun j => unsynced (ps j)) hlt HU2.out]; rfl, HBw.out.alloc HBw.out.size _⟩)
          | exact ⟨⟨m + 1, by omega, rfl, Lib.hid (fun j hj => by
              by_cases e : j = m
              · rw [e]; exact HU2.out
              · exact hF.out j (by omega)), Lib.hid (hBr.out.alloc hBr.out.size _)⟩, by simp [intOf]; omega⟩
    · have dl : decide ((m : Int) < b.n) = false := decide_eq_false (by omega)
      have hA := Lib.hid (anyR_no (f := fun j => unsynced (ps j)) (n := b.n) (fun j hj => hF.out j (by omega)))
      go_wp2_with fail
      go_ret
      exact ⟨by rw [hA.out]; rfl, Hb1.out.trans (hBr.out.mono Hb1.out.size)⟩
end Go.Proofs.Ytdangeefecdbaaa.Br
