/- What fordref08.Right and fordref08.Few answer of a bridge whose ports can be read: where they answer true, what the bridge may be holds. -/
import Derived.Test.YtdangeefecdbaaaShared
namespace Go.Proofs.Ytdangeefecdbaaa.Br
open Go.RowKit
attribute [local go_sem] rowP_size rowP_6 rowP_7 rowP_8 rowP_9 rowP_10 rowP_11 rowP_12 rowP_13 rowP_14 rowP_64 rowP_65 rowP_66 rowP_67 rowP_78 rowP_79 rowP_80 rowP_81 rowP_82 rowP_83 rowP_84 rowP_85
attribute [local go_sem] rowB_size rowB_0 rowB_1 rowB_2 rowB_3 rowB_4 rowB_5 rowB_6 rowB_7 rowB_8 rowB_9 rowB_10 rowB_11 rowB_12 rowB_13 rowB_14 rowB_15 rowB_16 rowB_17 rowB_18 rowB_19
theorem sizeP (p : Rec) : (Try.prog.info? 51).map (·.size) = some (rowP p).size := by rw [rowP_size]; kernel_rfl
theorem sizeB (b : Bri) : (Try.prog.info? 33).map (·.size) = some (rowB b).size := by rw [rowB_size]; kernel_rfl
theorem zeroP (w : World) : Sem.run Try.prog (zeroValue 51) w = .ok (.agg (rowP zeroR)) w := by kernel_rfl
attribute [local go_sem] zeroP
/-- A port of a bridge that may be. -/
def PortOk (p : Rec) : Prop := (∀ x, x < 9 → 0 ≤ p.i (6 + x) ∧ p.i (6 + x) ≤ 1000) ∧ few4 (p.i 78) (p.i 79) (p.i 80) (p.i 81) = true ∧ few4 (p.i 82) (p.i 83) (p.i 84) (p.i 85) = true ∧ few4 (p.i 64) (p.i 65) (p.i 66) (p.i 67) = true
/-- A bridge that may be. -/
def Good (b : Bri) (ps : Nat → Rec) : Prop :=
  right4 (b.r.i 2) (b.r.i 3) (b.r.i 4) (b.r.i 5) = true ∧ few4 (b.r.i 13) (b.r.i 14) (b.r.i 15) (b.r.i 16) = true ∧ b.r.i 2 = 0 ∧ 1 ≤ b.r.i 6 ∧ b.r.i 6 ≤ 10 ∧ b.n ≤ 32 ∧ -1 ≤ b.r.i 12 ∧ b.r.i 12 < b.n ∧ ∀ k, k < b.n → PortOk (ps k)
/-- What is told of Right's answer. -/
def RightTells (b : Bri) (ps : Nat → Rec) (w : World) (e : Ending) (w' : World) : Prop := ∃ r : Bool, e = .returned (.bool r) ∧ (r = true → Good b ps) ∧ Below w.heap.size w w'
theorem RightTells.no {b : Bri} {ps : Nat → Rec} {w w' : World} (h : Below w.heap.size w w') : RightTells b ps w (.returned (.bool false)) w' := ⟨false, rfl, (fun hf => Bool.noConfusion hf), h⟩

set_option maxRecDepth 100000 in
set_option maxHeartbeats 4000000 in
theorem right_any (b : Bri) (ps : Nat → Rec) (w : World) (hv : PortsV w b ps) : Calls Try.prog 17 #[.agg (rowB b)] w (RightTells b ps w) := by
  go_enter Try.func17, Try.ntmps17
  go_wp2_with fail
  refine (right4_any _ _ _ _ _).mono ?_
  rintro e w1 ⟨rfl, hb1⟩
  have hB1 : w1.heap[w.heap.size]? = some (.cells (rowB b) 33 (0, 0)) := by
    rw [hb1.block _ (by simp)]
    exact heap_alloc_new _ _
  have HW1 : Below w.heap.size w w1 := ((Below.refl _ _).alloc (Nat.le_refl _) _).trans (hb1.mono (by simp))
  have HB1 := Lib.hid hB1
  have c13 : w1.cell? ⟨w.heap.size, 13, none⟩ = some (.int .i64 (b.r.i 13)) := cells_of hB1 13
  have c14 : w1.cell? ⟨w.heap.size, 13 + 1, none⟩ = some (.int .i64 (b.r.i 14)) := cells_of hB1 14
  have c15 : w1.cell? ⟨w.heap.size, 13 + 2, none⟩ = some (.int .i64 (b.r.i 15)) := cells_of hB1 15
  have c16 : w1.cell? ⟨w.heap.size, 13 + 3, none⟩ = some (.int .i64 (b.r.i 16)) := cells_of hB1 16
  clear hb1 hB1
  go_wp2_with fail
  refine (few4_any _ _ _ _ _).mono ?_
  rintro e w2 ⟨rfl, hb2⟩
  have hB2 : w2.heap[w.heap.size]? = some (.cells (rowB b) 33 (0, 0)) := by
    rw [hb2.block _ (cell_lt c13)]
    exact HB1.out
  have HW2 : Below w.heap.size w w2 := HW1.trans (hb2.mono HW1.size)
  have HB2 := Lib.hid hB2
  have d2 : w2.cell? ⟨w.heap.size, 2, none⟩ = some (.int .i64 (b.r.i 2)) := cells_of hB2 2
  have d6 : w2.cell? ⟨w.heap.size, 6, none⟩ = some (.int .i64 (b.r.i 6)) := cells_of hB2 6
  have d12 : w2.cell? ⟨w.heap.size, 12, none⟩ = some (.int .i64 (b.r.i 12)) := cells_of hB2 12
  have d17 : w2.cell? ⟨w.heap.size, 17, none⟩ = some (.slice b.ap b.n b.cp) := cells_of hB2 17
  clear hb2 hB2 c13 c14 c15 c16 HB1 HW1
  obtain ⟨q1, hq1⟩ : ∃ q, right4 (b.r.i 2) (b.r.i 3) (b.r.i 4) (b.r.i 5) = q := ⟨_, rfl⟩
  obtain ⟨q2, hq2⟩ : ∃ q, few4 (b.r.i 13) (b.r.i 14) (b.r.i 15) (b.r.i 16) = q := ⟨_, rfl⟩
  have hn0 : (0 : Int) ≤ b.n := by omega
  rw [hq1, hq2]
  have HQ1 := Lib.hid hq1
  have HQ2 := Lib.hid hq2
  clear hq1 hq2
  cases q1 <;> cases q2
  · go_wp2
    go_ret
    exact RightTells.no HW2
  · go_wp2
    go_ret
    exact RightTells.no HW2
  · go_wp2
    go_ret
    exact RightTells.no HW2
  by_cases hG : (0 ≤ b.r.i 2 ∧ b.r.i 2 ≤ 0) ∧ (1 ≤ b.r.i 6 ∧ b.r.i 6 ≤ 10) ∧ (b.n : Int) ≤ 32 ∧ -1 ≤ b.r.i 12 ∧ b.r.i 12 < b.n
  rotate_left
  · go_wp2_with fail
    all_goals first
      | (go_ret; exact RightTells.no HW2)
      | (exfalso; exact hG ⟨by omega, by omega, by omega, by omega, by omega⟩)
  obtain ⟨⟨g1, g2⟩, ⟨g3, g4⟩, g5, g6, g7⟩ := hG
  go_wp2_with fail
  go_loopw [5] (fun i wr => ∃ k : Nat, k ≤ b.n ∧ i = .int .i64 k ∧ Hid (∀ x, x < k → PortOk (ps x)) ∧ Hid (Below w.heap.size w wr) ∧ Hid (wr.heap[w.heap.size]? = some (.cells (rowB b) 33 (0, 0)))) (fun i _ => b.n - (intOf i).toNat)
  case atStart => exact ⟨0, Nat.zero_le _, rfl, fun x hx => absurd hx (Nat.not_lt_zero x), HW2, HB2⟩
  case round =>
    clear d2 d6 d12 d17
    obtain ⟨k, hk, rfl, hok, hW, hB⟩ := hrel
    by_cases hlt : k < b.n
    · rcases hv with h0 | ⟨g, o, hap, hc⟩
      · omega
      have e17 : wr.cell? ⟨w.heap.size, 17, none⟩ = some (.slice (some ⟨g, o, none⟩) b.n b.cp) := by
        rw [← hap]
        exact cells_of hB.out 17
      have hgw : g < w.heap.size := cell_lt (hc k hlt 0 (by omega))
      have hr : wr.rangeAt g (o + k * 89) (rowP (ps k)).toList := fun j v hj => by
        have hj' : j < 89 := by
          have := (List.getElem?_eq_some_iff.1 hj).1
          simpa [rowP_size] using this
        rw [Nat.add_assoc, hW.out.cell (p := ⟨g, _, none⟩) hgw, hc k hlt j hj', ← rowP_get hj']
        simpa using hj
      have Hr := Lib.hid hr
      have hk0 : (0 : Int) ≤ k := by omega
      have hk1 : (k : Int) < b.n := by omega
      clear hr hc hap
      go_wp2_with (first | (refine wpList_row rfl 51 _ rfl g (o + k * 89) rfl (rowP (ps k)) _ Hr.out Try.underlying51 rfl (sizeP _) ?_; simp only [Act.put, List.setIfInBounds_toArray, List.set_cons_zero, List.set_cons_succ]) | (refine wpList_store_new rfl 51 _ _ rfl wr (rowP zeroR) 51 (rowP (ps k)) rfl rfl rfl (sizeP _) rfl (rowP_one _) ?_; simp only [Act.put]))
      go_loop [9] (fun c => ∃ x : Int, 0 ≤ x ∧ x ≤ 9 ∧ c = .int .i64 x ∧ Hid (∀ y : Nat, (y : Int) < x → 0 ≤ (ps k).i (6 + y) ∧ (ps k).i (6 + y) ≤ 1000)) (fun c => 9 - (intOf c).toNat)
      case atStart => exact ⟨0, by omega, by omega, rfl, fun y hy => by omega⟩
      case round =>
        obtain ⟨x, hx0, hx9, rfl, hcl⟩ := hrel
        rcases (show x = 0 ∨ x = 1 ∨ x = 2 ∨ x = 3 ∨ x = 4 ∨ x = 5 ∨ x = 6 ∨ x = 7 ∨ x = 8 ∨ x = 9 from by omega) with rfl | rfl | rfl | rfl | rfl | rfl | rfl | rfl | rfl | rfl
        · go_wp2_with fail
          all_goals first
            | (go_ret; exact RightTells.no (more (more (more hW.out _) _) _))
            | (have t1 : 0 ≤ (ps k).i 6 := by omega
               have t2 : (ps k).i 6 ≤ 1000 := by omega
               go_round
               case rel => exact ⟨1, by omega, by omega, rfl, fun y hy => by
                 by_cases hy2 : (y : Int) < 0
                 · exact hcl.out y hy2
                 · obtain rfl : y = 0 := by omega
                   exact ⟨t1, t2⟩⟩
               case measure => simp [intOf])
        · go_wp2_with fail
          all_goals first
            | (go_ret; exact RightTells.no (more (more (more hW.out _) _) _))
            | (have t1 : 0 ≤ (ps k).i 7 := by omega
               have t2 : (ps k).i 7 ≤ 1000 := by omega
               go_round
               case rel => exact ⟨2, by omega, by omega, rfl, fun y hy => by
                 by_cases hy2 : (y : Int) < 1
                 · exact hcl.out y hy2
                 · obtain rfl : y = 1 := by omega
                   exact ⟨t1, t2⟩⟩
               case measure => simp [intOf])
        · go_wp2_with fail
          all_goals first
            | (go_ret; exact RightTells.no (more (more (more hW.out _) _) _))
            | (have t1 : 0 ≤ (ps k).i 8 := by omega
               have t2 : (ps k).i 8 ≤ 1000 := by omega
               go_round
               case rel => exact ⟨3, by omega, by omega, rfl, fun y hy => by
                 by_cases hy2 : (y : Int) < 2
                 · exact hcl.out y hy2
                 · obtain rfl : y = 2 := by omega
                   exact ⟨t1, t2⟩⟩
               case measure => simp [intOf])
        · go_wp2_with fail
          all_goals first
            | (go_ret; exact RightTells.no (more (more (more hW.out _) _) _))
            | (have t1 : 0 ≤ (ps k).i 9 := by omega
               have t2 : (ps k).i 9 ≤ 1000 := by omega
               go_round
               case rel => exact ⟨4, by omega, by omega, rfl, fun y hy => by
                 by_cases hy2 : (y : Int) < 3
                 · exact hcl.out y hy2
                 · obtain rfl : y = 3 := by omega
                   exact ⟨t1, t2⟩⟩
               case measure => simp [intOf])
        · go_wp2_with fail
          all_goals first
            | (go_ret; exact RightTells.no (more (more (more hW.out _) _) _))
            | (have t1 : 0 ≤ (ps k).i 10 := by omega
               have t2 : (ps k).i 10 ≤ 1000 := by omega
               go_round
               case rel => exact ⟨5, by omega, by omega, rfl, fun y hy => by
                 by_cases hy2 : (y : Int) < 4
                 · exact hcl.out y hy2
                 · obtain rfl : y = 4 := by omega
                   exact ⟨t1, t2⟩⟩
               case measure => simp [intOf])
        · go_wp2_with fail
          all_goals first
            | (go_ret; exact RightTells.no (more (more (more hW.out _) _) _))
            | (have t1 : 0 ≤ (ps k).i 11 := by omega
               have t2 : (ps k).i 11 ≤ 1000 := by omega
               go_round
               case rel => exact ⟨6, by omega, by omega, rfl, fun y hy => by
                 by_cases hy2 : (y : Int) < 5
                 · exact hcl.out y hy2
                 · obtain rfl : y = 5 := by omega
                   exact ⟨t1, t2⟩⟩
               case measure => simp [intOf])
        · go_wp2_with fail
          all_goals first
            | (go_ret; exact RightTells.no (more (more (more hW.out _) _) _))
            | (have t1 : 0 ≤ (ps k).i 12 := by omega
               have t2 : (ps k).i 12 ≤ 1000 := by omega
               go_round
               case rel => exact ⟨7, by omega, by omega, rfl, fun y hy => by
                 by_cases hy2 : (y : Int) < 6
                 · exact hcl.out y hy2
                 · obtain rfl : y = 6 := by omega
                   exact ⟨t1, t2⟩⟩
               case measure => simp [intOf])
        · go_wp2_with fail
          all_goals first
            | (go_ret; exact RightTells.no (more (more (more hW.out _) _) _))
            | (have t1 : 0 ≤ (ps k).i 13 := by omega
               have t2 : (ps k).i 13 ≤ 1000 := by omega
               go_round
               case rel => exact ⟨8, by omega, by omega, rfl, fun y hy => by
                 by_cases hy2 : (y : Int) < 7
                 · exact hcl.out y hy2
                 · obtain rfl : y = 7 := by omega
                   exact ⟨t1, t2⟩⟩
               case measure => simp [intOf])
        · go_wp2_with fail
          all_goals first
            | (go_ret; exact RightTells.no (more (more (more hW.out _) _) _))
            | (have t1 : 0 ≤ (ps k).i 14 := by omega
               have t2 : (ps k).i 14 ≤ 1000 := by omega
               go_round
               case rel => exact ⟨9, by omega, by omega, rfl, fun y hy => by
                 by_cases hy2 : (y : Int) < 8
                 · exact hcl.out y hy2
                 · obtain rfl : y = 8 := by omega
                   exact ⟨t1, t2⟩⟩
               case measure => simp [intOf])
        go_wp2_with fail
        refine (few4_any _ _ _ _ _).mono ?_
        rintro e w3 ⟨rfl, hb3⟩
        have hlt3 : w.heap.size < wr.heap.size := (Array.getElem?_eq_some_iff.1 hB.out).1
        have hP3 : w3.heap[wr.heap.size]? = some (.cells (rowP (ps k)) 51 (0, 0)) := by
          rw [hb3.block _ (by simp; omega)]
          exact third _ _ _ _
        have hB3 : w3.heap[w.heap.size]? = some (.cells (rowB b) 33 (0, 0)) := by
          rw [hb3.block _ (by simp; omega), old3 _ _ _ _ _ hlt3]
          exact hB.out
        have hW3 : Below w.heap.size w w3 := andthen (more (more (more hW.out _) _) _) hb3
        have hs3 : wr.heap.size < w3.heap.size := (Array.getElem?_eq_some_iff.1 hP3).1
        have HB3 := Lib.hid hB3
        have HW3 := Lib.hid hW3
        have HP3 := Lib.hid hP3
        clear hb3 hB3 hW3 hP3
        have p82 : w3.cell? ⟨wr.heap.size, 82, none⟩ = some (.int .i64 ((ps k).i 82)) := cells_of HP3.out 82
        have p83 : w3.cell? ⟨wr.heap.size, 82 + 1, none⟩ = some (.int .i64 ((ps k).i 83)) := cells_of HP3.out 83
        have p84 : w3.cell? ⟨wr.heap.size, 82 + 2, none⟩ = some (.int .i64 ((ps k).i 84)) := cells_of HP3.out 84
        have p85 : w3.cell? ⟨wr.heap.size, 82 + 3, none⟩ = some (.int .i64 ((ps k).i 85)) := cells_of HP3.out 85
        go_wp2_with fail
        refine (few4_any _ _ _ _ _).mono ?_
        rintro e w4 ⟨rfl, hb4⟩
        have hP4 : w4.heap[wr.heap.size]? = some (.cells (rowP (ps k)) 51 (0, 0)) := by
          rw [hb4.block _ hs3]
          exact HP3.out
        have hB4 : w4.heap[w.heap.size]? = some (.cells (rowB b) 33 (0, 0)) := by
          rw [hb4.block _ (by omega)]
          exact HB3.out
        have hs4 : wr.heap.size < w4.heap.size := (Array.getElem?_eq_some_iff.1 hP4).1
        have HB4 := Lib.hid hB4
        have HW4 := Lib.hid (andthen HW3.out hb4)
        clear hb4 hB4 p82 p83 p84 p85
        have p64 : w4.cell? ⟨wr.heap.size, 51 + 13, none⟩ = some (.int .i64 ((ps k).i 64)) := cells_of hP4 64
        have p65 : w4.cell? ⟨wr.heap.size, 51 + 13 + 1, none⟩ = some (.int .i64 ((ps k).i 65)) := cells_of hP4 65
        have p66 : w4.cell? ⟨wr.heap.size, 51 + 13 + 2, none⟩ = some (.int .i64 ((ps k).i 66)) := cells_of hP4 66
        have p67 : w4.cell? ⟨wr.heap.size, 51 + 13 + 3, none⟩ = some (.int .i64 ((ps k).i 67)) := cells_of hP4 67
        clear hP4
        go_wp2_with fail
        refine (few4_any _ _ _ _ _).mono ?_
        rintro e w5 ⟨rfl, hb5⟩
        have hB5 : w5.heap[w.heap.size]? = some (.cells (rowB b) 33 (0, 0)) := by
          rw [hb5.block _ (by omega)]
          exact HB4.out
        have HB5 := Lib.hid hB5
        have HW5 := Lib.hid (andthen HW4.out hb5)
        clear hb5 hB5 p64 p65 p66 p67
        obtain ⟨r1, hr1⟩ : ∃ q, few4 ((ps k).i 78) ((ps k).i 79) ((ps k).i 80) ((ps k).i 81) = q := ⟨_, rfl⟩
        obtain ⟨r2, hr2⟩ : ∃ q, few4 ((ps k).i 82) ((ps k).i 83) ((ps k).i 84) ((ps k).i 85) = q := ⟨_, rfl⟩
        obtain ⟨r3, hr3⟩ : ∃ q, few4 ((ps k).i 64) ((ps k).i 65) ((ps k).i 66) ((ps k).i 67) = q := ⟨_, rfl⟩
        rw [hr1, hr2, hr3]
        have HR1 := Lib.hid hr1
        have HR2 := Lib.hid hr2
        have HR3 := Lib.hid hr3
        clear hr1 hr2 hr3
        cases r1 <;> cases r2 <;> cases r3
        case true.true.true =>
          go_wp2_with fail
          go_roundw
          case rel => exact ⟨k + 1, by omega, by go_num, fun x hx => by
            by_cases hxk : x < k
            · exact hok.out x hxk
            · obtain rfl : x = k := by omega
              exact ⟨fun y hy => hcl.out y (by omega), HR1.out, HR2.out, HR3.out⟩, HW5.out, HB5.out⟩
          case measure => simp [intOf]; omega
        all_goals
          go_wp2_with fail
          go_ret
          exact RightTells.no HW5.out
    · have e17 : wr.cell? ⟨w.heap.size, 17, none⟩ = some (.slice b.ap b.n b.cp) := cells_of hB.out 17
      go_wp2_with fail
      go_ret
      exact ⟨true, rfl, fun _ => ⟨HQ1.out, HQ2.out, by omega, g3, g4, by omega, g6, g7, fun x hx => hok.out x (by omega)⟩, hW.out⟩
end Go.Proofs.Ytdangeefecdbaaa.Br
