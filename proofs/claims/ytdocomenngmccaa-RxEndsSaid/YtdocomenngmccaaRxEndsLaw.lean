/- Law RxEnds of the receiving machine: the walk joined with the plain law. -/
import Derived.Test.YtdocomenngmccaaAwake09
import Derived.Test.YtdocomenngmccaaOpen
import Derived.Test.YtdocomenngmccaaWhole
import Derived.Deep.CutRange
set_option linter.unusedSimpArgs false
namespace Go.Proofs.Ytdocomenngmccaa.Br
open Go.RowKit
theorem at_17 (b : Bri) (gp cp go co gf cf : Nat) : (rowB (b.at gp cp go co gf cf))[17]? = some (.slice (some ⟨gp, 0, none⟩) b.n cp) := rfl
attribute [local go_sem] zeroP zeroBr at_17 rowP_2 rowP_6 rowP_15 rowP_35 rowP_36
theorem rx_stuck (q : Rec) (h35 : q.b 35 = false) (h : q.b 2 = true ∨ q.i 6 = 3) : rxF q = (q, false) := by
  rcases h with h | h <;> simp [rxF, c1, c2, c3, h35, h]
/-- What holds behind three steps. -/
def RxLaw (p q : Rec) : Prop := (p.b 2 = true → (p.i 15 = 0 ∨ p.i 15 = 1) → p.b 36 = false → q.b 36 = p.b 35 ∧ q.b 35 = false) ∧ (q.b 2 = true ∨ (q.b 35 = false ∧ q.i 6 = 3))
theorem ends_law (p : Rec) : (rxF (rxF (rxF p).1).1).2 = false ∧ RxLaw p (rxF (rxF (rxF p).1).1).1 := by
  unfold RxLaw
  cases h2 : p.b 2
  · by_cases h1 : c1 p = true
    · have e : rxF p = (disF p, true) := by unfold rxF; rw [if_pos h1]
      have e2 : rxF (disF p) = (disF p, false) := rx_stuck _ rfl (.inr rfl)
      simp only [e, e2]
      exact ⟨trivial, (fun h => by cases h), .inr ⟨rfl, rfl⟩⟩
    · have h1' := h1
      simp only [c1, h2, Bool.not_false, Bool.true_and, Bool.or_eq_true, not_or, bne_iff_ne, ne_eq, Bool.not_eq_true, Decidable.not_not] at h1'
      have e : rxF p = (p, false) := rx_stuck p h1'.1 (.inr h1'.2)
      simp only [e]
      exact ⟨trivial, (fun h => by cases h), .inr h1'⟩
  · have h1 : ¬ c1 p = true := by simp [c1, h2]
    by_cases hr : c2 p = true ∨ c3 p = true
    · have e : rxF p = (recF p, true) := by
        unfold rxF
        rw [if_neg h1]
        rcases hr with hr | hr
        · rw [if_pos hr]
        · rw [if_pos hr, ite_self]
      have h35 : p.b 35 = true := by
        rcases hr with hr | hr
        · simp only [c2, Bool.and_eq_true] at hr
          exact hr.1.2
        · simp only [c3, Bool.and_eq_true] at hr
          exact hr.1.1.2
      have r2 : (recF p).b 2 = true := by unfold recF; split <;> exact h2
      have r35 : (recF p).b 35 = false := by unfold recF; split <;> rfl
      have r36 : (recF p).b 36 = true := by unfold recF; split <;> rfl
      have e2 : rxF (recF p) = (recF p, false) := rx_stuck _ r35 (.inl r2)
      simp only [e, e2]
      exact ⟨trivial, (fun _ _ _ => ⟨by rw [r36, h35], r35⟩), .inl r2⟩
    · have n2 : ¬ c2 p = true := fun h => hr (.inl h)
      have n3 : ¬ c3 p = true := fun h => hr (.inr h)
      have e : rxF p = (p, false) := by
        unfold rxF
        rw [if_neg h1, if_neg n2, if_neg n3]
      simp only [e]
      refine ⟨trivial, (fun _ h15 h36 => ?_), .inl h2⟩
      have h35 : p.b 35 = false := by
        cases h35 : p.b 35
        · rfl
        · rcases h15 with h | h
          · exact absurd (by simp [c2, h, h35, h2]) n2
          · exact absurd (by simp [c3, h, h35, h2, h36]) n3
      exact ⟨by rw [h35, h36], h35⟩
set_option maxRecDepth 100000 in
set_option maxHeartbeats 8000000 in
theorem ends_any (b : Bri) (ps ss : Nat → Rec) (fs : Nat → Int) (w : World) (i : Nat) (hi : i ≤ 255) (h : Reads0 w b ps ss fs) :
    Calls Try.prog 4 #[.agg (rowB b), .int .u8 i] w fun e w' => e = .returned (.bool true) ∧ Below w.heap.size w w' := by
  have HR := Lib.hid h
  clear h
  go_enter Try.func4, Try.ntmps4
  go_wp2_with fail
  refine (awake_any _).mono ?_
  rintro e w1 ⟨rfl, hb1⟩
  have HB : Hid (w1.heap[w.heap.size]? = some (.cells (rowB b) 33 (0, 0))) := (hb1.block _ (by simp)).trans (at_new rfl)
  have HW1 := Lib.hid (andthen (more (Below.refl w.heap.size w) _) hb1)
  clear hb1
  go_wp2_with (first | (refine loadB rfl rfl _ rfl w.heap.size rfl b HB.out ?_; simp only [Act.put, List.setIfInBounds_toArray, List.set_cons_zero, List.set_cons_succ]) | fail)
  refine (few_any b ps _ (HR.out.below HW1.out).p).mono ?_
  rintro e w2 ⟨r, rfl, hr, hb2⟩
  have HB' : Hid (w2.heap[w.heap.size]? = some (.cells (rowB b) 33 (0, 0))) := (hb2.block _ (Array.getElem?_eq_some_iff.1 HB.out).1).trans HB.out
  have HW2 := Lib.hid (andthen HW1.out hb2)
  have Hr := Lib.hid hr
  clear hb2 hr HB HW1
  cases r
  · go_wp2_with fail
    go_ret
    exact ⟨rfl, HW2.out⟩
  have HL := Lib.hid (Hr.out rfl)
  clear Hr
  have HB := HB'
  clear HB'
  have hn1 : 0 < b.n := HL.out.2.1
  have hn8 : b.n ≤ 8 := HL.out.2.2.1
  go_wp2_with (first | (refine loadB rfl rfl _ rfl w.heap.size rfl b HB.out ?_; simp only [Act.put, List.setIfInBounds_toArray, List.set_cons_zero, List.set_cons_succ]) | fail)
  refine (at_any b i _ hi hn1 hn8).mono ?_
  rintro e w3 ⟨rfl, hb3⟩
  have HB' : Hid (w3.heap[w.heap.size]? = some (.cells (rowB b) 33 (0, 0))) := (hb3.block _ (Array.getElem?_eq_some_iff.1 HB.out).1).trans HB.out
  have HW3 := Lib.hid (andthen HW2.out hb3)
  clear hb3 HB HW2
  have HB := HB'
  clear HB'
  obtain ⟨k, hk⟩ : ∃ k, k = i % b.n := ⟨_, rfl⟩
  have hkn : k < b.n := by rw [hk]; exact Nat.mod_lt _ hn1
  rw [← hk]
  have Hk := Lib.hid hk
  clear hk
  go_wp2_with (first | (refine loadB rfl rfl _ rfl w.heap.size rfl b HB.out ?_; simp only [Act.put, List.setIfInBounds_toArray, List.set_cons_zero, List.set_cons_succ]) | fail)
  refine (clone_any b ps ss fs _ ((HR.out.below HW3.out).looked HL.out)).mono ?_
  rintro e w4 ⟨gp, cp, go, co, gf, cf, rfl, hp1, hp2, hp3, op, os, of, hb⟩
  have HP := Lib.hid op.ports
  have hgl := op.lt
  have HW4 := Lib.hid (andthen HW3.out hb)
  have hge : w.heap.size ≤ gp := Nat.le_trans HW3.out.size hp1
  have HB' : Hid (w4.heap[w.heap.size]? = some (.cells (rowB b) 33 (0, 0))) := (hb.block _ (Array.getElem?_eq_some_iff.1 HB.out).1).trans HB.out
  have hlt : w.heap.size < w4.heap.size := (Array.getElem?_eq_some_iff.1 HB'.out).1
  have hlt3 : w.heap.size < w3.heap.size := (Array.getElem?_eq_some_iff.1 HB.out).1
  clear op os of hb hp2 hp3 HB
  have HB := HB'
  clear HB'
  rcases HR.out.p with h0 | ⟨g0, o0, hap, hc⟩
  · omega
  have HC := Lib.hid hc
  clear hc
  have Hap := Lib.hid hap
  clear hap
  go_wp2_with (first | (refine wpList_store_at rfl 33 _ _ rfl _ (rowB zeroBri) 33 (rowB (b.at gp cp go co gf cf)) _ rfl rfl rfl rfl (sizeB _) rfl (rowB_one _) ?_; simp only [Act.put]) | fail)
  refine (step_on _ _ gp b.n cp k ps (ps k) hkn (by simp) (by simp; omega) ?hb ?hp).mono ?_
  case hp => exact ((HP.out.start k).alloc _)
  case hb => simp [go_sem]
  rintro e w5 ⟨rfl, hp5, ho5, hb5⟩
  have hA5 := (Only.refl (· = gp) w4).alloc _ |>.trans ho5
  have d5 : w4.heap.size < w5.heap.size := by have := ho5.size; simp at this; omega
  go_wp2_with fail
  refine (step_on _ _ gp b.n cp k ps _ hkn d5 (by omega) hb5 hp5).mono ?_
  rintro e w6 ⟨rfl, hp6, ho6, hb6⟩
  have hA6 := hA5.trans ho6
  have d6 : w4.heap.size < w6.heap.size := by have := ho6.size; omega
  go_wp2_with fail
  refine (step_on _ _ gp b.n cp k ps _ hkn d6 (by omega) hb6 hp6).mono ?_
  rintro e w7 ⟨rfl, hp7, ho7, hb7⟩
  have hA7 := hA6.trans ho7
  have d7 : w4.heap.size < w7.heap.size := by have := ho7.size; omega
  have hf := ends_law (ps k)
  rw [hf.1]
  have hr := hp7.range hkn
  rw [upd_same] at hr
  generalize (rxF (rxF (rxF (ps k)).1).1).1 = q at hf hr
  have hq := hf.2
  clear hf hp7 hp6 hp5 HP
  have hg0 : g0 < w.heap.size := cell_lt (HC.out k hkn 0 (by omega))
  have hlt7 : w.heap.size < w7.heap.size := by have := d7; omega
  have e17 : w7.cell? ⟨w.heap.size, 17, none⟩ = some (.slice (some ⟨g0, o0, none⟩) b.n b.cp) := by
    rw [← Hap.out, hA7.cell hlt (by show ¬ w.heap.size = gp; omega)]
    exact cells_of HB.out 17
  have hry : (w7.alloc (.cells (rowP q) 52)).rangeAt g0 (o0 + k * 89) (rowP (ps k)).toList := World.rangeAt_alloc (w := w7) (fun j v hj => by
    have hj' : j < 89 := by
      have := (List.getElem?_eq_some_iff.1 hj).1
      simpa [rowP_size] using this
    rw [Nat.add_assoc, hA7.cell (p := ⟨g0, _, none⟩) (by show g0 < _; omega) (by show ¬ g0 = gp; omega), HW4.out.cell (p := ⟨g0, _, none⟩) hg0, HC.out k hkn j hj', ← rowP_get hj']
    simpa using hj) _
  have hk0 : (0 : Int) ≤ k := by omega
  have hk1 : (k : Int) < b.n := by omega
  have HA7 := Lib.hid hA7
  clear hA7 hA6 hA5 ho5 ho6 ho7 hb5 hb6
  go_upto_region 12 with (first | (refine wpList_row rfl 52 _ rfl gp (k * 89) rfl _ _ hr Try.underlying52 rfl (sizeP _) ?_; simp only [Act.put, List.setIfInBounds_toArray, List.set_cons_zero, List.set_cons_succ]) | (refine wpList_row rfl 52 _ rfl g0 (o0 + k * 89) rfl _ _ hry Try.underlying52 rfl (sizeP _) ?_; simp only [Act.put, List.setIfInBounds_toArray, List.set_cons_zero, List.set_cons_succ]) | (refine wpList_store_new rfl 52 _ _ rfl w7 (rowP zeroR) 52 _ rfl rfl rfl (sizeP _) rfl (rowP_one _) ?_; simp only [Act.put]) | (refine wpList_store_at rfl 52 _ _ rfl (w7.alloc (.cells (rowP q) 52)) (rowP zeroR) 52 (rowP (ps k)) (w7.heap.size + 1) rfl rfl (by simp) rfl (sizeP _) rfl (rowP_one _) ?_; simp only [Act.put]) | fail)
  obtain ⟨w8, hw8⟩ : ∃ x, x = (w7.alloc (.cells (rowP q) 52)).alloc (.cells (rowP (ps k)) 52) := ⟨_, rfl⟩
  rw [← hw8]
  have hq8 : w8.heap[w7.heap.size]? = some (.cells (rowP q) 52 (0, 0)) := by rw [hw8]; exact at_old (by simp) (heap_alloc_new _ _)
  have hs8 : w8.heap[w7.heap.size + 1]? = some (.cells (rowP (ps k)) 52 (0, 0)) := by rw [hw8]; exact at_new (by simp)
  have HA8 := Lib.hid (show Only (· = gp) w4 w8 by rw [hw8]; exact (HA7.out.alloc _).alloc _)
  clear hw8 hr hry e17 hb7
  have s15 : w8.cell? ⟨w7.heap.size + 1, 15, none⟩ = some (.int .i64 ((ps k).i 15)) := cells_of hs8 15
  have s2 : w8.cell? ⟨w7.heap.size + 1, 2, none⟩ = some (.bool ((ps k).b 2)) := cells_of hs8 2
  have s36 : w8.cell? ⟨w7.heap.size + 1, 22 + 14, none⟩ = some (.bool ((ps k).b 36)) := cells_of hs8 36
  have s35 : w8.cell? ⟨w7.heap.size + 1, 22 + 13, none⟩ = some (.bool ((ps k).b 35)) := cells_of hs8 35
  have q36 : w8.cell? ⟨w7.heap.size, 22 + 14, none⟩ = some (.bool (q.b 36)) := cells_of hq8 36
  have q35 : w8.cell? ⟨w7.heap.size, 22 + 13, none⟩ = some (.bool (q.b 35)) := cells_of hq8 35
  have q2 : w8.cell? ⟨w7.heap.size, 2, none⟩ = some (.bool (q.b 2)) := cells_of hq8 2
  have q6 : w8.cell? ⟨w7.heap.size, 6, none⟩ = some (.int .i64 (q.i 6)) := cells_of hq8 6
  clear hq8 hs8
  obtain ⟨x1, hx1⟩ : ∃ x, x = ((ps k).i 15 == 0 || (ps k).i 15 == 1) := ⟨_, rfl⟩
  have X1 := Lib.hid hx1
  have hB := Lib.hid (show ((ps k).b 2 && x1 && !(ps k).b 36 && ((q.b 36 != (ps k).b 35) || q.b 35)) = false from by
    rw [hx1]
    have h1 := hq.1
    cases e2 : (ps k).b 2
    · rfl
    · by_cases e0 : (ps k).i 15 = 0 ∨ (ps k).i 15 = 1
      · cases e36 : (ps k).b 36
        · have h := h1 e2 e0 e36
          rw [h.1, h.2]
          simp
        · simp
      · simp only [not_or] at e0
        simp [e0.1, e0.2])
  have hC := Lib.hid (show (q.b 2 || (!q.b 35 && q.i 6 == 3)) = true from by
    rcases hq.2 with h | ⟨h, h'⟩
    · rw [h]; rfl
    · rw [h, h']; simp)
  clear hx1 hq
  go_cut [12] from 40 to 49 (fun c wx => c = .bool x1 ∧ wx = w8)
  case first =>
    go_wp2_with fail
    all_goals
      go_meet
      exact ⟨(by rw [X1.out] <;> simp [*]), rfl⟩
  case rest =>
    obtain ⟨rfl, rfl⟩ := hcut
    clear s15 X1
    cases x1
    all_goals
      go_upto_region 13 with (fail)
      go_cut [74] from 50 to 74 (fun c wx => c = .bool false ∧ wx = wc)
      case first =>
        go_wp2_with fail
        all_goals
          go_meet
          exact ⟨(by rw [← hB.out] <;> simp [*]), rfl⟩
      case rest =>
        obtain ⟨rfl, rfl⟩ := hcut
        clear s2 s36 s35 q36
        go_wp2_with fail
        all_goals
          go_ret
          exact ⟨(by have h := hC.out; simp_all), HW4.out.trans (HA8.out.below (B := w.heap.size) HW4.out.size (fun k hk => by omega))⟩
end Go.Proofs.Ytdocomenngmccaa.Br
