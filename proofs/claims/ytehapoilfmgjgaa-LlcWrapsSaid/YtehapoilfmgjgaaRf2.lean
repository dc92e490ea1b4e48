/- Chapters 5, 6: the document's Plain (layer 5) is what is plain. Conditions: the message's numbers fit. -/
import Derived.Test.YtehapoilfmgjgaaRf1
import Derived.Test.YtehapoilfmgjgaaDe4
import Derived.Test.YtehapoilfmgjgaaPl
import Derived.StillTailTactics
set_option linter.unusedSimpArgs false
set_option linter.unusedVariables false
namespace Go.Proofs.Ytehapoilfmgjgaa.Oct
open Go.RowKit
theorem bldTm (a b c d : Int) (w : World) : Sem.run Try.prog (Instr.build 28 #[(0, .int .i64 a), (1, .int .i64 b), (2, .int .i64 c), (3, .int .i64 d)]) w = .ok (.agg #[.int .i64 a, .int .i64 b, .int .i64 c, .int .i64 d]) w := by kernel_rfl
theorem bldC (p q : Bool) (x0 x1 x2 x3 x4 y0 y1 y2 y3 : Int) (w : World) : Sem.run Try.prog (Instr.build 30 #[(1, .bool p), (2, .bool q), (7, .int .i64 4), (8, .agg #[.int .u64 x0, .int .u32 x1, .int .u64 x2, .int .u16 x3, .int .u16 x4]), (9, .agg #[.int .i64 y0, .int .i64 y1, .int .i64 y2, .int .i64 y3])]) w = .ok (.agg (rowM ⟨0, p, q, false, false, false, false, 4, x0, x1, x2, x3, x4, y0, y1, y2, y3⟩)) w := by kernel_rfl
theorem vec_range {w : World} {g : Nat} {m : Msg} (h : w.heap[g]? = some (.cells (rowM m) 30 (0, 0))) : w.rangeAt g 8 #[.int .u64 m.root, .int .u32 m.cost, .int .u64 m.bridge, .int .u16 m.port, .int .u16 m.rx].toList := fun j v hv => by
  rw [cells_of h]
  match j, hv with
  | 0, hv => exact hv
  | 1, hv => exact hv
  | 2, hv => exact hv
  | 3, hv => exact hv
  | 4, hv => exact hv
  | q + 5, hv => simp at hv
theorem times_range {w : World} {g : Nat} {m : Msg} (h : w.heap[g]? = some (.cells (rowM m) 30 (0, 0))) : w.rangeAt g 13 #[.int .i64 m.age, .int .i64 m.mx, .int .i64 m.hel, .int .i64 m.del].toList := fun j v hv => by
  rw [cells_of h]
  match j, hv with
  | 0, hv => exact hv
  | 1, hv => exact hv
  | 2, hv => exact hv
  | 3, hv => exact hv
  | q + 4, hv => simp at hv
attribute [local go_sem] bldZ bld1 bldTm bldC
set_option maxRecDepth 100000 in
set_option maxHeartbeats 16000000 in
theorem rplain_any (m : Msg) (hm : MsgOk m) (w : World) : Calls Try.prog 24 #[.agg (rowM m)] w fun e w' => e = .returned (.agg (rowM (plainM m))) ∧ Below w.heap.size w w' := by
  obtain ⟨pm, hpm⟩ : ∃ x, x = plainM m := ⟨_, rfl⟩
  have HPM := Lib.hid hpm
  rw [← hpm]
  have HM := Lib.hid hm
  clear hm hpm
  go_enter Try.func24, Try.ntmps24
  go_upto_region 1 with (fail)
  refine ((?_ : ∀ x, x = (w.alloc (.cells (rowM m) 30)).alloc (.cells (rowM zeroMsg) 30) → Code.wp _ _ _ _ x) _ rfl)
  intro w1 hw1
  obtain ⟨n0, hn0⟩ : ∃ x, x = w.heap.size := ⟨_, rfl⟩
  have HX1 := Lib.hid (show w1.heap[n0]? = some (.cells (rowM m) 30 (0, 0)) by rw [hw1, hn0]; exact at_old (by simp) (at_new rfl))
  have HR1 := Lib.hid (show w1.heap[n0 + 1]? = some (.cells (rowM zeroMsg) 30 (0, 0)) by rw [hw1, hn0]; exact at_new (by simp))
  have HB1 := Lib.hid (show Below n0 w w1 by rw [hw1, hn0]; exact more (more (Below.refl _ _) _) _)
  rw [← hn0]
  have HN := Lib.hid hn0
  clear hw1 hn0
  have k0 : w1.cell? ⟨n0, 0, none⟩ = some (.int .i64 m.kind) := cells_of HX1.out 0
  by_cases hk : m.kind < 0 ∨ 2 < m.kind
  · have hz : pm = zeroMsg := by rw [HPM.out]; exact plain_no hk
    subst hz
    rcases hk with h | h
    · have d0 : decide (m.kind < 0) = true := decide_eq_true h
      go_wp2_with (first | (refine wpList_store_row rfl 30 _ _ rfl (n0 + 1) (rowM zeroMsg) rfl rfl 30 (rowM zeroMsg) HR1.out (sizeM _) rfl (rowM_one _) ?_; simp only [Act.put, List.setIfInBounds_toArray, List.set_cons_zero, List.set_cons_succ]) | fail)
      refine bodyPost_ret (results_cell_row rfl _ _ (n0 + 1) 30 (rowM zeroMsg) (0, 0) _ rfl (setRow_heap _ _ (rowM zeroMsg) _ _ _ HR1.out) Try.underlying30 rfl (sizeM _)) rfl ?_
      exact ⟨rfl, by rw [← HN.out]; exact Below.setRow HB1.out (by omega)⟩
    · have d0 : decide (m.kind < 0) = false := decide_eq_false (by omega)
      have d1 : decide (2 < m.kind) = true := decide_eq_true h
      go_wp2_with (first | (refine wpList_store_row rfl 30 _ _ rfl (n0 + 1) (rowM zeroMsg) rfl rfl 30 (rowM zeroMsg) HR1.out (sizeM _) rfl (rowM_one _) ?_; simp only [Act.put, List.setIfInBounds_toArray, List.set_cons_zero, List.set_cons_succ]) | fail)
      refine bodyPost_ret (results_cell_row rfl _ _ (n0 + 1) 30 (rowM zeroMsg) (0, 0) _ rfl (setRow_heap _ _ (rowM zeroMsg) _ _ _ HR1.out) Try.underlying30 rfl (sizeM _)) rfl ?_
      exact ⟨rfl, by rw [← HN.out]; exact Below.setRow HB1.out (by omega)⟩
  have d0 : decide (m.kind < 0) = false := decide_eq_false (by omega)
  have d1 : decide (2 < m.kind) = false := decide_eq_false (by omega)
  by_cases h1 : m.kind = 1
  · have hz : pm = { zeroMsg with kind := 1 } := by rw [HPM.out]; exact plain_1 h1
    subst hz
    rw [h1] at k0 d0 d1
    clear h1 hk
    go_wp2_with (first | (refine wpList_store_row rfl 30 _ _ rfl (n0 + 1) (rowM { zeroMsg with kind := 1 }) rfl rfl 30 (rowM zeroMsg) HR1.out (sizeM _) rfl (rowM_one _) ?_; simp only [Act.put, List.setIfInBounds_toArray, List.set_cons_zero, List.set_cons_succ]) | fail)
    refine bodyPost_ret (results_cell_row rfl _ _ (n0 + 1) 30 (rowM { zeroMsg with kind := 1 }) (0, 0) _ rfl (setRow_heap _ _ (rowM zeroMsg) _ _ _ HR1.out) Try.underlying30 rfl (sizeM _)) rfl ?_
    exact ⟨rfl, by rw [← HN.out]; exact Below.setRow HB1.out (by omega)⟩
  have e1 : (m.kind == 1) = false := by simpa using h1
  have c12 : w1.cell? ⟨n0, 12, none⟩ = some (.int .u16 m.rx) := cells_of HX1.out 12
  have f12 : w1.frozen? ⟨n0, 12, none⟩ = false := free_block HX1.out _
  go_upto_region 6 with (fail)
  refine ((?_ : ∀ x, x = w1.setCell ⟨n0, 12, none⟩ (.int .u16 0) → Code.wp _ _ _ _ x) _ rfl)
  intro w2 hw2
  have HX2 := Lib.hid (show w2.heap[n0]? = some (.cells (rowM { m with rx := 0 }) 30 (0, 0)) by rw [hw2]; exact at_set HX1.out (rowM_put_12 _ _))
  have HR2 := Lib.hid (show w2.heap[n0 + 1]? = some (.cells (rowM zeroMsg) 30 (0, 0)) by rw [hw2]; exact (Below.heap_setCell _ _ _ _ (by simp <;> omega)).trans HR1.out)
  have HB2 := Lib.hid (show Below n0 w w2 by rw [hw2]; exact Below.setCell HB1.out (Nat.le_refl _) _)
  clear hw2 c12 f12 k0 HX1 HR1 HB1
  have k13 : w2.cell? ⟨n0, 13, none⟩ = some (.int .i64 m.age) := cells_of HX2.out 13
  have k14 : w2.cell? ⟨n0, 14, none⟩ = some (.int .i64 m.mx) := cells_of HX2.out 14
  have k15 : w2.cell? ⟨n0, 15, none⟩ = some (.int .i64 m.hel) := cells_of HX2.out 15
  have k16 : w2.cell? ⟨n0, 16, none⟩ = some (.int .i64 m.del) := cells_of HX2.out 16
  go_still_tail 22, (by kernel_rfl)
  still_call (rto_any _ _)
  still_call (rfrom_any _ (toN_in _) _)
  repeat still_step
  still_call (rto_any _ _)
  still_call (rfrom_any _ (toN_in _) _)
  repeat still_step
  still_call (rto_any _ _)
  still_call (rfrom_any _ (toN_in _) _)
  repeat still_step
  still_call (rto_any _ _)
  still_call (rfrom_any _ (toN_in _) _)
  repeat still_step
  refine wpStill_nil ?_
  refine ((?_ : ∀ x, x = w2.drew → wpList _ _ _ _ _ x) _ rfl)
  intro w3 hw3
  have hb3 : Below w2.heap.size w2 w3 := by rw [hw3]; exact (Below.refl _ _).drew
  have HX3 := Lib.hid ((hb3.block _ (Array.getElem?_eq_some_iff.1 HX2.out).1).trans HX2.out)
  have HR3 := Lib.hid ((hb3.block _ (Array.getElem?_eq_some_iff.1 HR2.out).1).trans HR2.out)
  have HB3 := Lib.hid (HB2.out.trans (hb3.mono (by have := HB2.out.size; have := HN.out; omega)))
  clear hw3 hb3 HX2 HR2 HB2 k13 k14 k15 k16
  have hth := room_M HX3.out 13 4 (by omega)
  go_upto_region 7 with (first | (refine wpList_store_mid rfl 28 _ _ rfl n0 13 #[.int .i64 (fromN (toN m.age)), .int .i64 (fromN (toN m.mx)), .int .i64 (fromN (toN m.hel)), .int .i64 (fromN (toN m.del))] rfl rfl hth (by kernel_rfl) (by kernel_rfl) ?_; simp only [Act.put]) | fail)
  refine ((?_ : ∀ x, x = w3.setCells n0 13 [.int .i64 (fromN (toN m.age)), .int .i64 (fromN (toN m.mx)), .int .i64 (fromN (toN m.hel)), .int .i64 (fromN (toN m.del))] → Code.wp _ _ _ _ x) _ rfl)
  intro w4 hw4
  obtain ⟨q, hq⟩ : ∃ q, q = { m with rx := 0, age := fromN (toN m.age), mx := fromN (toN m.mx), hel := fromN (toN m.hel), del := fromN (toN m.del) } := ⟨_, rfl⟩
  have hX4 := times_put HX3.out (fromN (toN m.age)) (fromN (toN m.mx)) (fromN (toN m.hel)) (fromN (toN m.del))
  rw [← hw4] at hX4
  have HX4 := Lib.hid (show w4.heap[n0]? = some (.cells (rowM q) 30 (0, 0)) by rw [hq]; exact hX4)
  have hO4 : Only (· = n0) w3 w4 := by rw [hw4]; exact Only.setCells (S := (· = n0)) rfl _ _ _
  have HR4 := Lib.hid ((hO4.block _ (Array.getElem?_eq_some_iff.1 HR3.out).1 (by omega)).trans HR3.out)
  have HB4 := Lib.hid (show Below n0 w w4 from HB3.out.trans (hO4.below (B := n0) (by have := HB3.out.size; have := HN.out; omega) (fun x hx => by omega)))
  clear hw4 hX4 hO4 hth HX3 HR3 HB3
  have HQ := Lib.hid hq
  have k0 : w4.cell? ⟨n0, 0, none⟩ = some (.int .i64 m.kind) := by rw [cells_of HX4.out 0, HQ.out]; rfl
  have hPM := HPM.out
  by_cases h0 : m.kind = 0
  · have hz : pm = ⟨0, m.change, m.ack, false, false, false, false, 4, m.root, m.cost, m.bridge, m.port, 0, fromN (toN m.age), fromN (toN m.mx), fromN (toN m.hel), fromN (toN m.del)⟩ := by
      rw [hPM]
      unfold plainM
      rw [if_neg h1, if_pos h0]
      obtain ⟨k, _⟩ := m
      simp only [] at h0
      subst h0
      rfl
    rw [h0] at k0
    have x1 : w4.cell? ⟨n0, 1, none⟩ = some (.bool m.change) := by rw [cells_of HX4.out 1, HQ.out]; rfl
    have x2 : w4.cell? ⟨n0, 2, none⟩ = some (.bool m.ack) := by rw [cells_of HX4.out 2, HQ.out]; rfl
    have hrV := vec_range HX4.out
    have hrT := times_range HX4.out
    rw [HQ.out] at hrV hrT
    simp only [] at hrV hrT
    clear h0 h1 hk e1 d0 d1 hPM hq
    go_wp2_with (first
      | (refine wpList_row rfl 26 _ rfl n0 8 rfl #[.int .u64 m.root, .int .u32 m.cost, .int .u64 m.bridge, .int .u16 m.port, .int .u16 0] _ hrV Try.underlying26 rfl (by kernel_rfl) ?_; simp only [Act.put, List.setIfInBounds_toArray, List.set_cons_zero, List.set_cons_succ])
      | (refine wpList_row rfl 28 _ rfl n0 13 rfl #[.int .i64 (fromN (toN m.age)), .int .i64 (fromN (toN m.mx)), .int .i64 (fromN (toN m.hel)), .int .i64 (fromN (toN m.del))] _ hrT Try.underlying28 rfl (by kernel_rfl) ?_; simp only [Act.put, List.setIfInBounds_toArray, List.set_cons_zero, List.set_cons_succ])
      | (refine wpList_store_row rfl 30 _ _ rfl (n0 + 1) (rowM ⟨0, m.change, m.ack, false, false, false, false, 4, m.root, m.cost, m.bridge, m.port, 0, fromN (toN m.age), fromN (toN m.mx), fromN (toN m.hel), fromN (toN m.del)⟩) rfl rfl 30 (rowM zeroMsg) HR4.out (sizeM _) rfl (rowM_one _) ?_; simp only [Act.put, List.setIfInBounds_toArray, List.set_cons_zero, List.set_cons_succ]) | fail)
    refine bodyPost_ret (results_cell_row rfl _ _ (n0 + 1) 30 (rowM ⟨0, m.change, m.ack, false, false, false, false, 4, m.root, m.cost, m.bridge, m.port, 0, fromN (toN m.age), fromN (toN m.mx), fromN (toN m.hel), fromN (toN m.del)⟩) (0, 0) _ rfl (setRow_heap _ _ (rowM zeroMsg) _ _ _ HR4.out) Try.underlying30 rfl (sizeM _)) rfl ?_
    exact ⟨by rw [hz], by rw [← HN.out]; exact Below.setRow HB4.out (by omega)⟩
  have h2 : m.kind = 2 := by omega
  have hz : pm = { q with role := roleN (toldN m.role) } := by
    rw [hPM, hq]
    unfold plainM
    rw [if_neg h1, if_neg h0, if_pos h2]
  rw [h2] at k0
  have x7 : w4.cell? ⟨n0, 7, none⟩ = some (.int .i64 m.role) := by rw [cells_of HX4.out 7, HQ.out]; rfl
  have f7 : w4.frozen? ⟨n0, 7, none⟩ = false := free_block HX4.out _
  have hqr : q.role = m.role := by rw [hq]
  clear h0 h1 h2 hk e1 d0 d1 hPM hq
  by_cases r2 : m.role = 2
  · have HZ := Lib.hid (show { q with role := 1 } = pm by rw [hz, r2]; rfl)
    rw [r2] at x7
    clear hz r2 hqr
    go_upto_region 13 with (fail)
    refine ((?_ : ∀ x, x = w4.setCell ⟨n0, 7, none⟩ (.int .i64 1) → Code.wp _ _ _ _ x) _ rfl)
    intro w5 hw5
    have HX5 := Lib.hid (show w5.heap[n0]? = some (.cells (rowM pm) 30 (0, 0)) by rw [hw5, ← HZ.out]; exact at_set HX4.out (rowM_put_7 _ _))
    have HR5 := Lib.hid (show w5.heap[n0 + 1]? = some (.cells (rowM zeroMsg) 30 (0, 0)) by rw [hw5]; exact (Below.heap_setCell _ _ _ _ (by simp <;> omega)).trans HR4.out)
    have HB5 := Lib.hid (show Below n0 w w5 by rw [hw5]; exact Below.setCell HB4.out (Nat.le_refl _) _)
    clear hw5 x7 f7 HX4 HR4 HB4 k0
    go_wp2_with (first | (refine wpList_load_row rfl 30 _ rfl n0 rfl 30 (rowM pm) (0, 0) _ HX5.out Try.underlying30 rfl (sizeM _) ?_; simp only [Act.put, List.setIfInBounds_toArray, List.set_cons_zero, List.set_cons_succ]) | (refine wpList_store_row rfl 30 _ _ rfl (n0 + 1) (rowM pm) rfl rfl 30 (rowM zeroMsg) HR5.out (sizeM _) rfl (rowM_one _) ?_; simp only [Act.put, List.setIfInBounds_toArray, List.set_cons_zero, List.set_cons_succ]) | fail)
    refine bodyPost_ret (results_cell_row rfl _ _ (n0 + 1) 30 (rowM pm) (0, 0) _ rfl (setRow_heap _ _ (rowM zeroMsg) _ _ _ HR5.out) Try.underlying30 rfl (sizeM _)) rfl ?_
    exact ⟨rfl, by rw [← HN.out]; exact Below.setRow HB5.out (by omega)⟩
  have e2 : (m.role == 2) = false := by simpa using r2
  by_cases rb : m.role < 0 ∨ 4 < m.role
  · have HZ := Lib.hid (show { q with role := 0 } = pm by
      rw [hz]
      have : toldN m.role = 0 := by unfold toldN; rw [if_neg (by omega), if_neg (by omega), if_neg (by omega)]
      rw [this]
      rfl)
    rcases rb with h | h
    · have dr : decide (m.role < 0) = true := decide_eq_true h
      clear hz r2 hqr h
      go_upto_region 13 with (fail)
      refine ((?_ : ∀ x, x = w4.setCell ⟨n0, 7, none⟩ (.int .i64 0) → Code.wp _ _ _ _ x) _ rfl)
      intro w5 hw5
      have HX5 := Lib.hid (show w5.heap[n0]? = some (.cells (rowM pm) 30 (0, 0)) by rw [hw5, ← HZ.out]; exact at_set HX4.out (rowM_put_7 _ _))
      have HR5 := Lib.hid (show w5.heap[n0 + 1]? = some (.cells (rowM zeroMsg) 30 (0, 0)) by rw [hw5]; exact (Below.heap_setCell _ _ _ _ (by simp <;> omega)).trans HR4.out)
      have HB5 := Lib.hid (show Below n0 w w5 by rw [hw5]; exact Below.setCell HB4.out (Nat.le_refl _) _)
      clear hw5 x7 f7 HX4 HR4 HB4 k0
      go_wp2_with (first | (refine wpList_load_row rfl 30 _ rfl n0 rfl 30 (rowM pm) (0, 0) _ HX5.out Try.underlying30 rfl (sizeM _) ?_; simp only [Act.put, List.setIfInBounds_toArray, List.set_cons_zero, List.set_cons_succ]) | (refine wpList_store_row rfl 30 _ _ rfl (n0 + 1) (rowM pm) rfl rfl 30 (rowM zeroMsg) HR5.out (sizeM _) rfl (rowM_one _) ?_; simp only [Act.put, List.setIfInBounds_toArray, List.set_cons_zero, List.set_cons_succ]) | fail)
      refine bodyPost_ret (results_cell_row rfl _ _ (n0 + 1) 30 (rowM pm) (0, 0) _ rfl (setRow_heap _ _ (rowM zeroMsg) _ _ _ HR5.out) Try.underlying30 rfl (sizeM _)) rfl ?_
      exact ⟨rfl, by rw [← HN.out]; exact Below.setRow HB5.out (by omega)⟩
    · have dr : decide (m.role < 0) = false := decide_eq_false (by omega)
      have ds : decide (4 < m.role) = true := decide_eq_true h
      clear hz r2 hqr h
      go_upto_region 13 with (fail)
      refine ((?_ : ∀ x, x = w4.setCell ⟨n0, 7, none⟩ (.int .i64 0) → Code.wp _ _ _ _ x) _ rfl)
      intro w5 hw5
      have HX5 := Lib.hid (show w5.heap[n0]? = some (.cells (rowM pm) 30 (0, 0)) by rw [hw5, ← HZ.out]; exact at_set HX4.out (rowM_put_7 _ _))
      have HR5 := Lib.hid (show w5.heap[n0 + 1]? = some (.cells (rowM zeroMsg) 30 (0, 0)) by rw [hw5]; exact (Below.heap_setCell _ _ _ _ (by simp <;> omega)).trans HR4.out)
      have HB5 := Lib.hid (show Below n0 w w5 by rw [hw5]; exact Below.setCell HB4.out (Nat.le_refl _) _)
      clear hw5 x7 f7 HX4 HR4 HB4 k0
      go_wp2_with (first | (refine wpList_load_row rfl 30 _ rfl n0 rfl 30 (rowM pm) (0, 0) _ HX5.out Try.underlying30 rfl (sizeM _) ?_; simp only [Act.put, List.setIfInBounds_toArray, List.set_cons_zero, List.set_cons_succ]) | (refine wpList_store_row rfl 30 _ _ rfl (n0 + 1) (rowM pm) rfl rfl 30 (rowM zeroMsg) HR5.out (sizeM _) rfl (rowM_one _) ?_; simp only [Act.put, List.setIfInBounds_toArray, List.set_cons_zero, List.set_cons_succ]) | fail)
      refine bodyPost_ret (results_cell_row rfl _ _ (n0 + 1) 30 (rowM pm) (0, 0) _ rfl (setRow_heap _ _ (rowM zeroMsg) _ _ _ HR5.out) Try.underlying30 rfl (sizeM _)) rfl ?_
      exact ⟨rfl, by rw [← HN.out]; exact Below.setRow HB5.out (by omega)⟩
  have dr : decide (m.role < 0) = false := decide_eq_false (by omega)
  have ds : decide (4 < m.role) = false := decide_eq_false (by omega)
  have hzz : q = pm := by
    rw [hz]
    have : roleN (toldN m.role) = m.role := by
      rcases (show m.role = 0 ∨ m.role = 1 ∨ m.role = 3 ∨ m.role = 4 by omega) with h | h | h | h <;> rw [h] <;> rfl
    rw [this, ← hqr]
  clear hz r2 hqr rb
  subst hzz
  go_wp2_with (first | (refine wpList_load_row rfl 30 _ rfl n0 rfl 30 (rowM q) (0, 0) _ HX4.out Try.underlying30 rfl (sizeM _) ?_; simp only [Act.put, List.setIfInBounds_toArray, List.set_cons_zero, List.set_cons_succ]) | (refine wpList_store_row rfl 30 _ _ rfl (n0 + 1) (rowM q) rfl rfl 30 (rowM zeroMsg) HR4.out (sizeM _) rfl (rowM_one _) ?_; simp only [Act.put, List.setIfInBounds_toArray, List.set_cons_zero, List.set_cons_succ]) | fail)
  refine bodyPost_ret (results_cell_row rfl _ _ (n0 + 1) 30 (rowM q) (0, 0) _ rfl (setRow_heap _ _ (rowM zeroMsg) _ _ _ HR4.out) Try.underlying30 rfl (sizeM _)) rfl ?_
  exact ⟨rfl, by rw [← HN.out]; exact Below.setRow HB4.out (by omega)⟩
end Go.Proofs.Ytehapoilfmgjgaa.Oct
