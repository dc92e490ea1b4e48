/- Law BpduKinds of chapter 5: the walk joined with the plain law. Conditions: the message's numbers fit. -/
import Derived.Test.YtogoegddbjggiaaAw
import Derived.Deep.CutRange
set_option linter.unusedSimpArgs false
set_option linter.unusedVariables false
namespace Go.Proofs.Ytogoegddbjggiaa.Oct
open Go.RowKit
/-- A message as a Config with times, as the law has it. -/
def cfgM (m : Msg) : Msg := { m with kind := 0, age := 1, mx := 20, hel := 2, del := 15 }
def asTcn (m : Msg) : Msg := { m with kind := 1 }
theorem cfgM_ok {m : Msg} (h : MsgOk m) : MsgOk (cfgM m) := ⟨h.root, h.cost, h.bridge, h.port⟩
theorem asTcn_ok {m : Msg} (h : MsgOk m) : MsgOk (asTcn m) := ⟨h.root, h.cost, h.bridge, h.port⟩
theorem cfgM_dec {m : Msg} (h : MsgOk m) : decM (cfgM m) = (plainM (cfgM m), 0) := by
  rw [decM_in (cfgM_ok h) (.inl rfl)]
  exact if_neg (fun e => absurd (show toN 20 ≤ toN 1 from e.2) (by decide))
theorem asTcn_dec {m : Msg} (h : MsgOk m) : decM (asTcn m) = (tcnM, 0) := by
  rw [decM_in (asTcn_ok h) (.inr (.inl rfl)), if_neg (fun e => absurd (show (1 : Int) = 0 from e.1) (by decide))]
  rfl
theorem bldT2 (w : World) : Sem.run Try.prog (Instr.build 28 #[(0, .int .i64 1), (1, .int .i64 20), (2, .int .i64 2), (3, .int .i64 15)]) w = .ok (.agg #[.int .i64 1, .int .i64 20, .int .i64 2, .int .i64 15]) w := by kernel_rfl
attribute [local go_sem] bldT2 bld1 rowM_0
set_option maxRecDepth 100000 in
set_option maxHeartbeats 8000000 in
theorem kinds_any (w : World) (m : Msg) (hm : MsgOk m) : Calls Try.prog 7 #[.agg (rowM m)] w fun e w' => e = .returned (.bool true) ∧ Below w.heap.size w w' := by
  obtain ⟨pc, hpc⟩ : ∃ x, x = plainM (cfgM m) := ⟨_, rfl⟩
  have HDC := Lib.hid (show decM (cfgM m) = (pc, 0) by rw [hpc]; exact cfgM_dec hm)
  have HPC := Lib.hid hpc
  have HM := Lib.hid hm
  clear hm hpc
  go_enter Try.func7, Try.ntmps7
  go_upto_region 1 with (fail)
  refine ((?_ : ∀ x, x = w.alloc (.cells (rowM m) 30) → Code.wp _ _ _ _ x) _ rfl)
  intro w1 hw1
  obtain ⟨n0, hn0⟩ : ∃ x, x = w.heap.size := ⟨_, rfl⟩
  have HX1 := Lib.hid (show w1.heap[n0]? = some (.cells (rowM m) 30 (0, 0)) by rw [hw1, hn0]; exact heap_alloc_new _ _)
  have HB1 := Lib.hid (show Below n0 w w1 by rw [hw1, hn0]; exact more (Below.refl _ _) _)
  rw [← hn0]
  have HN := Lib.hid hn0
  clear hw1 hn0
  go_wp2_with fail
  refine (awake_any w1).mono ?_
  rintro e w2 ⟨rfl, hb2⟩
  have HX2 := Lib.hid ((hb2.block _ (Array.getElem?_eq_some_iff.1 HX1.out).1).trans HX1.out)
  have HB2 := Lib.hid (HB1.out.trans (hb2.mono (by have := HB1.out.size; have := HN.out; omega)))
  clear hb2 HX1 HB1
  go_upto_region 4 with (first | (refine wpList_load_row rfl 30 _ rfl n0 rfl 30 (rowM m) (0, 0) _ HX2.out Try.underlying30 rfl (sizeM _) ?_; simp only [Act.put, List.setIfInBounds_toArray, List.set_cons_zero, List.set_cons_succ]) | (refine wpList_store_new rfl 30 _ _ rfl w2 (rowM zeroMsg) 30 (rowM m) rfl rfl rfl (sizeM _) rfl (rowM_one _) ?_; simp only [Act.put, List.setIfInBounds_toArray, List.set_cons_zero, List.set_cons_succ]) | fail)
  refine ((?_ : ∀ x, x = w2.alloc (.cells ((rowM m).setIfInBounds 0 (.int .i64 0)) 30) → Code.wp _ _ _ _ x) _ rfl)
  intro w3 hw3
  obtain ⟨n1, hn1⟩ : ∃ x, x = w2.heap.size := ⟨_, rfl⟩
  have HC3 := Lib.hid (show w3.heap[n1]? = some (.cells (rowM { m with kind := 0 }) 30 (0, 0)) by rw [hw3, hn1]; exact heap_alloc_new _ _)
  have hb3 : Below w2.heap.size w2 w3 := by rw [hw3]; exact more (Below.refl _ _) _
  have hs := HB2.out.size
  have g01 : n0 < n1 := by have := (Array.getElem?_eq_some_iff.1 HX2.out).1; omega
  have HX3 := Lib.hid ((hb3.block _ (Array.getElem?_eq_some_iff.1 HX2.out).1).trans HX2.out)
  have HB3 := Lib.hid (HB2.out.trans (hb3.mono (by have := HB2.out.size; have := HN.out; omega)))
  clear hb3 HX2 HB2
  rw [← hn1]
  clear hw3 hn1 hs
  have hth := room_M HC3.out 13 4 (by omega)
  go_upto_region 5 with (first | (refine wpList_store_mid rfl 28 _ _ rfl n1 13 #[.int .i64 1, .int .i64 20, .int .i64 2, .int .i64 15] rfl rfl hth (by kernel_rfl) (by kernel_rfl) ?_; simp only [Act.put]) | fail)
  refine ((?_ : ∀ x, x = w3.setCells n1 13 [.int .i64 1, .int .i64 20, .int .i64 2, .int .i64 15] → Code.wp _ _ _ _ x) _ rfl)
  intro w4 hw4
  have hC4 := times_put HC3.out 1 20 2 15
  rw [← hw4] at hC4
  have HC4 := Lib.hid (show w4.heap[n1]? = some (.cells (rowM (cfgM m)) 30 (0, 0)) from hC4)
  have hO4 : Only (· = n1) w3 w4 := by rw [hw4]; exact Only.setCells (S := (· = n1)) rfl _ _ _
  have HX4 := Lib.hid ((hO4.block _ (Array.getElem?_eq_some_iff.1 HX3.out).1 (by omega)).trans HX3.out)
  have HB4 := Lib.hid (show Below n0 w w4 from HB3.out.trans (hO4.below (B := n0) (by have := HB3.out.size; have := HN.out; omega) (fun x hx => by omega)))
  clear hw4 hC4 hO4 hth HX3 HB3 HC3
  go_upto_region 7 with (first | (refine wpList_load_row rfl 30 _ rfl n0 rfl 30 (rowM m) (0, 0) _ HX4.out Try.underlying30 rfl (sizeM _) ?_; simp only [Act.put, List.setIfInBounds_toArray, List.set_cons_zero, List.set_cons_succ]) | (refine wpList_store_new rfl 30 _ _ rfl w4 (rowM zeroMsg) 30 (rowM m) rfl rfl rfl (sizeM _) rfl (rowM_one _) ?_; simp only [Act.put, List.setIfInBounds_toArray, List.set_cons_zero, List.set_cons_succ]) | fail)
  refine ((?_ : ∀ x, x = w4.alloc (.cells ((rowM m).setIfInBounds 0 (.int .i64 1)) 30) → Code.wp _ _ _ _ x) _ rfl)
  intro w5 hw5
  obtain ⟨n2, hn2⟩ : ∃ x, x = w4.heap.size := ⟨_, rfl⟩
  have HD5 := Lib.hid (show w5.heap[n2]? = some (.cells (rowM (asTcn m)) 30 (0, 0)) by rw [hw5, hn2]; exact heap_alloc_new _ _)
  have hb5 : Below w4.heap.size w4 w5 := by rw [hw5]; exact more (Below.refl _ _) _
  have HX5 := Lib.hid ((hb5.block _ (Array.getElem?_eq_some_iff.1 HX4.out).1).trans HX4.out)
  have HC5 := Lib.hid ((hb5.block _ (Array.getElem?_eq_some_iff.1 HC4.out).1).trans HC4.out)
  have HB5 := Lib.hid (HB4.out.trans (hb5.mono (by have := HB4.out.size; have := HN.out; omega)))
  clear hb5 HX4 HC4 HB4
  rw [← hn2]
  clear hw5 hn2
  go_wp2_with (first | (refine wpList_load_row rfl 30 _ rfl n1 rfl 30 (rowM (cfgM m)) (0, 0) _ HC5.out Try.underlying30 rfl (sizeM _) ?_; simp only [Act.put, List.setIfInBounds_toArray, List.set_cons_zero, List.set_cons_succ]) | fail)
  refine (enc_any (cfgM m) (cfgM_ok HM.out) w5).mono ?_
  rintro e w6 ⟨v, rfl, hO, _, hb6⟩
  have HO6 := Lib.hid hO
  clear hO
  have HX6 := Lib.hid ((hb6.block _ (Array.getElem?_eq_some_iff.1 HX5.out).1).trans HX5.out)
  have HD6 := Lib.hid ((hb6.block _ (Array.getElem?_eq_some_iff.1 HD5.out).1).trans HD5.out)
  have HB6 := Lib.hid (HB5.out.trans (hb6.mono (by have := HB5.out.size; have := HN.out; omega)))
  clear hb6 HX5 HD5 HB5
  go_wp2_with fail
  refine (dec_enc_own HO6.out HDC.out).mono ?_
  rintro e w7 ⟨rfl, hb7⟩
  have HX7 := Lib.hid ((hb7.block _ (Array.getElem?_eq_some_iff.1 HX6.out).1).trans HX6.out)
  have HD7 := Lib.hid ((hb7.block _ (Array.getElem?_eq_some_iff.1 HD6.out).1).trans HD6.out)
  have HB7 := Lib.hid (HB6.out.trans (hb7.mono (by have := HB6.out.size; have := HN.out; omega)))
  clear hb7 HX6 HD6 HB6
  clear HO6
  go_upto_region 8 with (first | (refine wpList_store_new rfl 30 _ _ rfl w7 (rowM zeroMsg) 30 (rowM pc) rfl rfl rfl (sizeM _) rfl (rowM_one _) ?_; simp only [Act.put, List.setIfInBounds_toArray, List.set_cons_zero, List.set_cons_succ]) | fail)
  refine ((?_ : ∀ x, x = w7.alloc (.cells (rowM pc) 30) → Code.wp _ _ _ _ x) _ rfl)
  intro w8 hw8
  obtain ⟨n3, hn3⟩ : ∃ x, x = w7.heap.size := ⟨_, rfl⟩
  have HE8 := Lib.hid (show w8.heap[n3]? = some (.cells (rowM pc) 30 (0, 0)) by rw [hw8, hn3]; exact heap_alloc_new _ _)
  have hb8 : Below w7.heap.size w7 w8 := by rw [hw8]; exact more (Below.refl _ _) _
  have HX8 := Lib.hid ((hb8.block _ (Array.getElem?_eq_some_iff.1 HX7.out).1).trans HX7.out)
  have HD8 := Lib.hid ((hb8.block _ (Array.getElem?_eq_some_iff.1 HD7.out).1).trans HD7.out)
  have HB8 := Lib.hid (HB7.out.trans (hb8.mono (by have := HB7.out.size; have := HN.out; omega)))
  clear hb8 HX7 HD7 HB7
  rw [← hn3]
  clear hw8 hn3
  go_wp2_with (first | (refine wpList_load_row rfl 30 _ rfl n2 rfl 30 (rowM (asTcn m)) (0, 0) _ HD8.out Try.underlying30 rfl (sizeM _) ?_; simp only [Act.put, List.setIfInBounds_toArray, List.set_cons_zero, List.set_cons_succ]) | fail)
  refine (enc_any (asTcn m) (asTcn_ok HM.out) w8).mono ?_
  rintro e w9 ⟨v9, rfl, hO, _, hb9⟩
  have HO9 := Lib.hid hO
  clear hO
  have HX9 := Lib.hid ((hb9.block _ (Array.getElem?_eq_some_iff.1 HX8.out).1).trans HX8.out)
  have HD9 := Lib.hid ((hb9.block _ (Array.getElem?_eq_some_iff.1 HD8.out).1).trans HD8.out)
  have HE9 := Lib.hid ((hb9.block _ (Array.getElem?_eq_some_iff.1 HE8.out).1).trans HE8.out)
  have HB9 := Lib.hid (HB8.out.trans (hb9.mono (by have := HB8.out.size; have := HN.out; omega)))
  clear hb9 HX8 HD8 HE8 HB8
  go_wp2_with fail
  refine (dec_enc_own HO9.out (asTcn_dec HM.out)).mono ?_
  rintro e w10 ⟨rfl, hb10⟩
  have HX10 := Lib.hid ((hb10.block _ (Array.getElem?_eq_some_iff.1 HX9.out).1).trans HX9.out)
  have HE10 := Lib.hid ((hb10.block _ (Array.getElem?_eq_some_iff.1 HE9.out).1).trans HE9.out)
  have HB10 := Lib.hid (HB9.out.trans (hb10.mono (by have := HB9.out.size; have := HN.out; omega)))
  clear hb10 HX9 HE9 HB9
  clear HO9
  have hbn : Below w10.heap.size w10 (w10.alloc (.cells (rowM tcnM) 30)) := more (Below.refl _ _) _
  have HCE := Lib.hid (fun j => (hbn.cell (p := ⟨n3, j, none⟩) (Array.getElem?_eq_some_iff.1 HE10.out).1).trans (cells_of HE10.out j))
  have HCX := Lib.hid (fun j => (hbn.cell (p := ⟨n0, j, none⟩) (Array.getElem?_eq_some_iff.1 HX10.out).1).trans (cells_of HX10.out j))
  have e1 : (w10.alloc (.cells (rowM tcnM) 30)).cell? ⟨n3, 1, none⟩ = some (.bool m.change) := by rw [HCE.out, HPC.out]; rfl
  have e2 : (w10.alloc (.cells (rowM tcnM) 30)).cell? ⟨n3, 2, none⟩ = some (.bool m.ack) := by rw [HCE.out, HPC.out]; rfl
  have e3 : (w10.alloc (.cells (rowM tcnM) 30)).cell? ⟨n3, 3, none⟩ = some (.bool false) := by rw [HCE.out, HPC.out]; rfl
  have e4 : (w10.alloc (.cells (rowM tcnM) 30)).cell? ⟨n3, 4, none⟩ = some (.bool false) := by rw [HCE.out, HPC.out]; rfl
  have e5 : (w10.alloc (.cells (rowM tcnM) 30)).cell? ⟨n3, 5, none⟩ = some (.bool false) := by rw [HCE.out, HPC.out]; rfl
  have e6 : (w10.alloc (.cells (rowM tcnM) 30)).cell? ⟨n3, 6, none⟩ = some (.bool false) := by rw [HCE.out, HPC.out]; rfl
  have e7 : (w10.alloc (.cells (rowM tcnM) 30)).cell? ⟨n3, 7, none⟩ = some (.int .i64 4) := by rw [HCE.out, HPC.out]; rfl
  have e8 : (w10.alloc (.cells (rowM tcnM) 30)).cell? ⟨n3, 8, none⟩ = some (.int .u64 m.root) := by rw [HCE.out, HPC.out]; rfl
  have e9 : (w10.alloc (.cells (rowM tcnM) 30)).cell? ⟨n3, 9, none⟩ = some (.int .u32 m.cost) := by rw [HCE.out, HPC.out]; rfl
  have x1 : (w10.alloc (.cells (rowM tcnM) 30)).cell? ⟨n0, 1, none⟩ = some (.bool m.change) := HCX.out 1
  have x2 : (w10.alloc (.cells (rowM tcnM) 30)).cell? ⟨n0, 2, none⟩ = some (.bool m.ack) := HCX.out 2
  have x8 : (w10.alloc (.cells (rowM tcnM) 30)).cell? ⟨n0, 8, none⟩ = some (.int .u64 m.root) := HCX.out 8
  have x9 : (w10.alloc (.cells (rowM tcnM) 30)).cell? ⟨n0, 9, none⟩ = some (.int .u32 m.cost) := HCX.out 9
  clear hbn
  go_wp2_with (first | (refine wpList_store_new rfl 30 _ _ rfl w10 (rowM zeroMsg) 30 (rowM tcnM) rfl rfl rfl (sizeM _) rfl (rowM_one _) ?_; simp only [Act.put, List.setIfInBounds_toArray, List.set_cons_zero, List.set_cons_succ]) | (refine wpList_val (by rfl) _ (exec_row _ rfl w10.heap.size rfl tcnM (heap_alloc_new _ _)) ?_; simp only [Act.put, List.setIfInBounds_toArray, List.set_cons_zero, List.set_cons_succ]) | (refine wpList_val (by rfl) _ (exec_eqM _ _ rfl tcnM rfl rfl) ?_; simp only [Act.put, List.setIfInBounds_toArray, List.set_cons_zero, List.set_cons_succ]) | fail)
  go_ret
  exact ⟨by simp, by rw [← HN.out]; exact HB10.out.alloc (by have := HB10.out.size; have := HN.out; omega) _⟩
end Go.Proofs.Ytogoegddbjggiaa.Oct
