/- Chapter 5: what is plain of a message (ford/bpdu.Plain). Conditions: the message's numbers fit. -/
import Derived.Test.YtehapoilfmgjgaaPl
import Derived.Test.YtehapoilfmgjgaaEn4
import Derived.Test.YtehapoilfmgjgaaDe4
set_option linter.unusedSimpArgs false
set_option linter.unusedVariables false
namespace Go.Proofs.Ytehapoilfmgjgaa.Oct
open Go.RowKit
/-- Bytes of a block of the call's own, as a slice that can be read. -/
theorem OwnB.view {w : World} {base : Nat} {v : Value} {l : List Int} (h : OwnB w base v l) : ∃ a n c, v = .slice a n c ∧ n = l.length ∧ View w a 1 n (fun j _ => .int .u8 (fB l j)) ∧ (a = none → n = 0 ∧ c = 0) := by
  obtain ⟨h1, ⟨rfl, h2⟩ | ⟨g, c, cur, rfl, hg, hh, h3, h4, h5, h6⟩⟩ := h
  · exact ⟨none, 0, 0, rfl, h2.symm, .inl rfl, fun _ => ⟨rfl, rfl⟩⟩
  · refine ⟨_, _, _, rfl, rfl, .inr ⟨g, 0, rfl, fun k hk j hj => ?_⟩, fun h => by cases h⟩
    obtain rfl : j = 0 := by omega
    unfold fB
    rw [Nat.zero_add, Nat.mul_one, Nat.add_zero, cells_of hh]
    have h7 : (cur.toList.take (l.length * 1))[k]? = (l.map (Value.int .u8))[k]? := by rw [h6]
    rw [List.getElem?_take, if_pos (by omega)] at h7
    simpa [hk] using h7
/-- Bytes of the call's own are decoded. -/
theorem dec_own {w : World} {base : Nat} {v : Value} {l : List Int} (h : OwnB w base v l) (hb : ∀ x ∈ l, 0 ≤ x ∧ x ≤ 255) (hl : l.length ≤ 100000) {x : Msg} {ex : Int} (hd : decP (fB l) l.length = (x, ex)) :
    Calls Try.prog 20 #[v] w fun e w' => e = .returned (.tuple #[.agg (rowM x), .int .i64 ex]) ∧ Below w.heap.size w w' := by
  obtain ⟨a, n, c, rfl, rfl, hv, hnil⟩ := h.view
  refine (dec_any w a l.length c (fB l) hv (fun j _ => fB_ok hb j) hnil hl).mono ?_
  rintro e w' ⟨rfl, hb⟩
  rw [hd]
  exact ⟨rfl, hb⟩
/-- What a message's own bytes are decoded to. -/
def decM (m : Msg) : Msg × Int := decP (fB (encB m)) (encB m).length
theorem decM_in {m : Msg} (hm : MsgOk m) (hk : m.kind = 0 ∨ m.kind = 1 ∨ m.kind = 2) : decM m = if m.kind = 0 ∧ toN m.mx ≤ toN m.age then (zeroMsg, 5) else (plainM m, 0) := by
  have h := dec_enc hm hk []
  rw [List.append_nil] at h
  exact h
theorem decM_out {m : Msg} (h : m.kind < 0 ∨ 2 < m.kind) : decM m = (zeroMsg, 2) := by
  unfold decM
  rw [encB_no h]
  rfl
theorem decM_not0 {m : Msg} (hm : MsgOk m) (h : ¬ m.kind = 0) : (decM m).1 = plainM m := by
  by_cases h1 : m.kind = 1 ∨ m.kind = 2
  · rw [decM_in hm (.inr h1), if_neg (fun e => h e.1)]
  · rw [decM_out (by omega), plain_no (by omega)]
theorem encB_few (m : Msg) : (encB m).length ≤ 100000 := by
  rw [encB_len]
  split
  · omega
  split
  · omega
  split <;> omega
theorem dec_enc_own {w : World} {base : Nat} {v : Value} {m : Msg} (h : OwnB w base v (encB m)) {x : Msg} {ex : Int} (hd : decM m = (x, ex)) :
    Calls Try.prog 20 #[v] w fun e w' => e = .returned (.tuple #[.agg (rowM x), .int .i64 ex]) ∧ Below w.heap.size w w' :=
  dec_own h (encB_ok m) (encB_few m) hd
theorem plain_late {m : Msg} (h : m.kind = 0) : { (plainM { m with age := 0, mx := 1 }) with age := fromN (toN m.age), mx := fromN (toN m.mx) } = plainM m := by
  unfold plainM
  rw [if_neg (show ¬ m.kind = 1 by omega), if_pos h, if_neg (show ¬ m.kind = 1 by omega), if_pos h]
theorem decM_late {m : Msg} (hm : MsgOk m) (h : m.kind = 0) : decM { m with age := 0, mx := 1 } = (plainM { m with age := 0, mx := 1 }, 0) := by
  rw [decM_in (m := { m with age := 0, mx := 1 }) ⟨hm.root, hm.cost, hm.bridge, hm.port⟩ (.inl h)]
  exact if_neg (fun e => absurd (show toN 1 ≤ toN 0 from e.2) (by decide))
set_option maxRecDepth 100000 in
set_option maxHeartbeats 8000000 in
theorem plain_any (m : Msg) (hm : MsgOk m) (w : World) : Calls Try.prog 12 #[.agg (rowM m)] w fun e w' => e = .returned (.agg (rowM (plainM m))) ∧ Below w.heap.size w w' := by
  obtain ⟨x, ex, hd⟩ : ∃ x e, decM m = (x, e) := ⟨_, _, rfl⟩
  have HD := Lib.hid hd
  have HM := Lib.hid hm
  clear hd hm
  go_enter Try.func12, Try.ntmps12
  go_upto_region 1 with (fail)
  refine ((?_ : ∀ x, x = (w.alloc (.cells (rowM m) 30)).alloc (.cells (rowM zeroMsg) 30) → Code.wp _ _ _ _ x) _ rfl)
  intro w1 hw1
  obtain ⟨n0, hn0⟩ : ∃ x, x = w.heap.size := ⟨_, rfl⟩
  have HX1 := Lib.hid (show w1.heap[n0]? = some (.cells (rowM m) 30 (0, 0)) by rw [hw1, hn0]; exact at_old (by simp) (at_new rfl))
  have HR1 := Lib.hid (show w1.heap[n0 + 1]? = some (.cells (rowM zeroMsg) 30 (0, 0)) by rw [hw1, hn0]; exact at_new (by simp))
  have HB1 := Lib.hid (show Below n0 w w1 by rw [hw1, hn0]; exact more (more (Below.refl _ _) _) _)
  rw [← hn0]
  have HN := Lib.hid hn0
  clear hw1 hn0
  go_wp2_with (first | (refine wpList_load_row rfl 30 _ rfl n0 rfl 30 (rowM m) (0, 0) _ HX1.out Try.underlying30 rfl (sizeM m) ?_; simp only [Act.put, List.setIfInBounds_toArray, List.set_cons_zero, List.set_cons_succ]) | fail)
  refine (enc_any m HM.out w1).mono ?_
  rintro e w2 ⟨v, rfl, hO, _, hb2⟩
  have HO2 := Lib.hid hO
  have HX2 := Lib.hid ((hb2.block _ (Array.getElem?_eq_some_iff.1 HX1.out).1).trans HX1.out)
  have HR2 := Lib.hid ((hb2.block _ (Array.getElem?_eq_some_iff.1 HR1.out).1).trans HR1.out)
  have HB2 := Lib.hid (HB1.out.trans (hb2.mono (by have := HB1.out.size; have := HN.out; omega)))
  clear hb2 HX1 HR1 HB1
  go_wp2_with fail
  refine (dec_enc_own HO2.out HD.out).mono ?_
  rintro e w3 ⟨rfl, hb3⟩
  have HX3 := Lib.hid ((hb3.block _ (Array.getElem?_eq_some_iff.1 HX2.out).1).trans HX2.out)
  have HR3 := Lib.hid ((hb3.block _ (Array.getElem?_eq_some_iff.1 HR2.out).1).trans HR2.out)
  have HB3 := Lib.hid (HB2.out.trans (hb3.mono (by have := HB2.out.size; have := HN.out; omega)))
  clear hb3 HX2 HR2 HB2
  clear HO2
  go_upto_region 2 with (first
    | (refine wpList_store_new rfl 30 _ _ rfl w3 (rowM zeroMsg) 30 (rowM x) rfl rfl rfl (sizeM x) rfl (rowM_one x) ?_; simp only [Act.put, List.setIfInBounds_toArray, List.set_cons_zero, List.set_cons_succ])
    | fail)
  refine ((?_ : ∀ x', x' = w3.alloc (.cells (rowM x) 30) → Code.wp _ _ _ _ x') _ rfl)
  intro w4 hw4
  obtain ⟨n3, hn3⟩ : ∃ x, x = w3.heap.size := ⟨_, rfl⟩
  rw [← hn3]
  have HO4 := Lib.hid (show w4.heap[n3]? = some (.cells (rowM x) 30 (0, 0)) by rw [hw4, hn3]; exact heap_alloc_new _ _)
  have hb4 : Below w3.heap.size w3 w4 := by rw [hw4]; exact more (Below.refl _ _) _
  have hr3 := (Array.getElem?_eq_some_iff.1 HR3.out).1
  have g03 : n0 + 1 < n3 := by omega
  have HX4 := Lib.hid ((hb4.block _ (Array.getElem?_eq_some_iff.1 HX3.out).1).trans HX3.out)
  have HR4 := Lib.hid ((hb4.block _ (Array.getElem?_eq_some_iff.1 HR3.out).1).trans HR3.out)
  have HB4 := Lib.hid (HB3.out.trans (hb4.mono (by have := HB3.out.size; have := HN.out; omega)))
  clear hb4 HX3 HR3 HB3
  clear hw4 hn3 hr3
  have k0 : w4.cell? ⟨n0, 0, none⟩ = some (.int .i64 m.kind) := cells_of HX4.out 0
  by_cases h0 : m.kind = 0
  · rw [h0] at k0
    have H0 := Lib.hid h0
    clear h0 HD
    go_upto_region 6 with (first
      | (refine wpList_load_row rfl 30 _ rfl n0 rfl 30 (rowM m) (0, 0) _ HX4.out Try.underlying30 rfl (sizeM m) ?_; simp only [Act.put, List.setIfInBounds_toArray, List.set_cons_zero, List.set_cons_succ])
      | (refine wpList_store_new rfl 30 _ _ rfl w4 (rowM zeroMsg) 30 (rowM m) rfl rfl rfl (sizeM m) rfl (rowM_one m) ?_; simp only [Act.put, List.setIfInBounds_toArray, List.set_cons_zero, List.set_cons_succ]; have c13 : (w4.alloc (.cells (rowM m) 30)).cell? ⟨w4.heap.size, 13, none⟩ = some (.int .i64 m.age) := (cells_of (heap_alloc_new _ _) 13); have f13 : (w4.alloc (.cells (rowM m) 30)).frozen? ⟨w4.heap.size, 13, none⟩ = false := (free_block (heap_alloc_new _ _) _); have c14 : (w4.alloc (.cells (rowM m) 30)).cell? ⟨w4.heap.size, 14, none⟩ = some (.int .i64 m.mx) := (cells_of (heap_alloc_new _ _) 14); have f14 : (w4.alloc (.cells (rowM m) 30)).frozen? ⟨w4.heap.size, 14, none⟩ = false := (free_block (heap_alloc_new _ _) _))
      | fail)
    refine ((?_ : ∀ x', x' = w4.alloc (.cells (((rowM m).setIfInBounds 13 (.int .i64 0)).setIfInBounds 14 (.int .i64 1)) 30) → Code.wp _ _ _ _ x') _ rfl)
    intro w5 hw5
    obtain ⟨l, hl⟩ : ∃ l, l = { m with age := 0, mx := 1 } := ⟨_, rfl⟩
    obtain ⟨n5, hn5⟩ : ∃ x, x = w4.heap.size := ⟨_, rfl⟩
    rw [← hn5]
    have HL5 := Lib.hid (show w5.heap[n5]? = some (.cells (rowM l) 30 (0, 0)) by rw [hw5, hn5, hl]; exact heap_alloc_new _ _)
    have hb5 : Below w4.heap.size w4 w5 := by rw [hw5]; exact more (Below.refl _ _) _
    have HX5 := Lib.hid ((hb5.block _ (Array.getElem?_eq_some_iff.1 HX4.out).1).trans HX4.out)
    have HR5 := Lib.hid ((hb5.block _ (Array.getElem?_eq_some_iff.1 HR4.out).1).trans HR4.out)
    have HO5 := Lib.hid ((hb5.block _ (Array.getElem?_eq_some_iff.1 HO4.out).1).trans HO4.out)
    have HB5 := Lib.hid (HB4.out.trans (hb5.mono (by have := HB4.out.size; have := HN.out; omega)))
    clear hb5 HX4 HR4 HO4 HB4
    have HL := Lib.hid hl
    have HMl := Lib.hid (show MsgOk l by rw [hl]; exact ⟨HM.out.root, HM.out.cost, HM.out.bridge, HM.out.port⟩)
    have HDl := Lib.hid (show decM l = (plainM l, 0) by rw [hl]; exact decM_late HM.out H0.out)
    clear hw5 hn5 hl k0
    go_wp2_with (first | (refine wpList_load_row rfl 30 _ rfl n5 rfl 30 (rowM l) (0, 0) _ HL5.out Try.underlying30 rfl (sizeM l) ?_; simp only [Act.put, List.setIfInBounds_toArray, List.set_cons_zero, List.set_cons_succ]) | fail)
    refine (enc_any l HMl.out w5).mono ?_
    rintro e w6 ⟨v6, rfl, hO, _, hb6⟩
    have HE6 := Lib.hid hO
    clear HL5
    have HX6 := Lib.hid ((hb6.block _ (Array.getElem?_eq_some_iff.1 HX5.out).1).trans HX5.out)
    have HR6 := Lib.hid ((hb6.block _ (Array.getElem?_eq_some_iff.1 HR5.out).1).trans HR5.out)
    have HO6 := Lib.hid ((hb6.block _ (Array.getElem?_eq_some_iff.1 HO5.out).1).trans HO5.out)
    have HB6 := Lib.hid (HB5.out.trans (hb6.mono (by have := HB5.out.size; have := HN.out; omega)))
    clear hb6 HX5 HR5 HO5 HB5
    go_wp2_with fail
    refine (dec_enc_own HE6.out HDl.out).mono ?_
    rintro e w7 ⟨rfl, hb7⟩
    clear HE6
    have HX7 := Lib.hid ((hb7.block _ (Array.getElem?_eq_some_iff.1 HX6.out).1).trans HX6.out)
    have HR7 := Lib.hid ((hb7.block _ (Array.getElem?_eq_some_iff.1 HR6.out).1).trans HR6.out)
    have HO7 := Lib.hid ((hb7.block _ (Array.getElem?_eq_some_iff.1 HO6.out).1).trans HO6.out)
    have HB7 := Lib.hid (HB6.out.trans (hb7.mono (by have := HB6.out.size; have := HN.out; omega)))
    clear hb7 HX6 HR6 HO6 HB6
    go_upto_region 7 with (first | (refine wpList_store_row rfl 30 _ _ rfl n3 (rowM (plainM l)) rfl rfl 30 (rowM x) HO7.out (sizeM _) rfl (rowM_one _) ?_; simp only [Act.put, List.setIfInBounds_toArray, List.set_cons_zero, List.set_cons_succ]) | fail)
    refine ((?_ : ∀ x', x' = w7.setRow n3 (rowM (plainM l)) → Code.wp _ _ _ _ x') _ rfl)
    intro w8 hw8
    have HX8 := Lib.hid (show w8.heap[n0]? = some (.cells (rowM m) 30 (0, 0)) by rw [hw8]; exact (setRow_other _ _ _ _ (by omega)).trans HX7.out)
    have HR8 := Lib.hid (show w8.heap[n0 + 1]? = some (.cells (rowM zeroMsg) 30 (0, 0)) by rw [hw8]; exact (setRow_other _ _ _ _ (by omega)).trans HR7.out)
    have HO8 := Lib.hid (show w8.heap[n3]? = some (.cells (rowM (plainM l)) 30 (0, 0)) by rw [hw8]; exact setRow_heap _ _ _ _ _ _ HO7.out)
    have HB8 := Lib.hid (show Below n0 w w8 by rw [hw8]; exact Below.setRow HB7.out (by omega))
    clear HX7 HR7 HO7 HB7
    clear hw8
    have k13 : w8.cell? ⟨n0, 13, none⟩ = some (.int .i64 m.age) := cells_of HX8.out 13
    have ht := toN_in m.age
    go_wp2_with fail
    refine (to_any m.age w8).mono ?_
    rintro e w9 ⟨rfl, hb9⟩
    clear k13
    have HX9 := Lib.hid ((hb9.block _ (Array.getElem?_eq_some_iff.1 HX8.out).1).trans HX8.out)
    have HR9 := Lib.hid ((hb9.block _ (Array.getElem?_eq_some_iff.1 HR8.out).1).trans HR8.out)
    have HO9 := Lib.hid ((hb9.block _ (Array.getElem?_eq_some_iff.1 HO8.out).1).trans HO8.out)
    have HB9 := Lib.hid (HB8.out.trans (hb9.mono (by have := HB8.out.size; have := HN.out; omega)))
    clear hb9 HX8 HR8 HO8 HB8
    go_wp2_with fail
    refine (from_any _ ht w9).mono ?_
    rintro e w10 ⟨rfl, hb10⟩
    have HX10 := Lib.hid ((hb10.block _ (Array.getElem?_eq_some_iff.1 HX9.out).1).trans HX9.out)
    have HR10 := Lib.hid ((hb10.block _ (Array.getElem?_eq_some_iff.1 HR9.out).1).trans HR9.out)
    have HO10 := Lib.hid ((hb10.block _ (Array.getElem?_eq_some_iff.1 HO9.out).1).trans HO9.out)
    have HB10 := Lib.hid (HB9.out.trans (hb10.mono (by have := HB9.out.size; have := HN.out; omega)))
    clear hb10 HX9 HR9 HO9 HB9
    have c13 : w10.cell? ⟨n3, 13, none⟩ = some (.int .i64 (plainM l).age) := cells_of HO10.out 13
    have f13 : w10.frozen? ⟨n3, 13, none⟩ = false := free_block HO10.out _
    go_upto_region 8 with (fail)
    refine ((?_ : ∀ x', x' = w10.setCell ⟨n3, 13, none⟩ (.int .i64 (fromN (toN m.age))) → Code.wp _ _ _ _ x') _ rfl)
    intro w11 hw11
    have HX11 := Lib.hid (show w11.heap[n0]? = some (.cells (rowM m) 30 (0, 0)) by rw [hw11]; exact (Below.heap_setCell _ _ _ _ (by simp <;> omega)).trans HX10.out)
    have HR11 := Lib.hid (show w11.heap[n0 + 1]? = some (.cells (rowM zeroMsg) 30 (0, 0)) by rw [hw11]; exact (Below.heap_setCell _ _ _ _ (by simp <;> omega)).trans HR10.out)
    have HO11 := Lib.hid (show w11.heap[n3]? = some (.cells (rowM { (plainM l) with age := fromN (toN m.age) }) 30 (0, 0)) by rw [hw11]; exact at_set HO10.out (rowM_put_13 _ _))
    have HB11 := Lib.hid (show Below n0 w w11 by rw [hw11]; exact Below.setCell HB10.out (show n0 ≤ n3 by omega) _)
    clear HX10 HR10 HO10 HB10
    clear hw11 c13 f13 ht
    have k14 : w11.cell? ⟨n0, 14, none⟩ = some (.int .i64 m.mx) := cells_of HX11.out 14
    have ht := toN_in m.mx
    go_wp2_with fail
    refine (to_any m.mx w11).mono ?_
    rintro e w12 ⟨rfl, hb12⟩
    clear k14
    have HX12 := Lib.hid ((hb12.block _ (Array.getElem?_eq_some_iff.1 HX11.out).1).trans HX11.out)
    have HR12 := Lib.hid ((hb12.block _ (Array.getElem?_eq_some_iff.1 HR11.out).1).trans HR11.out)
    have HO12 := Lib.hid ((hb12.block _ (Array.getElem?_eq_some_iff.1 HO11.out).1).trans HO11.out)
    have HB12 := Lib.hid (HB11.out.trans (hb12.mono (by have := HB11.out.size; have := HN.out; omega)))
    clear hb12 HX11 HR11 HO11 HB11
    go_wp2_with fail
    refine (from_any _ ht w12).mono ?_
    rintro e w13 ⟨rfl, hb13⟩
    have HX13 := Lib.hid ((hb13.block _ (Array.getElem?_eq_some_iff.1 HX12.out).1).trans HX12.out)
    have HR13 := Lib.hid ((hb13.block _ (Array.getElem?_eq_some_iff.1 HR12.out).1).trans HR12.out)
    have HO13 := Lib.hid ((hb13.block _ (Array.getElem?_eq_some_iff.1 HO12.out).1).trans HO12.out)
    have HB13 := Lib.hid (HB12.out.trans (hb13.mono (by have := HB12.out.size; have := HN.out; omega)))
    clear hb13 HX12 HR12 HO12 HB12
    have c14 : w13.cell? ⟨n3, 14, none⟩ = some (.int .i64 (plainM l).mx) := cells_of HO13.out 14
    have f14 : w13.frozen? ⟨n3, 14, none⟩ = false := free_block HO13.out _
    go_upto_region 9 with (fail)
    refine ((?_ : ∀ x', x' = w13.setCell ⟨n3, 14, none⟩ (.int .i64 (fromN (toN m.mx))) → Code.wp _ _ _ _ x') _ rfl)
    intro w14 hw14
    have HX14 := Lib.hid (show w14.heap[n0]? = some (.cells (rowM m) 30 (0, 0)) by rw [hw14]; exact (Below.heap_setCell _ _ _ _ (by simp <;> omega)).trans HX13.out)
    have HR14 := Lib.hid (show w14.heap[n0 + 1]? = some (.cells (rowM zeroMsg) 30 (0, 0)) by rw [hw14]; exact (Below.heap_setCell _ _ _ _ (by simp <;> omega)).trans HR13.out)
    have HO14 := Lib.hid (show w14.heap[n3]? = some (.cells (rowM (plainM m)) 30 (0, 0)) by rw [hw14, ← plain_late H0.out, ← HL.out]; exact at_set HO13.out (rowM_put_14 _ _))
    have HB14 := Lib.hid (show Below n0 w w14 by rw [hw14]; exact Below.setCell HB13.out (show n0 ≤ n3 by omega) _)
    clear HX13 HR13 HO13 HB13
    clear hw14 c14 f14 ht
    go_wp2_with (first
      | (refine wpList_load_row rfl 30 _ rfl n3 rfl 30 (rowM (plainM m)) (0, 0) _ HO14.out Try.underlying30 rfl (sizeM _) ?_; simp only [Act.put, List.setIfInBounds_toArray, List.set_cons_zero, List.set_cons_succ])
      | (refine wpList_store_row rfl 30 _ _ rfl (n0 + 1) (rowM (plainM m)) rfl rfl 30 (rowM zeroMsg) HR14.out (sizeM _) rfl (rowM_one _) ?_; simp only [Act.put, List.setIfInBounds_toArray, List.set_cons_zero, List.set_cons_succ])
      | fail)
    refine bodyPost_ret (results_cell_row rfl _ _ (n0 + 1) 30 (rowM (plainM m)) (0, 0) _ rfl (setRow_heap _ _ (rowM zeroMsg) _ _ _ HR14.out) Try.underlying30 rfl (sizeM _)) rfl ?_
    exact ⟨rfl, by rw [← HN.out]; exact Below.setRow HB14.out (by omega)⟩
  · have hx : x = plainM m := by
      have h := decM_not0 HM.out h0
      rw [HD.out] at h
      exact h
    subst hx
    have hk : (m.kind == 0) = false := by simpa using h0
    have hk' : (m.kind != 0) = true := by simpa using h0
    go_wp2_with (first
      | (refine wpList_load_row rfl 30 _ rfl n3 rfl 30 (rowM (plainM m)) (0, 0) _ HO4.out Try.underlying30 rfl (sizeM _) ?_; simp only [Act.put, List.setIfInBounds_toArray, List.set_cons_zero, List.set_cons_succ])
      | (refine wpList_store_row rfl 30 _ _ rfl (n0 + 1) (rowM (plainM m)) rfl rfl 30 (rowM zeroMsg) HR4.out (sizeM _) rfl (rowM_one _) ?_; simp only [Act.put, List.setIfInBounds_toArray, List.set_cons_zero, List.set_cons_succ])
      | fail)
    refine bodyPost_ret (results_cell_row rfl _ _ (n0 + 1) 30 (rowM (plainM m)) (0, 0) _ rfl (setRow_heap _ _ (rowM zeroMsg) _ _ _ HR4.out) Try.underlying30 rfl (sizeM _)) rfl ?_
    exact ⟨rfl, by rw [← HN.out]; exact Below.setRow HB4.out (by omega)⟩
end Go.Proofs.Ytehapoilfmgjgaa.Oct
