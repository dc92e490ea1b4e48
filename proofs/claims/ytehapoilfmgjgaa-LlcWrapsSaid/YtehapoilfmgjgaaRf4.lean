/- Chapters 5, 6: the document's Encode (layer 5) answers the bytes of a message: a Config. Conditions: the message's numbers fit. -/
import Derived.Test.YtehapoilfmgjgaaRf3
import Derived.Test.YtehapoilfmgjgaaAv
import Derived.Test.YtehapoilfmgjgaaEn4
import Derived.Test.YtehapoilfmgjgaaPn
import Derived.StillTailTactics
set_option linter.unusedSimpArgs false
set_option linter.unusedVariables false
namespace Go.Proofs.Ytehapoilfmgjgaa.Oct
open Go.RowKit
theorem mkh_0c (w : World) : Sem.run Try.prog (Instr.buildSlice 33 4 #[(0, .int .u8 0), (1, .int .u8 0), (2, .int .u8 0), (3, .int .u8 0)]) w = .ok (.slice (some ⟨w.heap.size, 0, none⟩) 4 4) (w.alloc (.cells (cellsB [0, 0, 0, 0]) 5)) := by kernel_rfl
theorem mkh_0d (w : World) : Sem.run Try.prog (Instr.buildSlice 33 4 #[(0, .int .u8 0), (1, .int .u8 0), (2, .int .u8 2), (3, .int .u8 2)]) w = .ok (.slice (some ⟨w.heap.size, 0, none⟩) 4 4) (w.alloc (.cells (cellsB [0, 0, 2, 2]) 5)) := by kernel_rfl
theorem mkt_0 (a b c d : Int) (w : World) : Sem.run Try.prog (Instr.buildSlice 58 4 #[(0, .int .i64 a), (1, .int .i64 b), (2, .int .i64 c), (3, .int .i64 d)]) w = .ok (.slice (some ⟨w.heap.size, 0, none⟩) 4 4) (w.alloc (.cells #[.int .i64 a, .int .i64 b, .int .i64 c, .int .i64 d] 3)) := by kernel_rfl
attribute [local go_sem] mkh_0c mkh_0d mkt_0 mk1f
set_option maxRecDepth 100000 in
set_option maxHeartbeats 32000000 in
theorem renc_0 (m : Msg) (hm : MsgOk m) (hk : m.kind = 0) (w : World) : Calls Try.prog 15 #[.agg (rowM m)] w (REncTells m w) := by
  have HM := Lib.hid hm
  clear hm
  go_enter Try.func15, Try.ntmps15
  go_upto_region 1 with (fail)
  refine ((?_ : ∀ x, x = w.alloc (.cells (rowM m) 30) → Code.wp _ _ _ _ x) _ rfl)
  intro w1 hw1
  obtain ⟨n0, hn0⟩ : ∃ x, x = w.heap.size := ⟨_, rfl⟩
  have HX1 := Lib.hid (show w1.heap[n0]? = some (.cells (rowM m) 30 (0, 0)) by rw [hw1, hn0]; exact heap_alloc_new _ _)
  have HB1 := Lib.hid (show Below n0 w w1 by rw [hw1, hn0]; exact more (Below.refl _ _) _)
  rw [← hn0]
  have HN := Lib.hid hn0
  clear hw1 hn0
  have k0 : w1.cell? ⟨n0, 0, none⟩ = some (.int .i64 m.kind) := cells_of HX1.out 0
  have HK0 := Lib.hid hk
  have HE := Lib.hid (encB_0 hk)
  obtain ⟨pm, hpm⟩ : ∃ x, x = plainM m := ⟨_, rfl⟩
  have HPL := Lib.hid hpm
  have HPM := Lib.hid (show pm = { m with prop := false, agr := false, lrn := false, fwd := false, role := 4, rx := 0, age := fromN (toN m.age), mx := fromN (toN m.mx), hel := fromN (toN m.hel), del := fromN (toN m.del) } by
    rw [hpm]
    unfold plainM
    rw [if_neg (by omega), if_pos hk])
  rw [hk] at k0
  clear hk hpm
  go_wp2_with (first | (refine wpList_load_row rfl 30 _ rfl n0 rfl 30 (rowM m) (0, 0) _ HX1.out Try.underlying30 rfl (sizeM _) ?_; simp only [Act.put, List.setIfInBounds_toArray, List.set_cons_zero, List.set_cons_succ]) | fail)
  refine (rplain_any m HM.out w1).mono ?_
  rintro e w2 ⟨rfl, hb2⟩
  rw [← HPL.out]
  have HX2 := Lib.hid ((hb2.block _ (Array.getElem?_eq_some_iff.1 HX1.out).1).trans HX1.out)
  have HB2 := Lib.hid (HB1.out.trans (hb2.mono (by have := HB1.out.size; have := HN.out; omega)))
  clear hb2 HX1 HB1 k0
  go_upto_region 6 with (first | (refine wpList_store_new rfl 30 _ _ rfl w2 (rowM zeroMsg) 30 (rowM pm) rfl rfl rfl (sizeM _) rfl (rowM_one _) ?_; simp only [Act.put, List.setIfInBounds_toArray, List.set_cons_zero, List.set_cons_succ]) | fail)
  refine ((?_ : ∀ x, x = w2.alloc (.cells (rowM pm) 30) → Code.wp _ _ _ _ x) _ rfl)
  intro w3 hw3
  obtain ⟨n1, hn1⟩ : ∃ x, x = w2.heap.size := ⟨_, rfl⟩
  rw [← hn1]
  have hb3 : Below w2.heap.size w2 w3 := by rw [hw3]; exact more (Below.refl _ _) _
  have HP3 := Lib.hid (show w3.heap[n1]? = some (.cells (rowM pm) 30 (0, 0)) by rw [hw3, hn1]; exact heap_alloc_new _ _)
  have HX3 := Lib.hid ((hb3.block _ (Array.getElem?_eq_some_iff.1 HX2.out).1).trans HX2.out)
  have HB3 := Lib.hid (HB2.out.trans (hb3.mono (by have := HB2.out.size; have := HN.out; omega)))
  clear hw3 hn1 hb3 HX2 HB2
  have p1 : w3.cell? ⟨n1, 1, none⟩ = some (.bool m.change) := (cells_of HP3.out 1).trans (by rw [HPM.out]; rfl)
  have p2 : w3.cell? ⟨n1, 2, none⟩ = some (.bool m.ack) := (cells_of HP3.out 2).trans (by rw [HPM.out]; rfl)
  have b1 := bitN_in m.change 1 (by decide)
  have b2 := bitN_in m.ack 128 (by decide)
  have s1 : IntKind.i64.wrap (bitN m.change 1 + bitN m.ack 128) = bitN m.change 1 + bitN m.ack 128 := by unfold IntKind.wrap; simp [IntKind.signed, IntKind.bits]; omega
  refine wp_region_still_lit (by kernel_rfl) (by kernel_rfl) ?_
  repeat still_step
  still_call (rflag_any _ _ _)
  repeat still_step
  still_call (rflag_any _ _ _)
  repeat still_step
  refine wpStill_nil ?_
  refine ((?_ : ∀ x, x = w3.drew → Exit.then _ _ _ _ x) _ rfl)
  intro wd hwd
  have hbd : Below w3.heap.size w3 wd := by rw [hwd]; exact (Below.refl _ _).drew
  have HXd := Lib.hid ((hbd.block _ (Array.getElem?_eq_some_iff.1 HX3.out).1).trans HX3.out)
  have HPd := Lib.hid ((hbd.block _ (Array.getElem?_eq_some_iff.1 HP3.out).1).trans HP3.out)
  have HBd := Lib.hid (HB3.out.trans (hbd.mono (by have := HB3.out.size; have := HN.out; omega)))
  clear hwd hbd HX3 HP3 HB3 p1 p2 s1
  have wF : IntKind.u8.wrap (bitN m.change 1 + bitN m.ack 128) = flagsN m := by
    have : flagsN m = bitN m.change 1 + bitN m.ack 128 + 0 := by unfold flagsN; rw [if_pos HK0.out]
    rw [this]
    unfold IntKind.wrap
    simp [IntKind.signed, IntKind.bits]
    omega
  go_upto_region 8 with (fail)
  refine ((?_ : ∀ x, x = wd.alloc (.cells (cellsB [0, 0, 0, 0]) 5) → Code.wp _ _ _ _ x) _ rfl)
  intro wh hwh
  obtain ⟨nh, hnh⟩ : ∃ x, x = wd.heap.size := ⟨_, rfl⟩
  rw [← hnh]
  have hbh : Below wd.heap.size wd wh := by rw [hwh]; exact more (Below.refl _ _) _
  have HOh := Lib.hid (show OwnB wh n0 (.slice (some ⟨nh, 0, none⟩) 4 4) [0, 0, 0, 0] by rw [hwh, hnh]; exact ownB_new (heap_alloc_new _ _) (by have := HBd.out.size; have := HN.out; omega) rfl (by omega))
  have HXh := Lib.hid ((hbh.block _ (Array.getElem?_eq_some_iff.1 HXd.out).1).trans HXd.out)
  have HPh := Lib.hid ((hbh.block _ (Array.getElem?_eq_some_iff.1 HPd.out).1).trans HPd.out)
  have HBh := Lib.hid (HBd.out.trans (hbh.mono (by have := HBd.out.size; have := HN.out; omega)))
  clear hwh hnh hbh HXd HPd HBd b1 b2
  have k0 : wh.cell? ⟨n1, 0, none⟩ = some (.int .i64 0) := (cells_of HPh.out 0).trans (by rw [HPM.out, ← HK0.out]; rfl)
  have hfl := flagsN_in m
  go_upto_region 19 with (first | (at_builtin; refine wpList_appB rfl (.tmp 65) (.tmp 68) rfl n0 _ _ rfl (HOh.out.below (more (Below.refl _ _) _)) (by have := HBh.out.size; have := HN.out; simp; omega) ⟨wh.heap.size, 0, none⟩ 1 [flagsN m] 1 rfl rfl (cellsB_news (heap_alloc_new _ _)) (by simp) ?_; intro v4 w4 hown hbb hkk; simp only [Act.put, List.setIfInBounds_toArray, List.set_cons_zero, List.set_cons_succ]; have HO4 := Lib.hid (show OwnB w4 n0 v4 ([0, 0, 0, 0, flagsN m] ++ acc (lfM m) kfM 0) from hown); have HB4 := Lib.hid (show Below n0 w w4 from (HBh.out.alloc (by have := HBh.out.size; have := HN.out; omega) _).trans hbb); have HX4 := Lib.hid ((hkk n0 _ _ _ (at_old (Array.getElem?_eq_some_iff.1 HXh.out).1 HXh.out) (by decide)).trans (at_old (Array.getElem?_eq_some_iff.1 HXh.out).1 HXh.out)); have HP4 := Lib.hid ((hkk n1 _ _ _ (at_old (Array.getElem?_eq_some_iff.1 HPh.out).1 HPh.out) (by decide)).trans (at_old (Array.getElem?_eq_some_iff.1 HPh.out).1 HPh.out)); clear hown hbb hkk) | fail)
  clear HXh HPh HBh HOh hfl
  have kc : w4.cell? ⟨n1, 8, none⟩ = some (.int .u64 m.root) := (cells_of HP4.out 8).trans (by rw [HPM.out]; rfl)
  go_wp2_with fail
  refine (refput_any 8 (by omega) (by omega) m.root HM.out.root w4).mono ?_
  rintro e wa0 ⟨va0, rfl, hoa0, hba0⟩
  have HXa0 := Lib.hid ((hba0.block _ (Array.getElem?_eq_some_iff.1 HX4.out).1).trans HX4.out)
  have HPa0 := Lib.hid ((hba0.block _ (Array.getElem?_eq_some_iff.1 HP4.out).1).trans HP4.out)
  have HBa0 := Lib.hid (HB4.out.trans (hba0.mono (by have := HB4.out.size; have := HN.out; omega)))
  have HOa0 := Lib.hid (HO4.out.below hba0)
  obtain ⟨aa0, na0, ca0, rfl, hna0, hva0, hnil0⟩ := hoa0.view
  have HNA0 := Lib.hid hna0
  have HVA0 := Lib.hid hva0
  have HNI0 := Lib.hid hnil0
  have hlen0 : ([0, 0, 0, 0, flagsN m] ++ acc (lfM m) kfM 0).length + na0 ≤ 100000 := by
    have h1 := tot_most kfM (fun i => (kf_in i).2) 0
    rw [List.length_append, acc_length, hna0, bytesOf_length]
    simp
    omega
  have hsz0 : n0 ≤ wa0.heap.size := by have := HBa0.out.size; have := HN.out; omega
  clear hoa0 hba0 hna0 hva0 hnil0 kc
  go_upto_region 20 with (first | (at_builtin; refine wpList_appV rfl (.tmp 70) (.tmp 74) rfl n0 _ _ rfl HOa0.out hsz0 aa0 na0 ca0 (fB (bytesOf m.root 8)) rfl HNI0.out HVA0.out hlen0 ?_; intro vb0 wb0 hown hbb hkk; simp only [Act.put, List.setIfInBounds_toArray, List.set_cons_zero, List.set_cons_succ]; have HOb0 := Lib.hid (show OwnB wb0 n0 vb0 ([0, 0, 0, 0, flagsN m] ++ acc (lfM m) kfM (0 + 1)) by rw [HNA0.out, lst_fB, List.append_assoc] at hown; exact hown); have HBb0 := Lib.hid (HBa0.out.trans hbb); have HXb0 := Lib.hid ((hkk n0 _ _ _ HXa0.out (by decide)).trans HXa0.out); have HPb0 := Lib.hid ((hkk n1 _ _ _ HPa0.out (by decide)).trans HPa0.out); clear hown hbb hkk) | fail)
  clear HXa0 HPa0 HBa0 HOa0 HNA0 HVA0 HNI0 hlen0 hsz0 HX4 HP4 HB4 HO4
  have kc : wb0.cell? ⟨n1, 9, none⟩ = some (.int .u32 m.cost) := (cells_of HPb0.out 9).trans (by rw [HPM.out]; rfl)
  have wcv : IntKind.u64.wrap m.cost = m.cost := by have := HM.out.cost; unfold IntKind.wrap; simp [IntKind.signed, IntKind.bits]; omega
  go_wp2_with fail
  refine (refput_any 4 (by omega) (by omega) m.cost (by have := HM.out.cost; omega) wb0).mono ?_
  rintro e wa1 ⟨va1, rfl, hoa1, hba1⟩
  have HXa1 := Lib.hid ((hba1.block _ (Array.getElem?_eq_some_iff.1 HXb0.out).1).trans HXb0.out)
  have HPa1 := Lib.hid ((hba1.block _ (Array.getElem?_eq_some_iff.1 HPb0.out).1).trans HPb0.out)
  have HBa1 := Lib.hid (HBb0.out.trans (hba1.mono (by have := HBb0.out.size; have := HN.out; omega)))
  have HOa1 := Lib.hid (HOb0.out.below hba1)
  obtain ⟨aa1, na1, ca1, rfl, hna1, hva1, hnil1⟩ := hoa1.view
  have HNA1 := Lib.hid hna1
  have HVA1 := Lib.hid hva1
  have HNI1 := Lib.hid hnil1
  have hlen1 : ([0, 0, 0, 0, flagsN m] ++ acc (lfM m) kfM 1).length + na1 ≤ 100000 := by
    have h1 := tot_most kfM (fun i => (kf_in i).2) 1
    rw [List.length_append, acc_length, hna1, bytesOf_length]
    simp
    omega
  have hsz1 : n0 ≤ wa1.heap.size := by have := HBa1.out.size; have := HN.out; omega
  clear hoa1 hba1 hna1 hva1 hnil1 kc wcv
  go_upto_region 21 with (first | (at_builtin; refine wpList_appV rfl (.tmp 76) (.tmp 81) rfl n0 _ _ rfl HOa1.out hsz1 aa1 na1 ca1 (fB (bytesOf m.cost 4)) rfl HNI1.out HVA1.out hlen1 ?_; intro vb1 wb1 hown hbb hkk; simp only [Act.put, List.setIfInBounds_toArray, List.set_cons_zero, List.set_cons_succ]; have HOb1 := Lib.hid (show OwnB wb1 n0 vb1 ([0, 0, 0, 0, flagsN m] ++ acc (lfM m) kfM (1 + 1)) by rw [HNA1.out, lst_fB, List.append_assoc] at hown; exact hown); have HBb1 := Lib.hid (HBa1.out.trans hbb); have HXb1 := Lib.hid ((hkk n0 _ _ _ HXa1.out (by decide)).trans HXa1.out); have HPb1 := Lib.hid ((hkk n1 _ _ _ HPa1.out (by decide)).trans HPa1.out); clear hown hbb hkk) | fail)
  clear HXa1 HPa1 HBa1 HOa1 HNA1 HVA1 HNI1 hlen1 hsz1 HXb0 HPb0 HBb0 HOb0
  have kc : wb1.cell? ⟨n1, 10, none⟩ = some (.int .u64 m.bridge) := (cells_of HPb1.out 10).trans (by rw [HPM.out]; rfl)
  go_wp2_with fail
  refine (refput_any 8 (by omega) (by omega) m.bridge HM.out.bridge wb1).mono ?_
  rintro e wa2 ⟨va2, rfl, hoa2, hba2⟩
  have HXa2 := Lib.hid ((hba2.block _ (Array.getElem?_eq_some_iff.1 HXb1.out).1).trans HXb1.out)
  have HPa2 := Lib.hid ((hba2.block _ (Array.getElem?_eq_some_iff.1 HPb1.out).1).trans HPb1.out)
  have HBa2 := Lib.hid (HBb1.out.trans (hba2.mono (by have := HBb1.out.size; have := HN.out; omega)))
  have HOa2 := Lib.hid (HOb1.out.below hba2)
  obtain ⟨aa2, na2, ca2, rfl, hna2, hva2, hnil2⟩ := hoa2.view
  have HNA2 := Lib.hid hna2
  have HVA2 := Lib.hid hva2
  have HNI2 := Lib.hid hnil2
  have hlen2 : ([0, 0, 0, 0, flagsN m] ++ acc (lfM m) kfM 2).length + na2 ≤ 100000 := by
    have h1 := tot_most kfM (fun i => (kf_in i).2) 2
    rw [List.length_append, acc_length, hna2, bytesOf_length]
    simp
    omega
  have hsz2 : n0 ≤ wa2.heap.size := by have := HBa2.out.size; have := HN.out; omega
  clear hoa2 hba2 hna2 hva2 hnil2 kc
  go_upto_region 22 with (first | (at_builtin; refine wpList_appV rfl (.tmp 83) (.tmp 87) rfl n0 _ _ rfl HOa2.out hsz2 aa2 na2 ca2 (fB (bytesOf m.bridge 8)) rfl HNI2.out HVA2.out hlen2 ?_; intro vb2 wb2 hown hbb hkk; simp only [Act.put, List.setIfInBounds_toArray, List.set_cons_zero, List.set_cons_succ]; have HOb2 := Lib.hid (show OwnB wb2 n0 vb2 ([0, 0, 0, 0, flagsN m] ++ acc (lfM m) kfM (2 + 1)) by rw [HNA2.out, lst_fB, List.append_assoc] at hown; exact hown); have HBb2 := Lib.hid (HBa2.out.trans hbb); have HXb2 := Lib.hid ((hkk n0 _ _ _ HXa2.out (by decide)).trans HXa2.out); have HPb2 := Lib.hid ((hkk n1 _ _ _ HPa2.out (by decide)).trans HPa2.out); clear hown hbb hkk) | fail)
  clear HXa2 HPa2 HBa2 HOa2 HNA2 HVA2 HNI2 hlen2 hsz2 HXb1 HPb1 HBb1 HOb1
  have kc : wb2.cell? ⟨n1, 11, none⟩ = some (.int .u16 m.port) := (cells_of HPb2.out 11).trans (by rw [HPM.out]; rfl)
  have wcv : IntKind.u64.wrap m.port = m.port := by have := HM.out.port; unfold IntKind.wrap; simp [IntKind.signed, IntKind.bits]; omega
  go_wp2_with fail
  refine (refput_any 2 (by omega) (by omega) m.port (by have := HM.out.port; omega) wb2).mono ?_
  rintro e wa3 ⟨va3, rfl, hoa3, hba3⟩
  have HXa3 := Lib.hid ((hba3.block _ (Array.getElem?_eq_some_iff.1 HXb2.out).1).trans HXb2.out)
  have HPa3 := Lib.hid ((hba3.block _ (Array.getElem?_eq_some_iff.1 HPb2.out).1).trans HPb2.out)
  have HBa3 := Lib.hid (HBb2.out.trans (hba3.mono (by have := HBb2.out.size; have := HN.out; omega)))
  have HOa3 := Lib.hid (HOb2.out.below hba3)
  obtain ⟨aa3, na3, ca3, rfl, hna3, hva3, hnil3⟩ := hoa3.view
  have HNA3 := Lib.hid hna3
  have HVA3 := Lib.hid hva3
  have HNI3 := Lib.hid hnil3
  have hlen3 : ([0, 0, 0, 0, flagsN m] ++ acc (lfM m) kfM 3).length + na3 ≤ 100000 := by
    have h1 := tot_most kfM (fun i => (kf_in i).2) 3
    rw [List.length_append, acc_length, hna3, bytesOf_length]
    simp
    omega
  have hsz3 : n0 ≤ wa3.heap.size := by have := HBa3.out.size; have := HN.out; omega
  clear hoa3 hba3 hna3 hva3 hnil3 kc wcv
  go_upto_region 23 with (first | (at_builtin; refine wpList_appV rfl (.tmp 89) (.tmp 94) rfl n0 _ _ rfl HOa3.out hsz3 aa3 na3 ca3 (fB (bytesOf m.port 2)) rfl HNI3.out HVA3.out hlen3 ?_; intro vb3 wb3 hown hbb hkk; simp only [Act.put, List.setIfInBounds_toArray, List.set_cons_zero, List.set_cons_succ]; have HOb3 := Lib.hid (show OwnB wb3 n0 vb3 ([0, 0, 0, 0, flagsN m] ++ acc (lfM m) kfM (3 + 1)) by rw [HNA3.out, lst_fB, List.append_assoc] at hown; exact hown); have HBb3 := Lib.hid (HBa3.out.trans hbb); have HXb3 := Lib.hid ((hkk n0 _ _ _ HXa3.out (by decide)).trans HXa3.out); have HPb3 := Lib.hid ((hkk n1 _ _ _ HPa3.out (by decide)).trans HPa3.out); clear hown hbb hkk) | fail)
  clear HXa3 HPa3 HBa3 HOa3 HNA3 HVA3 HNI3 hlen3 hsz3 HXb2 HPb2 HBb2 HOb2
  have t13 : wb3.cell? ⟨n0, 13, none⟩ = some (.int .i64 m.age) := cells_of HXb3.out 13
  have t14 : wb3.cell? ⟨n0, 14, none⟩ = some (.int .i64 m.mx) := cells_of HXb3.out 14
  have t15 : wb3.cell? ⟨n0, 15, none⟩ = some (.int .i64 m.hel) := cells_of HXb3.out 15
  have t16 : wb3.cell? ⟨n0, 16, none⟩ = some (.int .i64 m.del) := cells_of HXb3.out 16
  go_upto_region 24 with (fail)
  refine ((?_ : ∀ x, x = wb3.alloc (.cells #[.int .i64 m.age, .int .i64 m.mx, .int .i64 m.hel, .int .i64 m.del] 3) → Code.wp _ _ _ _ x) _ rfl)
  intro w5 hw5
  obtain ⟨gt, hgt⟩ : ∃ x, x = wb3.heap.size := ⟨_, rfl⟩
  rw [← hgt]
  have hb5 : Below wb3.heap.size wb3 w5 := by rw [hw5]; exact more (Below.refl _ _) _
  have HG5 := Lib.hid (show w5.heap[gt]? = some (.cells #[.int .i64 m.age, .int .i64 m.mx, .int .i64 m.hel, .int .i64 m.del] 3 (0, 0)) by rw [hw5, hgt]; exact heap_alloc_new _ _)
  have HX5 := Lib.hid ((hb5.block _ (Array.getElem?_eq_some_iff.1 HXb3.out).1).trans HXb3.out)
  have HP5 := Lib.hid ((hb5.block _ (Array.getElem?_eq_some_iff.1 HPb3.out).1).trans HPb3.out)
  have HB5 := Lib.hid (HBb3.out.trans (hb5.mono (by have := HBb3.out.size; have := HN.out; omega)))
  have HO5 := Lib.hid (HOb3.out.below hb5)
  clear hw5 hgt hb5 t13 t14 t15 t16 HXb3 HPb3 HBb3 HOb3
  go_wp2_with fail
  go_loopw [5, 7] (fun v i wr => ∃ q : Nat, q ≤ 4 ∧ i = .int .i64 q ∧ Hid (OwnB wr n0 v ([0, 0, 0, 0, flagsN m] ++ acc (lfM m) kfM (4 + q))) ∧ Hid (wr.heap[gt]? = some (.cells #[.int .i64 m.age, .int .i64 m.mx, .int .i64 m.hel, .int .i64 m.del] 3 (0, 0))) ∧ Hid (wr.heap[n1]? = some (.cells (rowM pm) 30 (0, 0))) ∧ Hid (Below n0 w wr)) (fun _ i _ => 4 - (intOf i).toNat)
  case atStart => exact ⟨0, by omega, rfl, HO5, HG5, HP5, HB5⟩
  case round =>
    clear HO5 HG5 HP5 HB5 HX5
    obtain ⟨q, hq, rfl, hOw, hG, hP, hB⟩ := hrel
    have hq0 : (0 : Int) ≤ q := by omega
    by_cases hlt : q < 4
    · have dl : decide ((q : Int) < 4) = true := decide_eq_true (by omega)
      have hq1 : (q : Int) < 4 := by omega
      have hwm : IntKind.i64.wrap ((q : Int) + 1) = (q + 1 : Nat) := by unfold IntKind.wrap; simp [IntKind.signed, IntKind.bits]; omega
      obtain ⟨x, hx, hxl⟩ : ∃ x, wr.cell? ⟨gt, q, none⟩ = some (.int .i64 x) ∧ toN x = lfM m (4 + q) := by
        rcases (show q = 0 ∨ q = 1 ∨ q = 2 ∨ q = 3 by omega) with rfl | rfl | rfl | rfl
        · exact ⟨m.age, cells_of hG.out 0, rfl⟩
        · exact ⟨m.mx, cells_of hG.out 1, rfl⟩
        · exact ⟨m.hel, cells_of hG.out 2, rfl⟩
        · exact ⟨m.del, cells_of hG.out 3, rfl⟩
      have hk2 : kfM (4 + q) = 2 := by
        rcases (show q = 0 ∨ q = 1 ∨ q = 2 ∨ q = 3 by omega) with rfl | rfl | rfl | rfl <;> rfl
      have HK2 := Lib.hid hk2
      have HXL := Lib.hid hxl
      have htn := toN_in x
      have wto : IntKind.u64.wrap (toN x) = toN x := by unfold IntKind.wrap; simp [IntKind.signed, IntKind.bits]; omega
      clear hk2 hxl
      go_wp2_with fail
      refine (rto_any x wr).mono ?_
      rintro e wr' ⟨rfl, hwr⟩
      have hwr := hwr.symm
      subst hwr
      go_wp2_with fail
      refine (refput_any 2 (by omega) (by omega) (toN x) (by omega) wr).mono ?_
      rintro e w6 ⟨v6, rfl, ho6, hb6⟩
      have HO6 := Lib.hid (hOw.out.below hb6)
      have HG6 := Lib.hid ((hb6.block _ (Array.getElem?_eq_some_iff.1 hG.out).1).trans hG.out)
      have HP6 := Lib.hid ((hb6.block _ (Array.getElem?_eq_some_iff.1 hP.out).1).trans hP.out)
      have hn0r : n0 ≤ wr.heap.size := by have := hB.out.size; have := HN.out; omega
      have HB6 := Lib.hid (hB.out.trans (hb6.mono hn0r))
      have hn06 : n0 ≤ w6.heap.size := by have := HB6.out.size; have := HN.out; omega
      obtain ⟨a6, n6, c6, rfl, hn6, hv6, hnil6⟩ := ho6.view
      have HV6 := Lib.hid hv6
      have HN6 := Lib.hid hn6
      have HI6 := Lib.hid hnil6
      have hlen : ([0, 0, 0, 0, flagsN m] ++ acc (lfM m) kfM (4 + q)).length + n6 ≤ 100000 := by
        have h1 := tot_most kfM (fun i => (kf_in i).2) (4 + q)
        rw [List.length_append, acc_length, hn6, bytesOf_length]
        simp
        omega
      clear ho6 hb6 hv6 hn6 hnil6 hOw hG hP hB hx wto htn
      go_wp2_with (first | (at_builtin; refine wpList_appV rfl (.tmp 113) (.tmp 120) rfl n0 _ _ rfl HO6.out hn06 a6 n6 c6 (fB (bytesOf (toN x) 2)) rfl HI6.out HV6.out hlen ?_; intro v7 w7 hown hbb hkk; simp only [Act.put, List.setIfInBounds_toArray, List.set_cons_zero, List.set_cons_succ]; have HO7 := Lib.hid (show OwnB w7 n0 v7 ([0, 0, 0, 0, flagsN m] ++ acc (lfM m) kfM (4 + (q + 1))) by rw [HN6.out, lst_fB, List.append_assoc, HXL.out] at hown; show OwnB w7 n0 v7 ([0, 0, 0, 0, flagsN m] ++ (acc (lfM m) kfM (4 + q) ++ bytesOf (lfM m (4 + q)) (kfM (4 + q)))); rw [HK2.out]; exact hown); have HB7 := Lib.hid (HB6.out.trans hbb); have HP7 := Lib.hid ((hkk n1 _ _ _ HP6.out (by decide)).trans HP6.out); have HG7 := Lib.hid ((hkk gt _ _ _ HG6.out (by decide)).trans HG6.out); clear hown hbb hkk) | fail)
      exact ⟨⟨q + 1, by omega, rfl, HO7, HG7, HP7, HB7⟩, by simp [intOf]; omega⟩
    · have dl : decide ((q : Int) < 4) = false := decide_eq_false (by omega)
      obtain rfl : q = 4 := by omega
      have k0 : wr.cell? ⟨n1, 0, none⟩ = some (.int .i64 0) := (cells_of hP.out 0).trans (by rw [HPM.out, ← HK0.out]; rfl)
      go_wp2_with fail
      go_ret
      refine ⟨_, rfl, ?_, by rw [← HN.out]; exact hB.out⟩
      rw [HE.out, ← HN.out]
      exact hOw.out
end Go.Proofs.Ytehapoilfmgjgaa.Oct
