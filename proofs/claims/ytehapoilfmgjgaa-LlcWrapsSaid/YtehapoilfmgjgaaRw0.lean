/- Chapter 6: the document's frame of a message (fordref06.Wrap) is the frame. Conditions: the message's numbers fit, and whom it comes from. -/
import Derived.Test.YtehapoilfmgjgaaWr
import Derived.Test.YtehapoilfmgjgaaRf6
set_option linter.unusedSimpArgs false
set_option linter.unusedVariables false
namespace Go.Proofs.Ytehapoilfmgjgaa.Oct
open Go.RowKit
theorem mkW (w : World) : Sem.run Try.prog (Instr.buildSlice 33 6 #[(0, .int .u8 1), (1, .int .u8 128), (2, .int .u8 194), (3, .int .u8 0), (4, .int .u8 0), (5, .int .u8 0)]) w = .ok (.slice (some ⟨w.heap.size, 0, none⟩) 6 6) (w.alloc (.cells (cellsB [1, 128, 194, 0, 0, 0]) 5)) := by kernel_rfl
theorem mkL (x : Int) (w : World) : Sem.run Try.prog (Instr.buildSlice 33 5 #[(0, .int .u8 0), (1, .int .u8 x), (2, .int .u8 66), (3, .int .u8 66), (4, .int .u8 3)]) w = .ok (.slice (some ⟨w.heap.size, 0, none⟩) 5 5) (w.alloc (.cells (cellsB [0, x, 66, 66, 3]) 5)) := by kernel_rfl
theorem head_is (src : Int) (n : Nat) (hn : n ≤ 36) : [1, 128, 194, 0, 0, 0] ++ bytesOf src 6 ++ [0, 3 + (n : Int), 66, 66, 3] = acc (lfW src n) kfW 4 := by
  have h1 : bytesOf 1652522221568 6 = [1, 128, 194, 0, 0, 0] := by decide
  have h2 : bytesOf (3 + (n : Int)) 2 = [0, 3 + (n : Int)] := by
    unfold bytesOf byteAt
    simp [List.range, List.range.loop]
    omega
  have h3 : bytesOf 4342275 3 = [66, 66, 3] := by decide
  show _ = (([] ++ bytesOf 1652522221568 6) ++ bytesOf src 6 ++ bytesOf (3 + (n : Int)) 2) ++ bytesOf 4342275 3
  rw [h1, h2, h3]
  simp
def lenOfV : Value → Nat
  | .slice _ n _ => n
  | _ => 0
attribute [local go_sem] mkW mkL mk1f
def RWrapTells (src : Int) (m : Msg) (w : World) (e : Ending) (w' : World) : Prop := ∃ v, e = .returned v ∧ OwnB w' w.heap.size v (wrapB src m) ∧ Below w.heap.size w w'
set_option maxRecDepth 100000 in
set_option maxHeartbeats 16000000 in
theorem rwrap_any (src : Int) (hs : 0 ≤ src ∧ src < 18446744073709551616) (m : Msg) (hm : MsgOk m) (w : World) : Calls Try.prog 10 #[.int .u64 src, .agg (rowM m)] w (RWrapTells src m w) := by
  have HM := Lib.hid hm
  have HS := Lib.hid hs
  clear hm hs
  go_enter Try.func10, Try.ntmps10
  go_upto_region 1 with (fail)
  refine ((?_ : ∀ x, x = w.alloc (.cells (rowM m) 30) → Code.wp _ _ _ _ x) _ rfl)
  intro w1 hw1
  obtain ⟨n0, hn0⟩ : ∃ x, x = w.heap.size := ⟨_, rfl⟩
  have HX1 := Lib.hid (show w1.heap[n0]? = some (.cells (rowM m) 30 (0, 0)) by rw [hw1, hn0]; exact heap_alloc_new _ _)
  have HB1 := Lib.hid (show Below n0 w w1 by rw [hw1, hn0]; exact more (Below.refl _ _) _)
  rw [← hn0]
  have HN := Lib.hid hn0
  clear hw1 hn0
  go_wp2_with (first | (refine wpList_load_row rfl 30 _ rfl n0 rfl 30 (rowM m) (0, 0) _ HX1.out Try.underlying30 rfl (sizeM _) ?_; simp only [Act.put, List.setIfInBounds_toArray, List.set_cons_zero, List.set_cons_succ]) | fail)
  refine (renc_any m HM.out w1).mono ?_
  rintro e w2 ⟨v, rfl, hO, hb2⟩
  have h36 := encB_36 m
  have g1 : n0 ≤ w1.heap.size := by have := HB1.out.size; have := HN.out; omega
  have HB2 := Lib.hid (HB1.out.trans (hb2.mono g1))
  clear hb2 HX1 HB1
  have hO2 := hO.mono (base' := n0) g1
  have g2 : n0 ≤ w2.heap.size := by have := HB2.out.size; have := HN.out; omega
  obtain ⟨va, vn, vc, rfl, hvn, hV, hVN⟩ := hO2.view
  by_cases hE : encB m = []
  · have hv0 : vn = 0 := by rw [hvn, hE]; rfl
    subst hv0
    have HW := Lib.hid (show wrapB src m = [] by unfold wrapB; rw [if_pos hE])
    clear hO hO2 hE hV hVN hvn
    go_wp2_with fail
    go_ret
    refine ⟨_, rfl, ?_, by rw [← HN.out]; exact HB2.out⟩
    rw [HW.out]
    exact ⟨rfl, .inl ⟨rfl, rfl⟩⟩
  have hpos : 1 ≤ vn := by
    rw [hvn]
    cases h : encB m with
    | nil => exact absurd h hE
    | cons _ _ => simp
  have HW := Lib.hid (show wrapB src m = acc (lfW src vn) kfW 4 ++ encB m ++ List.replicate (43 - vn) 0 by unfold wrapB; rw [if_neg hE, hvn])
  have HVN := Lib.hid hvn
  have HV2 := Lib.hid hV
  have HNI := Lib.hid hVN
  have h36' : vn ≤ 36 := by omega
  have dz : ((vn : Int) == 0) = false := by simp; omega
  clear hV hVN hvn hO hO2 hE h36 g1
  go_upto_region 5 with (fail)
  refine ((?_ : ∀ x, x = w2.alloc (.cells (cellsB [1, 128, 194, 0, 0, 0]) 5) → Code.wp _ _ _ _ x) _ rfl)
  intro w3 hw3
  obtain ⟨n2, hn2⟩ : ∃ x, x = w2.heap.size := ⟨_, rfl⟩
  rw [← hn2] at g2 ⊢
  have HN2 := Lib.hid hn2
  have HO3 := Lib.hid (show OwnB w3 n2 (.slice (some ⟨n2, 0, none⟩) 6 6) [1, 128, 194, 0, 0, 0] by rw [hw3, hn2]; exact ownB_new (heap_alloc_new _ _) (Nat.le_refl _) rfl (by omega))
  have HC3 := Lib.hid (show Below n2 w2 w3 by rw [hw3, hn2]; exact more (Below.refl _ _) _)
  clear hw3 hn2 dz
  go_wp2_with fail
  refine (refput_any 6 (by omega) (by omega) src HS.out w3).mono ?_
  rintro e w4 ⟨v4, rfl, ho4, hb4⟩
  have HO4 := Lib.hid (HO3.out.below hb4)
  have HC4 := Lib.hid (HC3.out.trans (hb4.mono (by have := HC3.out.size; have := HN2.out; omega)))
  have gs4 : n2 ≤ w4.heap.size := by have := HC4.out.size; have := HN2.out; omega
  obtain ⟨a4, m4, c4, rfl, hm4, hv4, hi4⟩ := ho4.view
  have HM4 := Lib.hid hm4
  have HV4 := Lib.hid hv4
  have HI4 := Lib.hid hi4
  have hl4 : ([1, 128, 194, 0, 0, 0] : List Int).length + m4 ≤ 100000 := by rw [hm4, bytesOf_length]; simp
  clear ho4 hb4 hm4 hv4 hi4 HO3 HC3
  have ws : IntKind.i64.wrap (3 + (vn : Int)) = 3 + (vn : Int) := by unfold IntKind.wrap; simp [IntKind.signed, IntKind.bits]; omega
  have wu : IntKind.u8.wrap (3 + (vn : Int)) = 3 + (vn : Int) := by unfold IntKind.wrap; simp [IntKind.signed, IntKind.bits]; omega
  go_upto_region 6 with (first | (at_builtin; refine wpList_appV rfl (.tmp 13) (.tmp 15) rfl n2 _ _ rfl HO4.out gs4 a4 m4 c4 (fB (bytesOf src 6)) rfl HI4.out HV4.out hl4 ?_; intro v5 w5 hown hbb hkk; simp only [Act.put, List.setIfInBounds_toArray, List.set_cons_zero, List.set_cons_succ]; have HO5 := Lib.hid (show OwnB w5 n2 v5 ([1, 128, 194, 0, 0, 0] ++ bytesOf src 6) by rw [HM4.out, lst_fB] at hown; exact hown); have HC5 := Lib.hid (HC4.out.trans hbb); clear hown hbb hkk) | fail)
  have gs5 : n2 ≤ w5.heap.size := by have := HC5.out.size; have := HN2.out; omega
  go_upto_region 7 with (first | (at_builtin; refine wpList_appB rfl (.tmp 17) (.tmp 22) rfl n2 _ _ rfl (HO5.out.below (more (Below.refl _ _) _)) (by simp; omega) ⟨w5.heap.size, 0, none⟩ 5 [0, 3 + (vn : Int), 66, 66, 3] 5 rfl rfl (cellsB_news (heap_alloc_new _ _)) (by simp [bytesOf_length]) ?_; intro v6 w6 hown hbb hkk; simp only [Act.put, List.setIfInBounds_toArray, List.set_cons_zero, List.set_cons_succ]; have HO6 := Lib.hid (show OwnB w6 n2 v6 (acc (lfW src vn) kfW 4) by rw [head_is src vn h36'] at hown; exact hown); have HC6 := Lib.hid (show Below n2 w2 w6 from (HC5.out.alloc gs5 _).trans hbb); clear hown hbb hkk) | fail)
  have gs6 : n2 ≤ w6.heap.size := by have := HC6.out.size; have := HN2.out; omega
  have HV6 := Lib.hid (HV2.out.below (show Below w2.heap.size w2 w6 by rw [← HN2.out]; exact HC6.out))
  have hl6 : (acc (lfW src vn) kfW 4).length + vn ≤ 100000 := by rw [acc_length, totW]; omega
  go_upto_region 8 with (first | (at_builtin; refine wpList_appV rfl (.tmp 24) (.tmp 25) rfl n2 _ _ rfl HO6.out gs6 va vn vc (fB (encB m)) rfl HNI.out HV6.out hl6 ?_; intro v7 w7 hown hbb hkk; simp only [Act.put, List.setIfInBounds_toArray, List.set_cons_zero, List.set_cons_succ]; have HO7 := Lib.hid (show OwnB w7 n2 v7 (acc (lfW src vn) kfW 4 ++ encB m) by rw [HVN.out, lst_fB] at hown; rw [HVN.out]; exact hown); have HC7 := Lib.hid (HC6.out.trans hbb); clear hown hbb hkk) | fail)
  have hA0 := Lib.hid (show OwnB w7 n2 v7 (acc (lfW src vn) kfW 4 ++ encB m ++ List.replicate 0 0) by rw [List.replicate_zero, List.append_nil]; exact HO7.out)
  clear HO4 HC4 HI4 HV4 HM4 HO5 HC5 HO6 HC6 HV6 HO7 gs4 gs5 gs6 hl4 hl6 ws wu
  go_wp2_with fail
  go_loopw [6] (fun v wr => ∃ q : Nat, q ≤ 43 - vn ∧ Hid (OwnB wr n2 v (acc (lfW src vn) kfW 4 ++ encB m ++ List.replicate q 0)) ∧ Hid (Below n2 w2 wr)) (fun v _ => 60 - lenOfV v)
  case atStart => exact ⟨0, by omega, hA0, HC7⟩
  case round =>
    clear hA0 HC7
    obtain ⟨q, hq, hOw, hC⟩ := hrel
    obtain ⟨xa, xn, xc, rfl, hxn, _, _⟩ := hOw.out.view
    have hxn' : xn = 17 + vn + q := by rw [hxn, List.length_append, List.length_append, acc_length, totW, ← HVN.out, List.length_replicate]
    have gs : n2 ≤ wr.heap.size := by have := hC.out.size; have := HN2.out; omega
    by_cases hlt : q < 43 - vn
    · have dl : decide ((xn : Int) < 60) = true := decide_eq_true (by omega)
      have hlf : (acc (lfW src vn) kfW 4 ++ encB m ++ List.replicate q 0).length + 1 ≤ 100000 := by rw [← hxn]; omega
      clear hxn
      go_wp2_with (first | (at_builtin; refine wpList_appB rfl (.tmp 30) (.tmp 31) rfl n2 _ _ rfl (hOw.out.below (more (Below.refl _ _) _)) (by simp; omega) ⟨wr.heap.size, 0, none⟩ 1 [0] 1 rfl rfl (cellsB_news (heap_alloc_new _ _)) hlf ?_; intro v8 w8 hown hbb hkk; simp only [Act.put, List.setIfInBounds_toArray, List.set_cons_zero, List.set_cons_succ]; have HO8 := Lib.hid (show OwnB w8 n2 v8 (acc (lfW src vn) kfW 4 ++ encB m ++ List.replicate (q + 1) 0) by rw [List.replicate_succ', ← List.append_assoc]; exact hown); have HC8 := Lib.hid (show Below n2 w2 w8 from (hC.out.alloc gs _).trans hbb); clear hown hbb hkk) | fail)
      obtain ⟨ya, yn, yc, rfl, hyn, _, _⟩ := HO8.out.view
      have hyn' : yn = 17 + vn + (q + 1) := by rw [hyn, List.length_append, List.length_append, acc_length, totW, ← HVN.out, List.length_replicate]
      exact ⟨⟨q + 1, by omega, HO8, HC8⟩, by show 60 - yn < 60 - xn; omega⟩
    · have dl : decide ((xn : Int) < 60) = false := decide_eq_false (by omega)
      obtain rfl : q = 43 - vn := by omega
      clear hxn
      go_wp2_with fail
      go_ret
      refine ⟨_, rfl, ?_, by rw [← HN.out]; exact HB2.out.trans (hC.out.mono g2)⟩
      rw [HW.out, ← HN.out]
      exact hOw.out.mono g2
end Go.Proofs.Ytehapoilfmgjgaa.Oct
