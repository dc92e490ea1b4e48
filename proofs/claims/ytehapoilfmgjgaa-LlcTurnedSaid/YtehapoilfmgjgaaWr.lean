/- Chapter 6: a message's frame (ford/llc.Wrap). Conditions: the message's numbers fit, and whom it comes from. -/
import Derived.Test.YtehapoilfmgjgaaMk
import Derived.Test.YtehapoilfmgjgaaPn
set_option linter.unusedSimpArgs false
set_option linter.unusedVariables false
namespace Go.Proofs.Ytehapoilfmgjgaa.Oct
open Go.RowKit
/-- The numbers ahead of a message in a frame, and their bytes. -/
def lfW (src : Int) (n : Nat) (i : Nat) : Int := if i = 0 then 1652522221568 else if i = 1 then src else if i = 2 then 3 + n else 4342275
def kfW (i : Nat) : Nat := if i = 0 then 6 else if i = 1 then 6 else if i = 2 then 2 else 3
theorem totW : tot kfW 4 = 17 := by decide
/-- A frame's bytes. -/
def wrapB (src : Int) (m : Msg) : List Int := if encB m = [] then [] else acc (lfW src (encB m).length) kfW 4 ++ encB m ++ List.replicate (43 - (encB m).length) 0
theorem encB_36 (m : Msg) : (encB m).length ≤ 36 := by
  rw [encB_len]
  split
  · omega
  split
  · omega
  split <;> omega
def WrapTells (src : Int) (m : Msg) (w : World) (e : Ending) (w' : World) : Prop := ∃ v, e = .returned v ∧ OwnB w' w.heap.size v (wrapB src m) ∧ (wrapB src m = [] → v = .slice none 0 0) ∧ Below w.heap.size w w'
set_option maxRecDepth 100000 in
set_option maxHeartbeats 16000000 in
theorem wrap_any (src : Int) (hs : 0 ≤ src ∧ src < 18446744073709551616) (m : Msg) (hm : MsgOk m) (w : World) : Calls Try.prog 9 #[.int .u64 src, .agg (rowM m)] w (WrapTells src m w) := by
  have HM := Lib.hid hm
  have HS := Lib.hid hs
  clear hm hs
  go_enter Try.func9, Try.ntmps9
  go_upto_region 1 with (fail)
  refine ((?_ : ∀ x, x = w.alloc (.cells (rowM m) 30) → Code.wp _ _ _ _ x) _ rfl)
  intro w1 hw1
  obtain ⟨n0, hn0⟩ : ∃ x, x = w.heap.size := ⟨_, rfl⟩
  have HX1 := Lib.hid (show w1.heap[n0]? = some (.cells (rowM m) 30 (0, 0)) by rw [hw1, hn0]; exact heap_alloc_new _ _)
  have HB1 := Lib.hid (show Below n0 w w1 by rw [hw1, hn0]; exact more (Below.refl _ _) _)
  rw [← hn0]
  have HN := Lib.hid hn0
  clear hw1 hn0
  go_wp2_with (first | (refine wpList_load_row rfl 30 _ rfl n0 rfl 30 (rowM m) (0, 0) _ HX1.out Try.underlying30 rfl (sizeM _) ?_; simp only [Act.put, List.setIfInBounds_toArray, List.set_cons_zero, List.set_cons_succ]) | fail)
  refine (enc_any m HM.out w1).mono ?_
  rintro e w2 ⟨v, rfl, hO, hnil, hb2⟩
  have h36 := encB_36 m
  have g1 : n0 ≤ w1.heap.size := by have := HB1.out.size; have := HN.out; omega
  have HB2 := Lib.hid (HB1.out.trans (hb2.mono (by have := HB1.out.size; have := HN.out; omega)))
  clear hb2 HX1 HB1
  by_cases hE : encB m = []
  · have hv := hnil hE
    subst hv
    have HW := Lib.hid (show wrapB src m = [] by unfold wrapB; rw [if_pos hE])
    clear hnil hO hE
    go_wp2_with fail
    go_ret
    refine ⟨_, rfl, ?_, fun _ => rfl, by rw [← HN.out]; exact HB2.out⟩
    rw [HW.out]
    exact ⟨rfl, .inl ⟨rfl, rfl⟩⟩
  have hO2 := hO.mono (base' := n0) g1
  have g2 : n0 ≤ w2.heap.size := by have := HB2.out.size; have := HN.out; omega
  obtain ⟨va, vn, vc, rfl, hvn, hV, hVN⟩ := hO2.view
  have hpos : 1 ≤ vn := by
    rw [hvn]
    cases h : encB m with
    | nil => exact absurd h hE
    | cons _ _ => simp
  have HW := Lib.hid (show wrapB src m = acc (lfW src vn) kfW 4 ++ encB m ++ List.replicate (43 - vn) 0 by unfold wrapB; rw [if_neg hE, hvn])
  have HVN := Lib.hid hvn
  have HV2 := Lib.hid hV
  have HNI := Lib.hid hVN
  have h36' : vn ≤ 36 := by omega
  have dz : ((vn : Int) == 0) = false := by simp; omega
  clear hV hVN hvn hO hO2 hnil hE h36 g1
  go_wp2_with fail
  refine (put_any 1652522221568 (by omega) 6 (by omega) w2).mono ?_
  rintro e w3 ⟨rfl, hw3⟩
  have hO3 := putOwn w2 1652522221568 6 (by omega)
  rw [← hw3] at hO3
  obtain ⟨n2, hn2⟩ : ∃ x, x = w2.heap.size := ⟨_, rfl⟩
  rw [← hn2] at hO3 g2 ⊢
  have HN2 := Lib.hid hn2
  have HO3 := Lib.hid (show OwnB w3 n2 (.slice (some ⟨n2, 0, none⟩) 6 6) (acc (lfW src vn) kfW 1) from hO3)
  have HC3 := Lib.hid (show Below n2 w2 w3 by rw [hw3, hn2]; exact more (Below.refl _ _) _)
  clear hO3 hw3 hn2 dz
  go_wp2_with fail
  refine (put_any src HS.out 6 (by omega) w3).mono ?_
  rintro e w4 ⟨rfl, hw4⟩
  obtain ⟨g4, hg4⟩ : ∃ x, x = w3.heap.size := ⟨_, rfl⟩
  have hb4 : Below w3.heap.size w3 w4 := by rw [hw4]; exact more (Below.refl _ _) _
  have HG4 := Lib.hid (show w4.heap[g4]? = some (.cells (cellsB (bytesOf src 6)) 5 (0, 0)) by rw [hw4, hg4]; exact heap_alloc_new _ _)
  have HO4 := Lib.hid (HO3.out.below hb4)
  have HC4 := Lib.hid (HC3.out.trans (hb4.mono (by have := HC3.out.size; have := HN2.out; omega)))
  rw [← hg4]
  have gs4 : n2 ≤ w4.heap.size := by have := HC4.out.size; have := HN2.out; omega
  have hl4 : (acc (lfW src vn) kfW 1).length + 6 ≤ 100000 := by
    rw [acc_length]
    have := tot_le kfW 1 4 (by omega)
    rw [totW] at this
    omega
  clear hw4 hg4 hb4 HO3 HC3
  go_upto_region 6 with (first | (at_builtin; refine wpList_appB rfl (.tmp 13) (.tmp 15) rfl n2 _ _ rfl HO4.out gs4 ⟨g4, 0, none⟩ 6 (bytesOf src 6) 6 (bytesOf_length _ _) rfl (cellsB_news HG4.out) hl4 ?_; intro v5 w5 hown hbb hkk; simp only [Act.put, List.setIfInBounds_toArray, List.set_cons_zero, List.set_cons_succ]; have HO5 := Lib.hid (show OwnB w5 n2 v5 (acc (lfW src vn) kfW (1 + 1)) from hown); have HC5 := Lib.hid (HC4.out.trans hbb); clear hown hbb hkk) | fail)
  clear HO4 HC4 HG4 gs4 hl4
  have ws : IntKind.i64.wrap (3 + (vn : Int)) = 3 + (vn : Int) := by unfold IntKind.wrap; simp [IntKind.signed, IntKind.bits]; omega
  have wu : IntKind.u64.wrap (3 + (vn : Int)) = 3 + (vn : Int) := by unfold IntKind.wrap; simp [IntKind.signed, IntKind.bits]; omega
  go_wp2_with fail
  refine (put_any (3 + (vn : Int)) (by omega) 2 (by omega) w5).mono ?_
  rintro e w6 ⟨rfl, hw6⟩
  obtain ⟨g6, hg6⟩ : ∃ x, x = w5.heap.size := ⟨_, rfl⟩
  have hb6 : Below w5.heap.size w5 w6 := by rw [hw6]; exact more (Below.refl _ _) _
  have HG6 := Lib.hid (show w6.heap[g6]? = some (.cells (cellsB (bytesOf (3 + (vn : Int)) 2)) 5 (0, 0)) by rw [hw6, hg6]; exact heap_alloc_new _ _)
  have HO6 := Lib.hid (HO5.out.below hb6)
  have HC6 := Lib.hid (HC5.out.trans (hb6.mono (by have := HC5.out.size; have := HN2.out; omega)))
  rw [← hg6]
  have gs6 : n2 ≤ w6.heap.size := by have := HC6.out.size; have := HN2.out; omega
  have hl6 : (acc (lfW src vn) kfW 2).length + 2 ≤ 100000 := by
    rw [acc_length]
    have := tot_le kfW 2 4 (by omega)
    rw [totW] at this
    omega
  clear hw6 hg6 hb6 HO5 HC5
  go_upto_region 7 with (first | (at_builtin; refine wpList_appB rfl (.tmp 17) (.tmp 22) rfl n2 _ _ rfl HO6.out gs6 ⟨g6, 0, none⟩ 2 (bytesOf (3 + (vn : Int)) 2) 2 (bytesOf_length _ _) rfl (cellsB_news HG6.out) hl6 ?_; intro v7 w7 hown hbb hkk; simp only [Act.put, List.setIfInBounds_toArray, List.set_cons_zero, List.set_cons_succ]; have HO7 := Lib.hid (show OwnB w7 n2 v7 (acc (lfW src vn) kfW (2 + 1)) from hown); have HC7 := Lib.hid (HC6.out.trans hbb); clear hown hbb hkk) | fail)
  clear HO6 HC6 HG6 gs6 hl6
  go_wp2_with fail
  refine (put_any 4342275 (by omega) 3 (by omega) w7).mono ?_
  rintro e w8 ⟨rfl, hw8⟩
  obtain ⟨g8, hg8⟩ : ∃ x, x = w7.heap.size := ⟨_, rfl⟩
  have hb8 : Below w7.heap.size w7 w8 := by rw [hw8]; exact more (Below.refl _ _) _
  have HG8 := Lib.hid (show w8.heap[g8]? = some (.cells (cellsB (bytesOf 4342275 3)) 5 (0, 0)) by rw [hw8, hg8]; exact heap_alloc_new _ _)
  have HO8 := Lib.hid (HO7.out.below hb8)
  have HC8 := Lib.hid (HC7.out.trans (hb8.mono (by have := HC7.out.size; have := HN2.out; omega)))
  rw [← hg8]
  have gs8 : n2 ≤ w8.heap.size := by have := HC8.out.size; have := HN2.out; omega
  have hl8 : (acc (lfW src vn) kfW 3).length + 3 ≤ 100000 := by
    rw [acc_length]
    have := tot_le kfW 3 4 (by omega)
    rw [totW] at this
    omega
  clear hw8 hg8 hb8 HO7 HC7
  go_upto_region 8 with (first | (at_builtin; refine wpList_appB rfl (.tmp 24) (.tmp 25) rfl n2 _ _ rfl HO8.out gs8 ⟨g8, 0, none⟩ 3 (bytesOf 4342275 3) 3 (bytesOf_length _ _) rfl (cellsB_news HG8.out) hl8 ?_; intro v9 w9 hown hbb hkk; simp only [Act.put, List.setIfInBounds_toArray, List.set_cons_zero, List.set_cons_succ]; have HO9 := Lib.hid (show OwnB w9 n2 v9 (acc (lfW src vn) kfW (3 + 1)) from hown); have HC9 := Lib.hid (HC8.out.trans hbb); clear hown hbb hkk) | fail)
  clear HO8 HC8 HG8 gs8 hl8
  have hlen8 : (acc (lfW src vn) kfW 4).length + vn ≤ 100000 := by rw [acc_length, totW]; omega
  have g9 : n2 ≤ w9.heap.size := by have := HC9.out.size; have := HN2.out; omega
  have HV9 := Lib.hid (HV2.out.below (show Below w2.heap.size w2 w9 by rw [← HN2.out]; exact HC9.out))
  go_upto_region 9 with (first | (at_builtin; refine wpList_appV rfl (.tmp 27) (.tmp 28) rfl n2 _ _ rfl HO9.out g9 va vn vc (fB (encB m)) rfl HNI.out HV9.out hlen8 ?_; intro va' wa hown hbb hkk; simp only [Act.put, List.setIfInBounds_toArray, List.set_cons_zero, List.set_cons_succ]; have HOa := Lib.hid (show OwnB wa n2 va' (acc (lfW src vn) kfW 4 ++ encB m) by rw [HVN.out, lst_fB] at hown; rw [HVN.out]; exact hown); have HCa := Lib.hid (HC9.out.trans hbb); clear hown hbb hkk) | fail)
  obtain ⟨xa, xn, xc, rfl, hxn, _, _⟩ := HOa.out.view
  have hxn' : xn = 17 + vn := by rw [hxn, List.length_append, acc_length, totW, ← HVN.out]
  have wl : IntKind.i64.wrap (60 - (xn : Int)) = ((43 - vn : Nat) : Int) := by rw [hxn']; unfold IntKind.wrap; simp [IntKind.signed, IntKind.bits]; omega
  have hne : acc (lfW src vn) kfW 4 ++ encB m ≠ [] := by
    intro h
    have := congrArg List.length h
    rw [← hxn, hxn'] at this
    simp at this
  have hlenf : (acc (lfW src vn) kfW 4 ++ encB m).length + (43 - vn) ≤ 100000 := by rw [← hxn]; omega
  have ga : n2 ≤ wa.heap.size := by have := HCa.out.size; have := HN2.out; omega
  clear HV9 HC9 HO9 g9 hlen8 HV2 hxn hxn'
  go_wp2_with (first | (at_builtin; refine wpList_appMake rfl (.tmp 30) (.tmp 33) rfl n2 _ _ rfl HOa.out hne ga (43 - vn) rfl (by omega) hlenf ?_; intro vb wb hown hbb hkk; simp only [Act.put, List.setIfInBounds_toArray, List.set_cons_zero, List.set_cons_succ]; have HOb := Lib.hid hown; have HCb := Lib.hid (HCa.out.trans hbb); clear hown hbb hkk) | fail)
  go_ret
  refine ⟨_, rfl, ?_, (fun h => ?_), by rw [← HN.out]; exact HB2.out.trans (HCb.out.mono g2)⟩
  · rw [HW.out, ← HN.out]
    exact HOb.out.mono g2
  · rw [HW.out] at h
    exact absurd (List.append_eq_nil_iff.1 h).1 hne
end Go.Proofs.Ytehapoilfmgjgaa.Oct
