/- Law BpduCuts of chapter 5: the walk joined with the plain law. Conditions: the message's numbers fit. -/
import Derived.Test.YtogoegddbjggiaaAw
import Derived.Deep.CutRange
set_option linter.unusedSimpArgs false
set_option linter.unusedVariables false
namespace Go.Proofs.Ytogoegddbjggiaa.Oct
open Go.RowKit
theorem fB_cut {w : World} {base g c : Nat} {l : List Int} (h : OwnB w base (.slice (some ⟨g, 0, none⟩) l.length c) l) (n : Nat) (hn : n ≤ l.length) : View w (some ⟨g, 0, none⟩) 1 n (fun j _ => .int .u8 (fB l j)) := by
  obtain ⟨a, n', c', e, hn', hv, _⟩ := h.view
  injection e with e1 e2 e3
  subst e1 e2
  rcases hv with h0 | ⟨g', o', e', hc⟩
  · exact .inl (by omega)
  · exact .inr ⟨g', o', e', fun k hk j hj => hc k (by omega) j hj⟩
theorem OwnB.at {w : World} {base : Nat} {v : Value} {l : List Int} (h : OwnB w base v l) (hl : l ≠ []) : ∃ g c, v = .slice (some ⟨g, 0, none⟩) l.length c ∧ l.length ≤ c ∧ c ≤ maxLen := by
  obtain ⟨h1, ⟨rfl, h2⟩ | ⟨g, c, cur, rfl, hg, hh, h3, h4, h5, h6⟩⟩ := h
  · exact absurd (List.eq_nil_of_length_eq_zero h2) hl
  · exact ⟨g, c, rfl, h3, h4⟩
attribute [local go_sem] bldZ rowM_0
set_option maxRecDepth 100000 in
set_option maxHeartbeats 16000000 in
theorem cuts_any (w : World) (m : Msg) (hm : MsgOk m) (i : Nat) (hi : i ≤ 255) : Calls Try.prog 5 #[.agg (rowM m), .int .u8 i] w fun e w' => e = .returned (.bool true) ∧ Below w.heap.size w w' := by
  have HM := Lib.hid hm
  clear hm
  go_enter Try.func5, Try.ntmps5
  go_upto_region 1 with (fail)
  refine ((?_ : ∀ x, x = w.alloc (.cells (rowM m) 30) → Code.wp _ _ _ _ x) _ rfl)
  intro w1 hw1
  obtain ⟨n0, hn0⟩ : ∃ x, x = w.heap.size := ⟨_, rfl⟩
  have HX1 := Lib.hid (show w1.heap[n0]? = some (.cells (rowM m) 30 (0, 0)) by rw [hw1, hn0]; exact heap_alloc_new _ _)
  have HB1 := Lib.hid (show Below n0 w w1 by rw [hw1, hn0]; exact more (Below.refl _ _) _)
  rw [← hn0]
  have HN := Lib.hid hn0
  clear hw1 hn0
  go_wp2_with fail
  refine (awake_any w1).mono ?_
  rintro e w2 ⟨rfl, hb2⟩
  have HX2 := Lib.hid ((hb2.block _ (Array.getElem?_eq_some_iff.1 HX1.out).1).trans HX1.out)
  have HB2 := Lib.hid (HB1.out.trans (hb2.mono (by have := HB1.out.size; have := HN.out; omega)))
  clear hb2 HX1 HB1
  go_wp2_with (first | (refine wpList_load_row rfl 30 _ rfl n0 rfl 30 (rowM m) (0, 0) _ HX2.out Try.underlying30 rfl (sizeM _) ?_; simp only [Act.put, List.setIfInBounds_toArray, List.set_cons_zero, List.set_cons_succ]) | fail)
  refine (enc_any m HM.out w2).mono ?_
  rintro e w3 ⟨v, rfl, hO, hnil, hb3⟩
  have HO3 := Lib.hid hO
  clear hO
  have HX3 := Lib.hid ((hb3.block _ (Array.getElem?_eq_some_iff.1 HX2.out).1).trans HX2.out)
  have HB3 := Lib.hid (HB2.out.trans (hb3.mono (by have := HB2.out.size; have := HN.out; omega)))
  clear hb3 HX2 HB2
  have hL := encB_len m
  have k0 : w3.cell? ⟨n0, 0, none⟩ = some (.int .i64 m.kind) := cells_of HX3.out 0
  by_cases hk : m.kind < 0 ∨ 2 < m.kind
  · have hv := hnil (encB_no hk)
    subst hv
    clear hnil hL
    rcases hk with h | h
    · have d0 : decide (m.kind < 0) = true := decide_eq_true h
      go_wp2_with fail
      go_ret
      exact ⟨rfl, by rw [← HN.out]; exact HB3.out⟩
    · have d0 : decide (m.kind < 0) = false := decide_eq_false (by omega)
      have d1 : decide (2 < m.kind) = true := decide_eq_true h
      go_wp2_with fail
      go_ret
      exact ⟨rfl, by rw [← HN.out]; exact HB3.out⟩
  have d0 : decide (m.kind < 0) = false := decide_eq_false (by omega)
  have d1 : decide (2 < m.kind) = false := decide_eq_false (by omega)
  have hne : encB m ≠ [] := by
    intro h
    rw [h] at hL
    split at hL
    · cases hL
    split at hL
    · cases hL
    split at hL
    · cases hL
    · omega
  obtain ⟨g, c, rfl, hlc, hcm⟩ := HO3.out.at hne
  obtain ⟨ln, hln⟩ : ∃ x, x = (encB m).length := ⟨_, rfl⟩
  rw [← hln] at hlc hL ⊢
  have HLN := Lib.hid hln
  have hpos : 4 ≤ ln := by
    rw [hL]
    split
    · omega
    split
    · omega
    split <;> omega
  have hmod : ((i : Int)).tmod (ln : Int) = ((i % ln : Nat) : Int) := by rw [Int.ofNat_tmod]
  have hcut : i % ln < ln := Nat.mod_lt _ (by omega)
  obtain ⟨q, hq⟩ : ∃ x, x = i % ln := ⟨_, rfl⟩
  rw [← hq] at hmod hcut
  have HD := Lib.hid (show decP (fB (encB m)) q = (zeroMsg, 2) from dec_cut HM.out (by omega) q (by rw [← hln]; exact hcut))
  have wi : IntKind.i64.wrap (i : Int) = i := by unfold IntKind.wrap; simp [IntKind.signed, IntKind.bits]; omega
  have hV := fB_cut (by have h := HO3.out; rw [← hln] at h; exact hln ▸ h) q (by rw [← hln]; omega)
  have HV := Lib.hid hV
  clear hV hnil hne hmod
  rcases (show m.kind = 0 ∨ m.kind = 1 ∨ m.kind = 2 by omega) with h | h | h
  · have hL' : ln = 35 := by rw [hL]; simp [h]
    rw [h] at k0
    clear hL hpos hln
    subst hL'
    have hm' : (i : Int) % 35 = (q : Int) := by omega
    have hqc : (q : Int) ≤ (c : Int) := by omega
    clear hq
    have hc0 : ¬ c = 0 := by omega
    go_wp2_with fail
    refine (dec_any w3 (some ⟨g, 0, none⟩) q c (fB (encB m)) HV.out (fun j _ => fB_ok (encB_ok m) j) (by simp) (by omega)).mono ?_
    rintro e w4 ⟨rfl, hb4⟩
    rw [HD.out]
    have HB4 := Lib.hid (HB3.out.trans (hb4.mono (by have := HB3.out.size; have := HN.out; omega)))
    clear hb4 HX3 HB3 k0
    go_wp2_with (first | (refine wpList_store_new rfl 30 _ _ rfl w4 (rowM zeroMsg) 30 (rowM zeroMsg) rfl rfl rfl (sizeM _) rfl (rowM_one _) ?_; simp only [Act.put, List.setIfInBounds_toArray, List.set_cons_zero, List.set_cons_succ]) | (refine wpList_val (by rfl) _ (exec_row _ rfl w4.heap.size rfl zeroMsg (heap_alloc_new _ _)) ?_; simp only [Act.put, List.setIfInBounds_toArray, List.set_cons_zero, List.set_cons_succ]) | (refine wpList_val (by rfl) _ (exec_eqM _ _ rfl zeroMsg rfl rfl) ?_; simp only [Act.put, List.setIfInBounds_toArray, List.set_cons_zero, List.set_cons_succ]) | fail)
    go_ret
    exact ⟨rfl, by rw [← HN.out]; exact HB4.out.alloc (by have := HB4.out.size; have := HN.out; omega) _⟩
  · have hL' : ln = 4 := by rw [hL]; simp [h]
    rw [h] at k0
    clear hL hpos hln
    subst hL'
    have hm' : (i : Int) % 4 = (q : Int) := by omega
    have hqc : (q : Int) ≤ (c : Int) := by omega
    clear hq
    have hc0 : ¬ c = 0 := by omega
    go_wp2_with fail
    refine (dec_any w3 (some ⟨g, 0, none⟩) q c (fB (encB m)) HV.out (fun j _ => fB_ok (encB_ok m) j) (by simp) (by omega)).mono ?_
    rintro e w4 ⟨rfl, hb4⟩
    rw [HD.out]
    have HB4 := Lib.hid (HB3.out.trans (hb4.mono (by have := HB3.out.size; have := HN.out; omega)))
    clear hb4 HX3 HB3 k0
    go_wp2_with (first | (refine wpList_store_new rfl 30 _ _ rfl w4 (rowM zeroMsg) 30 (rowM zeroMsg) rfl rfl rfl (sizeM _) rfl (rowM_one _) ?_; simp only [Act.put, List.setIfInBounds_toArray, List.set_cons_zero, List.set_cons_succ]) | (refine wpList_val (by rfl) _ (exec_row _ rfl w4.heap.size rfl zeroMsg (heap_alloc_new _ _)) ?_; simp only [Act.put, List.setIfInBounds_toArray, List.set_cons_zero, List.set_cons_succ]) | (refine wpList_val (by rfl) _ (exec_eqM _ _ rfl zeroMsg rfl rfl) ?_; simp only [Act.put, List.setIfInBounds_toArray, List.set_cons_zero, List.set_cons_succ]) | fail)
    go_ret
    exact ⟨rfl, by rw [← HN.out]; exact HB4.out.alloc (by have := HB4.out.size; have := HN.out; omega) _⟩
  · have hL' : ln = 36 := by rw [hL]; simp [h]
    rw [h] at k0
    clear hL hpos hln
    subst hL'
    have hm' : (i : Int) % 36 = (q : Int) := by omega
    have hqc : (q : Int) ≤ (c : Int) := by omega
    clear hq
    have hc0 : ¬ c = 0 := by omega
    go_wp2_with fail
    refine (dec_any w3 (some ⟨g, 0, none⟩) q c (fB (encB m)) HV.out (fun j _ => fB_ok (encB_ok m) j) (by simp) (by omega)).mono ?_
    rintro e w4 ⟨rfl, hb4⟩
    rw [HD.out]
    have HB4 := Lib.hid (HB3.out.trans (hb4.mono (by have := HB3.out.size; have := HN.out; omega)))
    clear hb4 HX3 HB3 k0
    go_wp2_with (first | (refine wpList_store_new rfl 30 _ _ rfl w4 (rowM zeroMsg) 30 (rowM zeroMsg) rfl rfl rfl (sizeM _) rfl (rowM_one _) ?_; simp only [Act.put, List.setIfInBounds_toArray, List.set_cons_zero, List.set_cons_succ]) | (refine wpList_val (by rfl) _ (exec_row _ rfl w4.heap.size rfl zeroMsg (heap_alloc_new _ _)) ?_; simp only [Act.put, List.setIfInBounds_toArray, List.set_cons_zero, List.set_cons_succ]) | (refine wpList_val (by rfl) _ (exec_eqM _ _ rfl zeroMsg rfl rfl) ?_; simp only [Act.put, List.setIfInBounds_toArray, List.set_cons_zero, List.set_cons_succ]) | fail)
    go_ret
    exact ⟨rfl, by rw [← HN.out]; exact HB4.out.alloc (by have := HB4.out.size; have := HN.out; omega) _⟩
end Go.Proofs.Ytogoegddbjggiaa.Oct
