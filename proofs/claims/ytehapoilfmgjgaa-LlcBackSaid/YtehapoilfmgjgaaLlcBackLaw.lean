/- Law LlcBack of chapter 6: the walk joined with the plain law. Conditions: the numbers fit; the bytes behind are bytes that can be read. -/
import Derived.Test.YtehapoilfmgjgaaAw6
import Derived.Test.YtehapoilfmgjgaaAv
import Derived.Deep.CutRange
set_option linter.unusedSimpArgs false
set_option linter.unusedVariables false
namespace Go.Proofs.Ytehapoilfmgjgaa.Oct
open Go.RowKit
theorem src_cut (src : Int) (hs : 0 ≤ src ∧ src < 18446744073709551616) : IntKind.u64.wrap (src * 65536) / 65536 = src % 281474976710656 := by
  unfold IntKind.wrap
  simp [IntKind.signed, IntKind.bits]
  omega
attribute [local go_sem] mkE
set_option maxRecDepth 100000 in
set_option maxHeartbeats 16000000 in
theorem lback_any (w : World) (src : Int) (hs : 0 ≤ src ∧ src < 18446744073709551616) (m : Msg) (hm : MsgOk m) (la : Option Addr) (ln lc : Nat) (lf : Nat → Int) (hL : View w la 1 ln fun k _ => .int .u8 (lf k)) (hLB : ∀ k, k < ln → 0 ≤ lf k ∧ lf k ≤ 255) (hLN : la = none → ln = 0 ∧ lc = 0) (_hC : ln ≤ lc ∧ lc ≤ maxLen) :
    Calls Try.prog 6 #[.int .u64 src, .agg (rowM m), .slice la ln lc] w fun e w' => e = .returned (.bool true) ∧ Below w.heap.size w w' := by
  have HM := Lib.hid hm
  have HS := Lib.hid hs
  have HL := Lib.hid hL
  have HLB := Lib.hid hLB
  have HLN := Lib.hid hLN
  clear hm hs hL hLB hLN _hC
  go_enter Try.func6, Try.ntmps6
  go_upto_region 1 with (fail)
  refine ((?_ : ∀ x, x = w.alloc (.cells (rowM m) 30) → Code.wp _ _ _ _ x) _ rfl)
  intro w1 hw1
  obtain ⟨n0, hn0⟩ : ∃ x, x = w.heap.size := ⟨_, rfl⟩
  have HX1 := Lib.hid (show w1.heap[n0]? = some (.cells (rowM m) 30 (0, 0)) by rw [hw1, hn0]; exact heap_alloc_new _ _)
  have HB1 := Lib.hid (show Below n0 w w1 by rw [hw1, hn0]; exact more (Below.refl _ _) _)
  rw [← hn0]
  have HN := Lib.hid hn0
  clear hw1 hn0
  go_wp2_with fail
  refine (awake_any w1).mono ?_
  rintro e w2 ⟨rfl, hb2⟩
  have HX2 := Lib.hid ((hb2.block _ (Array.getElem?_eq_some_iff.1 HX1.out).1).trans HX1.out)
  have HB2 := Lib.hid (HB1.out.trans (hb2.mono (by have := HB1.out.size; have := HN.out; omega)))
  clear hb2 HX1 HB1
  by_cases h200 : 200 < ln
  · have d200 : decide ((200 : Int) < (ln : Int)) = true := decide_eq_true (by omega)
    go_wp2_with fail
    go_ret
    exact ⟨rfl, by rw [← HN.out]; exact HB2.out⟩
  have d200 : decide ((200 : Int) < (ln : Int)) = false := decide_eq_false (by omega)
  have hln : ln ≤ 200 := by omega
  clear h200
  go_wp2_with (first | (refine wpList_load_row rfl 30 _ rfl n0 rfl 30 (rowM m) (0, 0) _ HX2.out Try.underlying30 rfl (sizeM _) ?_; simp only [Act.put, List.setIfInBounds_toArray, List.set_cons_zero, List.set_cons_succ]) | fail)
  refine (wrap_any src HS.out m HM.out w2).mono ?_
  rintro e w3 ⟨v, rfl, hO, hnil, hb3⟩
  have HX3 := Lib.hid ((hb3.block _ (Array.getElem?_eq_some_iff.1 HX2.out).1).trans HX2.out)
  have HB3 := Lib.hid (HB2.out.trans (hb3.mono (by have := HB2.out.size; have := HN.out; omega)))
  clear hb3 HX2 HB2
  have k0 : w3.cell? ⟨n0, 0, none⟩ = some (.int .i64 m.kind) := cells_of HX3.out 0
  by_cases hk : m.kind < 0 ∨ 2 < m.kind
  · have hv := hnil (wrap_no (by unfold Kinds; omega) src)
    subst hv
    clear hnil
    rcases hk with h | h
    · have d0 : decide (m.kind < 0) = true := decide_eq_true h
      go_wp2_with fail
      go_ret
      exact ⟨rfl, by rw [← HN.out]; exact HB3.out⟩
    · have d0 : decide (m.kind < 0) = false := decide_eq_false (by omega)
      have d1 : decide (2 < m.kind) = true := decide_eq_true h
      go_wp2_with fail
      go_ret
      exact ⟨rfl, by rw [← HN.out]; exact HB3.out⟩
  have d0 : decide (m.kind < 0) = false := decide_eq_false (by omega)
  have d1 : decide (2 < m.kind) = false := decide_eq_false (by omega)
  have HK := Lib.hid (show Kinds m by unfold Kinds; omega)
  have hlen := wrap_len HK.out src
  have hok := wrap_ok src m
  have hop : openP (fB (wrapB src m ++ lst lf ln)) (wrapB src m ++ lst lf ln).length = if (ansM m).2 = 0 then (src % 281474976710656, (ansM m).1, 0) else (0, zeroMsg, (ansM m).2) :=
    open_is HM.out HK.out (wrap_is HK.out src _) (by have := (enc_pos HK.out).2; rw [List.length_append, hlen]; omega)
  obtain ⟨l, hl⟩ : ∃ l, l = wrapB src m := ⟨_, rfl⟩
  rw [← hl] at hO hlen hop hok
  obtain ⟨g, c, rfl, hgc, _⟩ := hO.at (by intro h; rw [h] at hlen; cases hlen)
  rw [hlen] at hO hgc ⊢
  have HV := Lib.hid (hO.cut 60 (by omega))
  have HLE := Lib.hid hlen
  have HOK := Lib.hid hok
  have HL3 := Lib.hid (HL.out.below (show Below w.heap.size w w3 by rw [← HN.out]; exact HB3.out))
  have hn3 : n0 ≤ w3.heap.size := by have := HB3.out.size; have := HN.out; omega
  obtain ⟨so, x, ex, hd⟩ : ∃ s x e, openP (fB (l ++ lst lf ln)) (l ++ lst lf ln).length = (s, x, e) := ⟨_, _, _, rfl⟩
  have HD := Lib.hid hd
  have HE := Lib.hid (hd.symm.trans hop)
  clear hl hO hnil hlen hop hok hd hk HL
  have hlst : lst (fB l) 60 = l := by rw [← HLE.out]; exact lst_fB l
  have HLST := Lib.hid hlst
  clear hlst
  go_upto_region 8 with (first
    | (at_builtin; refine wpList_appV rfl (.tmp 36) (.tmp 37) rfl w3.heap.size _ [] rfl (ownB_new (l := []) (n := 0) (heap_alloc_new _ _) (Nat.le_refl _) rfl (by omega)) (by simp) (some ⟨g, 0, none⟩) 60 c (fB l) rfl (fun h => by cases h) (HV.out.below (more (Below.refl _ _) _)) (by simp) ?_; intro v5 w5 hown5 hb5 hk5; simp only [Act.put, List.setIfInBounds_toArray, List.set_cons_zero, List.set_cons_succ]; have HO5 := Lib.hid (show OwnB w5 w3.heap.size v5 l by rw [List.nil_append, HLST.out] at hown5; exact hown5); have HB5 := Lib.hid (show Below w3.heap.size w3 w5 from (more (Below.refl _ _) _).trans hb5); clear hown5 hb5 hk5)
    | (at_builtin; refine wpList_appV rfl (.tmp 38) (.tmp 39) rfl w3.heap.size _ l rfl HO5.out HB5.out.size la ln lc lf rfl HLN.out (HL3.out.below HB5.out) (by rw [HLE.out]; omega) ?_; intro v6 w6 hown6 hb6 hk6; simp only [Act.put, List.setIfInBounds_toArray, List.set_cons_zero, List.set_cons_succ]; have HO6 := Lib.hid hown6; have HB6 := Lib.hid (show Below w3.heap.size w3 w6 from HB5.out.trans hb6); clear hown6 hb6 hk6)
    | (go_at_call 11; refine (open_own HO6.out ?_ ?_ HD.out).mono ?_; (intro y hy; rcases List.mem_append.1 hy with h | h; exact HOK.out y h; exact lst_ok HLB.out y h); (rw [List.length_append, lst_len, HLE.out]; omega); rintro e w7 ⟨rfl, hb7⟩; have HB7 := Lib.hid (show Below w3.heap.size w3 w7 from HB6.out.trans (hb7.mono HB6.out.size)); clear hb7)
    | (refine wpList_store_new rfl 30 _ _ rfl w7 (rowM zeroMsg) 30 (rowM x) rfl rfl rfl (sizeM _) rfl (rowM_one _) ?_; simp only [Act.put, List.setIfInBounds_toArray, List.set_cons_zero, List.set_cons_succ]) | fail)
  refine ((?_ : ∀ x', x' = w7.alloc (.cells (rowM x) 30) → Code.wp _ _ _ _ x') _ rfl)
  intro w8 hw8
  obtain ⟨n1, hn1⟩ : ∃ x, x = w7.heap.size := ⟨_, rfl⟩
  have HC8 := Lib.hid (show w8.heap[n1]? = some (.cells (rowM x) 30 (0, 0)) by rw [hw8, hn1]; exact heap_alloc_new _ _)
  have hb8 : Below w3.heap.size w3 w8 := by rw [hw8]; exact HB7.out.alloc HB7.out.size _
  rw [← hn1]
  have HX8 := Lib.hid ((hb8.block _ (Array.getElem?_eq_some_iff.1 HX3.out).1).trans HX3.out)
  have HB8 := Lib.hid (show Below n0 w w8 from HB3.out.trans (hb8.mono hn3))
  clear hw8 hn1 hb8 HB7 HB6 HB5 HO5 HO6 HX3 HB3 HL3 HV k0
  go_wp2_with (first | (refine wpList_load_row rfl 30 _ rfl n0 rfl 30 (rowM m) (0, 0) _ HX8.out Try.underlying30 rfl (sizeM _) ?_; simp only [Act.put, List.setIfInBounds_toArray, List.set_cons_zero, List.set_cons_succ]) | fail)
  refine (plain_any m HM.out w8).mono ?_
  rintro e w9 ⟨rfl, hb9⟩
  have HX9 := Lib.hid ((hb9.block _ (Array.getElem?_eq_some_iff.1 HX8.out).1).trans HX8.out)
  have HC9 := Lib.hid ((hb9.block _ (Array.getElem?_eq_some_iff.1 HC8.out).1).trans HC8.out)
  have HB9 := Lib.hid (HB8.out.trans (hb9.mono (by have := HB8.out.size; have := HN.out; omega)))
  clear hb9 HX8 HC8 HB8
  obtain ⟨pm, hpm⟩ : ∃ x, x = plainM m := ⟨_, rfl⟩
  have HPM := Lib.hid hpm
  rw [← hpm]
  clear hpm
  go_upto_region 9 with (first | (refine wpList_store_new rfl 30 _ _ rfl w9 (rowM zeroMsg) 30 (rowM pm) rfl rfl rfl (sizeM _) rfl (rowM_one _) ?_; simp only [Act.put, List.setIfInBounds_toArray, List.set_cons_zero, List.set_cons_succ]) | fail)
  refine ((?_ : ∀ x', x' = w9.alloc (.cells (rowM pm) 30) → Code.wp _ _ _ _ x') _ rfl)
  intro wa hwa
  obtain ⟨n2, hn2⟩ : ∃ x, x = w9.heap.size := ⟨_, rfl⟩
  have HPa := Lib.hid (show wa.heap[n2]? = some (.cells (rowM pm) 30 (0, 0)) by rw [hwa, hn2]; exact heap_alloc_new _ _)
  have hba : Below w9.heap.size w9 wa := by rw [hwa]; exact more (Below.refl _ _) _
  rw [← hn2]
  have HXa := Lib.hid ((hba.block _ (Array.getElem?_eq_some_iff.1 HX9.out).1).trans HX9.out)
  have HCa := Lib.hid ((hba.block _ (Array.getElem?_eq_some_iff.1 HC9.out).1).trans HC9.out)
  have HBa := Lib.hid (HB9.out.trans (hba.mono (by have := HB9.out.size; have := HN.out; omega)))
  clear hwa hn2 hba HX9 HC9 HB9 d0 d1 d200
  have k0 : wa.cell? ⟨n0, 0, none⟩ = some (.int .i64 m.kind) := cells_of HXa.out 0
  by_cases hT : m.kind = 0 ∧ toN m.mx ≤ toN m.age
  · have hA : ansM m = (zeroMsg, 5) := if_pos hT
    have he := HE.out
    rw [hA] at he
    obtain ⟨rfl, rfl, rfl⟩ : so = 0 ∧ x = zeroMsg ∧ ex = 5 := by simpa using he
    rw [hT.1] at k0
    have hpA : pm.age = fromN (toN m.age) := by rw [HPM.out]; unfold plainM; rw [if_neg (by omega), if_pos hT.1]
    have hpX : pm.mx = fromN (toN m.mx) := by rw [HPM.out]; unfold plainM; rw [if_neg (by omega), if_pos hT.1]
    have p13 : wa.cell? ⟨n2, 13, none⟩ = some (.int .i64 pm.age) := cells_of HPa.out 13
    have p14 : wa.cell? ⟨n2, 14, none⟩ = some (.int .i64 pm.mx) := cells_of HPa.out 14
    have dg : decide (pm.mx ≤ pm.age) = true := decide_eq_true (by rw [hpA, hpX]; have := hT.2; unfold fromN; omega)
    clear hA he hT hpA hpX
    go_wp2_with fail
    go_ret
    exact ⟨by simp [dg], by rw [← HN.out]; exact HBa.out⟩
  · have hA : ansM m = (plainM m, 0) := if_neg hT
    have he := HE.out
    rw [hA, ← HPM.out] at he
    obtain ⟨rfl, rfl, rfl⟩ : so = src % 281474976710656 ∧ x = pm ∧ ex = 0 := by simpa using he
    have hsr := src_cut src HS.out
    clear hA he hT
    go_wp2_with (first | (refine wpList_val (by rfl) _ (exec_row _ rfl n1 rfl x HCa.out) ?_; simp only [Act.put, List.setIfInBounds_toArray, List.set_cons_zero, List.set_cons_succ]) | (refine wpList_val (by rfl) _ (exec_row _ rfl n2 rfl x HPa.out) ?_; simp only [Act.put, List.setIfInBounds_toArray, List.set_cons_zero, List.set_cons_succ]) | (refine wpList_val (by rfl) _ (exec_eqM _ _ rfl x rfl rfl) ?_; simp only [Act.put, List.setIfInBounds_toArray, List.set_cons_zero, List.set_cons_succ]) | fail)
    go_ret
    exact ⟨rfl, by rw [← HN.out]; exact HBa.out⟩
end Go.Proofs.Ytehapoilfmgjgaa.Oct
