/- Law LlcTurned of chapter 6: the walk joined with the plain law. Conditions: the numbers fit. -/
import Derived.Test.YtehapoilfmgjgaaAw6
import Derived.Test.YtehapoilfmgjgaaAv
import Derived.Test.YtehapoilfmgjgaaLs
import Derived.Deep.CutRange
import Derived.Laws.BitsAllLaws
set_option linter.unusedSimpArgs false
set_option linter.unusedVariables false
namespace Go.Proofs.Ytehapoilfmgjgaa.Oct
open Go.RowKit
theorem xor_turn (a b : Int) (ha : 0 ≤ a ∧ a ≤ 255) (hb : 0 ≤ b ∧ b ≤ 255) (h : b ≠ 0) : bits .xor .u8 a b ≠ a ∧ 0 ≤ bits .xor .u8 a b ∧ bits .xor .u8 a b ≤ 255 := by
  rw [u8_xor a b ha.1 (by omega) hb.1 (by omega)]
  have h1 : a.toNat ^^^ b.toNat < 2 ^ 8 := Nat.xor_lt_two_pow (by omega) (by omega)
  refine ⟨fun e => h ?_, by omega, by omega⟩
  have e' : a.toNat ^^^ b.toNat = a.toNat ^^^ 0 := by rw [Nat.xor_zero]; omega
  have e2 : a.toNat ^^^ (a.toNat ^^^ b.toNat) = a.toNat ^^^ (a.toNat ^^^ 0) := by rw [e']
  rw [← Nat.xor_assoc, ← Nat.xor_assoc, Nat.xor_self, Nat.zero_xor, Nat.zero_xor] at e2
  omega
attribute [local go_sem] mkE bldZ
set_option maxRecDepth 100000 in
set_option maxHeartbeats 16000000 in
theorem turned_any (w : World) (src : Int) (hs : 0 ≤ src ∧ src < 18446744073709551616) (m : Msg) (hm : MsgOk m) (at_ : Nat) (hat : at_ ≤ 255) (b_ : Nat) (hby : b_ ≤ 255) (cut : Nat) (hcut : cut ≤ 255) :
    Calls Try.prog 4 #[.int .u64 src, .agg (rowM m), .int .u8 at_, .int .u8 b_, .int .u8 cut] w fun e w' => e = .returned (.bool true) ∧ Below w.heap.size w w' := by
  have HM := Lib.hid hm
  have HS := Lib.hid hs
  clear hm hs
  go_enter Try.func4, Try.ntmps4
  go_upto_region 1 with (fail)
  refine ((?_ : ∀ x, x = w.alloc (.cells (rowM m) 30) → Code.wp _ _ _ _ x) _ rfl)
  intro w1 hw1
  obtain ⟨n0, hn0⟩ : ∃ x, x = w.heap.size := ⟨_, rfl⟩
  have HX1 := Lib.hid (show w1.heap[n0]? = some (.cells (rowM m) 30 (0, 0)) by rw [hw1, hn0]; exact heap_alloc_new _ _)
  have HB1 := Lib.hid (show Below n0 w w1 by rw [hw1, hn0]; exact more (Below.refl _ _) _)
  rw [← hn0]
  have HN := Lib.hid hn0
  clear hw1 hn0
  go_wp2_with fail
  refine (awake_any w1).mono ?_
  rintro e w2 ⟨rfl, hb2⟩
  have HX2 := Lib.hid ((hb2.block _ (Array.getElem?_eq_some_iff.1 HX1.out).1).trans HX1.out)
  have HB2 := Lib.hid (HB1.out.trans (hb2.mono (by have := HB1.out.size; have := HN.out; omega)))
  clear hb2 HX1 HB1
  go_wp2_with (first | (refine wpList_load_row rfl 30 _ rfl n0 rfl 30 (rowM m) (0, 0) _ HX2.out Try.underlying30 rfl (sizeM _) ?_; simp only [Act.put, List.setIfInBounds_toArray, List.set_cons_zero, List.set_cons_succ]) | fail)
  refine (wrap_any src HS.out m HM.out w2).mono ?_
  rintro e w4 ⟨v, rfl, hO, hnil, hb4⟩
  have HX4 := Lib.hid ((hb4.block _ (Array.getElem?_eq_some_iff.1 HX2.out).1).trans HX2.out)
  have HB4 := Lib.hid (HB2.out.trans (hb4.mono (by have := HB2.out.size; have := HN.out; omega)))
  clear hb4 HX2 HB2
  by_cases hk : Kinds m
  rotate_left
  · have hv := hnil (wrap_no hk src)
    subst hv
    clear hnil hk hO
    go_wp2_with fail
    go_ret
    exact ⟨rfl, by rw [← HN.out]; exact HB4.out⟩
  have HK := Lib.hid hk
  have hlen := wrap_len HK.out src
  have hok := wrap_ok src m
  have hW := wrap_is HK.out src []
  rw [List.append_nil] at hW
  obtain ⟨l, hl⟩ : ∃ l, l = wrapB src m := ⟨_, rfl⟩
  rw [← hl] at hO hlen hok hW
  have HW := Lib.hid hW
  obtain ⟨g, c, rfl, hgc, hcm⟩ := hO.at (by intro h; rw [h] at hlen; cases hlen)
  rw [hlen] at hO hgc ⊢
  have HV := Lib.hid (hO.cut 60 (by omega))
  have HO4 := Lib.hid hO
  have HLE := Lib.hid hlen
  have HOK := Lib.hid hok
  have HGC := Lib.hid (And.intro hgc hcm)
  have HLST := Lib.hid (show lst (fB l) 60 = l by rw [← hlen]; exact lst_fB l)
  clear hl hO hlen hok hW hk hnil hgc hcm
  by_cases h0 : b_ = 0
  · subst h0
    go_wp2_with fail
    go_ret
    exact ⟨rfl, by rw [← HN.out]; exact HB4.out⟩
  have d0 : ((b_ : Int) == 0) = false := by simpa using h0
  have H0 := Lib.hid h0
  clear h0
  go_upto_region 8 with (fail)
  obtain ⟨q, hq⟩ : ∃ q : Nat, (at_ : Int) % 9 = q := ⟨at_ % 9, by omega⟩
  rw [hq]
  have hq9 : q < 9 := by omega
  clear hq
  by_cases h6 : q < 6
  · have d6 : decide ((6 : Int) ≤ (q : Int)) = false := decide_eq_false (by omega)
    have HKK := Lib.hid (show q < 6 ∨ q = 14 ∨ q = 15 ∨ q = 16 from .inl h6)
    have hk60 : q < 60 := by omega
    go_upto_region 10 with (fail)
    obtain ⟨k, hk⟩ : ∃ k : Nat, k = q := ⟨_, rfl⟩
    rw [← hk] at hk60 HKK ⊢
    clear hk d6 hq9 h6
    go_upto_region 11 with (first
      | (at_builtin; refine wpList_appV rfl (.tmp 44) (.tmp 45) rfl w4.heap.size _ [] rfl (ownB_new (l := []) (n := 0) (heap_alloc_new _ _) (Nat.le_refl _) rfl (by omega)) (by simp) (some ⟨g, 0, none⟩) 60 c (fB l) rfl (fun h => by cases h) (HV.out.below (more (Below.refl _ _) _)) (by simp) ?_; intro v5 w5 hown5 hb5 hk5; simp only [Act.put, List.setIfInBounds_toArray, List.set_cons_zero, List.set_cons_succ]; have HO5 := Lib.hid (show OwnB w5 w4.heap.size v5 l by rw [List.nil_append, HLST.out] at hown5; exact hown5); have HB5 := Lib.hid (show Below w4.heap.size w4 w5 from (more (Below.refl _ _) _).trans hb5); clear hown5 hb5 hk5)
      | fail)
    obtain ⟨g5, c5, rfl, hgc5, _⟩ := HO5.out.at (by intro h; have := HLE.out; rw [h] at this; cases this)
    have ho5 := HO5.out
    rw [HLE.out] at hgc5 ho5 ⊢
    have HP5 := Lib.hid ho5
    have ck : w5.cell? ⟨g5, k, none⟩ = some (.int .u8 (fB l k)) := ho5.cell (by rw [HLE.out]; omega)
    have fk : w5.frozen? ⟨g5, k, none⟩ = false := ho5.free k
    clear ho5 HO5
    have hxo := xor_turn (fB l k) b_ (fB_ok HOK.out k) (by omega) (by have := H0.out; omega)
    obtain ⟨xb, hxb⟩ : ∃ x, x = bits .xor .u8 (fB l k) (b_ : Int) := ⟨_, rfl⟩
    have HXO := Lib.hid (hxb ▸ hxo)
    clear hxo
    go_upto_region 12 with (fail)
    rw [← hxb]
    refine ((?_ : ∀ x, x = w5.setCell ⟨g5, k, none⟩ (.int .u8 xb) → Code.wp _ _ _ _ x) _ rfl)
    intro w6 hw6
    obtain ⟨lg, hlg⟩ : ∃ x, x = l.set k xb := ⟨_, rfl⟩
    have HG6 := Lib.hid (show OwnB w6 w4.heap.size (.slice (some ⟨g5, 0, none⟩) 60 c5) lg by rw [hw6, hlg]; exact HP5.out.set k xb)
    have HGOK := Lib.hid (show ∀ y ∈ lg, 0 ≤ y ∧ y ≤ 255 by rw [hlg]; exact set_ok HOK.out HXO.out.2)
    have HGL := Lib.hid (show lg.length = 60 by rw [hlg, List.length_set]; exact HLE.out)
    have HOG := Lib.hid (show openP (fB lg) lg.length = (0, zeroMsg, 3) by
      rw [HGL.out, hlg]
      exact open_turned HW.out HKK.out (by rw [fB_set_same (by rw [HLE.out]; omega)]; exact HXO.out.1) (fun j hj => fB_set_other hj))
    have hb6 : Below w4.heap.size w4 w6 := by rw [hw6]; exact HB5.out.setCell HP5.out.base_le.1 _
    have HF6 := Lib.hid (HO4.out.below hb6)
    have hn4 : n0 ≤ w4.heap.size := by have := HB4.out.size; have := HN.out; omega
    have HB6 := Lib.hid (HB4.out.trans (hb6.mono hn4))
    clear hw6 hb6 ck fk HP5 HB5 HO4 HB4 HX4 hn4 hlg hxb HXO HKK HV HLST
    go_upto_region 13 with (first
      | (go_at_call 11; refine (open_own HG6.out HGOK.out (by rw [HGL.out]; omega) HOG.out).mono ?_; rintro e w7 ⟨rfl, hb7⟩; have HF7 := Lib.hid (HF6.out.below (hb7.mono (Nat.le_refl _))); have HB7 := Lib.hid (HB6.out.trans (hb7.mono (by have := HB6.out.size; have := HN.out; omega))); clear hb7)
      | (refine wpList_store_new rfl 30 _ _ rfl w7 (rowM zeroMsg) 30 (rowM zeroMsg) rfl rfl rfl (sizeM _) rfl (rowM_one _) ?_; simp only [Act.put, List.setIfInBounds_toArray, List.set_cons_zero, List.set_cons_succ]) | fail)
    refine ((?_ : ∀ x', x' = w7.alloc (.cells (rowM zeroMsg) 30) → Code.wp _ _ _ _ x') _ rfl)
    intro w8 hw8
    obtain ⟨n1, hn1⟩ : ∃ x, x = w7.heap.size := ⟨_, rfl⟩
    have HC8 := Lib.hid (show w8.heap[n1]? = some (.cells (rowM zeroMsg) 30 (0, 0)) by rw [hw8, hn1]; exact heap_alloc_new _ _)
    have hb8 : Below w7.heap.size w7 w8 := by rw [hw8]; exact more (Below.refl _ _) _
    rw [← hn1]
    have hf8 := HF7.out.below hb8
    have HF8 := Lib.hid hf8
    have HB8 := Lib.hid (HB7.out.trans (hb8.mono (by have := HB7.out.size; have := HN.out; omega)))
    have c13 : w8.cell? ⟨g, 13, none⟩ = some (.int .u8 (3 + (encB m).length)) := by rw [hf8.cell (by rw [HLE.out]; omega), HW.out.lo]
    clear hw8 hn1 hb8 HB7 HF7 HB6 HG6 HF6 hf8
    obtain ⟨L, hL⟩ : ∃ L, L = (encB m).length := ⟨_, rfl⟩
    have hLL := enc_pos HK.out
    rw [← hL] at c13 hLL
    have HLL := Lib.hid hL
    clear hL
    have dl : decide ((60 : Int) < 14 + (3 + (L : Int))) = false := decide_eq_false (by omega)
    have wl : IntKind.i64.wrap (14 + (3 + (L : Int))) = 14 + (3 + (L : Int)) := by unfold IntKind.wrap; simp [IntKind.signed, IntKind.bits]; omega
    have wl3 : IntKind.i64.wrap (3 + (L : Int)) = 3 + (L : Int) := by unfold IntKind.wrap; simp [IntKind.signed, IntKind.bits]; omega
    have hne : ¬ (14 + (3 + (L : Int)) = 0) := by omega
    go_upto_region 16 with (fail)
    have hp1 := Int.emod_nonneg (cut : Int) (b := 14 + (3 + (L : Int))) (by omega)
    have hp2 := Int.emod_lt_of_pos (cut : Int) (b := 14 + (3 + (L : Int))) (by omega)
    obtain ⟨r, hr⟩ : ∃ r : Nat, (cut : Int) % (14 + (3 + (L : Int))) = r := ⟨((cut : Int) % (14 + (3 + (L : Int)))).toNat, by omega⟩
    have hr1 : r < 17 + L := by rw [hr] at hp2; omega
    clear hp1 hp2
    have hrc : r ≤ c := by have := HGC.out.1; omega
    obtain ⟨y, ey, hy, hey⟩ : ∃ y ey, openP (fB l) r = (0, zeroMsg, ey) ∧ (ey = 2 ∨ ey = 3) ∧ y = ey := by
      rcases open_cut HK.out HW.out (n := r) (by rw [← HLL.out]; exact hr1) with h | h
      · exact ⟨2, 2, h, .inl rfl, rfl⟩
      · exact ⟨3, 3, h, .inr rfl, rfl⟩
    have HY := Lib.hid hy
    have HEY := Lib.hid hey.1
    clear hey hy
    go_wp2_with fail
    refine (open_any_frame w8 (some ⟨g, 0, none⟩) r c (fB l) (HF8.out.cut r (by rw [HLE.out]; omega)) (fun j _ => fB_ok HOK.out j) (fun h => by cases h) (by omega) ⟨hrc, HGC.out.2⟩).mono ?_
    rintro e w9 ⟨rfl, hb9⟩
    rw [HY.out]
    have HC9 := Lib.hid ((hb9.block _ (Array.getElem?_eq_some_iff.1 HC8.out).1).trans HC8.out)
    have HB9 := Lib.hid (HB8.out.trans (hb9.mono (by have := HB8.out.size; have := HN.out; omega)))
    clear hb9 HC8 HB8 HF8 c13
    go_upto_region 17 with (first | (refine wpList_store_new rfl 30 _ _ rfl w9 (rowM zeroMsg) 30 (rowM zeroMsg) rfl rfl rfl (sizeM _) rfl (rowM_one _) ?_; simp only [Act.put, List.setIfInBounds_toArray, List.set_cons_zero, List.set_cons_succ]) | fail)
    refine ((?_ : ∀ x', x' = w9.alloc (.cells (rowM zeroMsg) 30) → Code.wp _ _ _ _ x') _ rfl)
    intro wa hwa
    obtain ⟨n2, hn2⟩ : ∃ x, x = w9.heap.size := ⟨_, rfl⟩
    have HPa := Lib.hid (show wa.heap[n2]? = some (.cells (rowM zeroMsg) 30 (0, 0)) by rw [hwa, hn2]; exact heap_alloc_new _ _)
    have hba : Below w9.heap.size w9 wa := by rw [hwa]; exact more (Below.refl _ _) _
    rw [← hn2]
    have HCa := Lib.hid ((hba.block _ (Array.getElem?_eq_some_iff.1 HC9.out).1).trans HC9.out)
    have HBa := Lib.hid (HB9.out.trans (hba.mono (by have := HB9.out.size; have := HN.out; omega)))
    clear hwa hn2 hba HC9 HB9
    rcases HEY.out with rfl | rfl
    · go_wp2_with (first | (refine wpList_val (by rfl) _ (exec_row _ rfl n1 rfl zeroMsg HCa.out) ?_; simp only [Act.put, List.setIfInBounds_toArray, List.set_cons_zero, List.set_cons_succ]) | (refine wpList_val (by rfl) _ (exec_row _ rfl n2 rfl zeroMsg HPa.out) ?_; simp only [Act.put, List.setIfInBounds_toArray, List.set_cons_zero, List.set_cons_succ]) | (refine wpList_val (by rfl) _ (exec_eqM _ _ rfl zeroMsg rfl rfl) ?_; simp only [Act.put, List.setIfInBounds_toArray, List.set_cons_zero, List.set_cons_succ]) | fail)
      go_ret
      exact ⟨rfl, by rw [← HN.out]; exact HBa.out⟩
    · go_wp2_with (first | (refine wpList_val (by rfl) _ (exec_row _ rfl n1 rfl zeroMsg HCa.out) ?_; simp only [Act.put, List.setIfInBounds_toArray, List.set_cons_zero, List.set_cons_succ]) | (refine wpList_val (by rfl) _ (exec_row _ rfl n2 rfl zeroMsg HPa.out) ?_; simp only [Act.put, List.setIfInBounds_toArray, List.set_cons_zero, List.set_cons_succ]) | (refine wpList_val (by rfl) _ (exec_eqM _ _ rfl zeroMsg rfl rfl) ?_; simp only [Act.put, List.setIfInBounds_toArray, List.set_cons_zero, List.set_cons_succ]) | fail)
      go_ret
      exact ⟨rfl, by rw [← HN.out]; exact HBa.out⟩
  have d6 : decide ((6 : Int) ≤ (q : Int)) = true := decide_eq_true (by omega)
  have w8 : IntKind.i64.wrap ((q : Int) + 8) = ((q + 8 : Nat) : Int) := by unfold IntKind.wrap; simp [IntKind.signed, IntKind.bits]; omega
  go_upto_region 10 with (fail)
  obtain ⟨k, hk⟩ : ∃ k : Nat, (q : Int) + 8 = k := ⟨q + 8, by omega⟩
  rw [hk]
  have HKK := Lib.hid (show k < 6 ∨ k = 14 ∨ k = 15 ∨ k = 16 by omega)
  have hk60 : k < 60 := by omega
  clear hk w8 d6 hq9 h6
  go_upto_region 11 with (first
    | (at_builtin; refine wpList_appV rfl (.tmp 44) (.tmp 45) rfl w4.heap.size _ [] rfl (ownB_new (l := []) (n := 0) (heap_alloc_new _ _) (Nat.le_refl _) rfl (by omega)) (by simp) (some ⟨g, 0, none⟩) 60 c (fB l) rfl (fun h => by cases h) (HV.out.below (more (Below.refl _ _) _)) (by simp) ?_; intro v5 w5 hown5 hb5 hk5; simp only [Act.put, List.setIfInBounds_toArray, List.set_cons_zero, List.set_cons_succ]; have HO5 := Lib.hid (show OwnB w5 w4.heap.size v5 l by rw [List.nil_append, HLST.out] at hown5; exact hown5); have HB5 := Lib.hid (show Below w4.heap.size w4 w5 from (more (Below.refl _ _) _).trans hb5); clear hown5 hb5 hk5)
    | fail)
  obtain ⟨g5, c5, rfl, hgc5, _⟩ := HO5.out.at (by intro h; have := HLE.out; rw [h] at this; cases this)
  have ho5 := HO5.out
  rw [HLE.out] at hgc5 ho5 ⊢
  have HP5 := Lib.hid ho5
  have ck : w5.cell? ⟨g5, k, none⟩ = some (.int .u8 (fB l k)) := ho5.cell (by rw [HLE.out]; omega)
  have fk : w5.frozen? ⟨g5, k, none⟩ = false := ho5.free k
  clear ho5 HO5
  have hxo := xor_turn (fB l k) b_ (fB_ok HOK.out k) (by omega) (by have := H0.out; omega)
  obtain ⟨xb, hxb⟩ : ∃ x, x = bits .xor .u8 (fB l k) (b_ : Int) := ⟨_, rfl⟩
  have HXO := Lib.hid (hxb ▸ hxo)
  clear hxo
  go_upto_region 12 with (fail)
  rw [← hxb]
  refine ((?_ : ∀ x, x = w5.setCell ⟨g5, k, none⟩ (.int .u8 xb) → Code.wp _ _ _ _ x) _ rfl)
  intro w6 hw6
  obtain ⟨lg, hlg⟩ : ∃ x, x = l.set k xb := ⟨_, rfl⟩
  have HG6 := Lib.hid (show OwnB w6 w4.heap.size (.slice (some ⟨g5, 0, none⟩) 60 c5) lg by rw [hw6, hlg]; exact HP5.out.set k xb)
  have HGOK := Lib.hid (show ∀ y ∈ lg, 0 ≤ y ∧ y ≤ 255 by rw [hlg]; exact set_ok HOK.out HXO.out.2)
  have HGL := Lib.hid (show lg.length = 60 by rw [hlg, List.length_set]; exact HLE.out)
  have HOG := Lib.hid (show openP (fB lg) lg.length = (0, zeroMsg, 3) by
    rw [HGL.out, hlg]
    exact open_turned HW.out HKK.out (by rw [fB_set_same (by rw [HLE.out]; omega)]; exact HXO.out.1) (fun j hj => fB_set_other hj))
  have hb6 : Below w4.heap.size w4 w6 := by rw [hw6]; exact HB5.out.setCell HP5.out.base_le.1 _
  have HF6 := Lib.hid (HO4.out.below hb6)
  have hn4 : n0 ≤ w4.heap.size := by have := HB4.out.size; have := HN.out; omega
  have HB6 := Lib.hid (HB4.out.trans (hb6.mono hn4))
  clear hw6 hb6 ck fk HP5 HB5 HO4 HB4 HX4 hn4 hlg hxb HXO HKK HV HLST
  go_upto_region 13 with (first
    | (go_at_call 11; refine (open_own HG6.out HGOK.out (by rw [HGL.out]; omega) HOG.out).mono ?_; rintro e w7 ⟨rfl, hb7⟩; have HF7 := Lib.hid (HF6.out.below (hb7.mono (Nat.le_refl _))); have HB7 := Lib.hid (HB6.out.trans (hb7.mono (by have := HB6.out.size; have := HN.out; omega))); clear hb7)
    | (refine wpList_store_new rfl 30 _ _ rfl w7 (rowM zeroMsg) 30 (rowM zeroMsg) rfl rfl rfl (sizeM _) rfl (rowM_one _) ?_; simp only [Act.put, List.setIfInBounds_toArray, List.set_cons_zero, List.set_cons_succ]) | fail)
  refine ((?_ : ∀ x', x' = w7.alloc (.cells (rowM zeroMsg) 30) → Code.wp _ _ _ _ x') _ rfl)
  intro w8 hw8
  obtain ⟨n1, hn1⟩ : ∃ x, x = w7.heap.size := ⟨_, rfl⟩
  have HC8 := Lib.hid (show w8.heap[n1]? = some (.cells (rowM zeroMsg) 30 (0, 0)) by rw [hw8, hn1]; exact heap_alloc_new _ _)
  have hb8 : Below w7.heap.size w7 w8 := by rw [hw8]; exact more (Below.refl _ _) _
  rw [← hn1]
  have hf8 := HF7.out.below hb8
  have HF8 := Lib.hid hf8
  have HB8 := Lib.hid (HB7.out.trans (hb8.mono (by have := HB7.out.size; have := HN.out; omega)))
  have c13 : w8.cell? ⟨g, 13, none⟩ = some (.int .u8 (3 + (encB m).length)) := by rw [hf8.cell (by rw [HLE.out]; omega), HW.out.lo]
  clear hw8 hn1 hb8 HB7 HF7 HB6 HG6 HF6 hf8
  obtain ⟨L, hL⟩ : ∃ L, L = (encB m).length := ⟨_, rfl⟩
  have hLL := enc_pos HK.out
  rw [← hL] at c13 hLL
  have HLL := Lib.hid hL
  clear hL
  have dl : decide ((60 : Int) < 14 + (3 + (L : Int))) = false := decide_eq_false (by omega)
  have wl : IntKind.i64.wrap (14 + (3 + (L : Int))) = 14 + (3 + (L : Int)) := by unfold IntKind.wrap; simp [IntKind.signed, IntKind.bits]; omega
  have wl3 : IntKind.i64.wrap (3 + (L : Int)) = 3 + (L : Int) := by unfold IntKind.wrap; simp [IntKind.signed, IntKind.bits]; omega
  have hne : ¬ (14 + (3 + (L : Int)) = 0) := by omega
  go_upto_region 16 with (fail)
  have hp1 := Int.emod_nonneg (cut : Int) (b := 14 + (3 + (L : Int))) (by omega)
  have hp2 := Int.emod_lt_of_pos (cut : Int) (b := 14 + (3 + (L : Int))) (by omega)
  obtain ⟨r, hr⟩ : ∃ r : Nat, (cut : Int) % (14 + (3 + (L : Int))) = r := ⟨((cut : Int) % (14 + (3 + (L : Int)))).toNat, by omega⟩
  have hr1 : r < 17 + L := by rw [hr] at hp2; omega
  clear hp1 hp2
  have hrc : r ≤ c := by have := HGC.out.1; omega
  obtain ⟨y, ey, hy, hey⟩ : ∃ y ey, openP (fB l) r = (0, zeroMsg, ey) ∧ (ey = 2 ∨ ey = 3) ∧ y = ey := by
    rcases open_cut HK.out HW.out (n := r) (by rw [← HLL.out]; exact hr1) with h | h
    · exact ⟨2, 2, h, .inl rfl, rfl⟩
    · exact ⟨3, 3, h, .inr rfl, rfl⟩
  have HY := Lib.hid hy
  have HEY := Lib.hid hey.1
  clear hey hy
  go_wp2_with fail
  refine (open_any_frame w8 (some ⟨g, 0, none⟩) r c (fB l) (HF8.out.cut r (by rw [HLE.out]; omega)) (fun j _ => fB_ok HOK.out j) (fun h => by cases h) (by omega) ⟨hrc, HGC.out.2⟩).mono ?_
  rintro e w9 ⟨rfl, hb9⟩
  rw [HY.out]
  have HC9 := Lib.hid ((hb9.block _ (Array.getElem?_eq_some_iff.1 HC8.out).1).trans HC8.out)
  have HB9 := Lib.hid (HB8.out.trans (hb9.mono (by have := HB8.out.size; have := HN.out; omega)))
  clear hb9 HC8 HB8 HF8 c13
  go_upto_region 17 with (first | (refine wpList_store_new rfl 30 _ _ rfl w9 (rowM zeroMsg) 30 (rowM zeroMsg) rfl rfl rfl (sizeM _) rfl (rowM_one _) ?_; simp only [Act.put, List.setIfInBounds_toArray, List.set_cons_zero, List.set_cons_succ]) | fail)
  refine ((?_ : ∀ x', x' = w9.alloc (.cells (rowM zeroMsg) 30) → Code.wp _ _ _ _ x') _ rfl)
  intro wa hwa
  obtain ⟨n2, hn2⟩ : ∃ x, x = w9.heap.size := ⟨_, rfl⟩
  have HPa := Lib.hid (show wa.heap[n2]? = some (.cells (rowM zeroMsg) 30 (0, 0)) by rw [hwa, hn2]; exact heap_alloc_new _ _)
  have hba : Below w9.heap.size w9 wa := by rw [hwa]; exact more (Below.refl _ _) _
  rw [← hn2]
  have HCa := Lib.hid ((hba.block _ (Array.getElem?_eq_some_iff.1 HC9.out).1).trans HC9.out)
  have HBa := Lib.hid (HB9.out.trans (hba.mono (by have := HB9.out.size; have := HN.out; omega)))
  clear hwa hn2 hba HC9 HB9
  rcases HEY.out with rfl | rfl
  · go_wp2_with (first | (refine wpList_val (by rfl) _ (exec_row _ rfl n1 rfl zeroMsg HCa.out) ?_; simp only [Act.put, List.setIfInBounds_toArray, List.set_cons_zero, List.set_cons_succ]) | (refine wpList_val (by rfl) _ (exec_row _ rfl n2 rfl zeroMsg HPa.out) ?_; simp only [Act.put, List.setIfInBounds_toArray, List.set_cons_zero, List.set_cons_succ]) | (refine wpList_val (by rfl) _ (exec_eqM _ _ rfl zeroMsg rfl rfl) ?_; simp only [Act.put, List.setIfInBounds_toArray, List.set_cons_zero, List.set_cons_succ]) | fail)
    go_ret
    exact ⟨rfl, by rw [← HN.out]; exact HBa.out⟩
  · go_wp2_with (first | (refine wpList_val (by rfl) _ (exec_row _ rfl n1 rfl zeroMsg HCa.out) ?_; simp only [Act.put, List.setIfInBounds_toArray, List.set_cons_zero, List.set_cons_succ]) | (refine wpList_val (by rfl) _ (exec_row _ rfl n2 rfl zeroMsg HPa.out) ?_; simp only [Act.put, List.setIfInBounds_toArray, List.set_cons_zero, List.set_cons_succ]) | (refine wpList_val (by rfl) _ (exec_eqM _ _ rfl zeroMsg rfl rfl) ?_; simp only [Act.put, List.setIfInBounds_toArray, List.set_cons_zero, List.set_cons_succ]) | fail)
    go_ret
    exact ⟨rfl, by rw [← HN.out]; exact HBa.out⟩
end Go.Proofs.Ytehapoilfmgjgaa.Oct
