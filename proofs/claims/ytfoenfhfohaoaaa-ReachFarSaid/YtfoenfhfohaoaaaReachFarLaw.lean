/- Law ReachFar of chapter 22: the walk joined with the plain law. -/
import Derived.Test.YtfoenfhfohaoaaaAwake22
import Derived.Test.YtfoenfhfohaoaaaRefFar
set_option linter.unusedSimpArgs false
namespace Go.Proofs.Ytfoenfhfohaoaaa.Rea
open Go.RowKit
theorem reffar_no (w : World) (n s : Int) (la : Option Addr) (m lc : Nat) (h : n < 1 ∨ 1000 < n ∨ s < 0 ∨ n ≤ s) : Calls Try.prog 10 #[.int .i64 n, .slice la m lc, .int .i64 s] w fun e w' => e = .returned (.slice none 0 0) ∧ w' = w := by
  by_cases h1 : n < 1
  · have d0 : decide (n < 1) = true := decide_eq_true h1
    clear h h1
    go_enter Try.func10, Try.ntmps10
    go_wp2_with fail
    go_ret
    exact ⟨rfl, rfl⟩
  · have d0 : decide (n < 1) = false := decide_eq_false h1
    by_cases h2 : 1000 < n
    · have d1 : decide (1000 < n) = true := decide_eq_true h2
      clear h h1 h2
      go_enter Try.func10, Try.ntmps10
      go_wp2_with fail
      go_ret
      exact ⟨rfl, rfl⟩
    · have d1 : decide (1000 < n) = false := decide_eq_false h2
      by_cases h3 : s < 0
      · have d2 : decide (s < 0) = true := decide_eq_true h3
        clear h h1 h2 h3
        go_enter Try.func10, Try.ntmps10
        go_wp2_with fail
        go_ret
        exact ⟨rfl, rfl⟩
      · have d2 : decide (s < 0) = false := decide_eq_false h3
        have d3 : decide (n ≤ s) = true := decide_eq_true (by omega)
        clear h h1 h2 h3
        go_enter Try.func10, Try.ntmps10
        go_wp2_with fail
        go_ret
        exact ⟨rfl, rfl⟩
theorem ord_minus : (FloatKind.f64.format.order minus minus == some .eq) = true := by rw [fmt64]; exact hself
set_option maxHeartbeats 8000000 in
theorem farlaw_any (w : World) (n : Int) (la : Option Addr) (m lc : Nat) (l : Nat → Hop) (hv : HopsV w la m l) (hb : ∀ q, (l q).c ≤ 4294967295) (s : Int) :
    Calls Try.prog 3 #[.int .i64 n, .slice la m lc, .int .i64 s] w fun e w' => e = .returned (.bool true) ∧ Below w.heap.size w w' := by
  have HV := Lib.hid hv
  have HB := Lib.hid hb
  clear hv hb
  by_cases hbig : 60 < m ∨ (20 < n ∧ n ≤ 1000)
  · by_cases h0 : 60 < m
    · have d0 : decide ((60 : Int) < m) = true := decide_eq_true (by omega)
      clear hbig h0
      go_enter Try.func3, Try.ntmps3
      go_wp2_with fail
      refine (awake_any _).mono ?_
      rintro e w1 ⟨rfl, hb1⟩
      have HB1 := Lib.hid hb1
      clear hb1
      go_wp2_with fail
      go_ret
      exact ⟨rfl, HB1.out⟩
    · have d0 : decide ((60 : Int) < m) = false := decide_eq_false (by omega)
      have d1 : decide (20 < n) = true := decide_eq_true (by omega)
      have d2 : decide (n ≤ 1000) = true := decide_eq_true (by omega)
      clear hbig h0
      go_enter Try.func3, Try.ntmps3
      go_wp2_with fail
      refine (awake_any _).mono ?_
      rintro e w1 ⟨rfl, hb1⟩
      have HB1 := Lib.hid hb1
      clear hb1
      go_wp2_with fail
      go_ret
      exact ⟨rfl, HB1.out⟩
  have hm : m ≤ 60 := by omega
  have d0 : decide ((60 : Int) < m) = false := decide_eq_false (by omega)
  have hd : decide (20 < n) = false ∨ (decide (20 < n) = true ∧ decide (n ≤ 1000) = false) := by
    by_cases h : 20 < n
    · exact .inr ⟨decide_eq_true h, decide_eq_false (by omega)⟩
    · exact .inl (decide_eq_false h)
  by_cases hno : n < 1 ∨ 1000 < n ∨ s < 0 ∨ n ≤ s
  · have Hno := Lib.hid hno
    clear hbig hno
    rcases hd with d1 | ⟨d1, d2⟩
    all_goals
      go_enter Try.func3, Try.ntmps3
      go_wp2_with fail
      refine (awake_any _).mono ?_
      rintro e w1 ⟨rfl, hb1⟩
      have HB1 := Lib.hid hb1
      clear hb1
      go_wp2_with fail
      refine (hops_any w1 m (by omega) l la lc (HV.out.below HB1.out)).mono ?_
      rintro e w2 ⟨v, rfl, ho2, hb2⟩
      obtain ⟨a, c, rfl, hv2⟩ := ho2.view
      have HB2 := Lib.hid (andthen HB1.out hb2)
      clear hb2 ho2 hv2
      go_wp2_with fail
      refine (far_no w2 n s a m c Hno.out).mono ?_
      rintro e w3 ⟨rfl, rfl⟩
      go_wp2_with fail
      refine (reffar_no w3 n s la m lc Hno.out).mono ?_
      rintro e w4 ⟨rfl, rfl⟩
      go_wp2_with fail
      refine wp_loop_rounds 1 ?_
      rw [rounds_succ]
      go_wp2_with fail
      go_ret
      exact ⟨rfl, HB2.out⟩
  have d1 : decide (20 < n) = false := decide_eq_false (by omega)
  obtain ⟨k, rfl⟩ : ∃ k : Nat, n = k := Int.eq_ofNat_of_zero_le (by omega)
  obtain ⟨st, rfl⟩ : ∃ k : Nat, s = k := Int.eq_ofNat_of_zero_le (by omega)
  have hk1 : 1 ≤ k := by omega
  have hk20 : k ≤ 20 := by omega
  have hsk : st < k := by omega
  clear hbig hno hd
  go_enter Try.func3, Try.ntmps3
  go_wp2_with fail
  refine (awake_any _).mono ?_
  rintro e w1 ⟨rfl, hb1⟩
  have HB1 := Lib.hid hb1
  clear hb1
  go_wp2_with fail
  refine (hops_any w1 m (by omega) l la lc (HV.out.below HB1.out)).mono ?_
  rintro e w2 ⟨v, rfl, ho2, hb2⟩
  obtain ⟨a, c, rfl, hv2⟩ := ho2.view
  have HB2 := Lib.hid (andthen HB1.out hb2)
  have HV2 := Lib.hid hv2
  clear hb2 ho2 hv2
  go_wp2_with fail
  refine (far_any w2 k m st ⟨hk1, hk20⟩ hsk (by omega) l a c HV2.out HB.out).mono ?_
  rintro e w3 ⟨g, o, rfl, hg, hO, hopt, hbd, hb3⟩
  have HO3 := Lib.hid hO
  have HB3 := Lib.hid (andthen HB2.out hb3)
  have Hopt := Lib.hid hopt
  have Hbd := Lib.hid hbd
  clear hb3 hO hopt hbd
  go_wp2_with fail
  refine (reffar_any w3 k m st ⟨hk1, hk20⟩ hsk (by omega) l la lc (HV.out.below HB3.out) HB.out).mono ?_
  rintro e w4 ⟨gr, cr, o', rfl, hgr, hO4, hopt', hbd', hb4⟩
  obtain rfl : o = o' := Hopt.out.uniq hopt'
  have HR4 := Lib.hid hO4
  have HO4 := Lib.hid (HO3.out.below hb4)
  have HB4 := Lib.hid (andthen HB3.out hb4)
  clear hb4 hO4 hopt' hbd' HO3
  go_wp2_with fail
  go_loopw [10] (fun i wr => ∃ q : Nat, q ≤ k ∧ i = .int .i64 q ∧ Hid (Outs wr g k o) ∧ Hid (Rows3 wr gr k o) ∧ Hid (Below w.heap.size w wr)) (fun i _ => k - (intOf i).toNat)
  case atStart => exact ⟨0, by omega, rfl, HO4, HR4, HB4⟩
  case round =>
    clear HO4 HR4 HB4
    obtain ⟨q, hq, rfl, hO, hR, hB⟩ := hrel
    by_cases hlt : q < k
    · have hq0 : (0 : Int) ≤ q := by omega
      have hq1 : (q : Int) < k := by omega
      have hsh := Hbd.out.short (by omega) q
      obtain ⟨x, hx⟩ : ∃ x, x = o q := ⟨_, rfl⟩
      have ca : wr.cell? ⟨g, q, none⟩ = some (cv x) := by rw [hx]; exact hO.out.cell hlt
      have cr2 : wr.cell? ⟨gr, q * 3 + 2, none⟩ = some (.bool x.isSome) := by
        have h := hR.out.cell hlt (j := 2) (by omega)
        rw [← hx] at h
        rw [h]
        cases x <;> rfl
      have hrr := hR.out.range hlt
      rw [← hx] at hsh hrr
      have hgl := hO.out.lt
      have hgrl := hR.out.lt
      have Hsh := Lib.hid hsh
      have Hrr := Lib.hid hrr
      clear hsh hrr hx
      go_wp2_with fail
      refine wp_region_held_drew (S := fun w' => Below wr.heap.size wr w') (by kernel_rfl) (Below.refl _ _).drew (fun hH => ?_)
      refine wpAnyH_take (i := 0) (v := .slice (some ⟨g, 0, none⟩) k k) rfl (by kernel_rfl) (by kernel_rfl) (by kernel_rfl) (fun _ _ _ h => h) (Or.inl ⟨by rfl, fun z _ => rfl⟩) hH ?_
      simp only [List.getElem_toArray, List.getElem_cons_succ, List.getElem_cons_zero, Act.put, List.setIfInBounds_toArray, List.set_cons_zero, List.set_cons_succ]
      refine wpAnyH_take (i := 1) (v := .int .i64 q) rfl (by kernel_rfl) (by kernel_rfl) (by kernel_rfl) (fun _ _ _ h => h) (Or.inl ⟨by rfl, fun z _ => rfl⟩) hH ?_
      simp only [List.getElem_toArray, List.getElem_cons_succ, List.getElem_cons_zero, Act.put, List.setIfInBounds_toArray, List.set_cons_zero, List.set_cons_succ]
      refine wpAnyH_take (i := 2) (v := .pointer (some ⟨g, q, none⟩)) rfl (by kernel_rfl) (by kernel_rfl) (by kernel_rfl) (fun _ _ _ h => h) (Or.inl ⟨by rfl, fun z _ => by simp [go_sem, execOp, hq0, hq1]⟩) hH ?_
      simp only [List.getElem_toArray, List.getElem_cons_succ, List.getElem_cons_zero, Act.put, List.setIfInBounds_toArray, List.set_cons_zero, List.set_cons_succ]
      refine wpAnyH_take (i := 3) (v := cv x) rfl (by kernel_rfl) (by kernel_rfl) (by kernel_rfl) (fun _ _ _ h => h) (Or.inl ⟨by rfl, fun z hz => by simp [go_sem, execOp, (show z.cell? ⟨g, q, none⟩ = some (cv x) from (hz.cell (p := ⟨g, q, none⟩) hgl).trans ca)]⟩) hH ?_
      simp only [List.getElem_toArray, List.getElem_cons_succ, List.getElem_cons_zero, Act.put, List.setIfInBounds_toArray, List.set_cons_zero, List.set_cons_succ]
      refine wpAnyH_take (i := 4) (v := .slice (some ⟨gr, 0, none⟩) k cr) rfl (by kernel_rfl) (by kernel_rfl) (by kernel_rfl) (fun _ _ _ h => h) (Or.inl ⟨by rfl, fun z _ => rfl⟩) hH ?_
      simp only [List.getElem_toArray, List.getElem_cons_succ, List.getElem_cons_zero, Act.put, List.setIfInBounds_toArray, List.set_cons_zero, List.set_cons_succ]
      refine wpAnyH_take (i := 5) (v := .int .i64 q) rfl (by kernel_rfl) (by kernel_rfl) (by kernel_rfl) (fun _ _ _ h => h) (Or.inl ⟨by rfl, fun z _ => rfl⟩) hH ?_
      simp only [List.getElem_toArray, List.getElem_cons_succ, List.getElem_cons_zero, Act.put, List.setIfInBounds_toArray, List.set_cons_zero, List.set_cons_succ]
      refine wpAnyH_take (i := 6) (v := .pointer (some ⟨gr, q * 3, none⟩)) rfl (by kernel_rfl) (by kernel_rfl) (by kernel_rfl) (fun _ _ _ h => h) (Or.inl ⟨by rfl, fun z _ => by simp [go_sem, execOp, hq0, hq1]⟩) hH ?_
      simp only [List.getElem_toArray, List.getElem_cons_succ, List.getElem_cons_zero, Act.put, List.setIfInBounds_toArray, List.set_cons_zero, List.set_cons_succ]
      refine wpAnyH_take (i := 7) rfl (by kernel_rfl) (by kernel_rfl) (by kernel_rfl) (fun _ _ _ h => h) ((yieldsIf_load_mid (by rfl) 34 _ rfl gr (q * 3) rfl (rowW x).toList _ (fun z hz j v hj => (hz.cell (p := ⟨gr, _, none⟩) hgrl).trans (Hrr.out j v hj)) Try.underlying34 rfl (sizeW _))) hH ?_
      simp only [List.getElem_toArray, List.getElem_cons_succ, List.getElem_cons_zero, Act.put, List.setIfInBounds_toArray, List.set_cons_zero, List.set_cons_succ]
      refine wpAnyH_ready (rs := [8]) (by kernel_rfl) (by simp) (AllReadyH.cons rfl (fun K hK => ?_) AllReadyH.nil)
      go_simp
      refine (complex_any x wr.drew).mono ?_
      rintro e w8 ⟨rfl, hb8⟩
      have h8 : Below wr.heap.size wr w8 := (Below.refl wr.heap.size wr).drew.trans hb8
      refine hK.out _ _ (h8) (fun hH8 => ?_)
      clear hK K hb8
      refine wpAnyH_take (i := 9) (v := .bool false) rfl (by kernel_rfl) (by kernel_rfl) (by kernel_rfl) (fun _ _ _ h => h) (Or.inl ⟨by rfl, fun z _ => by rcases x with _ | ⟨c, h⟩ <;> first | (simp [go_sem, execOp, cv, ord_minus]; done) | (have h1 := ord_self c Hsh.out.1; have h2 := ord_self h Hsh.out.2; simp [go_sem, execOp, cv, h1, h2])⟩) hH8 ?_
      simp only [List.getElem_toArray, List.getElem_cons_succ, List.getElem_cons_zero, Act.put, List.setIfInBounds_toArray, List.set_cons_zero, List.set_cons_succ]
      refine wpAnyH_take (i := 10) (v := .bool false) rfl (by kernel_rfl) (by kernel_rfl) (by kernel_rfl) (fun _ _ _ h => h) (Or.inl ⟨by rfl, fun z _ => rfl⟩) hH8 ?_
      simp only [List.getElem_toArray, List.getElem_cons_succ, List.getElem_cons_zero, Act.put, List.setIfInBounds_toArray, List.set_cons_zero, List.set_cons_succ]
      refine wpAnyH_take (i := 11) (v := .slice (some ⟨g, 0, none⟩) k k) rfl (by kernel_rfl) (by kernel_rfl) (by kernel_rfl) (fun _ _ _ h => h) (Or.inl ⟨by rfl, fun z _ => rfl⟩) hH8 ?_
      simp only [List.getElem_toArray, List.getElem_cons_succ, List.getElem_cons_zero, Act.put, List.setIfInBounds_toArray, List.set_cons_zero, List.set_cons_succ]
      refine wpAnyH_take (i := 12) (v := .int .i64 q) rfl (by kernel_rfl) (by kernel_rfl) (by kernel_rfl) (fun _ _ _ h => h) (Or.inl ⟨by rfl, fun z _ => rfl⟩) hH8 ?_
      simp only [List.getElem_toArray, List.getElem_cons_succ, List.getElem_cons_zero, Act.put, List.setIfInBounds_toArray, List.set_cons_zero, List.set_cons_succ]
      refine wpAnyH_take (i := 13) (v := .pointer (some ⟨g, q, none⟩)) rfl (by kernel_rfl) (by kernel_rfl) (by kernel_rfl) (fun _ _ _ h => h) (Or.inl ⟨by rfl, fun z _ => by simp [go_sem, execOp, hq0, hq1]⟩) hH8 ?_
      simp only [List.getElem_toArray, List.getElem_cons_succ, List.getElem_cons_zero, Act.put, List.setIfInBounds_toArray, List.set_cons_zero, List.set_cons_succ]
      refine wpAnyH_take (i := 14) (v := cv x) rfl (by kernel_rfl) (by kernel_rfl) (by kernel_rfl) (fun _ _ _ h => h) (Or.inl ⟨by rfl, fun z hz => by simp [go_sem, execOp, (show z.cell? ⟨g, q, none⟩ = some (cv x) from (hz.cell (p := ⟨g, q, none⟩) hgl).trans ca)]⟩) hH8 ?_
      simp only [List.getElem_toArray, List.getElem_cons_succ, List.getElem_cons_zero, Act.put, List.setIfInBounds_toArray, List.set_cons_zero, List.set_cons_succ]
      refine wpAnyH_take (i := 16) (v := .slice (some ⟨gr, 0, none⟩) k cr) rfl (by kernel_rfl) (by kernel_rfl) (by kernel_rfl) (fun _ _ _ h => h) (Or.inl ⟨by rfl, fun z _ => rfl⟩) hH8 ?_
      simp only [List.getElem_toArray, List.getElem_cons_succ, List.getElem_cons_zero, Act.put, List.setIfInBounds_toArray, List.set_cons_zero, List.set_cons_succ]
      refine wpAnyH_take (i := 17) (v := .int .i64 q) rfl (by kernel_rfl) (by kernel_rfl) (by kernel_rfl) (fun _ _ _ h => h) (Or.inl ⟨by rfl, fun z _ => rfl⟩) hH8 ?_
      simp only [List.getElem_toArray, List.getElem_cons_succ, List.getElem_cons_zero, Act.put, List.setIfInBounds_toArray, List.set_cons_zero, List.set_cons_succ]
      refine wpAnyH_take (i := 18) (v := .pointer (some ⟨gr, q * 3, none⟩)) rfl (by kernel_rfl) (by kernel_rfl) (by kernel_rfl) (fun _ _ _ h => h) (Or.inl ⟨by rfl, fun z _ => by simp [go_sem, execOp, hq0, hq1]⟩) hH8 ?_
      simp only [List.getElem_toArray, List.getElem_cons_succ, List.getElem_cons_zero, Act.put, List.setIfInBounds_toArray, List.set_cons_zero, List.set_cons_succ]
      refine wpAnyH_take (i := 19) (v := .pointer (some ⟨gr, q * 3 + 2, none⟩)) rfl (by kernel_rfl) (by kernel_rfl) (by kernel_rfl) (fun _ _ _ h => h) (Or.inl ⟨by rfl, fun z _ => by simp [go_sem, execOp]⟩) hH8 ?_
      simp only [List.getElem_toArray, List.getElem_cons_succ, List.getElem_cons_zero, Act.put, List.setIfInBounds_toArray, List.set_cons_zero, List.set_cons_succ]
      refine wpAnyH_take (i := 20) (v := .bool x.isSome) rfl (by kernel_rfl) (by kernel_rfl) (by kernel_rfl) (fun _ _ _ h => h) (Or.inl ⟨by rfl, fun z hz => by simp [go_sem, execOp, (show z.cell? ⟨gr, q * 3 + 2, none⟩ = some (.bool x.isSome) from (hz.cell (p := ⟨gr, q * 3 + 2, none⟩) hgrl).trans cr2)]⟩) hH8 ?_
      simp only [List.getElem_toArray, List.getElem_cons_succ, List.getElem_cons_zero, Act.put, List.setIfInBounds_toArray, List.set_cons_zero, List.set_cons_succ]
      refine wpAnyH_ready (rs := [15]) (by kernel_rfl) (by simp) (AllReadyH.cons rfl (fun K hK => ?_) AllReadyH.nil)
      go_simp
      refine (none_any x Hsh.out w8).mono ?_
      rintro e w9 ⟨rfl, rfl⟩
      have HO9 := Lib.hid (hO.out.below h8)
      have HR9 := Lib.hid (hR.out.below h8 hgrl)
      have HB9 := Lib.hid (andthen hB.out h8)
      refine hK.out _ _ (h8) (fun hH15 => ?_)
      clear hK K
      refine wpAnyH_take (i := 21) (v := .bool false) rfl (by kernel_rfl) (by kernel_rfl) (by kernel_rfl) (fun _ _ _ h => h) (Or.inl ⟨by rfl, fun z _ => by cases x <;> rfl⟩) hH15 ?_
      simp only [List.getElem_toArray, List.getElem_cons_succ, List.getElem_cons_zero, Act.put, List.setIfInBounds_toArray, List.set_cons_zero, List.set_cons_succ]
      refine wpAnyH_take (i := 22) rfl (by kernel_rfl) (by kernel_rfl) (by kernel_rfl) (fun _ _ _ h => h) (Or.inl ⟨by rfl, fun z _ => rfl⟩) hH15 ?_
      simp only [List.getElem_toArray, List.getElem_cons_succ, List.getElem_cons_zero, Act.put, List.setIfInBounds_toArray, List.set_cons_zero, List.set_cons_succ]
      refine wpAnyH_done (by kernel_rfl) ?_ _
      clear ca cr2 hH hH8 hH15
      go_wp2_with fail
      go_roundw
      case rel => exact ⟨q + 1, by omega, by go_num, HO9, HR9, HB9⟩
      case measure => simp [intOf]; omega
    · obtain rfl : q = k := by omega
      go_wp2_with fail
      go_ret
      exact ⟨rfl, hB.out⟩
end Go.Proofs.Ytfoenfhfohaoaaa.Rea
