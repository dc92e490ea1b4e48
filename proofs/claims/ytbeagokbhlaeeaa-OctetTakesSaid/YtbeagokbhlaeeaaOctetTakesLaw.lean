/- Law OctetTakes of chapter 1: the walk joined with the plain law. -/
import Derived.Test.YtbeagokbhlaeeaaBoth
import Derived.Deep.RegionHeld3
import Derived.BigQuiet
set_option linter.unusedSimpArgs false
namespace Go.Proofs.Ytbeagokbhlaeeaa.Oct
open Go.RowKit
theorem wpAnyH_weaken {P : Program} {ops : Array Oper} {Q : Exit → Act → World → Prop} {md : Region.Mode} {S S' : World → Prop} (hS : ∀ w, S' w → S w) : ∀ (fuel : Nat) (listed : Array Bool) (a : Act) (w : World), wpAnyH P md ops Q S' fuel listed a w → wpAnyH P md ops Q S fuel listed a w
  | 0, _, _, _, h => h
  | fuel + 1, _, _, _, h => ⟨h.1, fun i hi => wpOp_mono (fun a' w' h' => ⟨hS _ h'.1, wpAnyH_weaken hS fuel _ a' w' h'.2⟩) (h.2 i hi)⟩
set_option maxHeartbeats 8000000 in
theorem takes_any (w : World) (ba : Option Addr) (bn bc : Nat) (bf : Nat → Int) (hV : View w ba 1 bn fun k _ => .int .u8 (bf k)) (hB : ∀ k, k < bn → 0 ≤ bf k ∧ bf k ≤ 255) (hnil : ba = none → bn = 0 ∧ bc = 0) (hbc : bn ≤ bc ∧ bc ≤ maxLen)
    (ja : Option Addr) (jn jc : Nat) (jf : Nat → Int) (hJ : View w ja 1 jn fun k _ => .int .i64 (jf k)) :
    Calls Try.prog 4 #[.slice ba bn bc, .slice ja jn jc] w fun e w' => e = .returned (.bool true) ∧ Below w.heap.size w w' := by
  have HV := Lib.hid hV
  have HBy := Lib.hid hB
  have Hnil := Lib.hid hnil
  have Hbc := Lib.hid hbc
  have HJ := Lib.hid hJ
  clear hV hB hnil hJ
  have hbm := hbc.2
  unfold maxLen at hbm
  clear hbc
  go_enter Try.func4, Try.ntmps4
  go_wp2_with fail
  refine (awake_any _).mono ?_
  rintro e w1 ⟨rfl, hb1⟩
  have HB1 := Lib.hid hb1
  clear hb1
  by_cases hbig : 200 < bn ∨ 60 < jn
  · by_cases h0 : 200 < bn
    · have d0 : decide ((200 : Int) < bn) = true := decide_eq_true (by omega)
      go_wp2_with fail
      go_ret
      exact ⟨rfl, HB1.out⟩
    · have d0 : decide ((200 : Int) < bn) = false := decide_eq_false (by omega)
      have d1 : decide ((60 : Int) < jn) = true := decide_eq_true (by omega)
      go_wp2_with fail
      go_ret
      exact ⟨rfl, HB1.out⟩
  have d0 : decide ((200 : Int) < bn) = false := decide_eq_false (by omega)
  have d1 : decide ((60 : Int) < jn) = false := decide_eq_false (by omega)
  have hbn : bn ≤ 200 := by omega
  have hjn : jn ≤ 60 := by omega
  go_wp2_with fail
  refine (new_any w1 ba bn bc bf (HV.out.below HB1.out) HBy.out Hnil.out (by omega)).mono ?_
  rintro e w2 ⟨rg, rfl, hrg, hrd, hb2⟩
  have hge : w.heap.size ≤ rg := Nat.le_trans HB1.out.size hrg
  have HB2 := Lib.hid (andthen HB1.out hb2)
  have Hrd := Lib.hid hrd
  have hrl := hrd.lt
  clear hb2 hrd hbig
  go_wp2_with fail
  obtain ⟨w3, hw3⟩ : ∃ x, x = w2.alloc (.cells #[.slice ba bn bc, .bool false] 33) := ⟨_, rfl⟩
  obtain ⟨rw', hrw⟩ : ∃ g, g = w2.heap.size := ⟨_, rfl⟩
  rw [← hw3, ← hrw]
  have hb3 : Below w2.heap.size w2 w3 := by rw [hw3]; exact more (Below.refl _ _) _
  have HR1 := Lib.hid (Hrd.out.below hb3)
  have HR2 := Lib.hid (show RdR w3 rw' bn bf false from ⟨ba, bc, by rw [hw3, hrw]; exact heap_alloc_new _ _, HV.out.below (andthen HB2.out hb3), HBy.out, Hbc.out.1, Hbc.out.2⟩)
  have HB3 := Lib.hid (andthen HB2.out hb3)
  have hne : rg ≠ rw' := by omega
  have hge2 : w.heap.size ≤ rw' := by have := HB2.out.size; omega
  have s3 : rw' < w3.heap.size := HR2.out.lt
  have s3' : rg < w3.heap.size := HR1.out.lt
  clear hw3 hb3 hrw Hrd HB2
  go_loopw [8] (fun i wr => ∃ m : Nat, m ≤ jn ∧ i = .int .i64 m ∧ Hid (∃ n f s, Rd wr rg n f s ∧ RdR wr rw' n f s) ∧ Hid (Only (fun x => x = rg ∨ x = rw') w3 wr)) (fun i _ => jn - (intOf i).toNat)
  case atStart => exact ⟨0, by omega, rfl, Lib.hid ⟨_, _, _, HR1.out, HR2.out⟩, Lib.hid (Only.refl _ _)⟩
  case round =>
    clear HR1 HR2
    obtain ⟨m, hm, rfl, hRR, hO⟩ := hrel
    obtain ⟨n, f, s, hr1, hr2⟩ := hRR.out
    have Hr1 := Lib.hid hr1
    have Hr2 := Lib.hid hr2
    have hsr := hO.out.size
    by_cases hlm : m < jn
    rotate_left
    · have dl : decide ((m : Int) < jn) = false := decide_eq_false (by omega)
      obtain ⟨a2, c2, hh2, _, _, _, hm2⟩ := id hr2
      have q0 : wr.cell? ⟨rw', 0, none⟩ = some (.slice a2 n c2) := cells_of hh2 0
      clear hr1 hr2 hRR hh2
      go_wp2_with fail
      go_region_held3 (fun w' => w'.cell? ⟨rw', 0, none⟩ = some (.slice a2 n c2)) (first | exact q0 | assumption)
        (first | (go_at_call 15; refine (left_any _ rg n s f ?_).mono ?_; exact Hr1.out; rintro e w8 ⟨rfl, rfl⟩))
      all_goals
        go_wp2_with fail
        go_ret
        exact ⟨rfl, HB3.out.trans (hO.out.drew.below (B := w.heap.size) HB3.out.size (fun k hk => by rcases hk with hk | hk <;> omega))⟩
    · have dl : decide ((m : Int) < jn) = true := decide_eq_true (by omega)
      have hm0 : (0 : Int) ≤ m := by omega
      have hm1 : (m : Int) < jn := by omega
      rcases HJ.out with h0 | ⟨jg, jo, hja, hjc⟩
      · omega
      subst hja
      have hjg : jg < w.heap.size := cell_lt (hjc m hlm 0 (by omega))
      have hcl : wr.cell? ⟨jg, jo + m, none⟩ = some (.int .i64 (jf m)) := by
        have h1 := hjc m hlm 0 (by omega)
        rw [Nat.mul_one, Nat.add_zero] at h1
        rw [hO.out.cell (p := ⟨jg, jo + m, none⟩) (by show jg < _; omega) (by show ¬ (jg = rg ∨ jg = rw'); omega), HB3.out.cell (p := ⟨jg, jo + m, none⟩) hjg]
        exact h1
      obtain ⟨x, n', f', s', ht⟩ := taken_ex n f s (jf m)
      have Ht := Lib.hid ht
      have hj1 : jg ≠ rg := by omega
      have hj2 : jg ≠ rw' := by omega
      have Hjc := Lib.hid hjc
      clear ht hr1 hr2 hRR hjc
      go_wp2_with fail
      refine wp_region_held_drew (S := fun w' => w'.cell? ⟨jg, jo + m, none⟩ = some (.int .i64 (jf m))) (by kernel_rfl) hcl (fun hH => ?_)
      refine wpAnyH_take (i := 0) rfl (by kernel_rfl) (by kernel_rfl) (by kernel_rfl) (fun _ _ _ h => h) (Or.inl ⟨by rfl, fun x _ => rfl⟩) hH ?_
      simp only [List.getElem_toArray, List.getElem_cons_succ, List.getElem_cons_zero, Act.put, List.setIfInBounds_toArray, List.set_cons_zero, List.set_cons_succ]
      refine wpAnyH_take (i := 1) rfl (by kernel_rfl) (by kernel_rfl) (by kernel_rfl) (fun _ _ _ h => h) (Or.inl ⟨by rfl, fun x _ => rfl⟩) hH ?_
      simp only [List.getElem_toArray, List.getElem_cons_succ, List.getElem_cons_zero, Act.put, List.setIfInBounds_toArray, List.set_cons_zero, List.set_cons_succ]
      refine wpAnyH_take (i := 2) rfl (by kernel_rfl) (by kernel_rfl) (by kernel_rfl) (fun _ _ _ h => h) (Or.inl ⟨by rfl, fun x _ => rfl⟩) hH ?_
      simp only [List.getElem_toArray, List.getElem_cons_succ, List.getElem_cons_zero, Act.put, List.setIfInBounds_toArray, List.set_cons_zero, List.set_cons_succ]
      refine wpAnyH_take (i := 3) (v := .pointer (some ⟨jg, jo + m, none⟩)) rfl (by kernel_rfl) (by kernel_rfl) (by kernel_rfl) (fun _ _ _ h => h) (Or.inl ⟨by rfl, fun x _ => by simp [go_sem, execOp, hm0, hm1]⟩) hH ?_
      simp only [List.getElem_toArray, List.getElem_cons_succ, List.getElem_cons_zero, Act.put, List.setIfInBounds_toArray, List.set_cons_zero, List.set_cons_succ]
      refine wpAnyH_take (i := 4) (v := .int .i64 (jf m)) rfl (by kernel_rfl) (by kernel_rfl) (by kernel_rfl) (fun _ _ _ h => h) (Or.inl ⟨by rfl, fun x hx => by simp [go_sem, execOp, show x.cell? ⟨jg, jo + m, none⟩ = some (.int .i64 (jf m)) from hx]⟩) hH ?_
      simp only [List.getElem_toArray, List.getElem_cons_succ, List.getElem_cons_zero, Act.put, List.setIfInBounds_toArray, List.set_cons_zero, List.set_cons_succ]
      refine wpAnyH_take (i := 6) rfl (by kernel_rfl) (by kernel_rfl) (by kernel_rfl) (fun _ _ _ h => h) (Or.inl ⟨by rfl, fun x _ => rfl⟩) hH ?_
      simp only [List.getElem_toArray, List.getElem_cons_succ, List.getElem_cons_zero, Act.put, List.setIfInBounds_toArray, List.set_cons_zero, List.set_cons_succ]
      refine wpAnyH_take (i := 7) rfl (by kernel_rfl) (by kernel_rfl) (by kernel_rfl) (fun _ _ _ h => h) (Or.inl ⟨by rfl, fun x _ => rfl⟩) hH ?_
      simp only [List.getElem_toArray, List.getElem_cons_succ, List.getElem_cons_zero, Act.put, List.setIfInBounds_toArray, List.set_cons_zero, List.set_cons_succ]
      refine wpAnyH_take (i := 8) rfl (by kernel_rfl) (by kernel_rfl) (by kernel_rfl) (fun _ _ _ h => h) (Or.inl ⟨by rfl, fun x _ => rfl⟩) hH ?_
      simp only [List.getElem_toArray, List.getElem_cons_succ, List.getElem_cons_zero, Act.put, List.setIfInBounds_toArray, List.set_cons_zero, List.set_cons_succ]
      refine wpAnyH_take (i := 9) (v := .pointer (some ⟨jg, jo + m, none⟩)) rfl (by kernel_rfl) (by kernel_rfl) (by kernel_rfl) (fun _ _ _ h => h) (Or.inl ⟨by rfl, fun x _ => by simp [go_sem, execOp, hm0, hm1]⟩) hH ?_
      simp only [List.getElem_toArray, List.getElem_cons_succ, List.getElem_cons_zero, Act.put, List.setIfInBounds_toArray, List.set_cons_zero, List.set_cons_succ]
      refine wpAnyH_take (i := 10) (v := .int .i64 (jf m)) rfl (by kernel_rfl) (by kernel_rfl) (by kernel_rfl) (fun _ _ _ h => h) (Or.inl ⟨by rfl, fun x hx => by simp [go_sem, execOp, show x.cell? ⟨jg, jo + m, none⟩ = some (.int .i64 (jf m)) from hx]⟩) hH ?_
      simp only [List.getElem_toArray, List.getElem_cons_succ, List.getElem_cons_zero, Act.put, List.setIfInBounds_toArray, List.set_cons_zero, List.set_cons_succ]
      refine wpAnyH_ready (rs := [5]) (by kernel_rfl) (by simp) (AllReadyH.cons rfl (fun K hK => ?_) AllReadyH.nil)
      go_simp
      refine (take_rel _ rg n f s _ x n' f' s' Ht.out ?_).mono ?_
      · exact Hr1.out
      rintro e w6 ⟨rfl, hr6, ho6'⟩
      have ho6 : Only (· = rg) wr w6 := ⟨ho6'.os, ho6'.tape, ho6'.output, ho6'.size, ho6'.block⟩
      have hcl6 := (ho6.cell (p := ⟨jg, jo + m, none⟩) (cell_lt hcl) hj1).trans hcl
      have Hr6 := Lib.hid hr6
      have Hq6 := Lib.hid (Hr2.out.only Hr1.out ho6 hne.symm)
      have Ho6 := Lib.hid ho6
      clear hr6 ho6 ho6'
      refine hK.out _ _ hcl6 (fun hH6 => ?_)
      clear hK K
      refine wpAnyH_ready (rs := [11]) (by kernel_rfl) (by simp) (AllReadyH.cons rfl (fun K hK => ?_) AllReadyH.nil)
      go_simp
      refine (rtake_rel _ rw' n f s _ x n' f' s' Ht.out ?_).mono ?_
      · exact Hq6.out
      rintro e w7 ⟨rfl, hr7, ho7⟩
      have hcl7 := (ho7.cell (p := ⟨jg, jo + m, none⟩) (cell_lt hcl6) hj2).trans hcl6
      obtain ⟨a2, c2, hh2, _, _, _, hm2⟩ := id hr7
      have q0 : w7.cell? ⟨rw', 0, none⟩ = some (.slice a2 n' c2) := cells_of hh2 0
      have q1 : w7.cell? ⟨rw', 1, none⟩ = some (.bool s') := cells_of hh2 1
      have Hr7 := Lib.hid hr7
      have Hq7 := Lib.hid (Hr6.out.only Hq6.out ho7 hne)
      have Ho7 := Lib.hid ho7
      clear hr7 ho7 hh2
      refine hK.out _ _ hcl7 (fun hH7 => ?_)
      clear hK K
      refine wpAnyH_weaken (S' := fun w' => w'.cell? ⟨jg, jo + m, none⟩ = some (.int .i64 (jf m)) ∧ w'.cell? ⟨rw', 0, none⟩ = some (.slice a2 n' c2) ∧ w'.cell? ⟨rw', 1, none⟩ = some (.bool s')) (fun _ h => h.1) _ _ _ _ ?_
      have hH8 := And.intro hcl7 (And.intro q0 q1)
      refine wpAnyH_take (i := 12) (v := .bool false) rfl (by kernel_rfl) (by kernel_rfl) (by kernel_rfl) (fun _ _ _ h => h) (Or.inl ⟨by rfl, fun x _ => by simp [go_sem, execOp]⟩) hH8 ?_
      simp only [List.getElem_toArray, List.getElem_cons_succ, List.getElem_cons_zero, Act.put, List.setIfInBounds_toArray, List.set_cons_zero, List.set_cons_succ]
      refine wpAnyH_take (i := 13) (v := .bool false) rfl (by kernel_rfl) (by kernel_rfl) (by kernel_rfl) (fun _ _ _ h => h) (Or.inl ⟨by rfl, fun x _ => rfl⟩) hH8 ?_
      simp only [List.getElem_toArray, List.getElem_cons_succ, List.getElem_cons_zero, Act.put, List.setIfInBounds_toArray, List.set_cons_zero, List.set_cons_succ]
      refine wpAnyH_take (i := 14) (v := .pointer (some ⟨rg, 0, none⟩)) rfl (by kernel_rfl) (by kernel_rfl) (by kernel_rfl) (fun _ _ _ h => h) (Or.inl ⟨by rfl, fun x _ => rfl⟩) hH8 ?_
      simp only [List.getElem_toArray, List.getElem_cons_succ, List.getElem_cons_zero, Act.put, List.setIfInBounds_toArray, List.set_cons_zero, List.set_cons_succ]
      refine wpAnyH_take (i := 16) (v := .pointer (some ⟨rw', 0, none⟩)) rfl (by kernel_rfl) (by kernel_rfl) (by kernel_rfl) (fun _ _ _ h => h) (Or.inl ⟨by rfl, fun x _ => rfl⟩) hH8 ?_
      simp only [List.getElem_toArray, List.getElem_cons_succ, List.getElem_cons_zero, Act.put, List.setIfInBounds_toArray, List.set_cons_zero, List.set_cons_succ]
      refine wpAnyH_take (i := 17) (v := .pointer (some ⟨rw', 0, none⟩)) rfl (by kernel_rfl) (by kernel_rfl) (by kernel_rfl) (fun _ _ _ h => h) (Or.inl ⟨by rfl, fun x _ => rfl⟩) hH8 ?_
      simp only [List.getElem_toArray, List.getElem_cons_succ, List.getElem_cons_zero, Act.put, List.setIfInBounds_toArray, List.set_cons_zero, List.set_cons_succ]
      refine wpAnyH_take (i := 18) (v := .pointer (some ⟨rw', 0, none⟩)) rfl (by kernel_rfl) (by kernel_rfl) (by kernel_rfl) (fun _ _ _ h => h) (Or.inl ⟨by rfl, fun x _ => rfl⟩) hH8 ?_
      simp only [List.getElem_toArray, List.getElem_cons_succ, List.getElem_cons_zero, Act.put, List.setIfInBounds_toArray, List.set_cons_zero, List.set_cons_succ]
      refine wpAnyH_take (i := 19) (v := .slice a2 n' c2) rfl (by kernel_rfl) (by kernel_rfl) (by kernel_rfl) (fun _ _ _ h => h) (Or.inl ⟨by rfl, fun x hx => by simp [go_sem, execOp, hx.2.1]⟩) hH8 ?_
      simp only [List.getElem_toArray, List.getElem_cons_succ, List.getElem_cons_zero, Act.put, List.setIfInBounds_toArray, List.set_cons_zero, List.set_cons_succ]
      refine wpAnyH_take (i := 20) (v := .int .i64 n') rfl (by kernel_rfl) (by kernel_rfl) (by kernel_rfl) (fun _ _ _ h => h) (Or.inl ⟨by rfl, fun x _ => by simp [go_sem, execOp]⟩) hH8 ?_
      simp only [List.getElem_toArray, List.getElem_cons_succ, List.getElem_cons_zero, Act.put, List.setIfInBounds_toArray, List.set_cons_zero, List.set_cons_succ]
      refine wpAnyH_ready (rs := [15]) (by kernel_rfl) (by simp) (AllReadyH.cons rfl (fun K hK => ?_) AllReadyH.nil)
      go_simp
      refine (left_any _ rg n' s' f' ?_).mono ?_
      · exact Hq7.out
      rintro e w8 ⟨rfl, rfl⟩
      refine hK.out _ _ hH8 (fun _ => ?_)
      clear hK K
      refine wpAnyH_take (i := 21) (v := .bool false) rfl (by kernel_rfl) (by kernel_rfl) (by kernel_rfl) (fun _ _ _ h => h) (Or.inl ⟨by rfl, fun x _ => by simp [go_sem, execOp]⟩) hH8 ?_
      simp only [List.getElem_toArray, List.getElem_cons_succ, List.getElem_cons_zero, Act.put, List.setIfInBounds_toArray, List.set_cons_zero, List.set_cons_succ]
      refine wpAnyH_take (i := 22) (v := .bool false) rfl (by kernel_rfl) (by kernel_rfl) (by kernel_rfl) (fun _ _ _ h => h) (Or.inl ⟨by rfl, fun x _ => by simp [go_sem, execOp]⟩) hH8 ?_
      simp only [List.getElem_toArray, List.getElem_cons_succ, List.getElem_cons_zero, Act.put, List.setIfInBounds_toArray, List.set_cons_zero, List.set_cons_succ]
      refine wpAnyH_take (i := 23) (v := .bool false) rfl (by kernel_rfl) (by kernel_rfl) (by kernel_rfl) (fun _ _ _ h => h) (Or.inl ⟨by rfl, fun x _ => rfl⟩) hH8 ?_
      simp only [List.getElem_toArray, List.getElem_cons_succ, List.getElem_cons_zero, Act.put, List.setIfInBounds_toArray, List.set_cons_zero, List.set_cons_succ]
      refine wpAnyH_take (i := 24) (v := .pointer (some ⟨rg, 0, none⟩)) rfl (by kernel_rfl) (by kernel_rfl) (by kernel_rfl) (fun _ _ _ h => h) (Or.inl ⟨by rfl, fun x _ => rfl⟩) hH8 ?_
      simp only [List.getElem_toArray, List.getElem_cons_succ, List.getElem_cons_zero, Act.put, List.setIfInBounds_toArray, List.set_cons_zero, List.set_cons_succ]
      refine wpAnyH_take (i := 26) (v := .pointer (some ⟨rw', 0, none⟩)) rfl (by kernel_rfl) (by kernel_rfl) (by kernel_rfl) (fun _ _ _ h => h) (Or.inl ⟨by rfl, fun x _ => rfl⟩) hH8 ?_
      simp only [List.getElem_toArray, List.getElem_cons_succ, List.getElem_cons_zero, Act.put, List.setIfInBounds_toArray, List.set_cons_zero, List.set_cons_succ]
      refine wpAnyH_take (i := 27) (v := .pointer (some ⟨rw', 0, none⟩)) rfl (by kernel_rfl) (by kernel_rfl) (by kernel_rfl) (fun _ _ _ h => h) (Or.inl ⟨by rfl, fun x _ => rfl⟩) hH8 ?_
      simp only [List.getElem_toArray, List.getElem_cons_succ, List.getElem_cons_zero, Act.put, List.setIfInBounds_toArray, List.set_cons_zero, List.set_cons_succ]
      refine wpAnyH_take (i := 28) (v := .pointer (some ⟨rw', 1, none⟩)) rfl (by kernel_rfl) (by kernel_rfl) (by kernel_rfl) (fun _ _ _ h => h) (Or.inl ⟨by rfl, fun x _ => rfl⟩) hH8 ?_
      simp only [List.getElem_toArray, List.getElem_cons_succ, List.getElem_cons_zero, Act.put, List.setIfInBounds_toArray, List.set_cons_zero, List.set_cons_succ]
      refine wpAnyH_take (i := 29) (v := .bool s') rfl (by kernel_rfl) (by kernel_rfl) (by kernel_rfl) (fun _ _ _ h => h) (Or.inl ⟨by rfl, fun x hx => by simp [go_sem, execOp, hx.2.2]⟩) hH8 ?_
      simp only [List.getElem_toArray, List.getElem_cons_succ, List.getElem_cons_zero, Act.put, List.setIfInBounds_toArray, List.set_cons_zero, List.set_cons_succ]
      refine wpAnyH_ready (rs := [25]) (by kernel_rfl) (by simp) (AllReadyH.cons rfl (fun K hK => ?_) AllReadyH.nil)
      go_simp
      refine (short_any _ rg n' s' f' ?_).mono ?_
      · exact Hq7.out
      rintro e w9 ⟨rfl, rfl⟩
      refine hK.out _ _ hH8 (fun _ => ?_)
      clear hK K
      refine wpAnyH_take (i := 30) (v := .bool false) rfl (by kernel_rfl) (by kernel_rfl) (by kernel_rfl) (fun _ _ _ h => h) (Or.inl ⟨by rfl, fun x _ => by simp [go_sem, execOp]⟩) hH8 ?_
      simp only [List.getElem_toArray, List.getElem_cons_succ, List.getElem_cons_zero, Act.put, List.setIfInBounds_toArray, List.set_cons_zero, List.set_cons_succ]
      refine wpAnyH_take (i := 31) (v := .bool false) rfl (by kernel_rfl) (by kernel_rfl) (by kernel_rfl) (fun _ _ _ h => h) (Or.inl ⟨by rfl, fun x _ => by simp [go_sem, execOp]⟩) hH8 ?_
      simp only [List.getElem_toArray, List.getElem_cons_succ, List.getElem_cons_zero, Act.put, List.setIfInBounds_toArray, List.set_cons_zero, List.set_cons_succ]
      refine wpAnyH_done (by kernel_rfl) ?_ _
      go_wp2_with fail
      go_roundw
      case rel => exact ⟨m + 1, by omega, by go_num, Lib.hid ⟨n', f', s', Hq7.out, Hr7.out⟩, Lib.hid ((hO.out.trans (Ho6.out.mono fun _ h => .inl h)).trans (Ho7.out.mono fun _ h => .inr h))⟩
      case measure => simp [intOf]; omega
end Go.Proofs.Ytbeagokbhlaeeaa.Oct
