/- Law OctetBack of chapter 1: the walk joined with the plain law. -/
import Derived.Test.YtbeagokbhlaeeaaBack
import Derived.Deep.RegionHeld
import Derived.IntWalk
set_option linter.unusedSimpArgs false
namespace Go.Proofs.Ytbeagokbhlaeeaa.Oct
open Go.RowKit
/-- Bytes of a block of the call's own, as a slice that can be read. -/
theorem OwnB.view {w : World} {base : Nat} {v : Value} {l : List Int} (h : OwnB w base v l) : ∃ a n c, v = .slice a n c ∧ n = l.length ∧ View w a 1 n (fun j _ => .int .u8 ((l[j]?).getD 0)) ∧ (a = none → n = 0 ∧ c = 0) := by
  obtain ⟨h1, ⟨rfl, h2⟩ | ⟨g, c, cur, rfl, hg, hh, h3, h4, h5, h6⟩⟩ := h
  · exact ⟨none, 0, 0, rfl, h2.symm, .inl rfl, fun _ => ⟨rfl, rfl⟩⟩
  · refine ⟨_, _, _, rfl, rfl, .inr ⟨g, 0, rfl, fun k hk j hj => ?_⟩, fun h => by cases h⟩
    obtain rfl : j = 0 := by omega
    rw [Nat.zero_add, Nat.mul_one, Nat.add_zero, cells_of hh]
    have h7 : (cur.toList.take (l.length * 1))[k]? = (l.map (Value.int .u8))[k]? := by rw [h6]
    rw [List.getElem?_take, if_pos (by omega)] at h7
    simpa [hk] using h7
set_option maxHeartbeats 8000000 in
theorem back_any (w : World) (la : Option Addr) (ln lc : Nat) (lf : Nat → Int) (hL : View w la 1 ln fun k _ => .int .u64 (lf k)) (hLB : ∀ k, k < ln → 0 ≤ lf k ∧ lf k < 18446744073709551616)
    (ma : Option Addr) (mn mc : Nat) (mf : Nat → Int) (hM : View w ma 1 mn fun k _ => .int .u8 (mf k)) (hMB : ∀ k, k < mn → 0 ≤ mf k ∧ mf k ≤ 255) (_hnil : ma = none → mn = 0 ∧ mc = 0) (_hmc : mn ≤ mc ∧ mc ≤ maxLen) :
    Calls Try.prog 5 #[.slice la ln lc, .slice ma mn mc] w fun e w' => e = .returned (.bool true) ∧ Below w.heap.size w w' := by
  obtain ⟨kf, hkf⟩ : ∃ kf : Nat → Nat, kf = fun i => (mf i % 8).toNat + 1 := ⟨_, rfl⟩
  have hk18 : ∀ i, 1 ≤ kf i ∧ kf i ≤ 8 := fun i => by rw [hkf]; simp only; omega
  have Hkk := Lib.hid (show ∀ i, i < mn → 1 + mf i % 8 = (kf i : Int) from fun i hi => by have := hMB i hi; rw [hkf]; simp only; omega)
  have HK18 := Lib.hid hk18
  have HL := Lib.hid hL
  have HLB := Lib.hid hLB
  have HM := Lib.hid hM
  have HMB := Lib.hid hMB
  have HtM := Lib.hid (tot_most kf fun i => (hk18 i).2)
  obtain ⟨i8, hi8, hz8, hs8, hb8⟩ := info_parts info8
  have HI8 := Lib.hid (And.intro hi8 (And.intro hz8 (And.intro hs8 hb8)))
  clear hL hLB hM hMB hkf hk18 hi8 hz8 hs8 hb8
  go_enter Try.func5, Try.ntmps5
  go_wp2_with fail
  refine (awake_any _).mono ?_
  rintro e w1 ⟨rfl, hb1⟩
  have HB1 := Lib.hid hb1
  clear hb1
  by_cases hbig : 60 < ln
  · have d0 : decide ((60 : Int) < ln) = true := decide_eq_true (by omega)
    go_wp2_with fail
    go_ret
    exact ⟨rfl, HB1.out⟩
  have d0 : decide ((60 : Int) < ln) = false := decide_eq_false (by omega)
  have hl60 : ln ≤ 60 := by omega
  obtain ⟨mm, hmm⟩ : ∃ mm, mm = min ln mn := ⟨_, rfl⟩
  have hml : mm ≤ ln := by omega
  have hmn : mm ≤ mn := by omega
  have Hmm := Lib.hid hmm
  clear hbig hmm
  go_wp2_with fail
  go_loopw [6, 7] (fun v i wr => ∃ (m : Nat) (v0 : Value), v0 = v ∧ m ≤ mm ∧ i = .int .i64 m ∧ Hid (OwnB wr w.heap.size v (acc lf kf m)) ∧ Hid (Below w.heap.size w wr)) (fun _ i _ => mm - (intOf i).toNat)
  case atStart => exact ⟨0, _, rfl, by omega, rfl, Lib.hid ⟨by simp [acc], .inl ⟨rfl, rfl⟩⟩, HB1⟩
  case round =>
    obtain ⟨m, v0, rfl, hm, rfl, hO, hB⟩ := hrel
    by_cases hlt : m < mm
    · have dl : decide ((m : Int) < ln) = true := decide_eq_true (by omega)
      have dm : decide ((m : Int) < mn) = true := decide_eq_true (by omega)
      have hm0 : (0 : Int) ≤ m := by omega
      have hm1 : (m : Int) < ln := by omega
      have hm2 : (m : Int) < mn := by omega
      rcases HL.out with h0 | ⟨lg, lo, rfl, hlc⟩
      · omega
      rcases HM.out with h0 | ⟨mg, mo, rfl, hmc⟩
      · omega
      have hcl : wr.cell? ⟨lg, lo + m, none⟩ = some (.int .u64 (lf m)) := by
        have h1 := hlc m (by omega) 0 (by omega)
        rw [Nat.mul_one, Nat.add_zero] at h1
        rw [hB.out.cell (p := ⟨lg, lo + m, none⟩) (cell_lt h1)]
        exact h1
      have hcm : wr.cell? ⟨mg, mo + m, none⟩ = some (.int .u8 (mf m)) := by
        have h1 := hmc m (by omega) 0 (by omega)
        rw [Nat.mul_one, Nat.add_zero] at h1
        rw [hB.out.cell (p := ⟨mg, mo + m, none⟩) (cell_lt h1)]
        exact h1
      have hlg : lg < w.heap.size := cell_lt (hlc m (by omega) 0 (by omega))
      have hmg : mg < w.heap.size := cell_lt (hmc m (by omega) 0 (by omega))
      have hkm := Hkk.out m (by omega)
      have hmb := HMB.out m (by omega)
      have hmb0 := hmb.1
      have hmb1 := hmb.2
      have hk1 := (HK18.out m).1
      have hk8 := (HK18.out m).2
      have htm : (mf m).tmod 8 = mf m % 8 := Int.tmod_eq_emod_of_nonneg hmb0
      have hw8 : IntKind.i64.wrap (mf m % 8) = mf m % 8 := IntWalk.i64_in _ (by omega)
      have hwk : IntKind.i64.wrap (kf m : Int) = kf m := IntWalk.i64_in _ (by omega)
      clear hlc hmc hmb
      go_wp2_with fail
      refine wp_region_held_drew (S := fun w' => w'.cell? ⟨lg, lo + m, none⟩ = some (.int .u64 (lf m)) ∧ w'.cell? ⟨mg, mo + m, none⟩ = some (.int .u8 (mf m))) (by kernel_rfl) ⟨hcl, hcm⟩ (fun hH => ?_)
      refine wpAnyH_take (i := 0) rfl (by kernel_rfl) (by kernel_rfl) (by kernel_rfl) (fun _ _ _ h => h) (Or.inl ⟨by rfl, fun z _ => rfl⟩) hH ?_
      simp only [List.getElem_toArray, List.getElem_cons_succ, List.getElem_cons_zero, Act.put, List.setIfInBounds_toArray, List.set_cons_zero, List.set_cons_succ]
      refine wpAnyH_take (i := 1) rfl (by kernel_rfl) (by kernel_rfl) (by kernel_rfl) (fun _ _ _ h => h) (Or.inl ⟨by rfl, fun z _ => rfl⟩) hH ?_
      simp only [List.getElem_toArray, List.getElem_cons_succ, List.getElem_cons_zero, Act.put, List.setIfInBounds_toArray, List.set_cons_zero, List.set_cons_succ]
      refine wpAnyH_take (i := 2) rfl (by kernel_rfl) (by kernel_rfl) (by kernel_rfl) (fun _ _ _ h => h) (Or.inl ⟨by rfl, fun z _ => rfl⟩) hH ?_
      simp only [List.getElem_toArray, List.getElem_cons_succ, List.getElem_cons_zero, Act.put, List.setIfInBounds_toArray, List.set_cons_zero, List.set_cons_succ]
      refine wpAnyH_take (i := 3) (v := .pointer (some ⟨lg, lo + m, none⟩)) rfl (by kernel_rfl) (by kernel_rfl) (by kernel_rfl) (fun _ _ _ h => h) (Or.inl ⟨by rfl, fun z _ => by simp [go_sem, execOp, hm0, hm1]⟩) hH ?_
      simp only [List.getElem_toArray, List.getElem_cons_succ, List.getElem_cons_zero, Act.put, List.setIfInBounds_toArray, List.set_cons_zero, List.set_cons_succ]
      refine wpAnyH_take (i := 4) (v := .int .u64 (lf m)) rfl (by kernel_rfl) (by kernel_rfl) (by kernel_rfl) (fun _ _ _ h => h) (Or.inl ⟨by rfl, fun z hz => by simp [go_sem, execOp, show z.cell? ⟨lg, lo + m, none⟩ = some (.int .u64 (lf m)) from hz.1]⟩) hH ?_
      simp only [List.getElem_toArray, List.getElem_cons_succ, List.getElem_cons_zero, Act.put, List.setIfInBounds_toArray, List.set_cons_zero, List.set_cons_succ]
      refine wpAnyH_take (i := 5) rfl (by kernel_rfl) (by kernel_rfl) (by kernel_rfl) (fun _ _ _ h => h) (Or.inl ⟨by rfl, fun z _ => rfl⟩) hH ?_
      simp only [List.getElem_toArray, List.getElem_cons_succ, List.getElem_cons_zero, Act.put, List.setIfInBounds_toArray, List.set_cons_zero, List.set_cons_succ]
      refine wpAnyH_take (i := 6) rfl (by kernel_rfl) (by kernel_rfl) (by kernel_rfl) (fun _ _ _ h => h) (Or.inl ⟨by rfl, fun z _ => rfl⟩) hH ?_
      simp only [List.getElem_toArray, List.getElem_cons_succ, List.getElem_cons_zero, Act.put, List.setIfInBounds_toArray, List.set_cons_zero, List.set_cons_succ]
      refine wpAnyH_take (i := 7) (v := .pointer (some ⟨mg, mo + m, none⟩)) rfl (by kernel_rfl) (by kernel_rfl) (by kernel_rfl) (fun _ _ _ h => h) (Or.inl ⟨by rfl, fun z _ => by simp [go_sem, execOp, hm0, hm2]⟩) hH ?_
      simp only [List.getElem_toArray, List.getElem_cons_succ, List.getElem_cons_zero, Act.put, List.setIfInBounds_toArray, List.set_cons_zero, List.set_cons_succ]
      refine wpAnyH_take (i := 8) (v := .int .u8 (mf m)) rfl (by kernel_rfl) (by kernel_rfl) (by kernel_rfl) (fun _ _ _ h => h) (Or.inl ⟨by rfl, fun z hz => by simp [go_sem, execOp, show z.cell? ⟨mg, mo + m, none⟩ = some (.int .u8 (mf m)) from hz.2]⟩) hH ?_
      simp only [List.getElem_toArray, List.getElem_cons_succ, List.getElem_cons_zero, Act.put, List.setIfInBounds_toArray, List.set_cons_zero, List.set_cons_succ]
      refine wpAnyH_take (i := 9) (v := .int .u8 (mf m % 8)) rfl (by kernel_rfl) (by kernel_rfl) (by kernel_rfl) (fun _ _ _ h => h) (Or.inl ⟨by rfl, fun z _ => by simp [go_sem, execOp, htm]⟩) hH ?_
      simp only [List.getElem_toArray, List.getElem_cons_succ, List.getElem_cons_zero, Act.put, List.setIfInBounds_toArray, List.set_cons_zero, List.set_cons_succ]
      refine wpAnyH_take (i := 10) (v := .int .i64 (mf m % 8)) rfl (by kernel_rfl) (by kernel_rfl) (by kernel_rfl) (fun _ _ _ h => h) (Or.inl ⟨by rfl, fun z _ => by simp [go_sem, execOp, hw8]⟩) hH ?_
      simp only [List.getElem_toArray, List.getElem_cons_succ, List.getElem_cons_zero, Act.put, List.setIfInBounds_toArray, List.set_cons_zero, List.set_cons_succ]
      refine wpAnyH_take (i := 11) (v := .int .i64 (kf m)) rfl (by kernel_rfl) (by kernel_rfl) (by kernel_rfl) (fun _ _ _ h => h) (Or.inl ⟨by rfl, fun z _ => by simp [go_sem, execOp, hkm, hwk]⟩) hH ?_
      simp only [List.getElem_toArray, List.getElem_cons_succ, List.getElem_cons_zero, Act.put, List.setIfInBounds_toArray, List.set_cons_zero, List.set_cons_succ]
      clear htm hw8 hwk hkm
      refine wpAnyH_ready (rs := [12]) (by kernel_rfl) (by simp) (AllReadyH.cons rfl (fun K hK => ?_) AllReadyH.nil)
      go_simp
      refine (put_any (lf m) (HLB.out m (by omega)) (kf m) ⟨hk1, hk8⟩ wr.drew).mono ?_
      rintro e w6 ⟨rfl, rfl⟩
      obtain ⟨w6, hw6⟩ : ∃ x, x = wr.drew.alloc (.cells (cellsB (bytesOf (lf m) (kf m))) 5) := ⟨_, rfl⟩
      rw [← hw6]
      have hb6 : Below wr.heap.size wr w6 := by rw [hw6]; exact more ((Below.refl wr.heap.size wr).drew) _
      have hg6 : w6.heap[wr.heap.size]? = some (.cells (cellsB (bytesOf (lf m) (kf m))) 5 (0, 0)) := by rw [hw6]; exact heap_alloc_new _ _
      have HO6 := Lib.hid (hO.out.below hb6)
      have HB6 := Lib.hid (andthen hB.out hb6)
      have HG6 := Lib.hid hg6
      have hs6 : w.heap.size ≤ w6.heap.size := HB6.out.size
      have hl6 : w6.cell? ⟨lg, lo + m, none⟩ = some (.int .u64 (lf m)) := (hb6.cell (p := ⟨lg, lo + m, none⟩) (by have := hB.out.size; show lg < _; omega)).trans hcl
      have hm6 : w6.cell? ⟨mg, mo + m, none⟩ = some (.int .u8 (mf m)) := (hb6.cell (p := ⟨mg, mo + m, none⟩) (by have := hB.out.size; show mg < _; omega)).trans hcm
      refine hK.out _ _ ⟨hl6, hm6⟩ (fun hH6 => ?_)
      clear hK K hw6 hb6 hg6
      refine wpAnyH_ready (rs := [13]) (by kernel_rfl) (by simp) (AllReadyH.cons rfl (fun K hK => ?_) AllReadyH.nil)
      rw [if_pos (by rfl)]
      have ht8 := HtM.out m
      refine wp_append_own w6 (.tmp 29) (.tmp 41) 25 rfl w.heap.size 5 i8 _ 1 1 Try.underlying25 HI8.out.1 HI8.out.2.1 HI8.out.2.2.1 HI8.out.2.2.2 rfl (by decide) v0 _ _ rfl HO6.out ⟨wr.heap.size, 0, none⟩ (kf m) (kf m) ((bytesOf (lf m) (kf m)).map (Value.int .u8)) rfl (by simp [bytesOf_length]) (fun j x hj => by
            rw [Addr.add_mid, Nat.zero_add, cells_of HG6.out]
            unfold cellsB
            simpa using hj) (by intro x hx; obtain ⟨y, _, rfl⟩ := List.mem_map.1 hx; rfl) (by rw [acc_length]; unfold maxLen; omega) (by rw [acc_length]; omega) hs6 ?_
      intro v' w7 hown7 hgrow hnil
      have hgb : ∀ x, v0.ownBlock = some x → w.heap.size ≤ x := fun x hx => by
        obtain ⟨_, ⟨rfl, _⟩ | ⟨g, c, cur, rfl, hg, _⟩⟩ := HO6.out
        · cases hx
        · simp only [Value.ownBlock, Option.some.injEq] at hx
          omega
      have hb7 : Below w.heap.size w6 w7 := ⟨hgrow.os, hgrow.tape, hgrow.output, hgrow.size, fun x hx => hgrow.block x (by omega) (fun e => by have := hgb x e.symm; omega)⟩
      have HB7 := Lib.hid (HB6.out.trans hb7)
      have HO7 := Lib.hid (show OwnB w7 w.heap.size v' (acc lf kf (m + 1)) by
        show w7.ownsRow _ _ _ _ (acc lf kf m ++ bytesOf (lf m) (kf m)).length ((acc lf kf m ++ bytesOf (lf m) (kf m)).map (Value.int .u8))
        rw [List.length_append, bytesOf_length, List.map_append]
        exact hown7)
      refine hK.out _ _ ⟨(hb7.cell (p := ⟨lg, lo + m, none⟩) hlg).trans hl6, (hb7.cell (p := ⟨mg, mo + m, none⟩) hmg).trans hm6⟩ (fun hH7 => ?_)
      clear hK K hown7 hgrow hnil hgb hb7
      refine wpAnyH_take (i := 14) rfl (by kernel_rfl) (by kernel_rfl) (by kernel_rfl) (fun _ _ _ h => h) (Or.inl ⟨by rfl, fun z _ => rfl⟩) hH7 ?_
      simp only [List.getElem_toArray, List.getElem_cons_succ, List.getElem_cons_zero, Act.put, List.setIfInBounds_toArray, List.set_cons_zero, List.set_cons_succ]
      refine wpAnyH_done (by kernel_rfl) ?_ _
      clear hl6 hm6 hH hH6 hH7 hcl hcm
      go_wp2_with fail
      go_roundw
      case rel => exact ⟨m + 1, v', rfl, by omega, by go_num, HO7, HB7⟩
      case measure => simp [intOf]; omega
    · obtain rfl : m = mm := by omega
      obtain ⟨a, n, c, rfl, hn, hv, hnil⟩ := hO.out.view
      rw [acc_length] at hn
      subst hn
      have ht8 := HtM.out m
      have HV := Lib.hid hv
      have HN := Lib.hid hnil
      have hmq := Hmm.out
      clear hv hnil hO
      have hgd : (decide ((m : Int) < ln) && decide ((m : Int) < mn)) = false := by
        rw [Bool.and_eq_false_iff]
        by_cases h : m < ln
        · exact .inr (decide_eq_false (by omega))
        · exact .inl (decide_eq_false (by omega))
      by_cases hq : m < ln
      all_goals
        first
          | (have dl : decide (m < ln) = true := decide_eq_true (by omega))
          | (have dl : decide (m < ln) = false := decide_eq_false (by omega))
        first
          | (have dm : decide (m < mn) = false := decide_eq_false (by omega))
          | skip
        clear hgd hmq hq
        go_wp2_with fail
        refine (new_any wr a _ c (byteOf lf kf m) HV.out (fun j _ => byteOf_ok lf kf m j) HN.out (by omega)).mono ?_
        rintro e w8 ⟨rg, rfl, hrg, hrd, hb8⟩
        have HB8 := Lib.hid (andthen hB.out hb8)
        have hge : w.heap.size ≤ rg := Nat.le_trans hB.out.size hrg
        have Hrd := Lib.hid hrd
        clear hrd hb8 dl HV
        try clear dm
        go_wp2_with fail
        go_loopw [9] (fun i wr => ∃ q : Nat, q ≤ m ∧ i = .int .i64 q ∧ Hid (Rd wr rg (tot kf m - tot kf q) (fun j => byteOf lf kf m (tot kf q + j)) false) ∧ Hid (Below w.heap.size w wr)) (fun i _ => m - (intOf i).toNat)
        case atStart => exact ⟨0, by omega, rfl, Lib.hid (by simpa [tot] using Hrd.out), HB8⟩
        case round =>
          clear Hrd
          obtain ⟨q, hq, rfl, hR, hB9⟩ := hrel
          by_cases hlt : q < m
          · have dl : decide ((q : Int) < ln) = true := decide_eq_true (by omega)
            have dm : decide ((q : Int) < mn) = true := decide_eq_true (by omega)
            have hm0 : (0 : Int) ≤ q := by omega
            have hm1 : (q : Int) < ln := by omega
            have hm2 : (q : Int) < mn := by omega
            rcases HL.out with h0 | ⟨lg, lo, rfl, hlc⟩
            · omega
            rcases HM.out with h0 | ⟨mg, mo, rfl, hmc⟩
            · omega
            have hcl : wr.cell? ⟨lg, lo + q, none⟩ = some (.int .u64 (lf q)) := by
              have h1 := hlc q (by omega) 0 (by omega)
              rw [Nat.mul_one, Nat.add_zero] at h1
              rw [hB9.out.cell (p := ⟨lg, lo + q, none⟩) (cell_lt h1)]
              exact h1
            have hlg : lg < w.heap.size := cell_lt (hlc q (by omega) 0 (by omega))
            have hcm : wr.cell? ⟨mg, mo + q, none⟩ = some (.int .u8 (mf q)) := by
              have h1 := hmc q (by omega) 0 (by omega)
              rw [Nat.mul_one, Nat.add_zero] at h1
              rw [hB9.out.cell (p := ⟨mg, mo + q, none⟩) (cell_lt h1)]
              exact h1
            have hkm := Hkk.out q (by omega)
            have hmb := HMB.out q (by omega)
            have hmb0 := hmb.1
            have hmb1 := hmb.2
            clear hlc hmc hmb
            go_wp2_with fail
            obtain ⟨k, hk⟩ : ∃ k, k = kf q := ⟨_, rfl⟩
            have hk18 := HK18.out q
            have ht : tot kf q + k ≤ tot kf m := by rw [hk]; exact tot_le kf (q + 1) m hlt
            have hx := back_law lf kf q m hlt
            have hxx := shift_back (lf q) k (by rw [hk]; exact hk18)
            have hlb := HLB.out q (by omega)
            have Ht := Lib.hid (show tot kf (q + 1) = tot kf q + k by rw [hk]; rfl)
            rw [← hk] at hx hk18 ⊢
            refine (take_in wr rg _ k _ hR.out hk18 (by omega)).mono ?_
            rintro e w9 ⟨rfl, hr9, ho9⟩
            rw [hx]
            have HR9 := Lib.hid (show Rd w9 rg (tot kf m - tot kf (q + 1)) (fun j => byteOf lf kf m (tot kf (q + 1) + j)) false by
              rw [Ht.out, ← Nat.sub_sub]
              simpa only [Nat.add_assoc] using hr9)
            have HB10 := Lib.hid (hB9.out.trans (ho9.below hB9.out.size (fun x hx => by omega)))
            have hcl9 : w9.cell? ⟨lg, lo + q, none⟩ = some (.int .u64 (lf q)) := (ho9.cell (p := ⟨lg, lo + q, none⟩) (cell_lt hcl) (by show ¬ lg = rg; omega)).trans hcl
            obtain ⟨x, hx2⟩ : ∃ x, x = lf q % 256 ^ k := ⟨_, rfl⟩
            rw [← hx2] at hxx ⊢
            obtain ⟨l0, l1⟩ := hlb
            clear hx hr9 ho9 hcl hcm hkm hmb0 hmb1 hR hB9 dl dm hx2 hk Ht ht
            have Hxx := Lib.hid hxx
            clear hxx
            rcases (show k = 1 ∨ k = 2 ∨ k = 3 ∨ k = 4 ∨ k = 5 ∨ k = 6 ∨ k = 7 ∨ k = 8 by omega) with rfl | rfl | rfl | rfl | rfl | rfl | rfl | rfl
            · have he : (x != IntKind.u64.wrap (lf q * 72057594037927936) / 72057594037927936) = false := by have h := Hxx.out; unfold IntKind.wrap; simp [IntKind.signed, IntKind.bits] at h ⊢; omega
              clear hk18
              go_wp2_with fail
              go_roundw
              case rel => exact ⟨q + 1, by omega, by go_num, HR9, HB10⟩
              case measure => simp [intOf]; omega
            · have he : (x != IntKind.u64.wrap (lf q * 281474976710656) / 281474976710656) = false := by have h := Hxx.out; unfold IntKind.wrap; simp [IntKind.signed, IntKind.bits] at h ⊢; omega
              clear hk18
              go_wp2_with fail
              go_roundw
              case rel => exact ⟨q + 1, by omega, by go_num, HR9, HB10⟩
              case measure => simp [intOf]; omega
            · have he : (x != IntKind.u64.wrap (lf q * 1099511627776) / 1099511627776) = false := by have h := Hxx.out; unfold IntKind.wrap; simp [IntKind.signed, IntKind.bits] at h ⊢; omega
              clear hk18
              go_wp2_with fail
              go_roundw
              case rel => exact ⟨q + 1, by omega, by go_num, HR9, HB10⟩
              case measure => simp [intOf]; omega
            · have he : (x != IntKind.u64.wrap (lf q * 4294967296) / 4294967296) = false := by have h := Hxx.out; unfold IntKind.wrap; simp [IntKind.signed, IntKind.bits] at h ⊢; omega
              clear hk18
              go_wp2_with fail
              go_roundw
              case rel => exact ⟨q + 1, by omega, by go_num, HR9, HB10⟩
              case measure => simp [intOf]; omega
            · have he : (x != IntKind.u64.wrap (lf q * 16777216) / 16777216) = false := by have h := Hxx.out; unfold IntKind.wrap; simp [IntKind.signed, IntKind.bits] at h ⊢; omega
              clear hk18
              go_wp2_with fail
              go_roundw
              case rel => exact ⟨q + 1, by omega, by go_num, HR9, HB10⟩
              case measure => simp [intOf]; omega
            · have he : (x != IntKind.u64.wrap (lf q * 65536) / 65536) = false := by have h := Hxx.out; unfold IntKind.wrap; simp [IntKind.signed, IntKind.bits] at h ⊢; omega
              clear hk18
              go_wp2_with fail
              go_roundw
              case rel => exact ⟨q + 1, by omega, by go_num, HR9, HB10⟩
              case measure => simp [intOf]; omega
            · have he : (x != IntKind.u64.wrap (lf q * 256) / 256) = false := by have h := Hxx.out; unfold IntKind.wrap; simp [IntKind.signed, IntKind.bits] at h ⊢; omega
              clear hk18
              go_wp2_with fail
              go_roundw
              case rel => exact ⟨q + 1, by omega, by go_num, HR9, HB10⟩
              case measure => simp [intOf]; omega
            · have he : (x != lf q) = false := by have h := Hxx.out; simp at h ⊢; omega
              clear hk18
              go_wp2_with fail
              go_roundw
              case rel => exact ⟨q + 1, by omega, by go_num, HR9, HB10⟩
              case measure => simp [intOf]; omega
          · obtain rfl : q = m := by omega
            have hgd : decide (q < ln) = true ∧ decide (q < mn) = false ∨ decide (q < ln) = false := by
              have := Hmm.out
              by_cases h : q < ln
              · exact .inl ⟨decide_eq_true h, decide_eq_false (by omega)⟩
              · exact .inr (decide_eq_false h)
            have HR' := Lib.hid (show Rd wr rg 0 (fun j => byteOf lf kf q (tot kf q + j)) false by have h := hR.out; rw [Nat.sub_self] at h; exact h)
            clear hR
            rcases hgd with ⟨dl, dm⟩ | dl
            all_goals
              go_wp2_with fail
              refine (left_any wr rg 0 false _ HR'.out).mono ?_
              rintro e w9 ⟨rfl, rfl⟩
              go_wp2_with fail
              refine (short_any w9 rg 0 false _ HR'.out).mono ?_
              rintro e w10 ⟨rfl, rfl⟩
              go_wp2_with fail
              go_ret
              exact ⟨rfl, hB9.out⟩
end Go.Proofs.Ytbeagokbhlaeeaa.Oct
