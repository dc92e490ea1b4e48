/- Chapter 8: what a second does to the ports by the document (ford/fordref08.Tick): the same. Conditions: there aren't very many ports; their clocks are from 0 to 1000. -/
import Derived.Test.YtpnlblkeckpmnaaCk5
import Derived.Test.YtpnlblkeckpmnaaCk6
set_option linter.unusedSimpArgs false
namespace Go.Proofs.Ytpnlblkeckpmnaa.Br
open Go.RowKit
set_option maxRecDepth 100000 in
set_option maxHeartbeats 8000000 in
theorem reftick_any (w : World) (bx g n cap : Nat) (ps : Nat → Rec) (hb : w.cell? ⟨bx, 17, none⟩ = some (.slice (some ⟨g, 0, none⟩) n cap)) (hp : Ports w g n ps) (hbg : bx ≠ g) (hn : n ≤ 1000) (hR : ∀ k, k < n → ∀ x, x < 9 → 0 ≤ (ps k).i (6 + x) ∧ (ps k).i (6 + x) ≤ 1000) :
    Calls Try.prog 17 #[.pointer (some ⟨bx, 0, none⟩)] w fun e w' => e = .returned (.tuple #[]) ∧ Ports w' g n (fun j => tickF (ps j)) ∧ Only (· = g) w w' := by
  have HR := Lib.hid hR
  have HP := Lib.hid hp
  have hbl : bx < w.heap.size := cell_lt hb
  have hgl : g < w.heap.size := hp.lt
  clear hR hp
  go_enter Try.func17, Try.ntmps17
  go_wp2_with fail
  go_loopw [2] (fun i wr => ∃ m : Nat, m ≤ n ∧ i = .int .i64 m ∧ Hid (Ports wr g n (fun j => if j < m then tickF (ps j) else ps j)) ∧ Hid (Only (· = g) w wr)) (fun i _ => n - (intOf i).toNat)
  case atStart => exact ⟨0, by omega, rfl, Lib.hid (Ports.cong2 (fun j _ => by simp) HP.out), Lib.hid (Only.refl _ _)⟩
  case round =>
    obtain ⟨m, hm, rfl, hPm, hO⟩ := hrel
    have hm0 : (0 : Int) ≤ m := by omega
    have r17 : wr.cell? ⟨bx, 17, none⟩ = some (.slice (some ⟨g, 0, none⟩) n cap) := (hO.out.cell (p := ⟨bx, 17, none⟩) hbl hbg).trans hb
    by_cases hlt : m < n
    · have dl : decide ((m : Int) < n) = true := decide_eq_true (by omega)
      have hm1 : (m : Int) < n := by omega
      have hwm : IntKind.i64.wrap ((m : Int) + 1) = (m + 1 : Nat) := by unfold IntKind.wrap; simp [IntKind.signed, IntKind.bits]; omega
      obtain ⟨q, hq⟩ : ∃ x, x = ps m := ⟨_, rfl⟩
      have hqR := HR.out m hlt
      rw [← hq] at hqR
      have c0 : wr.cell? ⟨g, m * 89 + 6, none⟩ = some (.int .i64 (q.i 6)) := (hPm.out.cell hlt (j := 6) (by omega)).trans (by rw [if_neg (Nat.lt_irrefl _), ← hq]; rfl)
      have c1 : wr.cell? ⟨g, m * 89 + 6 + 1, none⟩ = some (.int .i64 (q.i 7)) := (hPm.out.cell hlt (j := 7) (by omega)).trans (by rw [if_neg (Nat.lt_irrefl _), ← hq]; rfl)
      have c2 : wr.cell? ⟨g, m * 89 + 6 + 2, none⟩ = some (.int .i64 (q.i 8)) := (hPm.out.cell hlt (j := 8) (by omega)).trans (by rw [if_neg (Nat.lt_irrefl _), ← hq]; rfl)
      have c3 : wr.cell? ⟨g, m * 89 + 6 + 3, none⟩ = some (.int .i64 (q.i 9)) := (hPm.out.cell hlt (j := 9) (by omega)).trans (by rw [if_neg (Nat.lt_irrefl _), ← hq]; rfl)
      have c4 : wr.cell? ⟨g, m * 89 + 6 + 4, none⟩ = some (.int .i64 (q.i 10)) := (hPm.out.cell hlt (j := 10) (by omega)).trans (by rw [if_neg (Nat.lt_irrefl _), ← hq]; rfl)
      have c5 : wr.cell? ⟨g, m * 89 + 6 + 5, none⟩ = some (.int .i64 (q.i 11)) := (hPm.out.cell hlt (j := 11) (by omega)).trans (by rw [if_neg (Nat.lt_irrefl _), ← hq]; rfl)
      have c6 : wr.cell? ⟨g, m * 89 + 6 + 6, none⟩ = some (.int .i64 (q.i 12)) := (hPm.out.cell hlt (j := 12) (by omega)).trans (by rw [if_neg (Nat.lt_irrefl _), ← hq]; rfl)
      have c7 : wr.cell? ⟨g, m * 89 + 6 + 7, none⟩ = some (.int .i64 (q.i 13)) := (hPm.out.cell hlt (j := 13) (by omega)).trans (by rw [if_neg (Nat.lt_irrefl _), ← hq]; rfl)
      have c8 : wr.cell? ⟨g, m * 89 + 6 + 8, none⟩ = some (.int .i64 (q.i 14)) := (hPm.out.cell hlt (j := 14) (by omega)).trans (by rw [if_neg (Nat.lt_irrefl _), ← hq]; rfl)
      have Hq := Lib.hid hq
      have HQR := Lib.hid hqR
      clear hq hqR
      go_upto_region 4 with (fail)
      refine ((?_ : ∀ x, x = wr.alloc (.cells #[.int .i64 (q.i 6), .int .i64 (q.i 7), .int .i64 (q.i 8), .int .i64 (q.i 9), .int .i64 (q.i 10), .int .i64 (q.i 11), .int .i64 (q.i 12), .int .i64 (q.i 13), .int .i64 (q.i 14)] 40) → Code.wp _ _ _ _ x) _ rfl)
      intro w2 hw2
      obtain ⟨gc, hgc⟩ : ∃ x, x = wr.heap.size := ⟨_, rfl⟩
      rw [← hgc]
      have hC2 : w2.heap[gc]? = some (.cells #[.int .i64 (q.i 6), .int .i64 (q.i 7), .int .i64 (q.i 8), .int .i64 (q.i 9), .int .i64 (q.i 10), .int .i64 (q.i 11), .int .i64 (q.i 12), .int .i64 (q.i 13), .int .i64 (q.i 14)] 40 (0, 0)) := by rw [hw2, hgc]; exact heap_alloc_new _ _
      have hb2 : Below wr.heap.size wr w2 := by rw [hw2]; exact more (Below.refl _ _) _
      have hs2 := hO.out.size
      have s17 : w2.cell? ⟨bx, 17, none⟩ = some (.slice (some ⟨g, 0, none⟩) n cap) := (hb2.cell (p := ⟨bx, 17, none⟩) (by show bx < wr.heap.size; omega)).trans r17
      have HP2 := Lib.hid (hPm.out.below hb2 hPm.out.lt)
      have HO2 := Lib.hid (hO.out.trans (Only.of_below hb2))
      have hgcl := (Array.getElem?_eq_some_iff.1 hC2).1
      have hgcg : gc ≠ g := by have := hPm.out.lt; omega
      have hbl2 : bx < w2.heap.size := cell_lt s17
      have s0 : w2.cell? ⟨gc, 0, none⟩ = some (.int .i64 (q.i 6)) := cells_of hC2 0
      have s1 : w2.cell? ⟨gc, 1, none⟩ = some (.int .i64 (q.i 7)) := cells_of hC2 1
      have s2 : w2.cell? ⟨gc, 2, none⟩ = some (.int .i64 (q.i 8)) := cells_of hC2 2
      have s3 : w2.cell? ⟨gc, 3, none⟩ = some (.int .i64 (q.i 9)) := cells_of hC2 3
      have s4 : w2.cell? ⟨gc, 4, none⟩ = some (.int .i64 (q.i 10)) := cells_of hC2 4
      have s5 : w2.cell? ⟨gc, 5, none⟩ = some (.int .i64 (q.i 11)) := cells_of hC2 5
      have s6 : w2.cell? ⟨gc, 6, none⟩ = some (.int .i64 (q.i 12)) := cells_of hC2 6
      have s7 : w2.cell? ⟨gc, 7, none⟩ = some (.int .i64 (q.i 13)) := cells_of hC2 7
      have s8 : w2.cell? ⟨gc, 8, none⟩ = some (.int .i64 (q.i 14)) := cells_of hC2 8
      clear hw2 hgc hC2 hb2 r17 c0 c1 c2 c3 c4 c5 c6 c7 c8
      refine wp_region_held_drew (S := fun w' => Only (· = g) w2 w') (by kernel_rfl) (Only.refl _ _).drew (fun hH => ?_)
      refine wpAnyH_take (i := 0) (v := .pointer (some ⟨bx, 0, none⟩)) rfl (by kernel_rfl) (by kernel_rfl) (by kernel_rfl) (fun _ _ _ h => h) (Or.inl ⟨by rfl, fun z _ => rfl⟩) hH ?_
      simp only [List.getElem_toArray, List.getElem_cons_succ, List.getElem_cons_zero, Act.put, List.setIfInBounds_toArray, List.set_cons_zero, List.set_cons_succ]
      refine wpAnyH_take (i := 1) (v := .pointer (some ⟨bx, 0, none⟩)) rfl (by kernel_rfl) (by kernel_rfl) (by kernel_rfl) (fun _ _ _ h => h) (Or.inl ⟨by rfl, fun z _ => by simp [go_sem, execOp]⟩) hH ?_
      simp only [List.getElem_toArray, List.getElem_cons_succ, List.getElem_cons_zero, Act.put, List.setIfInBounds_toArray, List.set_cons_zero, List.set_cons_succ]
      refine wpAnyH_take (i := 2) (v := .pointer (some ⟨bx, 17, none⟩)) rfl (by kernel_rfl) (by kernel_rfl) (by kernel_rfl) (fun _ _ _ h => h) (Or.inl ⟨by rfl, fun z _ => by simp [go_sem, execOp]⟩) hH ?_
      simp only [List.getElem_toArray, List.getElem_cons_succ, List.getElem_cons_zero, Act.put, List.setIfInBounds_toArray, List.set_cons_zero, List.set_cons_succ]
      refine wpAnyH_take (i := 3) (v := .slice (some ⟨g, 0, none⟩) n cap) rfl (by kernel_rfl) (by kernel_rfl) (by kernel_rfl) (fun _ _ _ h => h) (Or.inl ⟨by rfl, fun z hz => by simp [go_sem, execOp, (show z.cell? ⟨bx, 17, none⟩ = some (.slice (some ⟨g, 0, none⟩) n cap) from (hz.cell (p := ⟨bx, 17, none⟩) hbl2 hbg).trans s17)]⟩) hH ?_
      simp only [List.getElem_toArray, List.getElem_cons_succ, List.getElem_cons_zero, Act.put, List.setIfInBounds_toArray, List.set_cons_zero, List.set_cons_succ]
      refine wpAnyH_take (i := 4) (v := .int .i64 m) rfl (by kernel_rfl) (by kernel_rfl) (by kernel_rfl) (fun _ _ _ h => h) (Or.inl ⟨by rfl, fun z _ => rfl⟩) hH ?_
      simp only [List.getElem_toArray, List.getElem_cons_succ, List.getElem_cons_zero, Act.put, List.setIfInBounds_toArray, List.set_cons_zero, List.set_cons_succ]
      refine wpAnyH_take (i := 5) (v := .pointer (some ⟨gc, 0, none⟩)) rfl (by kernel_rfl) (by kernel_rfl) (by kernel_rfl) (fun _ _ _ h => h) (Or.inl ⟨by rfl, fun z _ => by simp [go_sem, execOp]⟩) hH ?_
      simp only [List.getElem_toArray, List.getElem_cons_succ, List.getElem_cons_zero, Act.put, List.setIfInBounds_toArray, List.set_cons_zero, List.set_cons_succ]
      refine wpAnyH_take (i := 6) (v := .int .i64 (q.i 6)) rfl (by kernel_rfl) (by kernel_rfl) (by kernel_rfl) (fun _ _ _ h => h) (Or.inl ⟨by rfl, fun z hz => by simp [go_sem, execOp, (show z.cell? ⟨gc, 0, none⟩ = some (.int .i64 (q.i 6)) from (hz.cell (p := ⟨gc, 0, none⟩) hgcl hgcg).trans s0)]⟩) hH ?_
      simp only [List.getElem_toArray, List.getElem_cons_succ, List.getElem_cons_zero, Act.put, List.setIfInBounds_toArray, List.set_cons_zero, List.set_cons_succ]
      refine wpAnyH_take (i := 8) (v := .pointer (some ⟨gc, 1, none⟩)) rfl (by kernel_rfl) (by kernel_rfl) (by kernel_rfl) (fun _ _ _ h => h) (Or.inl ⟨by rfl, fun z _ => by simp [go_sem, execOp]⟩) hH ?_
      simp only [List.getElem_toArray, List.getElem_cons_succ, List.getElem_cons_zero, Act.put, List.setIfInBounds_toArray, List.set_cons_zero, List.set_cons_succ]
      refine wpAnyH_take (i := 9) (v := .int .i64 (q.i 7)) rfl (by kernel_rfl) (by kernel_rfl) (by kernel_rfl) (fun _ _ _ h => h) (Or.inl ⟨by rfl, fun z hz => by simp [go_sem, execOp, (show z.cell? ⟨gc, 1, none⟩ = some (.int .i64 (q.i 7)) from (hz.cell (p := ⟨gc, 1, none⟩) hgcl hgcg).trans s1)]⟩) hH ?_
      simp only [List.getElem_toArray, List.getElem_cons_succ, List.getElem_cons_zero, Act.put, List.setIfInBounds_toArray, List.set_cons_zero, List.set_cons_succ]
      refine wpAnyH_take (i := 11) (v := .pointer (some ⟨gc, 2, none⟩)) rfl (by kernel_rfl) (by kernel_rfl) (by kernel_rfl) (fun _ _ _ h => h) (Or.inl ⟨by rfl, fun z _ => by simp [go_sem, execOp]⟩) hH ?_
      simp only [List.getElem_toArray, List.getElem_cons_succ, List.getElem_cons_zero, Act.put, List.setIfInBounds_toArray, List.set_cons_zero, List.set_cons_succ]
      refine wpAnyH_take (i := 12) (v := .int .i64 (q.i 8)) rfl (by kernel_rfl) (by kernel_rfl) (by kernel_rfl) (fun _ _ _ h => h) (Or.inl ⟨by rfl, fun z hz => by simp [go_sem, execOp, (show z.cell? ⟨gc, 2, none⟩ = some (.int .i64 (q.i 8)) from (hz.cell (p := ⟨gc, 2, none⟩) hgcl hgcg).trans s2)]⟩) hH ?_
      simp only [List.getElem_toArray, List.getElem_cons_succ, List.getElem_cons_zero, Act.put, List.setIfInBounds_toArray, List.set_cons_zero, List.set_cons_succ]
      refine wpAnyH_take (i := 14) (v := .pointer (some ⟨gc, 3, none⟩)) rfl (by kernel_rfl) (by kernel_rfl) (by kernel_rfl) (fun _ _ _ h => h) (Or.inl ⟨by rfl, fun z _ => by simp [go_sem, execOp]⟩) hH ?_
      simp only [List.getElem_toArray, List.getElem_cons_succ, List.getElem_cons_zero, Act.put, List.setIfInBounds_toArray, List.set_cons_zero, List.set_cons_succ]
      refine wpAnyH_take (i := 15) (v := .int .i64 (q.i 9)) rfl (by kernel_rfl) (by kernel_rfl) (by kernel_rfl) (fun _ _ _ h => h) (Or.inl ⟨by rfl, fun z hz => by simp [go_sem, execOp, (show z.cell? ⟨gc, 3, none⟩ = some (.int .i64 (q.i 9)) from (hz.cell (p := ⟨gc, 3, none⟩) hgcl hgcg).trans s3)]⟩) hH ?_
      simp only [List.getElem_toArray, List.getElem_cons_succ, List.getElem_cons_zero, Act.put, List.setIfInBounds_toArray, List.set_cons_zero, List.set_cons_succ]
      refine wpAnyH_take (i := 17) (v := .pointer (some ⟨gc, 4, none⟩)) rfl (by kernel_rfl) (by kernel_rfl) (by kernel_rfl) (fun _ _ _ h => h) (Or.inl ⟨by rfl, fun z _ => by simp [go_sem, execOp]⟩) hH ?_
      simp only [List.getElem_toArray, List.getElem_cons_succ, List.getElem_cons_zero, Act.put, List.setIfInBounds_toArray, List.set_cons_zero, List.set_cons_succ]
      refine wpAnyH_take (i := 18) (v := .int .i64 (q.i 10)) rfl (by kernel_rfl) (by kernel_rfl) (by kernel_rfl) (fun _ _ _ h => h) (Or.inl ⟨by rfl, fun z hz => by simp [go_sem, execOp, (show z.cell? ⟨gc, 4, none⟩ = some (.int .i64 (q.i 10)) from (hz.cell (p := ⟨gc, 4, none⟩) hgcl hgcg).trans s4)]⟩) hH ?_
      simp only [List.getElem_toArray, List.getElem_cons_succ, List.getElem_cons_zero, Act.put, List.setIfInBounds_toArray, List.set_cons_zero, List.set_cons_succ]
      refine wpAnyH_take (i := 20) (v := .pointer (some ⟨gc, 5, none⟩)) rfl (by kernel_rfl) (by kernel_rfl) (by kernel_rfl) (fun _ _ _ h => h) (Or.inl ⟨by rfl, fun z _ => by simp [go_sem, execOp]⟩) hH ?_
      simp only [List.getElem_toArray, List.getElem_cons_succ, List.getElem_cons_zero, Act.put, List.setIfInBounds_toArray, List.set_cons_zero, List.set_cons_succ]
      refine wpAnyH_take (i := 21) (v := .int .i64 (q.i 11)) rfl (by kernel_rfl) (by kernel_rfl) (by kernel_rfl) (fun _ _ _ h => h) (Or.inl ⟨by rfl, fun z hz => by simp [go_sem, execOp, (show z.cell? ⟨gc, 5, none⟩ = some (.int .i64 (q.i 11)) from (hz.cell (p := ⟨gc, 5, none⟩) hgcl hgcg).trans s5)]⟩) hH ?_
      simp only [List.getElem_toArray, List.getElem_cons_succ, List.getElem_cons_zero, Act.put, List.setIfInBounds_toArray, List.set_cons_zero, List.set_cons_succ]
      refine wpAnyH_take (i := 23) (v := .pointer (some ⟨gc, 6, none⟩)) rfl (by kernel_rfl) (by kernel_rfl) (by kernel_rfl) (fun _ _ _ h => h) (Or.inl ⟨by rfl, fun z _ => by simp [go_sem, execOp]⟩) hH ?_
      simp only [List.getElem_toArray, List.getElem_cons_succ, List.getElem_cons_zero, Act.put, List.setIfInBounds_toArray, List.set_cons_zero, List.set_cons_succ]
      refine wpAnyH_take (i := 24) (v := .int .i64 (q.i 12)) rfl (by kernel_rfl) (by kernel_rfl) (by kernel_rfl) (fun _ _ _ h => h) (Or.inl ⟨by rfl, fun z hz => by simp [go_sem, execOp, (show z.cell? ⟨gc, 6, none⟩ = some (.int .i64 (q.i 12)) from (hz.cell (p := ⟨gc, 6, none⟩) hgcl hgcg).trans s6)]⟩) hH ?_
      simp only [List.getElem_toArray, List.getElem_cons_succ, List.getElem_cons_zero, Act.put, List.setIfInBounds_toArray, List.set_cons_zero, List.set_cons_succ]
      refine wpAnyH_take (i := 26) (v := .pointer (some ⟨gc, 7, none⟩)) rfl (by kernel_rfl) (by kernel_rfl) (by kernel_rfl) (fun _ _ _ h => h) (Or.inl ⟨by rfl, fun z _ => by simp [go_sem, execOp]⟩) hH ?_
      simp only [List.getElem_toArray, List.getElem_cons_succ, List.getElem_cons_zero, Act.put, List.setIfInBounds_toArray, List.set_cons_zero, List.set_cons_succ]
      refine wpAnyH_take (i := 27) (v := .int .i64 (q.i 13)) rfl (by kernel_rfl) (by kernel_rfl) (by kernel_rfl) (fun _ _ _ h => h) (Or.inl ⟨by rfl, fun z hz => by simp [go_sem, execOp, (show z.cell? ⟨gc, 7, none⟩ = some (.int .i64 (q.i 13)) from (hz.cell (p := ⟨gc, 7, none⟩) hgcl hgcg).trans s7)]⟩) hH ?_
      simp only [List.getElem_toArray, List.getElem_cons_succ, List.getElem_cons_zero, Act.put, List.setIfInBounds_toArray, List.set_cons_zero, List.set_cons_succ]
      refine wpAnyH_take (i := 29) (v := .pointer (some ⟨gc, 8, none⟩)) rfl (by kernel_rfl) (by kernel_rfl) (by kernel_rfl) (fun _ _ _ h => h) (Or.inl ⟨by rfl, fun z _ => by simp [go_sem, execOp]⟩) hH ?_
      simp only [List.getElem_toArray, List.getElem_cons_succ, List.getElem_cons_zero, Act.put, List.setIfInBounds_toArray, List.set_cons_zero, List.set_cons_succ]
      refine wpAnyH_take (i := 30) (v := .int .i64 (q.i 14)) rfl (by kernel_rfl) (by kernel_rfl) (by kernel_rfl) (fun _ _ _ h => h) (Or.inl ⟨by rfl, fun z hz => by simp [go_sem, execOp, (show z.cell? ⟨gc, 8, none⟩ = some (.int .i64 (q.i 14)) from (hz.cell (p := ⟨gc, 8, none⟩) hgcl hgcg).trans s8)]⟩) hH ?_
      simp only [List.getElem_toArray, List.getElem_cons_succ, List.getElem_cons_zero, Act.put, List.setIfInBounds_toArray, List.set_cons_zero, List.set_cons_succ]
      refine wpAnyH_ready (rs := [7]) (by kernel_rfl) (by simp) (AllReadyH.cons rfl (fun K hK => ?_) AllReadyH.nil)
      go_simp
      refine (down_any (q.i 6) (HQR.out 0 (by omega)) _).mono ?_
      rintro e w10 ⟨rfl, hb10⟩
      refine hK.out _ _ (hH.trans (Only.of_below hb10)) (fun hH0 => ?_)
      have HBB0 := Lib.hid ((Below.refl w2.heap.size w2).drew.trans (hb10.mono (Below.refl w2.heap.size w2).drew.size))
      clear hK K hH hb10
      refine wpAnyH_ready (rs := [10]) (by kernel_rfl) (by simp) (AllReadyH.cons rfl (fun K hK => ?_) AllReadyH.nil)
      go_simp
      refine (down_any (q.i 7) (HQR.out 1 (by omega)) _).mono ?_
      rintro e w11 ⟨rfl, hb11⟩
      refine hK.out _ _ (hH0.trans (Only.of_below hb11)) (fun hH1 => ?_)
      have HBB1 := Lib.hid (HBB0.out.trans (hb11.mono HBB0.out.size))
      clear hK K hH0 hb11
      refine wpAnyH_ready (rs := [13]) (by kernel_rfl) (by simp) (AllReadyH.cons rfl (fun K hK => ?_) AllReadyH.nil)
      go_simp
      refine (down_any (q.i 8) (HQR.out 2 (by omega)) _).mono ?_
      rintro e w12 ⟨rfl, hb12⟩
      refine hK.out _ _ (hH1.trans (Only.of_below hb12)) (fun hH2 => ?_)
      have HBB2 := Lib.hid (HBB1.out.trans (hb12.mono HBB1.out.size))
      clear hK K hH1 hb12
      refine wpAnyH_ready (rs := [16]) (by kernel_rfl) (by simp) (AllReadyH.cons rfl (fun K hK => ?_) AllReadyH.nil)
      go_simp
      refine (down_any (q.i 9) (HQR.out 3 (by omega)) _).mono ?_
      rintro e w13 ⟨rfl, hb13⟩
      refine hK.out _ _ (hH2.trans (Only.of_below hb13)) (fun hH3 => ?_)
      have HBB3 := Lib.hid (HBB2.out.trans (hb13.mono HBB2.out.size))
      clear hK K hH2 hb13
      refine wpAnyH_ready (rs := [19]) (by kernel_rfl) (by simp) (AllReadyH.cons rfl (fun K hK => ?_) AllReadyH.nil)
      go_simp
      refine (down_any (q.i 10) (HQR.out 4 (by omega)) _).mono ?_
      rintro e w14 ⟨rfl, hb14⟩
      refine hK.out _ _ (hH3.trans (Only.of_below hb14)) (fun hH4 => ?_)
      have HBB4 := Lib.hid (HBB3.out.trans (hb14.mono HBB3.out.size))
      clear hK K hH3 hb14
      refine wpAnyH_ready (rs := [22]) (by kernel_rfl) (by simp) (AllReadyH.cons rfl (fun K hK => ?_) AllReadyH.nil)
      go_simp
      refine (down_any (q.i 11) (HQR.out 5 (by omega)) _).mono ?_
      rintro e w15 ⟨rfl, hb15⟩
      refine hK.out _ _ (hH4.trans (Only.of_below hb15)) (fun hH5 => ?_)
      have HBB5 := Lib.hid (HBB4.out.trans (hb15.mono HBB4.out.size))
      clear hK K hH4 hb15
      refine wpAnyH_ready (rs := [25]) (by kernel_rfl) (by simp) (AllReadyH.cons rfl (fun K hK => ?_) AllReadyH.nil)
      go_simp
      refine (down_any (q.i 12) (HQR.out 6 (by omega)) _).mono ?_
      rintro e w16 ⟨rfl, hb16⟩
      refine hK.out _ _ (hH5.trans (Only.of_below hb16)) (fun hH6 => ?_)
      have HBB6 := Lib.hid (HBB5.out.trans (hb16.mono HBB5.out.size))
      clear hK K hH5 hb16
      refine wpAnyH_ready (rs := [28]) (by kernel_rfl) (by simp) (AllReadyH.cons rfl (fun K hK => ?_) AllReadyH.nil)
      go_simp
      refine (down_any (q.i 13) (HQR.out 7 (by omega)) _).mono ?_
      rintro e w17 ⟨rfl, hb17⟩
      refine hK.out _ _ (hH6.trans (Only.of_below hb17)) (fun hH7 => ?_)
      have HBB7 := Lib.hid (HBB6.out.trans (hb17.mono HBB6.out.size))
      clear hK K hH6 hb17
      refine wpAnyH_ready (rs := [31]) (by kernel_rfl) (by simp) (AllReadyH.cons rfl (fun K hK => ?_) AllReadyH.nil)
      go_simp
      refine (down_any (q.i 14) (HQR.out 8 (by omega)) _).mono ?_
      rintro e w18 ⟨rfl, hb18⟩
      refine hK.out _ _ (hH7.trans (Only.of_below hb18)) (fun hH8 => ?_)
      have HBB8 := Lib.hid (HBB7.out.trans (hb18.mono HBB7.out.size))
      clear hK K hH7 hb18
      refine wpAnyH_take (i := 32) (v := .agg #[.int .i64 (max (q.i 6 - 1) 0), .int .i64 (max (q.i 7 - 1) 0), .int .i64 (max (q.i 8 - 1) 0), .int .i64 (max (q.i 9 - 1) 0), .int .i64 (max (q.i 10 - 1) 0), .int .i64 (max (q.i 11 - 1) 0), .int .i64 (max (q.i 12 - 1) 0), .int .i64 (max (q.i 13 - 1) 0), .int .i64 (max (q.i 14 - 1) 0)]) rfl (by kernel_rfl) (by kernel_rfl) (by kernel_rfl) (fun _ _ _ h => h) (Or.inl ⟨by rfl, fun z _ => by kernel_rfl⟩) hH8 ?_
      simp only [List.getElem_toArray, List.getElem_cons_succ, List.getElem_cons_zero, Act.put, List.setIfInBounds_toArray, List.set_cons_zero, List.set_cons_succ]
      refine wpAnyH_take (i := 33) (v := .pointer (some ⟨g, m * 89, none⟩)) rfl (by kernel_rfl) (by kernel_rfl) (by kernel_rfl) (fun _ _ _ h => h) (Or.inl ⟨by rfl, fun z _ => by simp [go_sem, execOp, hm0, hm1]⟩) hH8 ?_
      simp only [List.getElem_toArray, List.getElem_cons_succ, List.getElem_cons_zero, Act.put, List.setIfInBounds_toArray, List.set_cons_zero, List.set_cons_succ]
      refine wpAnyH_take (i := 34) (v := .pointer (some ⟨g, m * 89 + 6, none⟩)) rfl (by kernel_rfl) (by kernel_rfl) (by kernel_rfl) (fun _ _ _ h => h) (Or.inl ⟨by rfl, fun z _ => by simp [go_sem, execOp]⟩) hH8 ?_
      simp only [List.getElem_toArray, List.getElem_cons_succ, List.getElem_cons_zero, Act.put, List.setIfInBounds_toArray, List.set_cons_zero, List.set_cons_succ]
      refine wpAnyH_ready (rs := [35]) (by kernel_rfl) (by simp) (AllReadyH.cons rfl (fun K hK => ?_) AllReadyH.nil)
      rw [if_pos (by rfl)]
      refine wp_store_mid 40 (.tmp 55) (.tmp 53) rfl g (m * 89 + 6) #[.int .i64 (max (q.i 6 - 1) 0), .int .i64 (max (q.i 7 - 1) 0), .int .i64 (max (q.i 8 - 1) 0), .int .i64 (max (q.i 9 - 1) 0), .int .i64 (max (q.i 10 - 1) 0), .int .i64 (max (q.i 11 - 1) 0), .int .i64 (max (q.i 12 - 1) 0), .int .i64 (max (q.i 13 - 1) 0), .int .i64 (max (q.i 14 - 1) 0)] rfl rfl (fun j hj => ?_) (by kernel_rfl) (by kernel_rfl) ?_
      · have hj9 : j < 9 := hj
        exact ⟨by rw [Nat.add_assoc, (HP2.out.below HBB8.out HP2.out.lt).cell hlt (by omega)]; rfl, (HP2.out.below HBB8.out HP2.out.lt).free _⟩
      refine hK.out _ _ (hH8.trans (Only.setCells (S := (· = g)) rfl _ _ _)) (fun hHF => ?_)
      simp only [List.getElem_toArray, List.getElem_cons_succ, List.getElem_cons_zero, Act.put, List.setIfInBounds_toArray, List.set_cons_zero, List.set_cons_succ]
      clear hK K
      refine wpAnyH_done (by kernel_rfl) ?_ _
      have HL := Lib.hid hHF
      clear hHF
      go_wp2_with fail
      simp only [World.setCells] at HL ⊢
      exact ⟨⟨m + 1, by omega, rfl, Lib.hid (Ports.cong2 (fun j hj => by
        by_cases e : j = m
        · subst e
          rw [upd_same, if_neg (Nat.lt_irrefl _), if_pos (Nat.lt_succ_self _), Hq.out]
          exact tick_row _
        · unfold upd
          rw [if_neg e]
          show (if j < m then tickF (ps j) else ps j) = _
          by_cases h : j < m
          · rw [if_pos h, if_pos (by omega)]
          · rw [if_neg h, if_neg (by omega)]) (((((((((((HP2.out.below HBB8.out HP2.out.lt).start m).step (j := 6) (by omega) (rowP_put_6 _ _)).step (j := 7) (by omega) (rowP_put_7 _ _)).step (j := 8) (by omega) (rowP_put_8 _ _)).step (j := 9) (by omega) (rowP_put_9 _ _)).step (j := 10) (by omega) (rowP_put_10 _ _)).step (j := 11) (by omega) (rowP_put_11 _ _)).step (j := 12) (by omega) (rowP_put_12 _ _)).step (j := 13) (by omega) (rowP_put_13 _ _)).step (j := 14) (by omega) (rowP_put_14 _ _))), Lib.hid (HO2.out.trans HL.out)⟩, by simp [intOf]; omega⟩
    · have dl : decide ((m : Int) < n) = false := decide_eq_false (by omega)
      obtain rfl : m = n := by omega
      go_wp2_with fail
      go_end0
      exact ⟨rfl, Ports.cong2 (fun j hj => by simp [hj]) hPm.out, hO.out⟩
end Go.Proofs.Ytpnlblkeckpmnaa.Br
