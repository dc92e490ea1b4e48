/- Chapter 15: what is done to a port when a row's condition holds, further: a role taken on, rest, learning, the designated port's, all ports'. Conditions: the bridge lies in memory; what a closure has caught lies elsewhere. -/
import Derived.Test.YtdangeefecdbaaaTr1
set_option linter.unusedSimpArgs false
set_option linter.unusedVariables false
namespace Go.Proofs.Ytdangeefecdbaaa.Br
open Go.RowKit
set_option maxRecDepth 100000 in
set_option maxHeartbeats 4000000 in
theorem enter1_any (w : World) (bx g k : Nat) (b : Bri) (ps ss : Nat → Rec) (fs : Nat → Int) (p : Rec) (h : Bst w bx g b (upd ps k p) ss fs) (hk : k < b.n) (gx : Nat) (hX : w.heap[gx]? = some (.cells #[.pointer (some ⟨bx, 0, none⟩), .int .i64 k, .pointer (some ⟨g, k * 89, none⟩), .pointer (some ⟨g, k * 89 + 22, none⟩), .pointer (some ⟨g, k * 89 + 6, none⟩)] 57 (0, 0))) (ngx : ¬ gx = g) (gs : Nat) (s : Int) (hs : w.cell? ⟨gs, 0, none⟩ = some (.int .i64 s)) (nS : ¬ gs = g) (hs4 : s = 0 ∨ s = 2 ∨ s = 3 ∨ s = 4) : Calls Try.prog 38 #[.pointer (some ⟨gx, 0, none⟩), .pointer (some ⟨gs, 0, none⟩)] w fun e w' => e = .returned (.tuple #[]) ∧ Bst w' bx g b (upd ps k (enterF b s p)) ss fs ∧ Only (· = g) w w' := by
  have lx := (Array.getElem?_eq_some_iff.1 hX).1
  have HX := Lib.hid hX
  have x0 : w.cell? ⟨gx, 0, none⟩ = some (.pointer (some ⟨bx, 0, none⟩)) := cells_of HX.out 0
  have x1 : w.cell? ⟨gx, 1, none⟩ = some (.int .i64 k) := cells_of HX.out 1
  have x2 : w.cell? ⟨gx, 2, none⟩ = some (.pointer (some ⟨g, k * 89, none⟩)) := cells_of HX.out 2
  have x3 : w.cell? ⟨gx, 3, none⟩ = some (.pointer (some ⟨g, k * 89 + 22, none⟩)) := cells_of HX.out 3
  have x4 : w.cell? ⟨gx, 4, none⟩ = some (.pointer (some ⟨g, k * 89 + 6, none⟩)) := cells_of HX.out 4
  clear hX
  have lS := cell_lt hs
  have qx : ¬ g = gx := fun e => ngx e.symm
  have qs : ¬ g = gs := fun e => nS e.symm
  have H1 := Lib.hid h
  have hgl := h.p.lt
  have nbg : ¬ bx = g := h.ne
  have ngb : ¬ g = bx := fun e => h.ne e.symm
  clear h
  go_enter Try.func38, Try.ntmps38
  have c87 : w.cell? ⟨g, k * 89 + 87, none⟩ = some (.int .i64 (p.i 87)) := (H1.out.p.cell hk (j := 87) (by omega)).trans (by rw [upd_same]; rfl)
  have c88 : w.cell? ⟨g, k * 89 + 88, none⟩ = some (.int .i64 (p.i 88)) := (H1.out.p.cell hk (j := 88) (by omega)).trans (by rw [upd_same]; rfl)
  have c19 : w.cell? ⟨g, k * 89 + 15 + 4, none⟩ = some (.int .i64 (p.i 19)) := (H1.out.p.cell hk (j := 19) (by omega)).trans (by rw [upd_same]; rfl)
  have f87 : w.frozen? ⟨g, k * 89 + 87, none⟩ = false := H1.out.p.free _
  have f19 : w.frozen? ⟨g, k * 89 + 15 + 4, none⟩ = false := H1.out.p.free _
  go_wp2_with fail
  refine wp_region_held_drew (S := fun w' => Only (· = g) w w') (by kernel_rfl) (Only.refl _ _).drew (fun hH => ?_)
  refine wpAnyH_take (i := 0) (v := .pointer (some ⟨gx, 2, none⟩)) rfl (by kernel_rfl) (by kernel_rfl) (by kernel_rfl) (fun _ _ _ h => h) (Or.inl ⟨by rfl, fun z _ => by simp [go_sem, execOp]⟩) hH ?_
  simp only [List.getElem_toArray, List.getElem_cons_succ, List.getElem_cons_zero, Act.put, List.setIfInBounds_toArray, List.set_cons_zero, List.set_cons_succ]
  refine wpAnyH_take (i := 1) (v := .pointer (some ⟨g, k * 89, none⟩)) rfl (by kernel_rfl) (by kernel_rfl) (by kernel_rfl) (fun _ _ _ h => h) (Or.inl ⟨by rfl, fun z hz => by simp [go_sem, execOp, (show z.cell? ⟨gx, 2, none⟩ = some (.pointer (some ⟨g, k * 89, none⟩)) from (hz.cell (p := ⟨gx, 2, none⟩) lx (by show ¬ gx = g; exact ngx)).trans x2)]⟩) hH ?_
  simp only [List.getElem_toArray, List.getElem_cons_succ, List.getElem_cons_zero, Act.put, List.setIfInBounds_toArray, List.set_cons_zero, List.set_cons_succ]
  refine wpAnyH_take (i := 2) (v := .pointer (some ⟨gx, 2, none⟩)) rfl (by kernel_rfl) (by kernel_rfl) (by kernel_rfl) (fun _ _ _ h => h) (Or.inl ⟨by rfl, fun z _ => by simp [go_sem, execOp]⟩) hH ?_
  simp only [List.getElem_toArray, List.getElem_cons_succ, List.getElem_cons_zero, Act.put, List.setIfInBounds_toArray, List.set_cons_zero, List.set_cons_succ]
  refine wpAnyH_take (i := 3) (v := .pointer (some ⟨g, k * 89, none⟩)) rfl (by kernel_rfl) (by kernel_rfl) (by kernel_rfl) (fun _ _ _ h => h) (Or.inl ⟨by rfl, fun z hz => by simp [go_sem, execOp, (show z.cell? ⟨gx, 2, none⟩ = some (.pointer (some ⟨g, k * 89, none⟩)) from (hz.cell (p := ⟨gx, 2, none⟩) lx (by show ¬ gx = g; exact ngx)).trans x2)]⟩) hH ?_
  simp only [List.getElem_toArray, List.getElem_cons_succ, List.getElem_cons_zero, Act.put, List.setIfInBounds_toArray, List.set_cons_zero, List.set_cons_succ]
  refine wpAnyH_take (i := 4) (v := .pointer (some ⟨gx, 2, none⟩)) rfl (by kernel_rfl) (by kernel_rfl) (by kernel_rfl) (fun _ _ _ h => h) (Or.inl ⟨by rfl, fun z _ => by simp [go_sem, execOp]⟩) hH ?_
  simp only [List.getElem_toArray, List.getElem_cons_succ, List.getElem_cons_zero, Act.put, List.setIfInBounds_toArray, List.set_cons_zero, List.set_cons_succ]
  refine wpAnyH_take (i := 5) (v := .pointer (some ⟨g, k * 89, none⟩)) rfl (by kernel_rfl) (by kernel_rfl) (by kernel_rfl) (fun _ _ _ h => h) (Or.inl ⟨by rfl, fun z hz => by simp [go_sem, execOp, (show z.cell? ⟨gx, 2, none⟩ = some (.pointer (some ⟨g, k * 89, none⟩)) from (hz.cell (p := ⟨gx, 2, none⟩) lx (by show ¬ gx = g; exact ngx)).trans x2)]⟩) hH ?_
  simp only [List.getElem_toArray, List.getElem_cons_succ, List.getElem_cons_zero, Act.put, List.setIfInBounds_toArray, List.set_cons_zero, List.set_cons_succ]
  refine wpAnyH_take (i := 6) (v := .pointer (some ⟨g, k * 89, none⟩)) rfl (by kernel_rfl) (by kernel_rfl) (by kernel_rfl) (fun _ _ _ h => h) (Or.inl ⟨by rfl, fun z _ => by simp [go_sem, execOp]⟩) hH ?_
  simp only [List.getElem_toArray, List.getElem_cons_succ, List.getElem_cons_zero, Act.put, List.setIfInBounds_toArray, List.set_cons_zero, List.set_cons_succ]
  refine wpAnyH_take (i := 7) (v := .pointer (some ⟨g, k * 89 + 88, none⟩)) rfl (by kernel_rfl) (by kernel_rfl) (by kernel_rfl) (fun _ _ _ h => h) (Or.inl ⟨by rfl, fun z _ => by simp [go_sem, execOp]⟩) hH ?_
  simp only [List.getElem_toArray, List.getElem_cons_succ, List.getElem_cons_zero, Act.put, List.setIfInBounds_toArray, List.set_cons_zero, List.set_cons_succ]
  refine wpAnyH_take (i := 9) (v := .int .i64 s) rfl (by kernel_rfl) (by kernel_rfl) (by kernel_rfl) (fun _ _ _ h => h) (Or.inl ⟨by rfl, fun z hz => by simp [go_sem, execOp, (show z.cell? ⟨gs, 0, none⟩ = some (.int .i64 s) from (hz.cell (p := ⟨gs, 0, none⟩) lS (by show ¬ gs = g; exact nS)).trans hs)]⟩) hH ?_
  simp only [List.getElem_toArray, List.getElem_cons_succ, List.getElem_cons_zero, Act.put, List.setIfInBounds_toArray, List.set_cons_zero, List.set_cons_succ]
  refine wpAnyH_ready (rs := [8]) (by kernel_rfl) (by simp) (AllReadyH.cons rfl (fun K hK => ?_) AllReadyH.nil)
  go_simp
  refine hK.out _ _ hH (fun _ => ?_)
  clear hK K
  refine wpAnyH_take (i := 10) (v := .pointer (some ⟨g, k * 89, none⟩)) rfl (by kernel_rfl) (by kernel_rfl) (by kernel_rfl) (fun _ _ _ h => h) (Or.inl ⟨by rfl, fun z _ => by simp [go_sem, execOp]⟩) hH ?_
  simp only [List.getElem_toArray, List.getElem_cons_succ, List.getElem_cons_zero, Act.put, List.setIfInBounds_toArray, List.set_cons_zero, List.set_cons_succ]
  refine wpAnyH_take (i := 11) (v := .pointer (some ⟨g, k * 89 + 87, none⟩)) rfl (by kernel_rfl) (by kernel_rfl) (by kernel_rfl) (fun _ _ _ h => h) (Or.inl ⟨by rfl, fun z _ => by simp [go_sem, execOp]⟩) hH ?_
  simp only [List.getElem_toArray, List.getElem_cons_succ, List.getElem_cons_zero, Act.put, List.setIfInBounds_toArray, List.set_cons_zero, List.set_cons_succ]
  refine wpAnyH_ready (rs := [12]) (by kernel_rfl) (by simp) (AllReadyH.cons rfl (fun K hK => ?_) AllReadyH.nil)
  go_simp
  refine hK.out _ _ (hH.setCell (Or.inl rfl) _) (fun hH0 => ?_)
  clear hK K hH
  refine wpAnyH_take (i := 13) (v := .pointer (some ⟨g, k * 89, none⟩)) rfl (by kernel_rfl) (by kernel_rfl) (by kernel_rfl) (fun _ _ _ h => h) (Or.inl ⟨by rfl, fun z _ => by simp [go_sem, execOp]⟩) hH0 ?_
  simp only [List.getElem_toArray, List.getElem_cons_succ, List.getElem_cons_zero, Act.put, List.setIfInBounds_toArray, List.set_cons_zero, List.set_cons_succ]
  refine wpAnyH_take (i := 14) (v := .pointer (some ⟨g, k * 89 + 15, none⟩)) rfl (by kernel_rfl) (by kernel_rfl) (by kernel_rfl) (fun _ _ _ h => h) (Or.inl ⟨by rfl, fun z _ => by simp [go_sem, execOp]⟩) hH0 ?_
  simp only [List.getElem_toArray, List.getElem_cons_succ, List.getElem_cons_zero, Act.put, List.setIfInBounds_toArray, List.set_cons_zero, List.set_cons_succ]
  refine wpAnyH_take (i := 15) (v := .pointer (some ⟨g, k * 89 + 15 + 4, none⟩)) rfl (by kernel_rfl) (by kernel_rfl) (by kernel_rfl) (fun _ _ _ h => h) (Or.inl ⟨by rfl, fun z _ => by simp [go_sem, execOp]⟩) hH0 ?_
  simp only [List.getElem_toArray, List.getElem_cons_succ, List.getElem_cons_zero, Act.put, List.setIfInBounds_toArray, List.set_cons_zero, List.set_cons_succ]
  refine wpAnyH_ready (rs := [16]) (by kernel_rfl) (by simp) (AllReadyH.cons rfl (fun K hK => ?_) AllReadyH.nil)
  go_simp
  refine hK.out _ _ (hH0.setCell (Or.inl rfl) _) (fun hH1 => ?_)
  clear hK K hH0
  refine wpAnyH_done (by kernel_rfl) ?_ _
  refine ((?_ : ∀ y, y = ((w.drew.setCell ⟨g, k * 89 + 87, none⟩ (.int .i64 (p.i 88))).setCell ⟨g, k * 89 + 15 + 4, none⟩ (.int .i64 s)) → Exit.then _ _ _ _ y) _ rfl)
  intro w2 hw2
  have H2 := Lib.hid (show Bst w2 bx g b (upd ps k ((p.setI 87 (p.i 88)).setI 19 s)) ss fs by rw [hw2]; exact ((H1.out.below (Below.refl _ _).drew).put (j := 87) (by omega) (rowP_put_87 _ _)).put (j := 19) (by omega) (rowP_put_19 _ _))
  have ho2 : Only (· = g) w w2 := by rw [hw2]; exact hH1
  have HO2 := Lib.hid ((Only.refl (· = g) w).trans ho2)
  clear hH1 hw2 c87 c88 c19 f87 f19
  have hs2 : w2.cell? ⟨gs, 0, none⟩ = some (.int .i64 s) := (ho2.cell (p := ⟨gs, 0, none⟩) lS nS).trans hs
  have x0 : w2.cell? ⟨gx, 0, none⟩ = some (.pointer (some ⟨bx, 0, none⟩)) := (ho2.cell (p := ⟨gx, 0, none⟩) lx ngx).trans x0
  have x1 : w2.cell? ⟨gx, 1, none⟩ = some (.int .i64 k) := (ho2.cell (p := ⟨gx, 1, none⟩) lx ngx).trans x1
  have x2 : w2.cell? ⟨gx, 2, none⟩ = some (.pointer (some ⟨g, k * 89, none⟩)) := (ho2.cell (p := ⟨gx, 2, none⟩) lx ngx).trans x2
  have x3 : w2.cell? ⟨gx, 3, none⟩ = some (.pointer (some ⟨g, k * 89 + 22, none⟩)) := (ho2.cell (p := ⟨gx, 3, none⟩) lx ngx).trans x3
  have x4 : w2.cell? ⟨gx, 4, none⟩ = some (.pointer (some ⟨g, k * 89 + 6, none⟩)) := (ho2.cell (p := ⟨gx, 4, none⟩) lx ngx).trans x4
  have lx := Nat.lt_of_lt_of_le lx ho2.size
  clear HX
  rcases hs4 with rfl | rfl | rfl | rfl
  · have c28 : w2.cell? ⟨g, k * 89 + 22 + 6, none⟩ = some (.bool (((p.setI 87 (p.i 88)).setI 19 0).b 28)) := (H2.out.p.cell hk (j := 28) (by omega)).trans (by rw [upd_same]; rfl)
    have c26 : w2.cell? ⟨g, k * 89 + 22 + 4, none⟩ = some (.bool (((p.setI 87 (p.i 88)).setI 19 0).b 26)) := (H2.out.p.cell hk (j := 26) (by omega)).trans (by rw [upd_same]; rfl)
    have f28 : w2.frozen? ⟨g, k * 89 + 22 + 6, none⟩ = false := H2.out.p.free _
    have f26 : w2.frozen? ⟨g, k * 89 + 22 + 4, none⟩ = false := H2.out.p.free _
    go_wp2_with fail
    refine wp_region_held_drew (S := fun w' => Only (· = g) w2 w') (by kernel_rfl) (Only.refl _ _).drew (fun hH => ?_)
    refine wpAnyH_take (i := 0) (v := .pointer (some ⟨gx, 3, none⟩)) rfl (by kernel_rfl) (by kernel_rfl) (by kernel_rfl) (fun _ _ _ h => h) (Or.inl ⟨by rfl, fun z _ => by simp [go_sem, execOp]⟩) hH ?_
    simp only [List.getElem_toArray, List.getElem_cons_succ, List.getElem_cons_zero, Act.put, List.setIfInBounds_toArray, List.set_cons_zero, List.set_cons_succ]
    refine wpAnyH_take (i := 1) (v := .pointer (some ⟨g, k * 89 + 22, none⟩)) rfl (by kernel_rfl) (by kernel_rfl) (by kernel_rfl) (fun _ _ _ h => h) (Or.inl ⟨by rfl, fun z hz => by simp [go_sem, execOp, (show z.cell? ⟨gx, 3, none⟩ = some (.pointer (some ⟨g, k * 89 + 22, none⟩)) from (hz.cell (p := ⟨gx, 3, none⟩) lx (by show ¬ gx = g; exact ngx)).trans x3)]⟩) hH ?_
    simp only [List.getElem_toArray, List.getElem_cons_succ, List.getElem_cons_zero, Act.put, List.setIfInBounds_toArray, List.set_cons_zero, List.set_cons_succ]
    refine wpAnyH_take (i := 2) (v := .pointer (some ⟨gx, 3, none⟩)) rfl (by kernel_rfl) (by kernel_rfl) (by kernel_rfl) (fun _ _ _ h => h) (Or.inl ⟨by rfl, fun z _ => by simp [go_sem, execOp]⟩) hH ?_
    simp only [List.getElem_toArray, List.getElem_cons_succ, List.getElem_cons_zero, Act.put, List.setIfInBounds_toArray, List.set_cons_zero, List.set_cons_succ]
    refine wpAnyH_take (i := 3) (v := .pointer (some ⟨g, k * 89 + 22, none⟩)) rfl (by kernel_rfl) (by kernel_rfl) (by kernel_rfl) (fun _ _ _ h => h) (Or.inl ⟨by rfl, fun z hz => by simp [go_sem, execOp, (show z.cell? ⟨gx, 3, none⟩ = some (.pointer (some ⟨g, k * 89 + 22, none⟩)) from (hz.cell (p := ⟨gx, 3, none⟩) lx (by show ¬ gx = g; exact ngx)).trans x3)]⟩) hH ?_
    simp only [List.getElem_toArray, List.getElem_cons_succ, List.getElem_cons_zero, Act.put, List.setIfInBounds_toArray, List.set_cons_zero, List.set_cons_succ]
    refine wpAnyH_take (i := 4) (v := .pointer (some ⟨g, k * 89 + 22, none⟩)) rfl (by kernel_rfl) (by kernel_rfl) (by kernel_rfl) (fun _ _ _ h => h) (Or.inl ⟨by rfl, fun z _ => by simp [go_sem, execOp]⟩) hH ?_
    simp only [List.getElem_toArray, List.getElem_cons_succ, List.getElem_cons_zero, Act.put, List.setIfInBounds_toArray, List.set_cons_zero, List.set_cons_succ]
    refine wpAnyH_take (i := 5) (v := .pointer (some ⟨g, k * 89 + 22 + 6, none⟩)) rfl (by kernel_rfl) (by kernel_rfl) (by kernel_rfl) (fun _ _ _ h => h) (Or.inl ⟨by rfl, fun z _ => by simp [go_sem, execOp]⟩) hH ?_
    simp only [List.getElem_toArray, List.getElem_cons_succ, List.getElem_cons_zero, Act.put, List.setIfInBounds_toArray, List.set_cons_zero, List.set_cons_succ]
    refine wpAnyH_ready (rs := [6]) (by kernel_rfl) (by simp) (AllReadyH.cons rfl (fun K hK => ?_) AllReadyH.nil)
    go_simp
    refine hK.out _ _ (hH.setCell (Or.inl rfl) _) (fun hH0 => ?_)
    clear hK K hH
    refine wpAnyH_take (i := 7) (v := .pointer (some ⟨g, k * 89 + 22, none⟩)) rfl (by kernel_rfl) (by kernel_rfl) (by kernel_rfl) (fun _ _ _ h => h) (Or.inl ⟨by rfl, fun z _ => by simp [go_sem, execOp]⟩) hH0 ?_
    simp only [List.getElem_toArray, List.getElem_cons_succ, List.getElem_cons_zero, Act.put, List.setIfInBounds_toArray, List.set_cons_zero, List.set_cons_succ]
    refine wpAnyH_take (i := 8) (v := .pointer (some ⟨g, k * 89 + 22 + 4, none⟩)) rfl (by kernel_rfl) (by kernel_rfl) (by kernel_rfl) (fun _ _ _ h => h) (Or.inl ⟨by rfl, fun z _ => by simp [go_sem, execOp]⟩) hH0 ?_
    simp only [List.getElem_toArray, List.getElem_cons_succ, List.getElem_cons_zero, Act.put, List.setIfInBounds_toArray, List.set_cons_zero, List.set_cons_succ]
    refine wpAnyH_ready (rs := [9]) (by kernel_rfl) (by simp) (AllReadyH.cons rfl (fun K hK => ?_) AllReadyH.nil)
    go_simp
    refine hK.out _ _ (hH0.setCell (Or.inl rfl) _) (fun hH1 => ?_)
    clear hK K hH0
    refine wpAnyH_done (by kernel_rfl) ?_ _
    clear hH1
    go_wp2_with fail
    go_end0
    exact ⟨rfl, ((H2.out.below (Below.refl _ _).drew).put (j := 28) (by omega) (rowP_put_28 _ _)).put (j := 26) (by omega) (rowP_put_26 _ _), ((HO2.out.drew).setCell (Or.inl rfl) _).setCell (Or.inl rfl) _⟩
  · have b5 : w2.cell? ⟨bx, 2 + 3, none⟩ = some (.int .i64 (b.r.i 5)) := cells_of H2.out.h 5
    have lbx := H2.out.lt
    have c12 : w2.cell? ⟨g, k * 89 + 6 + 6, none⟩ = some (.int .i64 (((p.setI 87 (p.i 88)).setI 19 2).i 12)) := (H2.out.p.cell hk (j := 12) (by omega)).trans (by rw [upd_same]; rfl)
    have f12 : w2.frozen? ⟨g, k * 89 + 6 + 6, none⟩ = false := H2.out.p.free _
    go_wp2_with fail
    refine wp_region_held_drew (S := fun w' => Only (· = g) w2 w') (by kernel_rfl) (Only.refl _ _).drew (fun hH => ?_)
    refine wpAnyH_take (i := 0) (v := .pointer (some ⟨gx, 4, none⟩)) rfl (by kernel_rfl) (by kernel_rfl) (by kernel_rfl) (fun _ _ _ h => h) (Or.inl ⟨by rfl, fun z _ => by simp [go_sem, execOp]⟩) hH ?_
    simp only [List.getElem_toArray, List.getElem_cons_succ, List.getElem_cons_zero, Act.put, List.setIfInBounds_toArray, List.set_cons_zero, List.set_cons_succ]
    refine wpAnyH_take (i := 1) (v := .pointer (some ⟨g, k * 89 + 6, none⟩)) rfl (by kernel_rfl) (by kernel_rfl) (by kernel_rfl) (fun _ _ _ h => h) (Or.inl ⟨by rfl, fun z hz => by simp [go_sem, execOp, (show z.cell? ⟨gx, 4, none⟩ = some (.pointer (some ⟨g, k * 89 + 6, none⟩)) from (hz.cell (p := ⟨gx, 4, none⟩) lx (by show ¬ gx = g; exact ngx)).trans x4)]⟩) hH ?_
    simp only [List.getElem_toArray, List.getElem_cons_succ, List.getElem_cons_zero, Act.put, List.setIfInBounds_toArray, List.set_cons_zero, List.set_cons_succ]
    refine wpAnyH_take (i := 2) (v := .pointer (some ⟨gx, 0, none⟩)) rfl (by kernel_rfl) (by kernel_rfl) (by kernel_rfl) (fun _ _ _ h => h) (Or.inl ⟨by rfl, fun z _ => by simp [go_sem, execOp]⟩) hH ?_
    simp only [List.getElem_toArray, List.getElem_cons_succ, List.getElem_cons_zero, Act.put, List.setIfInBounds_toArray, List.set_cons_zero, List.set_cons_succ]
    refine wpAnyH_take (i := 3) (v := .pointer (some ⟨bx, 0, none⟩)) rfl (by kernel_rfl) (by kernel_rfl) (by kernel_rfl) (fun _ _ _ h => h) (Or.inl ⟨by rfl, fun z hz => by simp [go_sem, execOp, (show z.cell? ⟨gx, 0, none⟩ = some (.pointer (some ⟨bx, 0, none⟩)) from (hz.cell (p := ⟨gx, 0, none⟩) lx (by show ¬ gx = g; exact ngx)).trans x0)]⟩) hH ?_
    simp only [List.getElem_toArray, List.getElem_cons_succ, List.getElem_cons_zero, Act.put, List.setIfInBounds_toArray, List.set_cons_zero, List.set_cons_succ]
    refine wpAnyH_take (i := 4) (v := .pointer (some ⟨bx, 0, none⟩)) rfl (by kernel_rfl) (by kernel_rfl) (by kernel_rfl) (fun _ _ _ h => h) (Or.inl ⟨by rfl, fun z _ => by simp [go_sem, execOp]⟩) hH ?_
    simp only [List.getElem_toArray, List.getElem_cons_succ, List.getElem_cons_zero, Act.put, List.setIfInBounds_toArray, List.set_cons_zero, List.set_cons_succ]
    refine wpAnyH_take (i := 5) (v := .pointer (some ⟨bx, 2, none⟩)) rfl (by kernel_rfl) (by kernel_rfl) (by kernel_rfl) (fun _ _ _ h => h) (Or.inl ⟨by rfl, fun z _ => by simp [go_sem, execOp]⟩) hH ?_
    simp only [List.getElem_toArray, List.getElem_cons_succ, List.getElem_cons_zero, Act.put, List.setIfInBounds_toArray, List.set_cons_zero, List.set_cons_succ]
    refine wpAnyH_take (i := 6) (v := .pointer (some ⟨bx, 2 + 3, none⟩)) rfl (by kernel_rfl) (by kernel_rfl) (by kernel_rfl) (fun _ _ _ h => h) (Or.inl ⟨by rfl, fun z _ => by simp [go_sem, execOp]⟩) hH ?_
    simp only [List.getElem_toArray, List.getElem_cons_succ, List.getElem_cons_zero, Act.put, List.setIfInBounds_toArray, List.set_cons_zero, List.set_cons_succ]
    refine wpAnyH_take (i := 7) (v := .int .i64 (b.r.i 5)) rfl (by kernel_rfl) (by kernel_rfl) (by kernel_rfl) (fun _ _ _ h => h) (Or.inl ⟨by rfl, fun z hz => by simp [go_sem, execOp, (show z.cell? ⟨bx, 2 + 3, none⟩ = some (.int .i64 (b.r.i 5)) from (hz.cell (p := ⟨bx, 2 + 3, none⟩) lbx (by show ¬ bx = g; exact nbg)).trans b5)]⟩) hH ?_
    simp only [List.getElem_toArray, List.getElem_cons_succ, List.getElem_cons_zero, Act.put, List.setIfInBounds_toArray, List.set_cons_zero, List.set_cons_succ]
    refine wpAnyH_take (i := 8) (v := .pointer (some ⟨g, k * 89 + 6, none⟩)) rfl (by kernel_rfl) (by kernel_rfl) (by kernel_rfl) (fun _ _ _ h => h) (Or.inl ⟨by rfl, fun z _ => by simp [go_sem, execOp]⟩) hH ?_
    simp only [List.getElem_toArray, List.getElem_cons_succ, List.getElem_cons_zero, Act.put, List.setIfInBounds_toArray, List.set_cons_zero, List.set_cons_succ]
    refine wpAnyH_take (i := 9) (v := .pointer (some ⟨g, k * 89 + 6 + 6, none⟩)) rfl (by kernel_rfl) (by kernel_rfl) (by kernel_rfl) (fun _ _ _ h => h) (Or.inl ⟨by rfl, fun z _ => by simp [go_sem, execOp]⟩) hH ?_
    simp only [List.getElem_toArray, List.getElem_cons_succ, List.getElem_cons_zero, Act.put, List.setIfInBounds_toArray, List.set_cons_zero, List.set_cons_succ]
    refine wpAnyH_ready (rs := [10]) (by kernel_rfl) (by simp) (AllReadyH.cons rfl (fun K hK => ?_) AllReadyH.nil)
    go_simp
    refine hK.out _ _ (hH.setCell (Or.inl rfl) _) (fun hH0 => ?_)
    clear hK K hH
    refine wpAnyH_done (by kernel_rfl) ?_ _
    clear hH0
    go_wp2_with fail
    go_end0
    exact ⟨rfl, (H2.out.below (Below.refl _ _).drew).put (j := 12) (by omega) (rowP_put_12 _ _), (HO2.out.drew).setCell (Or.inl rfl) _⟩
  · go_wp2_with fail
    go_end0
    exact ⟨rfl, H2.out, HO2.out⟩
  · have c28 : w2.cell? ⟨g, k * 89 + 22 + 6, none⟩ = some (.bool (((p.setI 87 (p.i 88)).setI 19 4).b 28)) := (H2.out.p.cell hk (j := 28) (by omega)).trans (by rw [upd_same]; rfl)
    have c26 : w2.cell? ⟨g, k * 89 + 22 + 4, none⟩ = some (.bool (((p.setI 87 (p.i 88)).setI 19 4).b 26)) := (H2.out.p.cell hk (j := 26) (by omega)).trans (by rw [upd_same]; rfl)
    have f28 : w2.frozen? ⟨g, k * 89 + 22 + 6, none⟩ = false := H2.out.p.free _
    have f26 : w2.frozen? ⟨g, k * 89 + 22 + 4, none⟩ = false := H2.out.p.free _
    go_wp2_with fail
    refine wp_region_held_drew (S := fun w' => Only (· = g) w2 w') (by kernel_rfl) (Only.refl _ _).drew (fun hH => ?_)
    refine wpAnyH_take (i := 0) (v := .pointer (some ⟨gx, 3, none⟩)) rfl (by kernel_rfl) (by kernel_rfl) (by kernel_rfl) (fun _ _ _ h => h) (Or.inl ⟨by rfl, fun z _ => by simp [go_sem, execOp]⟩) hH ?_
    simp only [List.getElem_toArray, List.getElem_cons_succ, List.getElem_cons_zero, Act.put, List.setIfInBounds_toArray, List.set_cons_zero, List.set_cons_succ]
    refine wpAnyH_take (i := 1) (v := .pointer (some ⟨g, k * 89 + 22, none⟩)) rfl (by kernel_rfl) (by kernel_rfl) (by kernel_rfl) (fun _ _ _ h => h) (Or.inl ⟨by rfl, fun z hz => by simp [go_sem, execOp, (show z.cell? ⟨gx, 3, none⟩ = some (.pointer (some ⟨g, k * 89 + 22, none⟩)) from (hz.cell (p := ⟨gx, 3, none⟩) lx (by show ¬ gx = g; exact ngx)).trans x3)]⟩) hH ?_
    simp only [List.getElem_toArray, List.getElem_cons_succ, List.getElem_cons_zero, Act.put, List.setIfInBounds_toArray, List.set_cons_zero, List.set_cons_succ]
    refine wpAnyH_take (i := 2) (v := .pointer (some ⟨gx, 3, none⟩)) rfl (by kernel_rfl) (by kernel_rfl) (by kernel_rfl) (fun _ _ _ h => h) (Or.inl ⟨by rfl, fun z _ => by simp [go_sem, execOp]⟩) hH ?_
    simp only [List.getElem_toArray, List.getElem_cons_succ, List.getElem_cons_zero, Act.put, List.setIfInBounds_toArray, List.set_cons_zero, List.set_cons_succ]
    refine wpAnyH_take (i := 3) (v := .pointer (some ⟨g, k * 89 + 22, none⟩)) rfl (by kernel_rfl) (by kernel_rfl) (by kernel_rfl) (fun _ _ _ h => h) (Or.inl ⟨by rfl, fun z hz => by simp [go_sem, execOp, (show z.cell? ⟨gx, 3, none⟩ = some (.pointer (some ⟨g, k * 89 + 22, none⟩)) from (hz.cell (p := ⟨gx, 3, none⟩) lx (by show ¬ gx = g; exact ngx)).trans x3)]⟩) hH ?_
    simp only [List.getElem_toArray, List.getElem_cons_succ, List.getElem_cons_zero, Act.put, List.setIfInBounds_toArray, List.set_cons_zero, List.set_cons_succ]
    refine wpAnyH_take (i := 4) (v := .pointer (some ⟨g, k * 89 + 22, none⟩)) rfl (by kernel_rfl) (by kernel_rfl) (by kernel_rfl) (fun _ _ _ h => h) (Or.inl ⟨by rfl, fun z _ => by simp [go_sem, execOp]⟩) hH ?_
    simp only [List.getElem_toArray, List.getElem_cons_succ, List.getElem_cons_zero, Act.put, List.setIfInBounds_toArray, List.set_cons_zero, List.set_cons_succ]
    refine wpAnyH_take (i := 5) (v := .pointer (some ⟨g, k * 89 + 22 + 6, none⟩)) rfl (by kernel_rfl) (by kernel_rfl) (by kernel_rfl) (fun _ _ _ h => h) (Or.inl ⟨by rfl, fun z _ => by simp [go_sem, execOp]⟩) hH ?_
    simp only [List.getElem_toArray, List.getElem_cons_succ, List.getElem_cons_zero, Act.put, List.setIfInBounds_toArray, List.set_cons_zero, List.set_cons_succ]
    refine wpAnyH_ready (rs := [6]) (by kernel_rfl) (by simp) (AllReadyH.cons rfl (fun K hK => ?_) AllReadyH.nil)
    go_simp
    refine hK.out _ _ (hH.setCell (Or.inl rfl) _) (fun hH0 => ?_)
    clear hK K hH
    refine wpAnyH_take (i := 7) (v := .pointer (some ⟨g, k * 89 + 22, none⟩)) rfl (by kernel_rfl) (by kernel_rfl) (by kernel_rfl) (fun _ _ _ h => h) (Or.inl ⟨by rfl, fun z _ => by simp [go_sem, execOp]⟩) hH0 ?_
    simp only [List.getElem_toArray, List.getElem_cons_succ, List.getElem_cons_zero, Act.put, List.setIfInBounds_toArray, List.set_cons_zero, List.set_cons_succ]
    refine wpAnyH_take (i := 8) (v := .pointer (some ⟨g, k * 89 + 22 + 4, none⟩)) rfl (by kernel_rfl) (by kernel_rfl) (by kernel_rfl) (fun _ _ _ h => h) (Or.inl ⟨by rfl, fun z _ => by simp [go_sem, execOp]⟩) hH0 ?_
    simp only [List.getElem_toArray, List.getElem_cons_succ, List.getElem_cons_zero, Act.put, List.setIfInBounds_toArray, List.set_cons_zero, List.set_cons_succ]
    refine wpAnyH_ready (rs := [9]) (by kernel_rfl) (by simp) (AllReadyH.cons rfl (fun K hK => ?_) AllReadyH.nil)
    go_simp
    refine hK.out _ _ (hH0.setCell (Or.inl rfl) _) (fun hH1 => ?_)
    clear hK K hH0
    refine wpAnyH_done (by kernel_rfl) ?_ _
    clear hH1
    go_wp2_with fail
    go_end0
    exact ⟨rfl, ((H2.out.below (Below.refl _ _).drew).put (j := 28) (by omega) (rowP_put_28 _ _)).put (j := 26) (by omega) (rowP_put_26 _ _), ((HO2.out.drew).setCell (Or.inl rfl) _).setCell (Or.inl rfl) _⟩
set_option maxRecDepth 100000 in
set_option maxHeartbeats 4000000 in
theorem rest1_any (w : World) (bx g k : Nat) (b : Bri) (ps ss : Nat → Rec) (fs : Nat → Int) (p : Rec) (h : Bst w bx g b (upd ps k p) ss fs) (hk : k < b.n) (gx : Nat) (hX : w.heap[gx]? = some (.cells #[.pointer (some ⟨bx, 0, none⟩), .int .i64 k, .pointer (some ⟨g, k * 89, none⟩), .pointer (some ⟨g, k * 89 + 22, none⟩), .pointer (some ⟨g, k * 89 + 6, none⟩)] 57 (0, 0))) (ngx : ¬ gx = g) (gs : Nat) (s : Int) (hs : w.cell? ⟨gs, 0, none⟩ = some (.int .i64 s)) (nS : ¬ gs = g) (gd : Nat) (fd : Int) (hd : w.cell? ⟨gd, 0, none⟩ = some (.int .i64 fd)) (nD : ¬ gd = g) : Calls Try.prog 39 #[.pointer (some ⟨gd, 0, none⟩), .pointer (some ⟨gx, 0, none⟩), .pointer (some ⟨gs, 0, none⟩)] w fun e w' => e = .returned (.tuple #[]) ∧ Bst w' bx g b (upd ps k (restF s fd p)) ss fs ∧ Only (· = g) w w' := by
  have lx := (Array.getElem?_eq_some_iff.1 hX).1
  have HX := Lib.hid hX
  have x0 : w.cell? ⟨gx, 0, none⟩ = some (.pointer (some ⟨bx, 0, none⟩)) := cells_of HX.out 0
  have x1 : w.cell? ⟨gx, 1, none⟩ = some (.int .i64 k) := cells_of HX.out 1
  have x2 : w.cell? ⟨gx, 2, none⟩ = some (.pointer (some ⟨g, k * 89, none⟩)) := cells_of HX.out 2
  have x3 : w.cell? ⟨gx, 3, none⟩ = some (.pointer (some ⟨g, k * 89 + 22, none⟩)) := cells_of HX.out 3
  have x4 : w.cell? ⟨gx, 4, none⟩ = some (.pointer (some ⟨g, k * 89 + 6, none⟩)) := cells_of HX.out 4
  clear hX
  have lS := cell_lt hs
  have lD := cell_lt hd
  have qx : ¬ g = gx := fun e => ngx e.symm
  have qs : ¬ g = gs := fun e => nS e.symm
  have qd : ¬ g = gd := fun e => nD e.symm
  have H1 := Lib.hid h
  have hgl := h.p.lt
  have nbg : ¬ bx = g := h.ne
  have ngb : ¬ g = bx := fun e => h.ne e.symm
  clear h
  go_enter Try.func39, Try.ntmps39
  have c7 : w.cell? ⟨g, k * 89 + 6 + 1, none⟩ = some (.int .i64 (p.i 7)) := (H1.out.p.cell hk (j := 7) (by omega)).trans (by rw [upd_same]; rfl)
  have c12 : w.cell? ⟨g, k * 89 + 6 + 6, none⟩ = some (.int .i64 (p.i 12)) := (H1.out.p.cell hk (j := 12) (by omega)).trans (by rw [upd_same]; rfl)
  have c47 : w.cell? ⟨g, k * 89 + 22 + 25, none⟩ = some (.bool (p.b 47)) := (H1.out.p.cell hk (j := 47) (by omega)).trans (by rw [upd_same]; rfl)
  have c46 : w.cell? ⟨g, k * 89 + 22 + 24, none⟩ = some (.bool (p.b 46)) := (H1.out.p.cell hk (j := 46) (by omega)).trans (by rw [upd_same]; rfl)
  have c42 : w.cell? ⟨g, k * 89 + 22 + 20, none⟩ = some (.bool (p.b 42)) := (H1.out.p.cell hk (j := 42) (by omega)).trans (by rw [upd_same]; rfl)
  have c19 : w.cell? ⟨g, k * 89 + 15 + 4, none⟩ = some (.int .i64 (p.i 19)) := (H1.out.p.cell hk (j := 19) (by omega)).trans (by rw [upd_same]; rfl)
  have f7 : w.frozen? ⟨g, k * 89 + 6 + 1, none⟩ = false := H1.out.p.free _
  have f12 : w.frozen? ⟨g, k * 89 + 6 + 6, none⟩ = false := H1.out.p.free _
  have f47 : w.frozen? ⟨g, k * 89 + 22 + 25, none⟩ = false := H1.out.p.free _
  have f46 : w.frozen? ⟨g, k * 89 + 22 + 24, none⟩ = false := H1.out.p.free _
  have f42 : w.frozen? ⟨g, k * 89 + 22 + 20, none⟩ = false := H1.out.p.free _
  have f19 : w.frozen? ⟨g, k * 89 + 15 + 4, none⟩ = false := H1.out.p.free _
  go_wp2_with fail
  refine wp_region_held_drew (S := fun w' => Only (· = g) w w') (by kernel_rfl) (Only.refl _ _).drew (fun hH => ?_)
  refine wpAnyH_take (i := 0) (v := .pointer (some ⟨gx, 4, none⟩)) rfl (by kernel_rfl) (by kernel_rfl) (by kernel_rfl) (fun _ _ _ h => h) (Or.inl ⟨by rfl, fun z _ => by simp [go_sem, execOp]⟩) hH ?_
  simp only [List.getElem_toArray, List.getElem_cons_succ, List.getElem_cons_zero, Act.put, List.setIfInBounds_toArray, List.set_cons_zero, List.set_cons_succ]
  refine wpAnyH_take (i := 1) (v := .pointer (some ⟨g, k * 89 + 6, none⟩)) rfl (by kernel_rfl) (by kernel_rfl) (by kernel_rfl) (fun _ _ _ h => h) (Or.inl ⟨by rfl, fun z hz => by simp [go_sem, execOp, (show z.cell? ⟨gx, 4, none⟩ = some (.pointer (some ⟨g, k * 89 + 6, none⟩)) from (hz.cell (p := ⟨gx, 4, none⟩) lx (by show ¬ gx = g; exact ngx)).trans x4)]⟩) hH ?_
  simp only [List.getElem_toArray, List.getElem_cons_succ, List.getElem_cons_zero, Act.put, List.setIfInBounds_toArray, List.set_cons_zero, List.set_cons_succ]
  refine wpAnyH_take (i := 2) (v := .pointer (some ⟨gx, 4, none⟩)) rfl (by kernel_rfl) (by kernel_rfl) (by kernel_rfl) (fun _ _ _ h => h) (Or.inl ⟨by rfl, fun z _ => by simp [go_sem, execOp]⟩) hH ?_
  simp only [List.getElem_toArray, List.getElem_cons_succ, List.getElem_cons_zero, Act.put, List.setIfInBounds_toArray, List.set_cons_zero, List.set_cons_succ]
  refine wpAnyH_take (i := 3) (v := .pointer (some ⟨g, k * 89 + 6, none⟩)) rfl (by kernel_rfl) (by kernel_rfl) (by kernel_rfl) (fun _ _ _ h => h) (Or.inl ⟨by rfl, fun z hz => by simp [go_sem, execOp, (show z.cell? ⟨gx, 4, none⟩ = some (.pointer (some ⟨g, k * 89 + 6, none⟩)) from (hz.cell (p := ⟨gx, 4, none⟩) lx (by show ¬ gx = g; exact ngx)).trans x4)]⟩) hH ?_
  simp only [List.getElem_toArray, List.getElem_cons_succ, List.getElem_cons_zero, Act.put, List.setIfInBounds_toArray, List.set_cons_zero, List.set_cons_succ]
  refine wpAnyH_take (i := 4) (v := .int .i64 fd) rfl (by kernel_rfl) (by kernel_rfl) (by kernel_rfl) (fun _ _ _ h => h) (Or.inl ⟨by rfl, fun z hz => by simp [go_sem, execOp, (show z.cell? ⟨gd, 0, none⟩ = some (.int .i64 fd) from (hz.cell (p := ⟨gd, 0, none⟩) lD (by show ¬ gd = g; exact nD)).trans hd)]⟩) hH ?_
  simp only [List.getElem_toArray, List.getElem_cons_succ, List.getElem_cons_zero, Act.put, List.setIfInBounds_toArray, List.set_cons_zero, List.set_cons_succ]
  refine wpAnyH_take (i := 5) (v := .pointer (some ⟨g, k * 89 + 6, none⟩)) rfl (by kernel_rfl) (by kernel_rfl) (by kernel_rfl) (fun _ _ _ h => h) (Or.inl ⟨by rfl, fun z _ => by simp [go_sem, execOp]⟩) hH ?_
  simp only [List.getElem_toArray, List.getElem_cons_succ, List.getElem_cons_zero, Act.put, List.setIfInBounds_toArray, List.set_cons_zero, List.set_cons_succ]
  refine wpAnyH_take (i := 6) (v := .pointer (some ⟨g, k * 89 + 6 + 1, none⟩)) rfl (by kernel_rfl) (by kernel_rfl) (by kernel_rfl) (fun _ _ _ h => h) (Or.inl ⟨by rfl, fun z _ => by simp [go_sem, execOp]⟩) hH ?_
  simp only [List.getElem_toArray, List.getElem_cons_succ, List.getElem_cons_zero, Act.put, List.setIfInBounds_toArray, List.set_cons_zero, List.set_cons_succ]
  refine wpAnyH_ready (rs := [7]) (by kernel_rfl) (by simp) (AllReadyH.cons rfl (fun K hK => ?_) AllReadyH.nil)
  go_simp
  refine hK.out _ _ (hH.setCell (Or.inl rfl) _) (fun hH0 => ?_)
  clear hK K hH
  refine wpAnyH_take (i := 8) (v := .pointer (some ⟨g, k * 89 + 6, none⟩)) rfl (by kernel_rfl) (by kernel_rfl) (by kernel_rfl) (fun _ _ _ h => h) (Or.inl ⟨by rfl, fun z _ => by simp [go_sem, execOp]⟩) hH0 ?_
  simp only [List.getElem_toArray, List.getElem_cons_succ, List.getElem_cons_zero, Act.put, List.setIfInBounds_toArray, List.set_cons_zero, List.set_cons_succ]
  refine wpAnyH_take (i := 9) (v := .pointer (some ⟨g, k * 89 + 6 + 6, none⟩)) rfl (by kernel_rfl) (by kernel_rfl) (by kernel_rfl) (fun _ _ _ h => h) (Or.inl ⟨by rfl, fun z _ => by simp [go_sem, execOp]⟩) hH0 ?_
  simp only [List.getElem_toArray, List.getElem_cons_succ, List.getElem_cons_zero, Act.put, List.setIfInBounds_toArray, List.set_cons_zero, List.set_cons_succ]
  refine wpAnyH_ready (rs := [10]) (by kernel_rfl) (by simp) (AllReadyH.cons rfl (fun K hK => ?_) AllReadyH.nil)
  go_simp
  refine hK.out _ _ (hH0.setCell (Or.inl rfl) _) (fun hH1 => ?_)
  clear hK K hH0
  refine wpAnyH_done (by kernel_rfl) ?_ _
  refine ((?_ : ∀ y, y = ((w.drew.setCell ⟨g, k * 89 + 6 + 1, none⟩ (.int .i64 fd)).setCell ⟨g, k * 89 + 6 + 6, none⟩ (.int .i64 0)) → Exit.then _ _ _ _ y) _ rfl)
  intro w2 hw2
  have H2 := Lib.hid (show Bst w2 bx g b (upd ps k ((p.setI 7 fd).setI 12 0)) ss fs by rw [hw2]; exact ((H1.out.below (Below.refl _ _).drew).put (j := 7) (by omega) (rowP_put_7 _ _)).put (j := 12) (by omega) (rowP_put_12 _ _))
  have ho2 : Only (· = g) w w2 := by rw [hw2]; exact hH1
  have HO2 := Lib.hid ((Only.refl (· = g) w).trans ho2)
  clear hH1 hw2 c7 c12 f7 f12 c47 c46 c42 c19 f47 f46 f42 f19
  have hs2 : w2.cell? ⟨gs, 0, none⟩ = some (.int .i64 s) := (ho2.cell (p := ⟨gs, 0, none⟩) lS nS).trans hs
  have x0 : w2.cell? ⟨gx, 0, none⟩ = some (.pointer (some ⟨bx, 0, none⟩)) := (ho2.cell (p := ⟨gx, 0, none⟩) lx ngx).trans x0
  have x1 : w2.cell? ⟨gx, 1, none⟩ = some (.int .i64 k) := (ho2.cell (p := ⟨gx, 1, none⟩) lx ngx).trans x1
  have x2 : w2.cell? ⟨gx, 2, none⟩ = some (.pointer (some ⟨g, k * 89, none⟩)) := (ho2.cell (p := ⟨gx, 2, none⟩) lx ngx).trans x2
  have x3 : w2.cell? ⟨gx, 3, none⟩ = some (.pointer (some ⟨g, k * 89 + 22, none⟩)) := (ho2.cell (p := ⟨gx, 3, none⟩) lx ngx).trans x3
  have x4 : w2.cell? ⟨gx, 4, none⟩ = some (.pointer (some ⟨g, k * 89 + 6, none⟩)) := (ho2.cell (p := ⟨gx, 4, none⟩) lx ngx).trans x4
  have lx := Nat.lt_of_lt_of_le lx ho2.size
  clear HX
  go_wp2_with fail
  have c47 : w2.cell? ⟨g, k * 89 + 22 + 25, none⟩ = some (.bool (((p.setI 7 fd).setI 12 0).b 47)) := (H2.out.p.cell hk (j := 47) (by omega)).trans (by rw [upd_same]; rfl)
  have c46 : w2.cell? ⟨g, k * 89 + 22 + 24, none⟩ = some (.bool (((p.setI 7 fd).setI 12 0).b 46)) := (H2.out.p.cell hk (j := 46) (by omega)).trans (by rw [upd_same]; rfl)
  have c42 : w2.cell? ⟨g, k * 89 + 22 + 20, none⟩ = some (.bool (((p.setI 7 fd).setI 12 0).b 42)) := (H2.out.p.cell hk (j := 42) (by omega)).trans (by rw [upd_same]; rfl)
  have f47 : w2.frozen? ⟨g, k * 89 + 22 + 25, none⟩ = false := H2.out.p.free _
  have f46 : w2.frozen? ⟨g, k * 89 + 22 + 24, none⟩ = false := H2.out.p.free _
  have f42 : w2.frozen? ⟨g, k * 89 + 22 + 20, none⟩ = false := H2.out.p.free _
  refine wp_region_held_drew (S := fun w' => Only (· = g) w2 w') (by kernel_rfl) (Only.refl _ _).drew (fun hH => ?_)
  refine wpAnyH_take (i := 0) (v := .pointer (some ⟨gx, 3, none⟩)) rfl (by kernel_rfl) (by kernel_rfl) (by kernel_rfl) (fun _ _ _ h => h) (Or.inl ⟨by rfl, fun z _ => by simp [go_sem, execOp]⟩) hH ?_
  simp only [List.getElem_toArray, List.getElem_cons_succ, List.getElem_cons_zero, Act.put, List.setIfInBounds_toArray, List.set_cons_zero, List.set_cons_succ]
  refine wpAnyH_take (i := 1) (v := .pointer (some ⟨g, k * 89 + 22, none⟩)) rfl (by kernel_rfl) (by kernel_rfl) (by kernel_rfl) (fun _ _ _ h => h) (Or.inl ⟨by rfl, fun z hz => by simp [go_sem, execOp, (show z.cell? ⟨gx, 3, none⟩ = some (.pointer (some ⟨g, k * 89 + 22, none⟩)) from (hz.cell (p := ⟨gx, 3, none⟩) lx (by show ¬ gx = g; exact ngx)).trans x3)]⟩) hH ?_
  simp only [List.getElem_toArray, List.getElem_cons_succ, List.getElem_cons_zero, Act.put, List.setIfInBounds_toArray, List.set_cons_zero, List.set_cons_succ]
  refine wpAnyH_take (i := 2) (v := .pointer (some ⟨gx, 3, none⟩)) rfl (by kernel_rfl) (by kernel_rfl) (by kernel_rfl) (fun _ _ _ h => h) (Or.inl ⟨by rfl, fun z _ => by simp [go_sem, execOp]⟩) hH ?_
  simp only [List.getElem_toArray, List.getElem_cons_succ, List.getElem_cons_zero, Act.put, List.setIfInBounds_toArray, List.set_cons_zero, List.set_cons_succ]
  refine wpAnyH_take (i := 3) (v := .pointer (some ⟨g, k * 89 + 22, none⟩)) rfl (by kernel_rfl) (by kernel_rfl) (by kernel_rfl) (fun _ _ _ h => h) (Or.inl ⟨by rfl, fun z hz => by simp [go_sem, execOp, (show z.cell? ⟨gx, 3, none⟩ = some (.pointer (some ⟨g, k * 89 + 22, none⟩)) from (hz.cell (p := ⟨gx, 3, none⟩) lx (by show ¬ gx = g; exact ngx)).trans x3)]⟩) hH ?_
  simp only [List.getElem_toArray, List.getElem_cons_succ, List.getElem_cons_zero, Act.put, List.setIfInBounds_toArray, List.set_cons_zero, List.set_cons_succ]
  refine wpAnyH_take (i := 4) (v := .pointer (some ⟨gx, 3, none⟩)) rfl (by kernel_rfl) (by kernel_rfl) (by kernel_rfl) (fun _ _ _ h => h) (Or.inl ⟨by rfl, fun z _ => by simp [go_sem, execOp]⟩) hH ?_
  simp only [List.getElem_toArray, List.getElem_cons_succ, List.getElem_cons_zero, Act.put, List.setIfInBounds_toArray, List.set_cons_zero, List.set_cons_succ]
  refine wpAnyH_take (i := 5) (v := .pointer (some ⟨g, k * 89 + 22, none⟩)) rfl (by kernel_rfl) (by kernel_rfl) (by kernel_rfl) (fun _ _ _ h => h) (Or.inl ⟨by rfl, fun z hz => by simp [go_sem, execOp, (show z.cell? ⟨gx, 3, none⟩ = some (.pointer (some ⟨g, k * 89 + 22, none⟩)) from (hz.cell (p := ⟨gx, 3, none⟩) lx (by show ¬ gx = g; exact ngx)).trans x3)]⟩) hH ?_
  simp only [List.getElem_toArray, List.getElem_cons_succ, List.getElem_cons_zero, Act.put, List.setIfInBounds_toArray, List.set_cons_zero, List.set_cons_succ]
  refine wpAnyH_take (i := 6) (v := .pointer (some ⟨g, k * 89 + 22, none⟩)) rfl (by kernel_rfl) (by kernel_rfl) (by kernel_rfl) (fun _ _ _ h => h) (Or.inl ⟨by rfl, fun z _ => by simp [go_sem, execOp]⟩) hH ?_
  simp only [List.getElem_toArray, List.getElem_cons_succ, List.getElem_cons_zero, Act.put, List.setIfInBounds_toArray, List.set_cons_zero, List.set_cons_succ]
  refine wpAnyH_take (i := 7) (v := .pointer (some ⟨g, k * 89 + 22 + 25, none⟩)) rfl (by kernel_rfl) (by kernel_rfl) (by kernel_rfl) (fun _ _ _ h => h) (Or.inl ⟨by rfl, fun z _ => by simp [go_sem, execOp]⟩) hH ?_
  simp only [List.getElem_toArray, List.getElem_cons_succ, List.getElem_cons_zero, Act.put, List.setIfInBounds_toArray, List.set_cons_zero, List.set_cons_succ]
  refine wpAnyH_ready (rs := [8]) (by kernel_rfl) (by simp) (AllReadyH.cons rfl (fun K hK => ?_) AllReadyH.nil)
  go_simp
  refine hK.out _ _ (hH.setCell (Or.inl rfl) _) (fun hH0 => ?_)
  clear hK K hH
  refine wpAnyH_take (i := 9) (v := .pointer (some ⟨g, k * 89 + 22, none⟩)) rfl (by kernel_rfl) (by kernel_rfl) (by kernel_rfl) (fun _ _ _ h => h) (Or.inl ⟨by rfl, fun z _ => by simp [go_sem, execOp]⟩) hH0 ?_
  simp only [List.getElem_toArray, List.getElem_cons_succ, List.getElem_cons_zero, Act.put, List.setIfInBounds_toArray, List.set_cons_zero, List.set_cons_succ]
  refine wpAnyH_take (i := 10) (v := .pointer (some ⟨g, k * 89 + 22 + 24, none⟩)) rfl (by kernel_rfl) (by kernel_rfl) (by kernel_rfl) (fun _ _ _ h => h) (Or.inl ⟨by rfl, fun z _ => by simp [go_sem, execOp]⟩) hH0 ?_
  simp only [List.getElem_toArray, List.getElem_cons_succ, List.getElem_cons_zero, Act.put, List.setIfInBounds_toArray, List.set_cons_zero, List.set_cons_succ]
  refine wpAnyH_ready (rs := [11]) (by kernel_rfl) (by simp) (AllReadyH.cons rfl (fun K hK => ?_) AllReadyH.nil)
  go_simp
  refine hK.out _ _ (hH0.setCell (Or.inl rfl) _) (fun hH1 => ?_)
  clear hK K hH0
  refine wpAnyH_take (i := 12) (v := .pointer (some ⟨g, k * 89 + 22, none⟩)) rfl (by kernel_rfl) (by kernel_rfl) (by kernel_rfl) (fun _ _ _ h => h) (Or.inl ⟨by rfl, fun z _ => by simp [go_sem, execOp]⟩) hH1 ?_
  simp only [List.getElem_toArray, List.getElem_cons_succ, List.getElem_cons_zero, Act.put, List.setIfInBounds_toArray, List.set_cons_zero, List.set_cons_succ]
  refine wpAnyH_take (i := 13) (v := .pointer (some ⟨g, k * 89 + 22 + 20, none⟩)) rfl (by kernel_rfl) (by kernel_rfl) (by kernel_rfl) (fun _ _ _ h => h) (Or.inl ⟨by rfl, fun z _ => by simp [go_sem, execOp]⟩) hH1 ?_
  simp only [List.getElem_toArray, List.getElem_cons_succ, List.getElem_cons_zero, Act.put, List.setIfInBounds_toArray, List.set_cons_zero, List.set_cons_succ]
  refine wpAnyH_ready (rs := [14]) (by kernel_rfl) (by simp) (AllReadyH.cons rfl (fun K hK => ?_) AllReadyH.nil)
  go_simp
  refine hK.out _ _ (hH1.setCell (Or.inl rfl) _) (fun hH2 => ?_)
  clear hK K hH1
  refine wpAnyH_done (by kernel_rfl) ?_ _
  refine ((?_ : ∀ y, y = (((w2.drew.setCell ⟨g, k * 89 + 22 + 25, none⟩ (.bool true)).setCell ⟨g, k * 89 + 22 + 24, none⟩ (.bool false)).setCell ⟨g, k * 89 + 22 + 20, none⟩ (.bool false)) → Exit.then _ _ _ _ y) _ rfl)
  intro w3 hw3
  have H3 := Lib.hid (show Bst w3 bx g b (upd ps k (((((p.setI 7 fd).setI 12 0).setB 47 true).setB 46 false).setB 42 false)) ss fs by rw [hw3]; exact (((H2.out.below (Below.refl _ _).drew).put (j := 47) (by omega) (rowP_put_47 _ _)).put (j := 46) (by omega) (rowP_put_46 _ _)).put (j := 42) (by omega) (rowP_put_42 _ _))
  have ho3 : Only (· = g) w2 w3 := by rw [hw3]; exact hH2
  have HO3 := Lib.hid (HO2.out.trans ho3)
  clear hH2 hw3 c47 c46 c42 f47 f46 f42
  have hs3 : w3.cell? ⟨gs, 0, none⟩ = some (.int .i64 s) := (ho3.cell (p := ⟨gs, 0, none⟩) (cell_lt hs2) nS).trans hs2
  have x0 : w3.cell? ⟨gx, 0, none⟩ = some (.pointer (some ⟨bx, 0, none⟩)) := (ho3.cell (p := ⟨gx, 0, none⟩) lx ngx).trans x0
  have x1 : w3.cell? ⟨gx, 1, none⟩ = some (.int .i64 k) := (ho3.cell (p := ⟨gx, 1, none⟩) lx ngx).trans x1
  have x2 : w3.cell? ⟨gx, 2, none⟩ = some (.pointer (some ⟨g, k * 89, none⟩)) := (ho3.cell (p := ⟨gx, 2, none⟩) lx ngx).trans x2
  have x3 : w3.cell? ⟨gx, 3, none⟩ = some (.pointer (some ⟨g, k * 89 + 22, none⟩)) := (ho3.cell (p := ⟨gx, 3, none⟩) lx ngx).trans x3
  have x4 : w3.cell? ⟨gx, 4, none⟩ = some (.pointer (some ⟨g, k * 89 + 6, none⟩)) := (ho3.cell (p := ⟨gx, 4, none⟩) lx ngx).trans x4
  have lx := Nat.lt_of_lt_of_le lx ho3.size
  have c19 : w3.cell? ⟨g, k * 89 + 15 + 4, none⟩ = some (.int .i64 ((((((p.setI 7 fd).setI 12 0).setB 47 true).setB 46 false).setB 42 false).i 19)) := (H3.out.p.cell hk (j := 19) (by omega)).trans (by rw [upd_same]; rfl)
  have f19 : w3.frozen? ⟨g, k * 89 + 15 + 4, none⟩ = false := H3.out.p.free _
  go_wp2_with fail
  go_end0
  exact ⟨rfl, (H3.out).put (j := 19) (by omega) (rowP_put_19 _ _), (HO3.out).setCell (Or.inl rfl) _⟩
end Go.Proofs.Ytdangeefecdbaaa.Br
