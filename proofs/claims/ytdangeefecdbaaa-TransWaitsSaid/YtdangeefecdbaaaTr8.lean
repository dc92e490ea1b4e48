/- Chapter 15: the rows of an alternate port (ford/trans.port.alternate). Conditions: the bridge lies in memory; there aren't very many ports; its times aren't very much. -/
import Derived.Test.YtdangeefecdbaaaTr7
set_option linter.unusedSimpArgs false
set_option linter.unusedVariables false
namespace Go.Proofs.Ytdangeefecdbaaa.Br
open Go.RowKit
/-- The rows of an alternate port. -/
def altL (b : Bri) (k : Nat) (p : Rec) (ps : Nat → Rec) : List (Bool × (Nat → Rec)) :=
  setsL b k p ps (upd ps k (agreeF p)) ++ [((p.i 87 == 2) && (p.i 10 != 2 * b.r.i 4), upd ps k (p.setI 10 (2 * b.r.i 4))), (restlessF (fwdN b p) p, upd ps k (restF 5 (fwdN b p) p))]
attribute [local go_sem] bldRow mkRows1 mkRows2 mkRows4 mkRows5 mkRows6
set_option maxRecDepth 100000 in
set_option maxHeartbeats 8000000 in
theorem alternate_any (w : World) (bx g k : Nat) (b : Bri) (ps ss : Nat → Rec) (fs : Nat → Int) (p : Rec) (h : Bst w bx g b (upd ps k p) ss fs) (hk : k < b.n) (hT : ∀ x, x < 3 → 0 ≤ b.r.i (3 + x) ∧ b.r.i (3 + x) ≤ 1000) (hn : b.n ≤ 1000) : Calls Try.prog 31 #[.agg #[.pointer (some ⟨bx, 0, none⟩), .int .i64 k, .pointer (some ⟨g, k * 89, none⟩), .pointer (some ⟨g, k * 89 + 22, none⟩), .pointer (some ⟨g, k * 89 + 6, none⟩)]] w fun e w' => ∃ v, e = .returned v ∧ Rows bx g b ss fs w' v (altL b k p ps) ∧ Below w.heap.size w w' := by
  go_enter Try.func31, Try.ntmps31
  go_upto_region 1 with (fail)
  refine ((?_ : ∀ x, x = w.alloc (.cells #[.pointer (some ⟨bx, 0, none⟩), .int .i64 k, .pointer (some ⟨g, k * 89, none⟩), .pointer (some ⟨g, k * 89 + 22, none⟩), .pointer (some ⟨g, k * 89 + 6, none⟩)] 57) → Code.wp _ _ _ _ x) _ rfl)
  intro w1 hw1
  obtain ⟨gx, hgx⟩ : ∃ x, x = w.heap.size := ⟨_, rfl⟩
  rw [← hgx]
  have hX1 : w1.heap[gx]? = some (.cells #[.pointer (some ⟨bx, 0, none⟩), .int .i64 k, .pointer (some ⟨g, k * 89, none⟩), .pointer (some ⟨g, k * 89 + 22, none⟩), .pointer (some ⟨g, k * 89 + 6, none⟩)] 57 (0, 0)) := by rw [hw1, hgx]; exact heap_alloc_new _ _
  have h1 : Bst w1 bx g b (upd ps k p) ss fs := by rw [hw1]; exact h.below (more (Below.refl _ _) _)
  have hbw : Below w.heap.size w w1 := by rw [hw1]; exact more (Below.refl _ _) _
  have HBW := Lib.hid hbw
  have HGX := Lib.hid hgx
  have ho1 : Only (· = g) w w1 := by rw [hw1]; exact (Only.refl _ _).alloc _
  have ngx : ¬ gx = g := by have := h.p.lt; omega
  have nxg : ¬ g = gx := by have := h.p.lt; omega
  have nxb : ¬ gx = bx := by have := h.lt; omega
  have H1 := Lib.hid h1
  have HO1 := Lib.hid ho1
  have lx := (Array.getElem?_eq_some_iff.1 hX1).1
  have HX1 := Lib.hid hX1
  clear hw1 hgx hX1 h1 ho1 h hbw
  have x0 : w1.cell? ⟨gx, 0, none⟩ = some (.pointer (some ⟨bx, 0, none⟩)) := cells_of HX1.out 0
  have x1 : w1.cell? ⟨gx, 1, none⟩ = some (.int .i64 k) := cells_of HX1.out 1
  have x2 : w1.cell? ⟨gx, 2, none⟩ = some (.pointer (some ⟨g, k * 89, none⟩)) := cells_of HX1.out 2
  have x3 : w1.cell? ⟨gx, 3, none⟩ = some (.pointer (some ⟨g, k * 89 + 22, none⟩)) := cells_of HX1.out 3
  have x4 : w1.cell? ⟨gx, 4, none⟩ = some (.pointer (some ⟨g, k * 89 + 6, none⟩)) := cells_of HX1.out 4
  have lg := H1.out.p.lt
  have lbx := H1.out.lt
  have t4 := hT 1 (by omega)
  simp only [Nat.reduceAdd] at t4
  have wr := (show IntKind.i64.wrap (2 * b.r.i 4) = 2 * b.r.i 4 by unfold IntKind.wrap; simp [IntKind.signed, IntKind.bits]; omega)
  clear t4 hT
  have b4 : w1.cell? ⟨bx, 2 + 2, none⟩ = some (.int .i64 (b.r.i 4)) := cells_of H1.out.h 4
  go_upto_region 1 with (fail)
  go_cut [3, 4] from 5 to 18 (fun c3 c4 w' => ∃ ga, c3 = .pointer (some ⟨ga, 0, none⟩) ∧ c4 = .int .i64 (fwdN b p) ∧ Hid (Below w1.heap.size w1 w') ∧ Hid (w'.cell? ⟨ga, 0, none⟩ = some (.int .i64 (2 * b.r.i 4))) ∧ Hid (w1.heap.size ≤ ga))
  case first =>
    refine wp_region_held_drew (S := fun w' => Below w1.heap.size w1 w') (by kernel_rfl) (Below.refl _ _).drew (fun hH => ?_)
    refine wpAnyH_take (i := 0) (v := .pointer (some ⟨gx, 0, none⟩)) rfl (by kernel_rfl) (by kernel_rfl) (by kernel_rfl) (fun _ _ _ h => h) (Or.inl ⟨by kernel_rfl, fun z hz => by simp [go_sem, execOp]⟩) hH ?_
    simp only [List.getElem_toArray, List.getElem_cons_succ, List.getElem_cons_zero, Act.put, List.setIfInBounds_toArray, List.set_cons_zero, List.set_cons_succ]
    refine wpAnyH_take (i := 1) (v := .pointer (some ⟨bx, 0, none⟩)) rfl (by kernel_rfl) (by kernel_rfl) (by kernel_rfl) (fun _ _ _ h => h) (Or.inl ⟨by kernel_rfl, fun z hz => by simp [go_sem, execOp, (show z.cell? ⟨gx, 0, none⟩ = some (.pointer (some ⟨bx, 0, none⟩)) from (hz.cell (p := ⟨gx, 0, none⟩) lx).trans x0)]⟩) hH ?_
    simp only [List.getElem_toArray, List.getElem_cons_succ, List.getElem_cons_zero, Act.put, List.setIfInBounds_toArray, List.set_cons_zero, List.set_cons_succ]
    refine wpAnyH_take (i := 2) (v := .pointer (some ⟨bx, 0, none⟩)) rfl (by kernel_rfl) (by kernel_rfl) (by kernel_rfl) (fun _ _ _ h => h) (Or.inl ⟨by kernel_rfl, fun z hz => by simp [go_sem, execOp]⟩) hH ?_
    simp only [List.getElem_toArray, List.getElem_cons_succ, List.getElem_cons_zero, Act.put, List.setIfInBounds_toArray, List.set_cons_zero, List.set_cons_succ]
    refine wpAnyH_take (i := 3) (v := .pointer (some ⟨bx, 2, none⟩)) rfl (by kernel_rfl) (by kernel_rfl) (by kernel_rfl) (fun _ _ _ h => h) (Or.inl ⟨by kernel_rfl, fun z hz => by simp [go_sem, execOp]⟩) hH ?_
    simp only [List.getElem_toArray, List.getElem_cons_succ, List.getElem_cons_zero, Act.put, List.setIfInBounds_toArray, List.set_cons_zero, List.set_cons_succ]
    refine wpAnyH_take (i := 4) (v := .pointer (some ⟨bx, 2 + 2, none⟩)) rfl (by kernel_rfl) (by kernel_rfl) (by kernel_rfl) (fun _ _ _ h => h) (Or.inl ⟨by kernel_rfl, fun z hz => by simp [go_sem, execOp]⟩) hH ?_
    simp only [List.getElem_toArray, List.getElem_cons_succ, List.getElem_cons_zero, Act.put, List.setIfInBounds_toArray, List.set_cons_zero, List.set_cons_succ]
    refine wpAnyH_take (i := 5) (v := .int .i64 (b.r.i 4)) rfl (by kernel_rfl) (by kernel_rfl) (by kernel_rfl) (fun _ _ _ h => h) (Or.inl ⟨by kernel_rfl, fun z hz => by simp [go_sem, execOp, (show z.cell? ⟨bx, 2 + 2, none⟩ = some (.int .i64 (b.r.i 4)) from (hz.cell (p := ⟨bx, 2 + 2, none⟩) lbx).trans b4)]⟩) hH ?_
    simp only [List.getElem_toArray, List.getElem_cons_succ, List.getElem_cons_zero, Act.put, List.setIfInBounds_toArray, List.set_cons_zero, List.set_cons_succ]
    refine wpAnyH_take (i := 6) (v := .int .i64 (2 * b.r.i 4)) rfl (by kernel_rfl) (by kernel_rfl) (by kernel_rfl) (fun _ _ _ h => h) (Or.inl ⟨by kernel_rfl, fun z hz => by simp [go_sem, execOp, wr]⟩) hH ?_
    simp only [List.getElem_toArray, List.getElem_cons_succ, List.getElem_cons_zero, Act.put, List.setIfInBounds_toArray, List.set_cons_zero, List.set_cons_succ]
    refine wpAnyH_take (i := 7) (v := .pointer (some ⟨gx, 0, none⟩)) rfl (by kernel_rfl) (by kernel_rfl) (by kernel_rfl) (fun _ _ _ h => h) (Or.inl ⟨by kernel_rfl, fun z hz => by simp [go_sem, execOp]⟩) hH ?_
    simp only [List.getElem_toArray, List.getElem_cons_succ, List.getElem_cons_zero, Act.put, List.setIfInBounds_toArray, List.set_cons_zero, List.set_cons_succ]
    refine wpAnyH_take (i := 8) (v := .pointer (some ⟨bx, 0, none⟩)) rfl (by kernel_rfl) (by kernel_rfl) (by kernel_rfl) (fun _ _ _ h => h) (Or.inl ⟨by kernel_rfl, fun z hz => by simp [go_sem, execOp, (show z.cell? ⟨gx, 0, none⟩ = some (.pointer (some ⟨bx, 0, none⟩)) from (hz.cell (p := ⟨gx, 0, none⟩) lx).trans x0)]⟩) hH ?_
    simp only [List.getElem_toArray, List.getElem_cons_succ, List.getElem_cons_zero, Act.put, List.setIfInBounds_toArray, List.set_cons_zero, List.set_cons_succ]
    refine wpAnyH_take (i := 9) (v := .pointer (some ⟨bx, 0, none⟩)) rfl (by kernel_rfl) (by kernel_rfl) (by kernel_rfl) (fun _ _ _ h => h) (Or.inl ⟨by kernel_rfl, fun z hz => by simp [go_sem, execOp]⟩) hH ?_
    simp only [List.getElem_toArray, List.getElem_cons_succ, List.getElem_cons_zero, Act.put, List.setIfInBounds_toArray, List.set_cons_zero, List.set_cons_succ]
    refine wpAnyH_take (i := 10) (v := .agg (rowB b)) rfl (by kernel_rfl) (by kernel_rfl) (by kernel_rfl) (fun _ _ _ h => h) (by exact yieldsIf_load_mid (by kernel_rfl) 33 (.tmp 14) (by kernel_rfl) bx (0) (by kernel_rfl) (rowB b).toList _ (row_held H1.out.h H1.out.lt) Try.underlying33 rfl (sizeBr _)) hH ?_
    simp only [List.getElem_toArray, List.getElem_cons_succ, List.getElem_cons_zero, Act.put, List.setIfInBounds_toArray, List.set_cons_zero, List.set_cons_succ]
    refine wpAnyH_take (i := 11) (v := .pointer (some ⟨gx, 1, none⟩)) rfl (by kernel_rfl) (by kernel_rfl) (by kernel_rfl) (fun _ _ _ h => h) (Or.inl ⟨by kernel_rfl, fun z hz => by simp [go_sem, execOp]⟩) hH ?_
    simp only [List.getElem_toArray, List.getElem_cons_succ, List.getElem_cons_zero, Act.put, List.setIfInBounds_toArray, List.set_cons_zero, List.set_cons_succ]
    refine wpAnyH_take (i := 12) (v := .int .i64 k) rfl (by kernel_rfl) (by kernel_rfl) (by kernel_rfl) (fun _ _ _ h => h) (Or.inl ⟨by kernel_rfl, fun z hz => by simp [go_sem, execOp, (show z.cell? ⟨gx, 1, none⟩ = some (.int .i64 k) from (hz.cell (p := ⟨gx, 1, none⟩) lx).trans x1)]⟩) hH ?_
    simp only [List.getElem_toArray, List.getElem_cons_succ, List.getElem_cons_zero, Act.put, List.setIfInBounds_toArray, List.set_cons_zero, List.set_cons_succ]
    refine wpAnyH_ready (rs := [13, 14]) (by kernel_rfl) (by simp) (AllReadyH.cons rfl (fun K hK => ?_) (AllReadyH.cons rfl (fun K hK => ?_) AllReadyH.nil))
    · go_simp
      refine (fwd_any (H1.out.below hH) hk).mono ?_
      rintro e we ⟨rfl, hbe⟩
      refine hK.out _ _ (hH.trans (hbe.mono hH.size)) (fun hA => ?_)
      clear hK K
      refine wpAnyH_ready (rs := [14]) (by kernel_rfl) (by simp) (AllReadyH.cons rfl (fun K hK => ?_) AllReadyH.nil)
      go_simp
      refine hK.out _ _ (hA.alloc hA.size _) (fun hB => ?_)
      clear hK K
      refine wpAnyH_ready (rs := [15]) (by kernel_rfl) (by simp) (AllReadyH.cons rfl (fun K hK => ?_) AllReadyH.nil)
      go_simp
      refine hK.out _ _ (hA.alloc hA.size _) (fun hE => ?_)
      clear hK K
      refine wpAnyH_take (i := 16) (v := .int .i64 (fwdN b p)) rfl (by kernel_rfl) (by kernel_rfl) (by kernel_rfl) (fun _ _ _ h => h) (Or.inl ⟨by rfl, fun z _ => rfl⟩) hE ?_
      simp only [List.getElem_toArray, List.getElem_cons_succ, List.getElem_cons_zero, Act.put, List.setIfInBounds_toArray, List.set_cons_zero, List.set_cons_succ]
      refine wpAnyH_done (by kernel_rfl) ?_ _
      go_wp2_with fail
      go_meet
      exact ⟨_, rfl, rfl, Lib.hid hE, Lib.hid (by simp [go_sem]), Lib.hid hA.size⟩
    · go_simp
      refine hK.out _ _ (hH.alloc hH.size _) (fun hB => ?_)
      clear hK K
      have hnew := heap_alloc_new w1.drew (.cells #[.int .i64 0] 3)
      refine wpAnyH_ready (rs := [13]) (by kernel_rfl) (by simp) (AllReadyH.cons rfl (fun K hK => ?_) AllReadyH.nil)
      go_simp
      refine (fwd_any (H1.out.below hB) hk).mono ?_
      rintro e we ⟨rfl, hbe⟩
      have hh := (hbe.block _ (Array.getElem?_eq_some_iff.1 hnew).1).trans hnew
      have hcx : we.cell? ⟨w1.heap.size, 0, none⟩ = some (.int .i64 0) := cells_of hh 0
      have hcf : we.frozen? ⟨w1.heap.size, 0, none⟩ = false := free_block hh 0
      refine hK.out _ _ (hB.trans (hbe.mono hB.size)) (fun hA => ?_)
      clear hK K hnew hbe
      refine wpAnyH_ready (rs := [15]) (by kernel_rfl) (by simp) (AllReadyH.cons rfl (fun K hK => ?_) AllReadyH.nil)
      go_simp
      refine hK.out _ _ (hA.setCell (p := ⟨w1.heap.size, 0, none⟩) hH.size _) (fun hE => ?_)
      clear hK K
      refine wpAnyH_take (i := 16) (v := .int .i64 (fwdN b p)) rfl (by kernel_rfl) (by kernel_rfl) (by kernel_rfl) (fun _ _ _ h => h) (Or.inl ⟨by rfl, fun z _ => rfl⟩) hE ?_
      simp only [List.getElem_toArray, List.getElem_cons_succ, List.getElem_cons_zero, Act.put, List.setIfInBounds_toArray, List.set_cons_zero, List.set_cons_succ]
      refine wpAnyH_done (by kernel_rfl) ?_ _
      go_wp2_with fail
      go_meet
      exact ⟨_, rfl, rfl, Lib.hid hE, Lib.hid (cells_of (at_set hh rfl) 0), Lib.hid hH.size⟩
  case rest =>
  obtain ⟨ga, rfl, rfl, HB2, HA, HGA⟩ := hcut
  have H2 := Lib.hid (H1.out.below HB2.out)
  have HX2 := Lib.hid ((HB2.out.block _ lx).trans HX1.out)
  have lx2 := (Array.getElem?_eq_some_iff.1 HX2.out).1
  have lga := cell_lt HA.out
  have lg2 := H2.out.p.lt
  have nga : ¬ ga = g := by have := HGA.out; omega
  clear x0 x1 x2 x3 x4 b4
  have x0 : wc.cell? ⟨gx, 0, none⟩ = some (.pointer (some ⟨bx, 0, none⟩)) := cells_of HX2.out 0
  have x1 : wc.cell? ⟨gx, 1, none⟩ = some (.int .i64 k) := cells_of HX2.out 1
  have x2 : wc.cell? ⟨gx, 2, none⟩ = some (.pointer (some ⟨g, k * 89, none⟩)) := cells_of HX2.out 2
  have x3 : wc.cell? ⟨gx, 3, none⟩ = some (.pointer (some ⟨g, k * 89 + 22, none⟩)) := cells_of HX2.out 3
  have x4 : wc.cell? ⟨gx, 4, none⟩ = some (.pointer (some ⟨g, k * 89 + 6, none⟩)) := cells_of HX2.out 4
  have c87 : wc.cell? ⟨g, k * 89 + 87, none⟩ = some (.int .i64 (p.i 87)) := (H2.out.p.cell hk (j := 87) (by omega)).trans (by rw [upd_same]; rfl)
  have c10 : wc.cell? ⟨g, k * 89 + 6 + 4, none⟩ = some (.int .i64 (p.i 10)) := (H2.out.p.cell hk (j := 10) (by omega)).trans (by rw [upd_same]; rfl)
  obtain ⟨qr, hqr⟩ : ∃ x : Bool, x = restlessF (fwdN b p) p := ⟨_, rfl⟩
  have Hqr := Lib.hid hqr
  clear hqr
  go_upto_region 2 with (fail)
  obtain ⟨q28, hq28⟩ : ∃ x : Bool, x = ((p.i 87) == 2) := ⟨_, rfl⟩
  have Hq28 := Lib.hid hq28
  clear hq28
  obtain ⟨q36, hq36⟩ : ∃ x : Bool, x = ((p.i 10) != (2 * b.r.i 4)) := ⟨_, rfl⟩
  have Hq36 := Lib.hid hq36
  clear hq36
  obtain ⟨q37, hq37⟩ : ∃ x : Bool, x = (q28 && q36) := ⟨_, rfl⟩
  have Hq37 := Lib.hid hq37
  clear hq37
  refine wp_region_held_drew (S := fun w' => Below wc.heap.size wc w') (by kernel_rfl) (Below.refl _ _).drew (fun hH => ?_)
  refine wpAnyH_take (i := 0) (v := .agg #[.pointer (some ⟨bx, 0, none⟩), .int .i64 k, .pointer (some ⟨g, k * 89, none⟩), .pointer (some ⟨g, k * 89 + 22, none⟩), .pointer (some ⟨g, k * 89 + 6, none⟩)]) rfl (by kernel_rfl) (by kernel_rfl) (by kernel_rfl) (fun _ _ _ h => h) (by exact yieldsIf_load_mid (by kernel_rfl) 57 (.tmp 1) (by kernel_rfl) gx (0) (by kernel_rfl) (#[.pointer (some ⟨bx, 0, none⟩), .int .i64 k, .pointer (some ⟨g, k * 89, none⟩), .pointer (some ⟨g, k * 89 + 22, none⟩), .pointer (some ⟨g, k * 89 + 6, none⟩)]).toList _ (row_held HX2.out lx2) Try.underlying57 rfl (by kernel_rfl)) hH ?_
  simp only [List.getElem_toArray, List.getElem_cons_succ, List.getElem_cons_zero, Act.put, List.setIfInBounds_toArray, List.set_cons_zero, List.set_cons_succ]
  refine wpAnyH_take (i := 1) (v := .agg #[.pointer (some ⟨bx, 0, none⟩), .int .i64 k, .pointer (some ⟨g, k * 89, none⟩), .pointer (some ⟨g, k * 89 + 22, none⟩), .pointer (some ⟨g, k * 89 + 6, none⟩)]) rfl (by kernel_rfl) (by kernel_rfl) (by kernel_rfl) (fun _ _ _ h => h) (by exact yieldsIf_load_mid (by kernel_rfl) 57 (.tmp 1) (by kernel_rfl) gx (0) (by kernel_rfl) (#[.pointer (some ⟨bx, 0, none⟩), .int .i64 k, .pointer (some ⟨g, k * 89, none⟩), .pointer (some ⟨g, k * 89 + 22, none⟩), .pointer (some ⟨g, k * 89 + 6, none⟩)]).toList _ (row_held HX2.out lx2) Try.underlying57 rfl (by kernel_rfl)) hH ?_
  simp only [List.getElem_toArray, List.getElem_cons_succ, List.getElem_cons_zero, Act.put, List.setIfInBounds_toArray, List.set_cons_zero, List.set_cons_succ]
  refine wpAnyH_take (i := 2) (v := .func (.func 41) #[.agg #[.pointer (some ⟨bx, 0, none⟩), .int .i64 k, .pointer (some ⟨g, k * 89, none⟩), .pointer (some ⟨g, k * 89 + 22, none⟩), .pointer (some ⟨g, k * 89 + 6, none⟩)]] #[]) rfl (by kernel_rfl) (by kernel_rfl) (by kernel_rfl) (fun _ _ _ h => h) (Or.inl ⟨by kernel_rfl, fun z hz => by kernel_rfl⟩) hH ?_
  simp only [List.getElem_toArray, List.getElem_cons_succ, List.getElem_cons_zero, Act.put, List.setIfInBounds_toArray, List.set_cons_zero, List.set_cons_succ]
  refine wpAnyH_take (i := 4) (v := .pointer (some ⟨gx, 2, none⟩)) rfl (by kernel_rfl) (by kernel_rfl) (by kernel_rfl) (fun _ _ _ h => h) (Or.inl ⟨by kernel_rfl, fun z hz => by simp [go_sem, execOp]⟩) hH ?_
  simp only [List.getElem_toArray, List.getElem_cons_succ, List.getElem_cons_zero, Act.put, List.setIfInBounds_toArray, List.set_cons_zero, List.set_cons_succ]
  refine wpAnyH_take (i := 5) (v := .pointer (some ⟨g, k * 89, none⟩)) rfl (by kernel_rfl) (by kernel_rfl) (by kernel_rfl) (fun _ _ _ h => h) (Or.inl ⟨by kernel_rfl, fun z hz => by simp [go_sem, execOp, (show z.cell? ⟨gx, 2, none⟩ = some (.pointer (some ⟨g, k * 89, none⟩)) from (hz.cell (p := ⟨gx, 2, none⟩) lx2).trans x2)]⟩) hH ?_
  simp only [List.getElem_toArray, List.getElem_cons_succ, List.getElem_cons_zero, Act.put, List.setIfInBounds_toArray, List.set_cons_zero, List.set_cons_succ]
  refine wpAnyH_take (i := 6) (v := .pointer (some ⟨g, k * 89, none⟩)) rfl (by kernel_rfl) (by kernel_rfl) (by kernel_rfl) (fun _ _ _ h => h) (Or.inl ⟨by kernel_rfl, fun z hz => by simp [go_sem, execOp]⟩) hH ?_
  simp only [List.getElem_toArray, List.getElem_cons_succ, List.getElem_cons_zero, Act.put, List.setIfInBounds_toArray, List.set_cons_zero, List.set_cons_succ]
  refine wpAnyH_take (i := 7) (v := .pointer (some ⟨g, k * 89 + 87, none⟩)) rfl (by kernel_rfl) (by kernel_rfl) (by kernel_rfl) (fun _ _ _ h => h) (Or.inl ⟨by kernel_rfl, fun z hz => by simp [go_sem, execOp]⟩) hH ?_
  simp only [List.getElem_toArray, List.getElem_cons_succ, List.getElem_cons_zero, Act.put, List.setIfInBounds_toArray, List.set_cons_zero, List.set_cons_succ]
  refine wpAnyH_take (i := 8) (v := .int .i64 (p.i 87)) rfl (by kernel_rfl) (by kernel_rfl) (by kernel_rfl) (fun _ _ _ h => h) (Or.inl ⟨by kernel_rfl, fun z hz => by simp [go_sem, execOp, (show z.cell? ⟨g, k * 89 + 87, none⟩ = some (.int .i64 (p.i 87)) from (hz.cell (p := ⟨g, k * 89 + 87, none⟩) lg2).trans c87)]⟩) hH ?_
  simp only [List.getElem_toArray, List.getElem_cons_succ, List.getElem_cons_zero, Act.put, List.setIfInBounds_toArray, List.set_cons_zero, List.set_cons_succ]
  refine wpAnyH_take (i := 9) (v := .bool q28) rfl (by kernel_rfl) (by kernel_rfl) (by kernel_rfl) (fun _ _ _ h => h) (Or.inl ⟨by kernel_rfl, fun z hz => by rw [Hq28.out]; simp [go_sem, execOp]⟩) hH ?_
  simp only [List.getElem_toArray, List.getElem_cons_succ, List.getElem_cons_zero, Act.put, List.setIfInBounds_toArray, List.set_cons_zero, List.set_cons_succ]
  refine wpAnyH_take (i := 19) (v := .func (.func 42) #[] #[.pointer (some ⟨ga, 0, none⟩), .pointer (some ⟨gx, 0, none⟩)]) rfl (by kernel_rfl) (by kernel_rfl) (by kernel_rfl) (fun _ _ _ h => h) (Or.inl ⟨by kernel_rfl, fun z hz => by kernel_rfl⟩) hH ?_
  simp only [List.getElem_toArray, List.getElem_cons_succ, List.getElem_cons_zero, Act.put, List.setIfInBounds_toArray, List.set_cons_zero, List.set_cons_succ]
  refine wpAnyH_take (i := 21) (v := .agg #[.pointer (some ⟨bx, 0, none⟩), .int .i64 k, .pointer (some ⟨g, k * 89, none⟩), .pointer (some ⟨g, k * 89 + 22, none⟩), .pointer (some ⟨g, k * 89 + 6, none⟩)]) rfl (by kernel_rfl) (by kernel_rfl) (by kernel_rfl) (fun _ _ _ h => h) (by exact yieldsIf_load_mid (by kernel_rfl) 57 (.tmp 1) (by kernel_rfl) gx (0) (by kernel_rfl) (#[.pointer (some ⟨bx, 0, none⟩), .int .i64 k, .pointer (some ⟨g, k * 89, none⟩), .pointer (some ⟨g, k * 89 + 22, none⟩), .pointer (some ⟨g, k * 89 + 6, none⟩)]).toList _ (row_held HX2.out lx2) Try.underlying57 rfl (by kernel_rfl)) hH ?_
  simp only [List.getElem_toArray, List.getElem_cons_succ, List.getElem_cons_zero, Act.put, List.setIfInBounds_toArray, List.set_cons_zero, List.set_cons_succ]
  refine wpAnyH_take (i := 22) (v := .int .i64 (fwdN b p)) rfl (by kernel_rfl) (by kernel_rfl) (by kernel_rfl) (fun _ _ _ h => h) (Or.inl ⟨by kernel_rfl, fun z hz => by kernel_rfl⟩) hH ?_
  simp only [List.getElem_toArray, List.getElem_cons_succ, List.getElem_cons_zero, Act.put, List.setIfInBounds_toArray, List.set_cons_zero, List.set_cons_succ]
  refine wpAnyH_take (i := 24) (v := .agg #[.pointer (some ⟨bx, 0, none⟩), .int .i64 k, .pointer (some ⟨g, k * 89, none⟩), .pointer (some ⟨g, k * 89 + 22, none⟩), .pointer (some ⟨g, k * 89 + 6, none⟩)]) rfl (by kernel_rfl) (by kernel_rfl) (by kernel_rfl) (fun _ _ _ h => h) (by exact yieldsIf_load_mid (by kernel_rfl) 57 (.tmp 1) (by kernel_rfl) gx (0) (by kernel_rfl) (#[.pointer (some ⟨bx, 0, none⟩), .int .i64 k, .pointer (some ⟨g, k * 89, none⟩), .pointer (some ⟨g, k * 89 + 22, none⟩), .pointer (some ⟨g, k * 89 + 6, none⟩)]).toList _ (row_held HX2.out lx2) Try.underlying57 rfl (by kernel_rfl)) hH ?_
  simp only [List.getElem_toArray, List.getElem_cons_succ, List.getElem_cons_zero, Act.put, List.setIfInBounds_toArray, List.set_cons_zero, List.set_cons_succ]
  refine wpAnyH_take (i := 25) (v := .int .i64 (fwdN b p)) rfl (by kernel_rfl) (by kernel_rfl) (by kernel_rfl) (fun _ _ _ h => h) (Or.inl ⟨by kernel_rfl, fun z hz => by kernel_rfl⟩) hH ?_
  simp only [List.getElem_toArray, List.getElem_cons_succ, List.getElem_cons_zero, Act.put, List.setIfInBounds_toArray, List.set_cons_zero, List.set_cons_succ]
  refine wpAnyH_ready (rs := [3]) (by kernel_rfl) (by simp) (AllReadyH.cons rfl (fun K hK => ?_) AllReadyH.nil)
  go_simp
  refine (sets_any _ bx g k b ps ss fs p (H2.out.below hH) hk hn _ _ _ _ (does_agrees (H2.out.below hH) hk)).mono ?_
  rintro e we3 ⟨v3, rfl, hR3, hbe⟩
  refine hK.out _ _ (hH.trans (hbe.mono hH.size)) (fun hA => ?_)
  have hb3 := hbe
  clear hK K hbe
  refine wpAnyH_take (i := 10) (v := .bool q28) rfl (by kernel_rfl) (by kernel_rfl) (by kernel_rfl) (fun _ _ _ h => h) (Or.inl ⟨by kernel_rfl, fun z hz => by kernel_rfl⟩) hA ?_
  simp only [List.getElem_toArray, List.getElem_cons_succ, List.getElem_cons_zero, Act.put, List.setIfInBounds_toArray, List.set_cons_zero, List.set_cons_succ]
  refine wpAnyH_take (i := 11) (v := (bif q28 then .pointer (some ⟨gx, 4, none⟩) else undef)) rfl (by kernel_rfl) (by kernel_rfl) (by kernel_rfl) (fun _ _ _ h => h) (yields_bif (wanted_t rfl (by kernel_rfl)) (fun hc z hz => by have h0 := hc; simp [go_sem, execOp, h0])) hA ?_
  simp only [List.getElem_toArray, List.getElem_cons_succ, List.getElem_cons_zero, Act.put, List.setIfInBounds_toArray, List.set_cons_zero, List.set_cons_succ]
  refine wpAnyH_take (i := 12) (v := (bif q28 then .pointer (some ⟨g, k * 89 + 6, none⟩) else undef)) rfl (by kernel_rfl) (by kernel_rfl) (by kernel_rfl) (fun _ _ _ h => h) (yields_bif (wanted_t rfl (by kernel_rfl)) (fun hc z hz => by have h0 := hc; simp [go_sem, execOp, h0, (show z.cell? ⟨gx, 4, none⟩ = some (.pointer (some ⟨g, k * 89 + 6, none⟩)) from (hz.cell (p := ⟨gx, 4, none⟩) lx2).trans x4)])) hA ?_
  simp only [List.getElem_toArray, List.getElem_cons_succ, List.getElem_cons_zero, Act.put, List.setIfInBounds_toArray, List.set_cons_zero, List.set_cons_succ]
  refine wpAnyH_take (i := 13) (v := (bif q28 then .pointer (some ⟨g, k * 89 + 6, none⟩) else undef)) rfl (by kernel_rfl) (by kernel_rfl) (by kernel_rfl) (fun _ _ _ h => h) (yields_bif (wanted_t rfl (by kernel_rfl)) (fun hc z hz => by have h0 := hc; simp [go_sem, execOp, h0])) hA ?_
  simp only [List.getElem_toArray, List.getElem_cons_succ, List.getElem_cons_zero, Act.put, List.setIfInBounds_toArray, List.set_cons_zero, List.set_cons_succ]
  refine wpAnyH_take (i := 14) (v := (bif q28 then .pointer (some ⟨g, k * 89 + 6 + 4, none⟩) else undef)) rfl (by kernel_rfl) (by kernel_rfl) (by kernel_rfl) (fun _ _ _ h => h) (yields_bif (wanted_t rfl (by kernel_rfl)) (fun hc z hz => by have h0 := hc; simp [go_sem, execOp, h0])) hA ?_
  simp only [List.getElem_toArray, List.getElem_cons_succ, List.getElem_cons_zero, Act.put, List.setIfInBounds_toArray, List.set_cons_zero, List.set_cons_succ]
  refine wpAnyH_take (i := 15) (v := (bif q28 then .int .i64 (p.i 10) else undef)) rfl (by kernel_rfl) (by kernel_rfl) (by kernel_rfl) (fun _ _ _ h => h) (yields_bif (wanted_t rfl (by kernel_rfl)) (fun hc z hz => by have h0 := hc; simp [go_sem, execOp, h0, (show z.cell? ⟨g, k * 89 + 6 + 4, none⟩ = some (.int .i64 (p.i 10)) from (hz.cell (p := ⟨g, k * 89 + 6 + 4, none⟩) lg2).trans c10)])) hA ?_
  simp only [List.getElem_toArray, List.getElem_cons_succ, List.getElem_cons_zero, Act.put, List.setIfInBounds_toArray, List.set_cons_zero, List.set_cons_succ]
  refine wpAnyH_take (i := 16) (v := (bif q28 then .int .i64 (2 * b.r.i 4) else undef)) rfl (by kernel_rfl) (by kernel_rfl) (by kernel_rfl) (fun _ _ _ h => h) (yields_bif (wanted_t rfl (by kernel_rfl)) (fun hc z hz => by have h0 := hc; simp [go_sem, execOp, h0, (show z.cell? ⟨ga, 0, none⟩ = some (.int .i64 (2 * b.r.i 4)) from (hz.cell (p := ⟨ga, 0, none⟩) lga).trans HA.out)])) hA ?_
  simp only [List.getElem_toArray, List.getElem_cons_succ, List.getElem_cons_zero, Act.put, List.setIfInBounds_toArray, List.set_cons_zero, List.set_cons_succ]
  refine wpAnyH_take (i := 17) (v := (bif q28 then .bool q36 else undef)) rfl (by kernel_rfl) (by kernel_rfl) (by kernel_rfl) (fun _ _ _ h => h) (yields_bif (wanted_t rfl (by kernel_rfl)) (fun hc z hz => by have h0 := hc; rw [Hq36.out]; simp [go_sem, execOp, h0])) hA ?_
  simp only [List.getElem_toArray, List.getElem_cons_succ, List.getElem_cons_zero, Act.put, List.setIfInBounds_toArray, List.set_cons_zero, List.set_cons_succ]
  refine wpAnyH_take (i := 18) (v := .bool q37) rfl (by kernel_rfl) (by kernel_rfl) (by kernel_rfl) (fun _ _ _ h => h) (Or.inl ⟨by kernel_rfl, fun z hz => by rw [Hq37.out]; cases hA : q28 <;> simp [go_sem, execOp, hA]⟩) hA ?_
  simp only [List.getElem_toArray, List.getElem_cons_succ, List.getElem_cons_zero, Act.put, List.setIfInBounds_toArray, List.set_cons_zero, List.set_cons_succ]
  refine wpAnyH_take (i := 20) (v := .agg #[.bool q37, .func (.func 42) #[] #[.pointer (some ⟨ga, 0, none⟩), .pointer (some ⟨gx, 0, none⟩)]]) rfl (by kernel_rfl) (by kernel_rfl) (by kernel_rfl) (fun _ _ _ h => h) (Or.inl ⟨by kernel_rfl, fun z hz => by simp [go_sem, execOp, bldRow]⟩) hA ?_
  simp only [List.getElem_toArray, List.getElem_cons_succ, List.getElem_cons_zero, Act.put, List.setIfInBounds_toArray, List.set_cons_zero, List.set_cons_succ]
  refine wpAnyH_ready (rs := [23]) (by kernel_rfl) (by simp) (AllReadyH.cons rfl (fun K hK => ?_) AllReadyH.nil)
  go_simp
  refine (restless_any _ bx g k b ps ss fs p (H2.out.below hA) hk _).mono ?_
  rintro e we4 ⟨rfl, hbe⟩
  rw [show restlessF (fwdN b p) p = qr from Hqr.out.symm]
  refine hK.out _ _ (hA.trans (hbe.mono hA.size)) (fun hB => ?_)
  have hb4 := hbe
  clear hK K hbe
  refine wpAnyH_ready (rs := [26]) (by kernel_rfl) (by simp) (AllReadyH.cons rfl (fun K hK => ?_) AllReadyH.nil)
  go_simp
  refine (rest_any _ bx g k b ps ss fs p (H2.out.below hB) hk 5 (fwdN b p)).mono ?_
  rintro e we5 ⟨f5, bn5, cp5, rfl, hD5, hbe⟩
  refine hK.out _ _ (hB.trans (hbe.mono hB.size)) (fun hC => ?_)
  have hb5 := hbe
  clear hK K hbe
  refine wpAnyH_take (i := 27) (v := .agg #[.bool qr, .func (.func f5) bn5 cp5]) rfl (by kernel_rfl) (by kernel_rfl) (by kernel_rfl) (fun _ _ _ h => h) (Or.inl ⟨by kernel_rfl, fun z hz => by simp [go_sem, execOp, bldRow]⟩) hC ?_
  simp only [List.getElem_toArray, List.getElem_cons_succ, List.getElem_cons_zero, Act.put, List.setIfInBounds_toArray, List.set_cons_zero, List.set_cons_succ]
  refine wpAnyH_ready (rs := [28]) (by kernel_rfl) (by simp) (AllReadyH.cons rfl (fun K hK => ?_) AllReadyH.nil)
  go_simp
  refine hK.out _ _ (hC.alloc hC.size _) (fun hE => ?_)
  clear hK K
  have hr1 : q37 = ((p.i 87 == 2) && (p.i 10 != 2 * b.r.i 4)) := by rw [Hq37.out, Hq36.out, Hq28.out]
  have hbn : Below we3.heap.size we3 (we5.alloc (.cells #[.bool q37, .func (.func 42) #[] #[.pointer (some ⟨ga, 0, none⟩), .pointer (some ⟨gx, 0, none⟩)], .bool qr, .func (.func f5) bn5 cp5] 61)) := (hb4.trans (hb5.mono hb4.size)).trans ((more (Below.refl we5.heap.size we5) _).mono (hb4.trans (hb5.mono hb4.size)).size)
  have HF3 := Lib.hid (hR3.later hbn)
  have HR := Lib.hid (rows_new (W := (we5.alloc (.cells #[.bool q37, .func (.func 42) #[] #[.pointer (some ⟨ga, 0, none⟩), .pointer (some ⟨gx, 0, none⟩)], .bool qr, .func (.func f5) bn5 cp5] 61))) (n := 2) [(q37, .func (.func 42) #[] #[.pointer (some ⟨ga, 0, none⟩), .pointer (some ⟨gx, 0, none⟩)]), (qr, .func (.func f5) bn5 cp5)] (heap_alloc_new we5 _) rfl rfl (by omega) (ds := [((p.i 87 == 2) && (p.i 10 != 2 * b.r.i 4), upd ps k (p.setI 10 (2 * b.r.i 4))), (restlessF (fwdN b p) p, upd ps k (restF 5 (fwdN b p) p))])
    ⟨⟨hr1, does_alt1 (H2.out.below hE) hk ((hE.block _ lx2).trans HX2.out) ngx ((hE.cell (p := ⟨ga, 0, none⟩) lga).trans HA.out) nga⟩, ⟨Hqr.out, hD5.later (more (Below.refl _ _) _)⟩, trivial⟩)
  clear hr1 hbn hR3 hD5
  refine wpAnyH_ready (rs := [29]) (by kernel_rfl) (by simp) (AllReadyH.cons rfl (fun K hK => ?_) AllReadyH.nil)
  rw [if_pos (by rfl)]
  refine wp_appendR (.tmp 22) (.tmp 47) rfl rfl rfl HF3.out HR.out.rows (by simp [setsL]) (by simp) (dd := some 48) (by kernel_rfl) ?_
  intro v9 w9 hv9 hb9
  refine hK.out _ _ (hE.trans (hb9.mono hE.size)) (fun hF => ?_)
  clear hK K
  simp only [List.getElem_toArray, List.getElem_cons_succ, List.getElem_cons_zero, Act.put, List.setIfInBounds_toArray, List.set_cons_zero, List.set_cons_succ]
  refine wpAnyH_take (i := 30) (v := v9) rfl (by kernel_rfl) (by kernel_rfl) (by kernel_rfl) (fun _ _ _ h => h) (Or.inl ⟨by rfl, fun z _ => rfl⟩) hF ?_
  simp only [List.getElem_toArray, List.getElem_cons_succ, List.getElem_cons_zero, Act.put, List.setIfInBounds_toArray, List.set_cons_zero, List.set_cons_succ]
  refine wpAnyH_done (by kernel_rfl) ?_ _
  have HV9 := Lib.hid hv9
  clear hv9 HR HF3
  go_wp2_with fail
  go_ret
  exact ⟨_, rfl, HV9.out, HBW.out.trans ((HB2.out.trans (hF.mono HB2.out.size)).mono HBW.out.size)⟩
end Go.Proofs.Ytdangeefecdbaaa.Br
