/- Chapter 15: what is done to a port when a row's condition holds: the program's methods and closures. Conditions: the bridge lies in memory; what a closure has caught lies elsewhere. -/
import Derived.Test.YtdangeefecdbaaaBst
import Derived.Test.YtdangeefecdbaaaCk2
import Derived.Test.YtdangeefecdbaaaCk3
import Derived.StillTailTactics
import Derived.Deep.RegionHeld
import Derived.Deep.CutRange
import Derived.Lib.Hide
set_option linter.unusedSimpArgs false
set_option linter.unusedVariables false
namespace Go.Proofs.Ytdangeefecdbaaa.Br
open Go.RowKit
theorem Bst.cong {w : World} {bx g : Nat} {b : Bri} {ps qs ss : Nat → Rec} {fs : Nat → Int} (e : ∀ j, j < b.n → ps j = qs j) (h : Bst w bx g b ps ss fs) : Bst w bx g b qs ss fs :=
  ⟨h.h, h.ap, h.p.congr e, h.s, h.f, h.ne, h.sn, h.fn, h.so, h.fo, h.sc, h.fc⟩
theorem Bst.c17 {w : World} {bx g : Nat} {b : Bri} {ps ss : Nat → Rec} {fs : Nat → Int} (h : Bst w bx g b ps ss fs) : w.cell? ⟨bx, 17, none⟩ = some (.slice (some ⟨g, 0, none⟩) b.n b.cp) := by
  rw [← h.ap]
  exact cells_of h.h 17
theorem Bst.portsV {w : World} {bx g : Nat} {b : Bri} {ps ss : Nat → Rec} {fs : Nat → Int} (h : Bst w bx g b ps ss fs) : PortsV w b ps := by
  rw [show PortsV w b ps = View w b.ap 89 b.n (fun k j => cellP (ps k) j) from rfl, h.ap]
  exact h.p.view
theorem free_block {w : World} {g : Nat} {C : Array Value} {T : TypeId} (h : w.heap[g]? = some (.cells C T (0, 0))) (j : Nat) : w.frozen? ⟨g, j, none⟩ = false := by
  simp [World.frozen?, h]
/-- The bridge's own cells, in every world in which its ports alone have changed. -/
theorem Bst.rowB {W : World} {bx g : Nat} {b : Bri} {ps ss : Nat → Rec} {fs : Nat → Int} (h : Bst W bx g b ps ss fs) : ∀ w, Only (· = g) W w → w.rangeAt bx 0 (rowB b).toList := fun w hw j v hv => by
  rw [Nat.zero_add, cells_of ((hw.block bx h.lt h.ne).trans h.h) j]
  simpa using hv
theorem sizeBr (b : Bri) : (Try.prog.info? 33).map (·.size) = some (rowB b).size := by rw [rowB_size]; kernel_rfl
/-- How long a port waits ahead of going on; for another bridge. -/
def fwdN (b : Bri) (p : Rec) : Int := if p.b 45 = true then b.r.i 4 else b.r.i 5
def edgeN (b : Bri) (p : Rec) : Int := if p.b 3 = true then b.r.i 3 else 3
theorem fwd_any {w : World} {bx g k : Nat} {b : Bri} {ps ss : Nat → Rec} {fs : Nat → Int} {p : Rec} (h : Bst w bx g b (upd ps k p) ss fs) (hk : k < b.n) : Calls Try.prog 30 #[.agg (rowB b), .int .i64 k] w fun e w' => e = .returned (.int .i64 (fwdN b p)) ∧ Below w.heap.size w w' := by
  have := forward_any b (upd ps k p) k w h.portsV hk
  rw [upd_same] at this
  exact this
theorem edgedelay_any {w : World} {bx g k : Nat} {b : Bri} {ps ss : Nat → Rec} {fs : Nat → Int} {p : Rec} (h : Bst w bx g b (upd ps k p) ss fs) (hk : k < b.n) : Calls Try.prog 51 #[.agg (rowB b), .int .i64 k] w fun e w' => e = .returned (.int .i64 (edgeN b p)) ∧ Below w.heap.size w w' := by
  have := edge_any b (upd ps k p) k w h.portsV hk
  rw [upd_same] at this
  exact this
/-- A root or an alternate port agrees. -/
def agreeF (p : Rec) : Rec := ((p.setB 33 false).setB 22 true).setB 31 true
/-- Of each port a cell is set. -/
def allB (c : Nat) (ps : Nat → Rec) : Nat → Rec := fun j => (ps j).setB c true
/-- Of some of them. -/
def allM (c m : Nat) (ps : Nat → Rec) : Nat → Rec := fun j => if j < m then (ps j).setB c true else ps j
theorem allM_0 (c : Nat) (ps : Nat → Rec) (j : Nat) : ps j = allM c 0 ps j := by
  unfold allM
  rw [if_neg (by omega)]
theorem allM_at (c m : Nat) (ps : Nat → Rec) : allM c m ps m = ps m := by
  unfold allM
  rw [if_neg (by omega)]
theorem allM_put (c m : Nat) (ps : Nat → Rec) (j : Nat) : upd (allM c m ps) m ((ps m).setB c true) j = allM c (m + 1) ps j := by
  by_cases e : j = m
  · subst e
    simp [allM, upd]
  · by_cases h2 : j < m
    · simp [allM, upd, e, h2, show j < m + 1 by omega]
    · simp [allM, upd, e, h2, show ¬ j < m + 1 by omega]
theorem allM_all (c n : Nat) (ps : Nat → Rec) (j : Nat) (h : j < n) : allM c n ps j = allB c ps j := by
  simp [allM, allB, h]
theorem allB_upd (c k : Nat) (ps : Nat → Rec) (q : Rec) : allB c (upd ps k q) = upd (allB c ps) k (q.setB c true) := by
  funext j
  by_cases h : j = k <;> simp [allB, upd, h]
/-- A port takes its role on, in a state. -/
def enterF (b : Bri) (s : Int) (p : Rec) : Rec :=
  if s = 0 ∨ s = 4 then ((((p.setI 87 (p.i 88)).setI 19 s).setB 28 false).setB 26 false) else if s = 2 then ((p.setI 87 (p.i 88)).setI 19 s).setI 12 (b.r.i 5) else (p.setI 87 (p.i 88)).setI 19 s
/-- A port rests, in a state. -/
def restF (s fd : Int) (p : Rec) : Rec := (((((p.setI 7 fd).setI 12 0).setB 47 true).setB 46 false).setB 42 false).setI 19 s
def propF (b : Bri) (p : Rec) : Rec := ((p.setB 34 true).setB 31 true).setI 6 (edgeN b p)
def syncedF (p : Rec) : Rec := ((p.setI 12 0).setB 47 true).setB 46 false
def stopF (b : Bri) (p : Rec) : Rec := (((p.setB 28 false).setB 26 false).setB 24 false).setI 7 (fwdN b p)
def openF (p : Rec) : Rec := ((p.setB 26 true).setI 7 0).setB 23 (p.b 45)
set_option maxRecDepth 100000 in
set_option maxHeartbeats 4000000 in
theorem agrees_any (w : World) (bx g k : Nat) (b : Bri) (ps ss : Nat → Rec) (fs : Nat → Int) (p : Rec) (h : Bst w bx g b (upd ps k p) ss fs) (hk : k < b.n) : Calls Try.prog 41 #[.agg #[.pointer (some ⟨bx, 0, none⟩), .int .i64 k, .pointer (some ⟨g, k * 89, none⟩), .pointer (some ⟨g, k * 89 + 22, none⟩), .pointer (some ⟨g, k * 89 + 6, none⟩)]] w fun e w' => e = .returned (.tuple #[]) ∧ Bst w' bx g b (upd ps k (agreeF p)) ss fs ∧ Only (· = g) w w' := by
  go_enter Try.func41, Try.ntmps41
  go_upto_region 1 with (fail)
  refine ((?_ : ∀ x, x = w.alloc (.cells #[.pointer (some ⟨bx, 0, none⟩), .int .i64 k, .pointer (some ⟨g, k * 89, none⟩), .pointer (some ⟨g, k * 89 + 22, none⟩), .pointer (some ⟨g, k * 89 + 6, none⟩)] 57) → Code.wp _ _ _ _ x) _ rfl)
  intro w1 hw1
  obtain ⟨gx, hgx⟩ : ∃ x, x = w.heap.size := ⟨_, rfl⟩
  rw [← hgx]
  have hX1 : w1.heap[gx]? = some (.cells #[.pointer (some ⟨bx, 0, none⟩), .int .i64 k, .pointer (some ⟨g, k * 89, none⟩), .pointer (some ⟨g, k * 89 + 22, none⟩), .pointer (some ⟨g, k * 89 + 6, none⟩)] 57 (0, 0)) := by rw [hw1, hgx]; exact heap_alloc_new _ _
  have h1 : Bst w1 bx g b (upd ps k p) ss fs := by rw [hw1]; exact h.below (more (Below.refl _ _) _)
  have hbw : Below w.heap.size w w1 := by rw [hw1]; exact more (Below.refl _ _) _
  have HBW := Lib.hid hbw
  have HGX := Lib.hid hgx
  have ho1 : Only (· = g) w w1 := by rw [hw1]; exact (Only.refl _ _).alloc _
  have ngx : ¬ gx = g := by have := h.p.lt; omega
  have nxg : ¬ g = gx := by have := h.p.lt; omega
  have nxb : ¬ gx = bx := by have := h.lt; omega
  have H1 := Lib.hid h1
  have HO1 := Lib.hid ho1
  have lx := (Array.getElem?_eq_some_iff.1 hX1).1
  have HX1 := Lib.hid hX1
  clear hw1 hgx hX1 h1 ho1 h hbw
  have x0 : w1.cell? ⟨gx, 0, none⟩ = some (.pointer (some ⟨bx, 0, none⟩)) := cells_of HX1.out 0
  have x1 : w1.cell? ⟨gx, 1, none⟩ = some (.int .i64 k) := cells_of HX1.out 1
  have x2 : w1.cell? ⟨gx, 2, none⟩ = some (.pointer (some ⟨g, k * 89, none⟩)) := cells_of HX1.out 2
  have x3 : w1.cell? ⟨gx, 3, none⟩ = some (.pointer (some ⟨g, k * 89 + 22, none⟩)) := cells_of HX1.out 3
  have x4 : w1.cell? ⟨gx, 4, none⟩ = some (.pointer (some ⟨g, k * 89 + 6, none⟩)) := cells_of HX1.out 4
  have c33 : w1.cell? ⟨g, k * 89 + 22 + 11, none⟩ = some (.bool (p.b 33)) := (H1.out.p.cell hk (j := 33) (by omega)).trans (by rw [upd_same]; rfl)
  have c22 : w1.cell? ⟨g, k * 89 + 22, none⟩ = some (.bool (p.b 22)) := (H1.out.p.cell hk (j := 22) (by omega)).trans (by rw [upd_same]; rfl)
  have c31 : w1.cell? ⟨g, k * 89 + 22 + 9, none⟩ = some (.bool (p.b 31)) := (H1.out.p.cell hk (j := 31) (by omega)).trans (by rw [upd_same]; rfl)
  have f33 : w1.frozen? ⟨g, k * 89 + 22 + 11, none⟩ = false := H1.out.p.free _
  have f22 : w1.frozen? ⟨g, k * 89 + 22, none⟩ = false := H1.out.p.free _
  have f31 : w1.frozen? ⟨g, k * 89 + 22 + 9, none⟩ = false := H1.out.p.free _
  refine wp_region_held_drew (S := fun w' => Only (· = g) w1 w') (by kernel_rfl) (Only.refl _ _).drew (fun hH => ?_)
  refine wpAnyH_take (i := 0) (v := .pointer (some ⟨gx, 3, none⟩)) rfl (by kernel_rfl) (by kernel_rfl) (by kernel_rfl) (fun _ _ _ h => h) (Or.inl ⟨by rfl, fun z _ => by simp [go_sem, execOp]⟩) hH ?_
  simp only [List.getElem_toArray, List.getElem_cons_succ, List.getElem_cons_zero, Act.put, List.setIfInBounds_toArray, List.set_cons_zero, List.set_cons_succ]
  refine wpAnyH_take (i := 1) (v := .pointer (some ⟨g, k * 89 + 22, none⟩)) rfl (by kernel_rfl) (by kernel_rfl) (by kernel_rfl) (fun _ _ _ h => h) (Or.inl ⟨by rfl, fun z hz => by simp [go_sem, execOp, (show z.cell? ⟨gx, 3, none⟩ = some (.pointer (some ⟨g, k * 89 + 22, none⟩)) from (hz.cell (p := ⟨gx, 3, none⟩) lx (by show ¬ gx = g; exact ngx)).trans x3)]⟩) hH ?_
  simp only [List.getElem_toArray, List.getElem_cons_succ, List.getElem_cons_zero, Act.put, List.setIfInBounds_toArray, List.set_cons_zero, List.set_cons_succ]
  refine wpAnyH_take (i := 2) (v := .pointer (some ⟨gx, 3, none⟩)) rfl (by kernel_rfl) (by kernel_rfl) (by kernel_rfl) (fun _ _ _ h => h) (Or.inl ⟨by rfl, fun z _ => by simp [go_sem, execOp]⟩) hH ?_
  simp only [List.getElem_toArray, List.getElem_cons_succ, List.getElem_cons_zero, Act.put, List.setIfInBounds_toArray, List.set_cons_zero, List.set_cons_succ]
  refine wpAnyH_take (i := 3) (v := .pointer (some ⟨g, k * 89 + 22, none⟩)) rfl (by kernel_rfl) (by kernel_rfl) (by kernel_rfl) (fun _ _ _ h => h) (Or.inl ⟨by rfl, fun z hz => by simp [go_sem, execOp, (show z.cell? ⟨gx, 3, none⟩ = some (.pointer (some ⟨g, k * 89 + 22, none⟩)) from (hz.cell (p := ⟨gx, 3, none⟩) lx (by show ¬ gx = g; exact ngx)).trans x3)]⟩) hH ?_
  simp only [List.getElem_toArray, List.getElem_cons_succ, List.getElem_cons_zero, Act.put, List.setIfInBounds_toArray, List.set_cons_zero, List.set_cons_succ]
  refine wpAnyH_take (i := 4) (v := .pointer (some ⟨gx, 3, none⟩)) rfl (by kernel_rfl) (by kernel_rfl) (by kernel_rfl) (fun _ _ _ h => h) (Or.inl ⟨by rfl, fun z _ => by simp [go_sem, execOp]⟩) hH ?_
  simp only [List.getElem_toArray, List.getElem_cons_succ, List.getElem_cons_zero, Act.put, List.setIfInBounds_toArray, List.set_cons_zero, List.set_cons_succ]
  refine wpAnyH_take (i := 5) (v := .pointer (some ⟨g, k * 89 + 22, none⟩)) rfl (by kernel_rfl) (by kernel_rfl) (by kernel_rfl) (fun _ _ _ h => h) (Or.inl ⟨by rfl, fun z hz => by simp [go_sem, execOp, (show z.cell? ⟨gx, 3, none⟩ = some (.pointer (some ⟨g, k * 89 + 22, none⟩)) from (hz.cell (p := ⟨gx, 3, none⟩) lx (by show ¬ gx = g; exact ngx)).trans x3)]⟩) hH ?_
  simp only [List.getElem_toArray, List.getElem_cons_succ, List.getElem_cons_zero, Act.put, List.setIfInBounds_toArray, List.set_cons_zero, List.set_cons_succ]
  refine wpAnyH_take (i := 6) (v := .pointer (some ⟨g, k * 89 + 22, none⟩)) rfl (by kernel_rfl) (by kernel_rfl) (by kernel_rfl) (fun _ _ _ h => h) (Or.inl ⟨by rfl, fun z _ => by simp [go_sem, execOp]⟩) hH ?_
  simp only [List.getElem_toArray, List.getElem_cons_succ, List.getElem_cons_zero, Act.put, List.setIfInBounds_toArray, List.set_cons_zero, List.set_cons_succ]
  refine wpAnyH_take (i := 7) (v := .pointer (some ⟨g, k * 89 + 22 + 11, none⟩)) rfl (by kernel_rfl) (by kernel_rfl) (by kernel_rfl) (fun _ _ _ h => h) (Or.inl ⟨by rfl, fun z _ => by simp [go_sem, execOp]⟩) hH ?_
  simp only [List.getElem_toArray, List.getElem_cons_succ, List.getElem_cons_zero, Act.put, List.setIfInBounds_toArray, List.set_cons_zero, List.set_cons_succ]
  refine wpAnyH_ready (rs := [8]) (by kernel_rfl) (by simp) (AllReadyH.cons rfl (fun K hK => ?_) AllReadyH.nil)
  go_simp
  refine hK.out _ _ (hH.setCell (Or.inl rfl) _) (fun hH0 => ?_)
  clear hK K hH
  refine wpAnyH_take (i := 9) (v := .pointer (some ⟨g, k * 89 + 22, none⟩)) rfl (by kernel_rfl) (by kernel_rfl) (by kernel_rfl) (fun _ _ _ h => h) (Or.inl ⟨by rfl, fun z _ => by simp [go_sem, execOp]⟩) hH0 ?_
  simp only [List.getElem_toArray, List.getElem_cons_succ, List.getElem_cons_zero, Act.put, List.setIfInBounds_toArray, List.set_cons_zero, List.set_cons_succ]
  refine wpAnyH_take (i := 10) (v := .pointer (some ⟨g, k * 89 + 22, none⟩)) rfl (by kernel_rfl) (by kernel_rfl) (by kernel_rfl) (fun _ _ _ h => h) (Or.inl ⟨by rfl, fun z _ => by simp [go_sem, execOp]⟩) hH0 ?_
  simp only [List.getElem_toArray, List.getElem_cons_succ, List.getElem_cons_zero, Act.put, List.setIfInBounds_toArray, List.set_cons_zero, List.set_cons_succ]
  refine wpAnyH_ready (rs := [11]) (by kernel_rfl) (by simp) (AllReadyH.cons rfl (fun K hK => ?_) AllReadyH.nil)
  go_simp
  refine hK.out _ _ (hH0.setCell (Or.inl rfl) _) (fun hH1 => ?_)
  clear hK K hH0
  refine wpAnyH_take (i := 12) (v := .pointer (some ⟨g, k * 89 + 22, none⟩)) rfl (by kernel_rfl) (by kernel_rfl) (by kernel_rfl) (fun _ _ _ h => h) (Or.inl ⟨by rfl, fun z _ => by simp [go_sem, execOp]⟩) hH1 ?_
  simp only [List.getElem_toArray, List.getElem_cons_succ, List.getElem_cons_zero, Act.put, List.setIfInBounds_toArray, List.set_cons_zero, List.set_cons_succ]
  refine wpAnyH_take (i := 13) (v := .pointer (some ⟨g, k * 89 + 22 + 9, none⟩)) rfl (by kernel_rfl) (by kernel_rfl) (by kernel_rfl) (fun _ _ _ h => h) (Or.inl ⟨by rfl, fun z _ => by simp [go_sem, execOp]⟩) hH1 ?_
  simp only [List.getElem_toArray, List.getElem_cons_succ, List.getElem_cons_zero, Act.put, List.setIfInBounds_toArray, List.set_cons_zero, List.set_cons_succ]
  refine wpAnyH_ready (rs := [14]) (by kernel_rfl) (by simp) (AllReadyH.cons rfl (fun K hK => ?_) AllReadyH.nil)
  go_simp
  refine hK.out _ _ (hH1.setCell (Or.inl rfl) _) (fun hH2 => ?_)
  clear hK K hH1
  refine wpAnyH_done (by kernel_rfl) ?_ _
  clear hH2
  go_wp2_with fail
  go_end0
  exact ⟨rfl, (((H1.out.below (Below.refl _ _).drew).put (j := 33) (by omega) (rowP_put_33 _ _)).put (j := 22) (by omega) (rowP_put_22 _ _)).put (j := 31) (by omega) (rowP_put_31 _ _), (((HO1.out.drew).setCell (Or.inl rfl) _).setCell (Or.inl rfl) _).setCell (Or.inl rfl) _⟩
set_option maxRecDepth 100000 in
set_option maxHeartbeats 4000000 in
theorem alt1_any (w : World) (bx g k : Nat) (b : Bri) (ps ss : Nat → Rec) (fs : Nat → Int) (p : Rec) (h : Bst w bx g b (upd ps k p) ss fs) (hk : k < b.n) (gx : Nat) (hX : w.heap[gx]? = some (.cells #[.pointer (some ⟨bx, 0, none⟩), .int .i64 k, .pointer (some ⟨g, k * 89, none⟩), .pointer (some ⟨g, k * 89 + 22, none⟩), .pointer (some ⟨g, k * 89 + 6, none⟩)] 57 (0, 0))) (ngx : ¬ gx = g) (gs : Nat) (s : Int) (hs : w.cell? ⟨gs, 0, none⟩ = some (.int .i64 s)) (nS : ¬ gs = g) : Calls Try.prog 42 #[.pointer (some ⟨gs, 0, none⟩), .pointer (some ⟨gx, 0, none⟩)] w fun e w' => e = .returned (.tuple #[]) ∧ Bst w' bx g b (upd ps k (p.setI 10 s)) ss fs ∧ Only (· = g) w w' := by
  have lx := (Array.getElem?_eq_some_iff.1 hX).1
  have HX := Lib.hid hX
  have x0 : w.cell? ⟨gx, 0, none⟩ = some (.pointer (some ⟨bx, 0, none⟩)) := cells_of HX.out 0
  have x1 : w.cell? ⟨gx, 1, none⟩ = some (.int .i64 k) := cells_of HX.out 1
  have x2 : w.cell? ⟨gx, 2, none⟩ = some (.pointer (some ⟨g, k * 89, none⟩)) := cells_of HX.out 2
  have x3 : w.cell? ⟨gx, 3, none⟩ = some (.pointer (some ⟨g, k * 89 + 22, none⟩)) := cells_of HX.out 3
  have x4 : w.cell? ⟨gx, 4, none⟩ = some (.pointer (some ⟨g, k * 89 + 6, none⟩)) := cells_of HX.out 4
  clear hX
  have lS := cell_lt hs
  have qx : ¬ g = gx := fun e => ngx e.symm
  have qs : ¬ g = gs := fun e => nS e.symm
  have H1 := Lib.hid h
  have hgl := h.p.lt
  have nbg : ¬ bx = g := h.ne
  have ngb : ¬ g = bx := fun e => h.ne e.symm
  clear h
  go_enter Try.func42, Try.ntmps42
  have c10 : w.cell? ⟨g, k * 89 + 6 + 4, none⟩ = some (.int .i64 (p.i 10)) := (H1.out.p.cell hk (j := 10) (by omega)).trans (by rw [upd_same]; rfl)
  have f10 : w.frozen? ⟨g, k * 89 + 6 + 4, none⟩ = false := H1.out.p.free _
  go_wp2_with fail
  go_end0
  exact ⟨rfl, (H1.out).put (j := 10) (by omega) (rowP_put_10 _ _), ((Only.refl (· = g) w)).setCell (Or.inl rfl) _⟩
set_option maxRecDepth 100000 in
set_option maxHeartbeats 4000000 in
theorem root3_any (w : World) (bx g k : Nat) (b : Bri) (ps ss : Nat → Rec) (fs : Nat → Int) (p : Rec) (h : Bst w bx g b (upd ps k p) ss fs) (hk : k < b.n) (gf : Nat) (hF : w.cell? ⟨gf, 0, none⟩ = some (.pointer (some ⟨g, k * 89 + 22, none⟩))) (nF : ¬ gf = g) : Calls Try.prog 48 #[.pointer (some ⟨gf, 0, none⟩)] w fun e w' => e = .returned (.tuple #[]) ∧ Bst w' bx g b (upd ps k (p.setB 42 false)) ss fs ∧ Only (· = g) w w' := by
  have lF := cell_lt hF
  have qf : ¬ g = gf := fun e => nF e.symm
  have H1 := Lib.hid h
  have hgl := h.p.lt
  have nbg : ¬ bx = g := h.ne
  have ngb : ¬ g = bx := fun e => h.ne e.symm
  clear h
  go_enter Try.func48, Try.ntmps48
  have c42 : w.cell? ⟨g, k * 89 + 22 + 20, none⟩ = some (.bool (p.b 42)) := (H1.out.p.cell hk (j := 42) (by omega)).trans (by rw [upd_same]; rfl)
  have f42 : w.frozen? ⟨g, k * 89 + 22 + 20, none⟩ = false := H1.out.p.free _
  go_wp2_with fail
  go_end0
  exact ⟨rfl, (H1.out).put (j := 42) (by omega) (rowP_put_42 _ _), ((Only.refl (· = g) w)).setCell (Or.inl rfl) _⟩
set_option maxRecDepth 100000 in
set_option maxHeartbeats 4000000 in
theorem root4_any (w : World) (bx g k : Nat) (b : Bri) (ps ss : Nat → Rec) (fs : Nat → Int) (p : Rec) (h : Bst w bx g b (upd ps k p) ss fs) (hk : k < b.n) (gx : Nat) (hX : w.heap[gx]? = some (.cells #[.pointer (some ⟨bx, 0, none⟩), .int .i64 k, .pointer (some ⟨g, k * 89, none⟩), .pointer (some ⟨g, k * 89 + 22, none⟩), .pointer (some ⟨g, k * 89 + 6, none⟩)] 57 (0, 0))) (ngx : ¬ gx = g) (gs : Nat) (s : Int) (hs : w.cell? ⟨gs, 0, none⟩ = some (.int .i64 s)) (nS : ¬ gs = g) : Calls Try.prog 49 #[.pointer (some ⟨gs, 0, none⟩), .pointer (some ⟨gx, 0, none⟩)] w fun e w' => e = .returned (.tuple #[]) ∧ Bst w' bx g b (upd ps k (p.setI 12 s)) ss fs ∧ Only (· = g) w w' := by
  have lx := (Array.getElem?_eq_some_iff.1 hX).1
  have HX := Lib.hid hX
  have x0 : w.cell? ⟨gx, 0, none⟩ = some (.pointer (some ⟨bx, 0, none⟩)) := cells_of HX.out 0
  have x1 : w.cell? ⟨gx, 1, none⟩ = some (.int .i64 k) := cells_of HX.out 1
  have x2 : w.cell? ⟨gx, 2, none⟩ = some (.pointer (some ⟨g, k * 89, none⟩)) := cells_of HX.out 2
  have x3 : w.cell? ⟨gx, 3, none⟩ = some (.pointer (some ⟨g, k * 89 + 22, none⟩)) := cells_of HX.out 3
  have x4 : w.cell? ⟨gx, 4, none⟩ = some (.pointer (some ⟨g, k * 89 + 6, none⟩)) := cells_of HX.out 4
  clear hX
  have lS := cell_lt hs
  have qx : ¬ g = gx := fun e => ngx e.symm
  have qs : ¬ g = gs := fun e => nS e.symm
  have H1 := Lib.hid h
  have hgl := h.p.lt
  have nbg : ¬ bx = g := h.ne
  have ngb : ¬ g = bx := fun e => h.ne e.symm
  clear h
  go_enter Try.func49, Try.ntmps49
  have c12 : w.cell? ⟨g, k * 89 + 6 + 6, none⟩ = some (.int .i64 (p.i 12)) := (H1.out.p.cell hk (j := 12) (by omega)).trans (by rw [upd_same]; rfl)
  have f12 : w.frozen? ⟨g, k * 89 + 6 + 6, none⟩ = false := H1.out.p.free _
  go_wp2_with fail
  go_end0
  exact ⟨rfl, (H1.out).put (j := 12) (by omega) (rowP_put_12 _ _), ((Only.refl (· = g) w)).setCell (Or.inl rfl) _⟩
set_option maxRecDepth 100000 in
set_option maxHeartbeats 4000000 in
theorem des3_any (w : World) (bx g k : Nat) (b : Bri) (ps ss : Nat → Rec) (fs : Nat → Int) (p : Rec) (h : Bst w bx g b (upd ps k p) ss fs) (hk : k < b.n) (gf : Nat) (hF : w.cell? ⟨gf, 0, none⟩ = some (.pointer (some ⟨g, k * 89 + 22, none⟩))) (nF : ¬ gf = g) : Calls Try.prog 53 #[.pointer (some ⟨gf, 0, none⟩)] w fun e w' => e = .returned (.tuple #[]) ∧ Bst w' bx g b (upd ps k (p.setB 42 false)) ss fs ∧ Only (· = g) w w' := by
  have lF := cell_lt hF
  have qf : ¬ g = gf := fun e => nF e.symm
  have H1 := Lib.hid h
  have hgl := h.p.lt
  have nbg : ¬ bx = g := h.ne
  have ngb : ¬ g = bx := fun e => h.ne e.symm
  clear h
  go_enter Try.func53, Try.ntmps53
  have c42 : w.cell? ⟨g, k * 89 + 22 + 20, none⟩ = some (.bool (p.b 42)) := (H1.out.p.cell hk (j := 42) (by omega)).trans (by rw [upd_same]; rfl)
  have f42 : w.frozen? ⟨g, k * 89 + 22 + 20, none⟩ = false := H1.out.p.free _
  go_wp2_with fail
  go_end0
  exact ⟨rfl, (H1.out).put (j := 42) (by omega) (rowP_put_42 _ _), ((Only.refl (· = g) w)).setCell (Or.inl rfl) _⟩
set_option maxRecDepth 100000 in
set_option maxHeartbeats 4000000 in
theorem root2_any (w : World) (bx g k : Nat) (b : Bri) (ps ss : Nat → Rec) (fs : Nat → Int) (p : Rec) (h : Bst w bx g b (upd ps k p) ss fs) (hk : k < b.n) (gx : Nat) (hX : w.heap[gx]? = some (.cells #[.pointer (some ⟨bx, 0, none⟩), .int .i64 k, .pointer (some ⟨g, k * 89, none⟩), .pointer (some ⟨g, k * 89 + 22, none⟩), .pointer (some ⟨g, k * 89 + 6, none⟩)] 57 (0, 0))) (ngx : ¬ gx = g) (gf : Nat) (hF : w.cell? ⟨gf, 0, none⟩ = some (.pointer (some ⟨g, k * 89 + 22, none⟩))) (nF : ¬ gf = g) : Calls Try.prog 47 #[.pointer (some ⟨gx, 0, none⟩), .pointer (some ⟨gf, 0, none⟩)] w fun e w' => e = .returned (.tuple #[]) ∧ Bst w' bx g b (upd ps k ((p.setI 7 0).setB 26 true)) ss fs ∧ Only (· = g) w w' := by
  have lx := (Array.getElem?_eq_some_iff.1 hX).1
  have HX := Lib.hid hX
  have x0 : w.cell? ⟨gx, 0, none⟩ = some (.pointer (some ⟨bx, 0, none⟩)) := cells_of HX.out 0
  have x1 : w.cell? ⟨gx, 1, none⟩ = some (.int .i64 k) := cells_of HX.out 1
  have x2 : w.cell? ⟨gx, 2, none⟩ = some (.pointer (some ⟨g, k * 89, none⟩)) := cells_of HX.out 2
  have x3 : w.cell? ⟨gx, 3, none⟩ = some (.pointer (some ⟨g, k * 89 + 22, none⟩)) := cells_of HX.out 3
  have x4 : w.cell? ⟨gx, 4, none⟩ = some (.pointer (some ⟨g, k * 89 + 6, none⟩)) := cells_of HX.out 4
  clear hX
  have lF := cell_lt hF
  have qx : ¬ g = gx := fun e => ngx e.symm
  have qf : ¬ g = gf := fun e => nF e.symm
  have H1 := Lib.hid h
  have hgl := h.p.lt
  have nbg : ¬ bx = g := h.ne
  have ngb : ¬ g = bx := fun e => h.ne e.symm
  clear h
  go_enter Try.func47, Try.ntmps47
  have c7 : w.cell? ⟨g, k * 89 + 6 + 1, none⟩ = some (.int .i64 (p.i 7)) := (H1.out.p.cell hk (j := 7) (by omega)).trans (by rw [upd_same]; rfl)
  have c26 : w.cell? ⟨g, k * 89 + 22 + 4, none⟩ = some (.bool (p.b 26)) := (H1.out.p.cell hk (j := 26) (by omega)).trans (by rw [upd_same]; rfl)
  have f7 : w.frozen? ⟨g, k * 89 + 6 + 1, none⟩ = false := H1.out.p.free _
  have f26 : w.frozen? ⟨g, k * 89 + 22 + 4, none⟩ = false := H1.out.p.free _
  refine wp_region_held_drew (S := fun w' => Only (· = g) w w') (by kernel_rfl) (Only.refl _ _).drew (fun hH => ?_)
  refine wpAnyH_take (i := 0) (v := .pointer (some ⟨gx, 4, none⟩)) rfl (by kernel_rfl) (by kernel_rfl) (by kernel_rfl) (fun _ _ _ h => h) (Or.inl ⟨by rfl, fun z _ => by simp [go_sem, execOp]⟩) hH ?_
  simp only [List.getElem_toArray, List.getElem_cons_succ, List.getElem_cons_zero, Act.put, List.setIfInBounds_toArray, List.set_cons_zero, List.set_cons_succ]
  refine wpAnyH_take (i := 1) (v := .pointer (some ⟨g, k * 89 + 6, none⟩)) rfl (by kernel_rfl) (by kernel_rfl) (by kernel_rfl) (fun _ _ _ h => h) (Or.inl ⟨by rfl, fun z hz => by simp [go_sem, execOp, (show z.cell? ⟨gx, 4, none⟩ = some (.pointer (some ⟨g, k * 89 + 6, none⟩)) from (hz.cell (p := ⟨gx, 4, none⟩) lx (by show ¬ gx = g; exact ngx)).trans x4)]⟩) hH ?_
  simp only [List.getElem_toArray, List.getElem_cons_succ, List.getElem_cons_zero, Act.put, List.setIfInBounds_toArray, List.set_cons_zero, List.set_cons_succ]
  refine wpAnyH_take (i := 2) (v := .pointer (some ⟨g, k * 89 + 22, none⟩)) rfl (by kernel_rfl) (by kernel_rfl) (by kernel_rfl) (fun _ _ _ h => h) (Or.inl ⟨by rfl, fun z hz => by simp [go_sem, execOp, (show z.cell? ⟨gf, 0, none⟩ = some (.pointer (some ⟨g, k * 89 + 22, none⟩)) from (hz.cell (p := ⟨gf, 0, none⟩) lF (by show ¬ gf = g; exact nF)).trans hF)]⟩) hH ?_
  simp only [List.getElem_toArray, List.getElem_cons_succ, List.getElem_cons_zero, Act.put, List.setIfInBounds_toArray, List.set_cons_zero, List.set_cons_succ]
  refine wpAnyH_take (i := 3) (v := .pointer (some ⟨g, k * 89 + 6, none⟩)) rfl (by kernel_rfl) (by kernel_rfl) (by kernel_rfl) (fun _ _ _ h => h) (Or.inl ⟨by rfl, fun z _ => by simp [go_sem, execOp]⟩) hH ?_
  simp only [List.getElem_toArray, List.getElem_cons_succ, List.getElem_cons_zero, Act.put, List.setIfInBounds_toArray, List.set_cons_zero, List.set_cons_succ]
  refine wpAnyH_take (i := 4) (v := .pointer (some ⟨g, k * 89 + 6 + 1, none⟩)) rfl (by kernel_rfl) (by kernel_rfl) (by kernel_rfl) (fun _ _ _ h => h) (Or.inl ⟨by rfl, fun z _ => by simp [go_sem, execOp]⟩) hH ?_
  simp only [List.getElem_toArray, List.getElem_cons_succ, List.getElem_cons_zero, Act.put, List.setIfInBounds_toArray, List.set_cons_zero, List.set_cons_succ]
  refine wpAnyH_ready (rs := [5]) (by kernel_rfl) (by simp) (AllReadyH.cons rfl (fun K hK => ?_) AllReadyH.nil)
  go_simp
  refine hK.out _ _ (hH.setCell (Or.inl rfl) _) (fun hH0 => ?_)
  clear hK K hH
  refine wpAnyH_take (i := 6) (v := .pointer (some ⟨g, k * 89 + 22, none⟩)) rfl (by kernel_rfl) (by kernel_rfl) (by kernel_rfl) (fun _ _ _ h => h) (Or.inl ⟨by rfl, fun z _ => by simp [go_sem, execOp]⟩) hH0 ?_
  simp only [List.getElem_toArray, List.getElem_cons_succ, List.getElem_cons_zero, Act.put, List.setIfInBounds_toArray, List.set_cons_zero, List.set_cons_succ]
  refine wpAnyH_take (i := 7) (v := .pointer (some ⟨g, k * 89 + 22 + 4, none⟩)) rfl (by kernel_rfl) (by kernel_rfl) (by kernel_rfl) (fun _ _ _ h => h) (Or.inl ⟨by rfl, fun z _ => by simp [go_sem, execOp]⟩) hH0 ?_
  simp only [List.getElem_toArray, List.getElem_cons_succ, List.getElem_cons_zero, Act.put, List.setIfInBounds_toArray, List.set_cons_zero, List.set_cons_succ]
  refine wpAnyH_ready (rs := [8]) (by kernel_rfl) (by simp) (AllReadyH.cons rfl (fun K hK => ?_) AllReadyH.nil)
  go_simp
  refine hK.out _ _ (hH0.setCell (Or.inl rfl) _) (fun hH1 => ?_)
  clear hK K hH0
  refine wpAnyH_done (by kernel_rfl) ?_ _
  clear hH1
  go_wp2_with fail
  go_end0
  exact ⟨rfl, ((H1.out.below (Below.refl _ _).drew).put (j := 7) (by omega) (rowP_put_7 _ _)).put (j := 26) (by omega) (rowP_put_26 _ _), (((Only.refl (· = g) w).drew).setCell (Or.inl rfl) _).setCell (Or.inl rfl) _⟩
set_option maxRecDepth 100000 in
set_option maxHeartbeats 4000000 in
theorem des2_any (w : World) (bx g k : Nat) (b : Bri) (ps ss : Nat → Rec) (fs : Nat → Int) (p : Rec) (h : Bst w bx g b (upd ps k p) ss fs) (hk : k < b.n) (gf : Nat) (hF : w.cell? ⟨gf, 0, none⟩ = some (.pointer (some ⟨g, k * 89 + 22, none⟩))) (nF : ¬ gf = g) (gc : Nat) (hC : w.cell? ⟨gc, 0, none⟩ = some (.pointer (some ⟨g, k * 89 + 6, none⟩))) (nC : ¬ gc = g) : Calls Try.prog 52 #[.pointer (some ⟨gc, 0, none⟩), .pointer (some ⟨gf, 0, none⟩)] w fun e w' => e = .returned (.tuple #[]) ∧ Bst w' bx g b (upd ps k (syncedF p)) ss fs ∧ Only (· = g) w w' := by
  have lF := cell_lt hF
  have lC := cell_lt hC
  have qf : ¬ g = gf := fun e => nF e.symm
  have qc : ¬ g = gc := fun e => nC e.symm
  have H1 := Lib.hid h
  have hgl := h.p.lt
  have nbg : ¬ bx = g := h.ne
  have ngb : ¬ g = bx := fun e => h.ne e.symm
  clear h
  go_enter Try.func52, Try.ntmps52
  have c12 : w.cell? ⟨g, k * 89 + 6 + 6, none⟩ = some (.int .i64 (p.i 12)) := (H1.out.p.cell hk (j := 12) (by omega)).trans (by rw [upd_same]; rfl)
  have c47 : w.cell? ⟨g, k * 89 + 22 + 25, none⟩ = some (.bool (p.b 47)) := (H1.out.p.cell hk (j := 47) (by omega)).trans (by rw [upd_same]; rfl)
  have c46 : w.cell? ⟨g, k * 89 + 22 + 24, none⟩ = some (.bool (p.b 46)) := (H1.out.p.cell hk (j := 46) (by omega)).trans (by rw [upd_same]; rfl)
  have f12 : w.frozen? ⟨g, k * 89 + 6 + 6, none⟩ = false := H1.out.p.free _
  have f47 : w.frozen? ⟨g, k * 89 + 22 + 25, none⟩ = false := H1.out.p.free _
  have f46 : w.frozen? ⟨g, k * 89 + 22 + 24, none⟩ = false := H1.out.p.free _
  refine wp_region_held_drew (S := fun w' => Only (· = g) w w') (by kernel_rfl) (Only.refl _ _).drew (fun hH => ?_)
  refine wpAnyH_take (i := 0) (v := .pointer (some ⟨g, k * 89 + 6, none⟩)) rfl (by kernel_rfl) (by kernel_rfl) (by kernel_rfl) (fun _ _ _ h => h) (Or.inl ⟨by rfl, fun z hz => by simp [go_sem, execOp, (show z.cell? ⟨gc, 0, none⟩ = some (.pointer (some ⟨g, k * 89 + 6, none⟩)) from (hz.cell (p := ⟨gc, 0, none⟩) lC (by show ¬ gc = g; exact nC)).trans hC)]⟩) hH ?_
  simp only [List.getElem_toArray, List.getElem_cons_succ, List.getElem_cons_zero, Act.put, List.setIfInBounds_toArray, List.set_cons_zero, List.set_cons_succ]
  refine wpAnyH_take (i := 1) (v := .pointer (some ⟨g, k * 89 + 22, none⟩)) rfl (by kernel_rfl) (by kernel_rfl) (by kernel_rfl) (fun _ _ _ h => h) (Or.inl ⟨by rfl, fun z hz => by simp [go_sem, execOp, (show z.cell? ⟨gf, 0, none⟩ = some (.pointer (some ⟨g, k * 89 + 22, none⟩)) from (hz.cell (p := ⟨gf, 0, none⟩) lF (by show ¬ gf = g; exact nF)).trans hF)]⟩) hH ?_
  simp only [List.getElem_toArray, List.getElem_cons_succ, List.getElem_cons_zero, Act.put, List.setIfInBounds_toArray, List.set_cons_zero, List.set_cons_succ]
  refine wpAnyH_take (i := 2) (v := .pointer (some ⟨g, k * 89 + 22, none⟩)) rfl (by kernel_rfl) (by kernel_rfl) (by kernel_rfl) (fun _ _ _ h => h) (Or.inl ⟨by rfl, fun z hz => by simp [go_sem, execOp, (show z.cell? ⟨gf, 0, none⟩ = some (.pointer (some ⟨g, k * 89 + 22, none⟩)) from (hz.cell (p := ⟨gf, 0, none⟩) lF (by show ¬ gf = g; exact nF)).trans hF)]⟩) hH ?_
  simp only [List.getElem_toArray, List.getElem_cons_succ, List.getElem_cons_zero, Act.put, List.setIfInBounds_toArray, List.set_cons_zero, List.set_cons_succ]
  refine wpAnyH_take (i := 3) (v := .pointer (some ⟨g, k * 89 + 6, none⟩)) rfl (by kernel_rfl) (by kernel_rfl) (by kernel_rfl) (fun _ _ _ h => h) (Or.inl ⟨by rfl, fun z _ => by simp [go_sem, execOp]⟩) hH ?_
  simp only [List.getElem_toArray, List.getElem_cons_succ, List.getElem_cons_zero, Act.put, List.setIfInBounds_toArray, List.set_cons_zero, List.set_cons_succ]
  refine wpAnyH_take (i := 4) (v := .pointer (some ⟨g, k * 89 + 6 + 6, none⟩)) rfl (by kernel_rfl) (by kernel_rfl) (by kernel_rfl) (fun _ _ _ h => h) (Or.inl ⟨by rfl, fun z _ => by simp [go_sem, execOp]⟩) hH ?_
  simp only [List.getElem_toArray, List.getElem_cons_succ, List.getElem_cons_zero, Act.put, List.setIfInBounds_toArray, List.set_cons_zero, List.set_cons_succ]
  refine wpAnyH_ready (rs := [5]) (by kernel_rfl) (by simp) (AllReadyH.cons rfl (fun K hK => ?_) AllReadyH.nil)
  go_simp
  refine hK.out _ _ (hH.setCell (Or.inl rfl) _) (fun hH0 => ?_)
  clear hK K hH
  refine wpAnyH_take (i := 6) (v := .pointer (some ⟨g, k * 89 + 22, none⟩)) rfl (by kernel_rfl) (by kernel_rfl) (by kernel_rfl) (fun _ _ _ h => h) (Or.inl ⟨by rfl, fun z _ => by simp [go_sem, execOp]⟩) hH0 ?_
  simp only [List.getElem_toArray, List.getElem_cons_succ, List.getElem_cons_zero, Act.put, List.setIfInBounds_toArray, List.set_cons_zero, List.set_cons_succ]
  refine wpAnyH_take (i := 7) (v := .pointer (some ⟨g, k * 89 + 22 + 25, none⟩)) rfl (by kernel_rfl) (by kernel_rfl) (by kernel_rfl) (fun _ _ _ h => h) (Or.inl ⟨by rfl, fun z _ => by simp [go_sem, execOp]⟩) hH0 ?_
  simp only [List.getElem_toArray, List.getElem_cons_succ, List.getElem_cons_zero, Act.put, List.setIfInBounds_toArray, List.set_cons_zero, List.set_cons_succ]
  refine wpAnyH_ready (rs := [8]) (by kernel_rfl) (by simp) (AllReadyH.cons rfl (fun K hK => ?_) AllReadyH.nil)
  go_simp
  refine hK.out _ _ (hH0.setCell (Or.inl rfl) _) (fun hH1 => ?_)
  clear hK K hH0
  refine wpAnyH_take (i := 9) (v := .pointer (some ⟨g, k * 89 + 22, none⟩)) rfl (by kernel_rfl) (by kernel_rfl) (by kernel_rfl) (fun _ _ _ h => h) (Or.inl ⟨by rfl, fun z _ => by simp [go_sem, execOp]⟩) hH1 ?_
  simp only [List.getElem_toArray, List.getElem_cons_succ, List.getElem_cons_zero, Act.put, List.setIfInBounds_toArray, List.set_cons_zero, List.set_cons_succ]
  refine wpAnyH_take (i := 10) (v := .pointer (some ⟨g, k * 89 + 22 + 24, none⟩)) rfl (by kernel_rfl) (by kernel_rfl) (by kernel_rfl) (fun _ _ _ h => h) (Or.inl ⟨by rfl, fun z _ => by simp [go_sem, execOp]⟩) hH1 ?_
  simp only [List.getElem_toArray, List.getElem_cons_succ, List.getElem_cons_zero, Act.put, List.setIfInBounds_toArray, List.set_cons_zero, List.set_cons_succ]
  refine wpAnyH_ready (rs := [11]) (by kernel_rfl) (by simp) (AllReadyH.cons rfl (fun K hK => ?_) AllReadyH.nil)
  go_simp
  refine hK.out _ _ (hH1.setCell (Or.inl rfl) _) (fun hH2 => ?_)
  clear hK K hH1
  refine wpAnyH_done (by kernel_rfl) ?_ _
  clear hH2
  go_wp2_with fail
  go_end0
  exact ⟨rfl, (((H1.out.below (Below.refl _ _).drew).put (j := 12) (by omega) (rowP_put_12 _ _)).put (j := 47) (by omega) (rowP_put_47 _ _)).put (j := 46) (by omega) (rowP_put_46 _ _), ((((Only.refl (· = g) w).drew).setCell (Or.inl rfl) _).setCell (Or.inl rfl) _).setCell (Or.inl rfl) _⟩
end Go.Proofs.Ytdangeefecdbaaa.Br
