/- Chapter 15: the rows that agree (ford/trans.port.sets). Conditions: the bridge lies in memory; there aren't very many ports; what agrees does so. -/
import Derived.Test.YtdangeefecdbaaaTr6
set_option linter.unusedSimpArgs false
set_option linter.unusedVariables false
namespace Go.Proofs.Ytdangeefecdbaaa.Br
open Go.RowKit
/-- Are all ports synced? -/
def syncedAll (b : Bri) (qs : Nat → Rec) : Bool := !anyR (fun j => unsynced (qs j)) b.n
/-- Was no other port a root lately? -/
def aloneB (b : Bri) (k : Nat) (qs : Nat → Rec) : Bool := !anyR (lately qs k) b.n
/-- The rows that agree. -/
def setsL (b : Bri) (k : Nat) (p : Rec) (ps q0 : Nat → Rec) : List (Bool × (Nat → Rec)) :=
  [(p.b 33 && !p.b 22, upd (allB 46 ps) k ((p.setB 46 true).setB 33 false)), ((syncedAll b (upd ps k p) && !p.b 22) || (p.b 33 && p.b 22), q0)]
attribute [local go_sem] bldRow mkRows1 mkRows2 mkRows4 mkRows5 mkRows6
set_option maxRecDepth 100000 in
set_option maxHeartbeats 8000000 in
theorem sets_any (w : World) (bx g k : Nat) (b : Bri) (ps ss : Nat → Rec) (fs : Nat → Int) (p : Rec) (h : Bst w bx g b (upd ps k p) ss fs) (hk : k < b.n) (hn : b.n ≤ 1000) (f0 : Nat) (bn0 cp0 : Array Value) (q0 : Nat → Rec) (hD : Does bx g b ss fs w (.func (.func f0) bn0 cp0) q0) : Calls Try.prog 40 #[.agg #[.pointer (some ⟨bx, 0, none⟩), .int .i64 k, .pointer (some ⟨g, k * 89, none⟩), .pointer (some ⟨g, k * 89 + 22, none⟩), .pointer (some ⟨g, k * 89 + 6, none⟩)], .func (.func f0) bn0 cp0] w fun e w' => ∃ v, e = .returned v ∧ RowsF bx g b ss fs w' v (setsL b k p ps q0) ∧ Below w.heap.size w w' := by
  have HD0 := Lib.hid hD
  clear hD
  go_enter Try.func40, Try.ntmps40
  go_upto_region 1 with (fail)
  refine ((?_ : ∀ x, x = w.alloc (.cells #[.pointer (some ⟨bx, 0, none⟩), .int .i64 k, .pointer (some ⟨g, k * 89, none⟩), .pointer (some ⟨g, k * 89 + 22, none⟩), .pointer (some ⟨g, k * 89 + 6, none⟩)] 57) → Code.wp _ _ _ _ x) _ rfl)
  intro w1 hw1
  obtain ⟨gx, hgx⟩ : ∃ x, x = w.heap.size := ⟨_, rfl⟩
  rw [← hgx]
  have hX1 : w1.heap[gx]? = some (.cells #[.pointer (some ⟨bx, 0, none⟩), .int .i64 k, .pointer (some ⟨g, k * 89, none⟩), .pointer (some ⟨g, k * 89 + 22, none⟩), .pointer (some ⟨g, k * 89 + 6, none⟩)] 57 (0, 0)) := by rw [hw1, hgx]; exact heap_alloc_new _ _
  have h1 : Bst w1 bx g b (upd ps k p) ss fs := by rw [hw1]; exact h.below (more (Below.refl _ _) _)
  have hbw : Below w.heap.size w w1 := by rw [hw1]; exact more (Below.refl _ _) _
  have HBW := Lib.hid hbw
  have HGX := Lib.hid hgx
  have ho1 : Only (· = g) w w1 := by rw [hw1]; exact (Only.refl _ _).alloc _
  have ngx : ¬ gx = g := by have := h.p.lt; omega
  have nxg : ¬ g = gx := by have := h.p.lt; omega
  have nxb : ¬ gx = bx := by have := h.lt; omega
  have H1 := Lib.hid h1
  have HO1 := Lib.hid ho1
  have lx := (Array.getElem?_eq_some_iff.1 hX1).1
  have HX1 := Lib.hid hX1
  clear hw1 hgx hX1 h1 ho1 h hbw
  have x0 : w1.cell? ⟨gx, 0, none⟩ = some (.pointer (some ⟨bx, 0, none⟩)) := cells_of HX1.out 0
  have x1 : w1.cell? ⟨gx, 1, none⟩ = some (.int .i64 k) := cells_of HX1.out 1
  have x2 : w1.cell? ⟨gx, 2, none⟩ = some (.pointer (some ⟨g, k * 89, none⟩)) := cells_of HX1.out 2
  have x3 : w1.cell? ⟨gx, 3, none⟩ = some (.pointer (some ⟨g, k * 89 + 22, none⟩)) := cells_of HX1.out 3
  have x4 : w1.cell? ⟨gx, 4, none⟩ = some (.pointer (some ⟨g, k * 89 + 6, none⟩)) := cells_of HX1.out 4
  have c33 : w1.cell? ⟨g, k * 89 + 22 + 11, none⟩ = some (.bool (p.b 33)) := (H1.out.p.cell hk (j := 33) (by omega)).trans (by rw [upd_same]; rfl)
  have c22 : w1.cell? ⟨g, k * 89 + 22, none⟩ = some (.bool (p.b 22)) := (H1.out.p.cell hk (j := 22) (by omega)).trans (by rw [upd_same]; rfl)
  have lg := H1.out.p.lt
  have lbx := H1.out.lt
  obtain ⟨qa, hqa⟩ : ∃ x : Bool, x = syncedAll b (upd ps k p) := ⟨_, rfl⟩
  have Hqa := Lib.hid hqa
  clear hqa
  go_upto_region 2 with (fail)
  obtain ⟨q17, hq17⟩ : ∃ x : Bool, x = (!(p.b 22)) := ⟨_, rfl⟩
  have Hq17 := Lib.hid hq17
  clear hq17
  obtain ⟨q18, hq18⟩ : ∃ x : Bool, x = ((p.b 33) && q17) := ⟨_, rfl⟩
  have Hq18 := Lib.hid hq18
  clear hq18
  obtain ⟨q32, hq32⟩ : ∃ x : Bool, x = (!(p.b 22)) := ⟨_, rfl⟩
  have Hq32 := Lib.hid hq32
  clear hq32
  obtain ⟨q33, hq33⟩ : ∃ x : Bool, x = (qa && q32) := ⟨_, rfl⟩
  have Hq33 := Lib.hid hq33
  clear hq33
  obtain ⟨q44, hq44⟩ : ∃ x : Bool, x = ((p.b 33) && (p.b 22)) := ⟨_, rfl⟩
  have Hq44 := Lib.hid hq44
  clear hq44
  obtain ⟨q45, hq45⟩ : ∃ x : Bool, x = (q33 || q44) := ⟨_, rfl⟩
  have Hq45 := Lib.hid hq45
  clear hq45
  refine wp_region_held_drew (S := fun w' => Below w1.heap.size w1 w') (by kernel_rfl) (Below.refl _ _).drew (fun hH => ?_)
  refine wpAnyH_take (i := 0) (v := .pointer (some ⟨g, k * 89 + 22, none⟩)) rfl (by kernel_rfl) (by kernel_rfl) (by kernel_rfl) (fun _ _ _ h => h) (Or.inl ⟨by kernel_rfl, fun z hz => by kernel_rfl⟩) hH ?_
  simp only [List.getElem_toArray, List.getElem_cons_succ, List.getElem_cons_zero, Act.put, List.setIfInBounds_toArray, List.set_cons_zero, List.set_cons_succ]
  refine wpAnyH_take (i := 1) (v := .pointer (some ⟨g, k * 89 + 22, none⟩)) rfl (by kernel_rfl) (by kernel_rfl) (by kernel_rfl) (fun _ _ _ h => h) (Or.inl ⟨by kernel_rfl, fun z hz => by simp [go_sem, execOp]⟩) hH ?_
  simp only [List.getElem_toArray, List.getElem_cons_succ, List.getElem_cons_zero, Act.put, List.setIfInBounds_toArray, List.set_cons_zero, List.set_cons_succ]
  refine wpAnyH_take (i := 2) (v := .pointer (some ⟨g, k * 89 + 22 + 11, none⟩)) rfl (by kernel_rfl) (by kernel_rfl) (by kernel_rfl) (fun _ _ _ h => h) (Or.inl ⟨by kernel_rfl, fun z hz => by simp [go_sem, execOp]⟩) hH ?_
  simp only [List.getElem_toArray, List.getElem_cons_succ, List.getElem_cons_zero, Act.put, List.setIfInBounds_toArray, List.set_cons_zero, List.set_cons_succ]
  refine wpAnyH_take (i := 3) (v := .bool (p.b 33)) rfl (by kernel_rfl) (by kernel_rfl) (by kernel_rfl) (fun _ _ _ h => h) (Or.inl ⟨by kernel_rfl, fun z hz => by simp [go_sem, execOp, (show z.cell? ⟨g, k * 89 + 22 + 11, none⟩ = some (.bool (p.b 33)) from (hz.cell (p := ⟨g, k * 89 + 22 + 11, none⟩) lg).trans c33)]⟩) hH ?_
  simp only [List.getElem_toArray, List.getElem_cons_succ, List.getElem_cons_zero, Act.put, List.setIfInBounds_toArray, List.set_cons_zero, List.set_cons_succ]
  refine wpAnyH_take (i := 4) (v := .bool (p.b 33)) rfl (by kernel_rfl) (by kernel_rfl) (by kernel_rfl) (fun _ _ _ h => h) (Or.inl ⟨by kernel_rfl, fun z hz => by kernel_rfl⟩) hH ?_
  simp only [List.getElem_toArray, List.getElem_cons_succ, List.getElem_cons_zero, Act.put, List.setIfInBounds_toArray, List.set_cons_zero, List.set_cons_succ]
  refine wpAnyH_take (i := 5) (v := (bif (p.b 33) then .pointer (some ⟨g, k * 89 + 22, none⟩) else undef)) rfl (by kernel_rfl) (by kernel_rfl) (by kernel_rfl) (fun _ _ _ h => h) (yields_bif (wanted_t rfl (by kernel_rfl)) (fun hc z hz => by have h0 := hc; simp [go_sem, execOp, h0])) hH ?_
  simp only [List.getElem_toArray, List.getElem_cons_succ, List.getElem_cons_zero, Act.put, List.setIfInBounds_toArray, List.set_cons_zero, List.set_cons_succ]
  refine wpAnyH_take (i := 6) (v := (bif (p.b 33) then .pointer (some ⟨g, k * 89 + 22, none⟩) else undef)) rfl (by kernel_rfl) (by kernel_rfl) (by kernel_rfl) (fun _ _ _ h => h) (yields_bif (wanted_t rfl (by kernel_rfl)) (fun hc z hz => by have h0 := hc; simp [go_sem, execOp, h0])) hH ?_
  simp only [List.getElem_toArray, List.getElem_cons_succ, List.getElem_cons_zero, Act.put, List.setIfInBounds_toArray, List.set_cons_zero, List.set_cons_succ]
  refine wpAnyH_take (i := 7) (v := (bif (p.b 33) then .pointer (some ⟨g, k * 89 + 22, none⟩) else undef)) rfl (by kernel_rfl) (by kernel_rfl) (by kernel_rfl) (fun _ _ _ h => h) (yields_bif (wanted_t rfl (by kernel_rfl)) (fun hc z hz => by have h0 := hc; simp [go_sem, execOp, h0])) hH ?_
  simp only [List.getElem_toArray, List.getElem_cons_succ, List.getElem_cons_zero, Act.put, List.setIfInBounds_toArray, List.set_cons_zero, List.set_cons_succ]
  refine wpAnyH_take (i := 8) (v := (bif (p.b 33) then .bool (p.b 22) else undef)) rfl (by kernel_rfl) (by kernel_rfl) (by kernel_rfl) (fun _ _ _ h => h) (yields_bif (wanted_t rfl (by kernel_rfl)) (fun hc z hz => by have h0 := hc; simp [go_sem, execOp, h0, (show z.cell? ⟨g, k * 89 + 22, none⟩ = some (.bool (p.b 22)) from (hz.cell (p := ⟨g, k * 89 + 22, none⟩) lg).trans c22)])) hH ?_
  simp only [List.getElem_toArray, List.getElem_cons_succ, List.getElem_cons_zero, Act.put, List.setIfInBounds_toArray, List.set_cons_zero, List.set_cons_succ]
  refine wpAnyH_take (i := 9) (v := (bif (p.b 33) then .bool q17 else undef)) rfl (by kernel_rfl) (by kernel_rfl) (by kernel_rfl) (fun _ _ _ h => h) (yields_bif (wanted_t rfl (by kernel_rfl)) (fun hc z hz => by have h0 := hc; rw [Hq17.out]; simp [go_sem, execOp, h0])) hH ?_
  simp only [List.getElem_toArray, List.getElem_cons_succ, List.getElem_cons_zero, Act.put, List.setIfInBounds_toArray, List.set_cons_zero, List.set_cons_succ]
  refine wpAnyH_take (i := 10) (v := .bool q18) rfl (by kernel_rfl) (by kernel_rfl) (by kernel_rfl) (fun _ _ _ h => h) (Or.inl ⟨by kernel_rfl, fun z hz => by rw [Hq18.out]; cases hA : (p.b 33) <;> simp [go_sem, execOp, hA]⟩) hH ?_
  simp only [List.getElem_toArray, List.getElem_cons_succ, List.getElem_cons_zero, Act.put, List.setIfInBounds_toArray, List.set_cons_zero, List.set_cons_succ]
  refine wpAnyH_take (i := 11) (v := .agg #[.pointer (some ⟨bx, 0, none⟩), .int .i64 k, .pointer (some ⟨g, k * 89, none⟩), .pointer (some ⟨g, k * 89 + 22, none⟩), .pointer (some ⟨g, k * 89 + 6, none⟩)]) rfl (by kernel_rfl) (by kernel_rfl) (by kernel_rfl) (fun _ _ _ h => h) (by exact yieldsIf_load_mid (by kernel_rfl) 57 (.tmp 2) (by kernel_rfl) gx (0) (by kernel_rfl) (#[.pointer (some ⟨bx, 0, none⟩), .int .i64 k, .pointer (some ⟨g, k * 89, none⟩), .pointer (some ⟨g, k * 89 + 22, none⟩), .pointer (some ⟨g, k * 89 + 6, none⟩)]).toList _ (row_held HX1.out lx) Try.underlying57 rfl (by kernel_rfl)) hH ?_
  simp only [List.getElem_toArray, List.getElem_cons_succ, List.getElem_cons_zero, Act.put, List.setIfInBounds_toArray, List.set_cons_zero, List.set_cons_succ]
  refine wpAnyH_take (i := 12) (v := .func (.func 56) #[.agg #[.pointer (some ⟨bx, 0, none⟩), .int .i64 k, .pointer (some ⟨g, k * 89, none⟩), .pointer (some ⟨g, k * 89 + 22, none⟩), .pointer (some ⟨g, k * 89 + 6, none⟩)]] #[]) rfl (by kernel_rfl) (by kernel_rfl) (by kernel_rfl) (fun _ _ _ h => h) (Or.inl ⟨by kernel_rfl, fun z hz => by kernel_rfl⟩) hH ?_
  simp only [List.getElem_toArray, List.getElem_cons_succ, List.getElem_cons_zero, Act.put, List.setIfInBounds_toArray, List.set_cons_zero, List.set_cons_succ]
  refine wpAnyH_take (i := 13) (v := .agg #[.bool q18, .func (.func 56) #[.agg #[.pointer (some ⟨bx, 0, none⟩), .int .i64 k, .pointer (some ⟨g, k * 89, none⟩), .pointer (some ⟨g, k * 89 + 22, none⟩), .pointer (some ⟨g, k * 89 + 6, none⟩)]] #[]]) rfl (by kernel_rfl) (by kernel_rfl) (by kernel_rfl) (fun _ _ _ h => h) (Or.inl ⟨by kernel_rfl, fun z hz => by simp [go_sem, execOp, bldRow]⟩) hH ?_
  simp only [List.getElem_toArray, List.getElem_cons_succ, List.getElem_cons_zero, Act.put, List.setIfInBounds_toArray, List.set_cons_zero, List.set_cons_succ]
  refine wpAnyH_take (i := 14) (v := .pointer (some ⟨gx, 0, none⟩)) rfl (by kernel_rfl) (by kernel_rfl) (by kernel_rfl) (fun _ _ _ h => h) (Or.inl ⟨by kernel_rfl, fun z hz => by simp [go_sem, execOp]⟩) hH ?_
  simp only [List.getElem_toArray, List.getElem_cons_succ, List.getElem_cons_zero, Act.put, List.setIfInBounds_toArray, List.set_cons_zero, List.set_cons_succ]
  refine wpAnyH_take (i := 15) (v := .pointer (some ⟨bx, 0, none⟩)) rfl (by kernel_rfl) (by kernel_rfl) (by kernel_rfl) (fun _ _ _ h => h) (Or.inl ⟨by kernel_rfl, fun z hz => by simp [go_sem, execOp, (show z.cell? ⟨gx, 0, none⟩ = some (.pointer (some ⟨bx, 0, none⟩)) from (hz.cell (p := ⟨gx, 0, none⟩) lx).trans x0)]⟩) hH ?_
  simp only [List.getElem_toArray, List.getElem_cons_succ, List.getElem_cons_zero, Act.put, List.setIfInBounds_toArray, List.set_cons_zero, List.set_cons_succ]
  refine wpAnyH_take (i := 16) (v := .pointer (some ⟨bx, 0, none⟩)) rfl (by kernel_rfl) (by kernel_rfl) (by kernel_rfl) (fun _ _ _ h => h) (Or.inl ⟨by kernel_rfl, fun z hz => by simp [go_sem, execOp]⟩) hH ?_
  simp only [List.getElem_toArray, List.getElem_cons_succ, List.getElem_cons_zero, Act.put, List.setIfInBounds_toArray, List.set_cons_zero, List.set_cons_succ]
  refine wpAnyH_take (i := 17) (v := .agg (rowB b)) rfl (by kernel_rfl) (by kernel_rfl) (by kernel_rfl) (fun _ _ _ h => h) (by exact yieldsIf_load_mid (by kernel_rfl) 33 (.tmp 24) (by kernel_rfl) bx (0) (by kernel_rfl) (rowB b).toList _ (row_held H1.out.h H1.out.lt) Try.underlying33 rfl (sizeBr _)) hH ?_
  simp only [List.getElem_toArray, List.getElem_cons_succ, List.getElem_cons_zero, Act.put, List.setIfInBounds_toArray, List.set_cons_zero, List.set_cons_succ]
  refine wpAnyH_take (i := 38) (v := .func (.func f0) bn0 cp0) rfl (by kernel_rfl) (by kernel_rfl) (by kernel_rfl) (fun _ _ _ h => h) (Or.inl ⟨by kernel_rfl, fun z hz => by kernel_rfl⟩) hH ?_
  simp only [List.getElem_toArray, List.getElem_cons_succ, List.getElem_cons_zero, Act.put, List.setIfInBounds_toArray, List.set_cons_zero, List.set_cons_succ]
  refine wpAnyH_ready (rs := [18]) (by kernel_rfl) (by simp) (AllReadyH.cons rfl (fun K hK => ?_) AllReadyH.nil)
  go_simp
  refine (synced_any b (upd ps k p) _ (H1.out.below hH).portsV hn).mono ?_
  rintro e we ⟨rfl, hbe⟩
  rw [show (!anyR (fun j => unsynced (upd ps k p j)) b.n) = qa from Hqa.out.symm]
  refine hK.out _ _ (hH.trans (hbe.mono hH.size)) (fun hA => ?_)
  have hbe := Lib.hid hbe
  clear hK K
  refine wpAnyH_take (i := 19) (v := .bool qa) rfl (by kernel_rfl) (by kernel_rfl) (by kernel_rfl) (fun _ _ _ h => h) (Or.inl ⟨by kernel_rfl, fun z hz => by kernel_rfl⟩) hA ?_
  simp only [List.getElem_toArray, List.getElem_cons_succ, List.getElem_cons_zero, Act.put, List.setIfInBounds_toArray, List.set_cons_zero, List.set_cons_succ]
  refine wpAnyH_take (i := 20) (v := (bif qa then .pointer (some ⟨g, k * 89 + 22, none⟩) else undef)) rfl (by kernel_rfl) (by kernel_rfl) (by kernel_rfl) (fun _ _ _ h => h) (yields_bif (wanted_t rfl (by kernel_rfl)) (fun hc z hz => by have h0 := hc; simp [go_sem, execOp, h0])) hA ?_
  simp only [List.getElem_toArray, List.getElem_cons_succ, List.getElem_cons_zero, Act.put, List.setIfInBounds_toArray, List.set_cons_zero, List.set_cons_succ]
  refine wpAnyH_take (i := 21) (v := (bif qa then .pointer (some ⟨g, k * 89 + 22, none⟩) else undef)) rfl (by kernel_rfl) (by kernel_rfl) (by kernel_rfl) (fun _ _ _ h => h) (yields_bif (wanted_t rfl (by kernel_rfl)) (fun hc z hz => by have h0 := hc; simp [go_sem, execOp, h0])) hA ?_
  simp only [List.getElem_toArray, List.getElem_cons_succ, List.getElem_cons_zero, Act.put, List.setIfInBounds_toArray, List.set_cons_zero, List.set_cons_succ]
  refine wpAnyH_take (i := 22) (v := (bif qa then .pointer (some ⟨g, k * 89 + 22, none⟩) else undef)) rfl (by kernel_rfl) (by kernel_rfl) (by kernel_rfl) (fun _ _ _ h => h) (yields_bif (wanted_t rfl (by kernel_rfl)) (fun hc z hz => by have h0 := hc; simp [go_sem, execOp, h0])) hA ?_
  simp only [List.getElem_toArray, List.getElem_cons_succ, List.getElem_cons_zero, Act.put, List.setIfInBounds_toArray, List.set_cons_zero, List.set_cons_succ]
  refine wpAnyH_take (i := 23) (v := (bif qa then .bool (p.b 22) else undef)) rfl (by kernel_rfl) (by kernel_rfl) (by kernel_rfl) (fun _ _ _ h => h) (yields_bif (wanted_t rfl (by kernel_rfl)) (fun hc z hz => by have h0 := hc; simp [go_sem, execOp, h0, (show z.cell? ⟨g, k * 89 + 22, none⟩ = some (.bool (p.b 22)) from (hz.cell (p := ⟨g, k * 89 + 22, none⟩) lg).trans c22)])) hA ?_
  simp only [List.getElem_toArray, List.getElem_cons_succ, List.getElem_cons_zero, Act.put, List.setIfInBounds_toArray, List.set_cons_zero, List.set_cons_succ]
  refine wpAnyH_take (i := 24) (v := (bif qa then .bool q32 else undef)) rfl (by kernel_rfl) (by kernel_rfl) (by kernel_rfl) (fun _ _ _ h => h) (yields_bif (wanted_t rfl (by kernel_rfl)) (fun hc z hz => by have h0 := hc; rw [Hq32.out]; simp [go_sem, execOp, h0])) hA ?_
  simp only [List.getElem_toArray, List.getElem_cons_succ, List.getElem_cons_zero, Act.put, List.setIfInBounds_toArray, List.set_cons_zero, List.set_cons_succ]
  refine wpAnyH_take (i := 25) (v := .bool q33) rfl (by kernel_rfl) (by kernel_rfl) (by kernel_rfl) (fun _ _ _ h => h) (Or.inl ⟨by kernel_rfl, fun z hz => by rw [Hq33.out]; cases hA : qa <;> simp [go_sem, execOp, hA]⟩) hA ?_
  simp only [List.getElem_toArray, List.getElem_cons_succ, List.getElem_cons_zero, Act.put, List.setIfInBounds_toArray, List.set_cons_zero, List.set_cons_succ]
  refine wpAnyH_take (i := 26) (v := .bool q33) rfl (by kernel_rfl) (by kernel_rfl) (by kernel_rfl) (fun _ _ _ h => h) (Or.inl ⟨by kernel_rfl, fun z hz => by kernel_rfl⟩) hA ?_
  simp only [List.getElem_toArray, List.getElem_cons_succ, List.getElem_cons_zero, Act.put, List.setIfInBounds_toArray, List.set_cons_zero, List.set_cons_succ]
  refine wpAnyH_take (i := 27) (v := (bif (!q33) then .pointer (some ⟨g, k * 89 + 22, none⟩) else undef)) rfl (by kernel_rfl) (by kernel_rfl) (by kernel_rfl) (fun _ _ _ h => h) (yields_bif (wanted_f rfl (by kernel_rfl)) (fun hc z hz => by have h0 := notT (hc); simp [go_sem, execOp, h0])) hA ?_
  simp only [List.getElem_toArray, List.getElem_cons_succ, List.getElem_cons_zero, Act.put, List.setIfInBounds_toArray, List.set_cons_zero, List.set_cons_succ]
  refine wpAnyH_take (i := 28) (v := (bif (!q33) then .pointer (some ⟨g, k * 89 + 22, none⟩) else undef)) rfl (by kernel_rfl) (by kernel_rfl) (by kernel_rfl) (fun _ _ _ h => h) (yields_bif (wanted_f rfl (by kernel_rfl)) (fun hc z hz => by have h0 := notT (hc); simp [go_sem, execOp, h0])) hA ?_
  simp only [List.getElem_toArray, List.getElem_cons_succ, List.getElem_cons_zero, Act.put, List.setIfInBounds_toArray, List.set_cons_zero, List.set_cons_succ]
  refine wpAnyH_take (i := 29) (v := (bif (!q33) then .pointer (some ⟨g, k * 89 + 22 + 11, none⟩) else undef)) rfl (by kernel_rfl) (by kernel_rfl) (by kernel_rfl) (fun _ _ _ h => h) (yields_bif (wanted_f rfl (by kernel_rfl)) (fun hc z hz => by have h0 := notT (hc); simp [go_sem, execOp, h0])) hA ?_
  simp only [List.getElem_toArray, List.getElem_cons_succ, List.getElem_cons_zero, Act.put, List.setIfInBounds_toArray, List.set_cons_zero, List.set_cons_succ]
  refine wpAnyH_take (i := 30) (v := (bif (!q33) then .bool (p.b 33) else undef)) rfl (by kernel_rfl) (by kernel_rfl) (by kernel_rfl) (fun _ _ _ h => h) (yields_bif (wanted_f rfl (by kernel_rfl)) (fun hc z hz => by have h0 := notT (hc); simp [go_sem, execOp, h0, (show z.cell? ⟨g, k * 89 + 22 + 11, none⟩ = some (.bool (p.b 33)) from (hz.cell (p := ⟨g, k * 89 + 22 + 11, none⟩) lg).trans c33)])) hA ?_
  simp only [List.getElem_toArray, List.getElem_cons_succ, List.getElem_cons_zero, Act.put, List.setIfInBounds_toArray, List.set_cons_zero, List.set_cons_succ]
  refine wpAnyH_take (i := 31) (v := (bif (!q33) then .bool (p.b 33) else undef)) rfl (by kernel_rfl) (by kernel_rfl) (by kernel_rfl) (fun _ _ _ h => h) (yields_bif (wanted_f rfl (by kernel_rfl)) (fun hc z hz => by have h0 := notT (hc); simp [go_sem, execOp, h0])) hA ?_
  simp only [List.getElem_toArray, List.getElem_cons_succ, List.getElem_cons_zero, Act.put, List.setIfInBounds_toArray, List.set_cons_zero, List.set_cons_succ]
  refine wpAnyH_take (i := 32) (v := (bif ((!q33) && (p.b 33)) then .pointer (some ⟨g, k * 89 + 22, none⟩) else undef)) rfl (by kernel_rfl) (by kernel_rfl) (by kernel_rfl) (fun _ _ _ h => h) (yields_bif (wanted_ct rfl (yielded_bif (by kernel_rfl))) (fun hc z hz => by have h1 := andR hc; have hc1 := andL hc; have h0 := notT (hc1); simp [go_sem, execOp, h1, h0])) hA ?_
  simp only [List.getElem_toArray, List.getElem_cons_succ, List.getElem_cons_zero, Act.put, List.setIfInBounds_toArray, List.set_cons_zero, List.set_cons_succ]
  refine wpAnyH_take (i := 33) (v := (bif ((!q33) && (p.b 33)) then .pointer (some ⟨g, k * 89 + 22, none⟩) else undef)) rfl (by kernel_rfl) (by kernel_rfl) (by kernel_rfl) (fun _ _ _ h => h) (yields_bif (wanted_ct rfl (yielded_bif (by kernel_rfl))) (fun hc z hz => by have h1 := andR hc; have hc1 := andL hc; have h0 := notT (hc1); simp [go_sem, execOp, h1, h0])) hA ?_
  simp only [List.getElem_toArray, List.getElem_cons_succ, List.getElem_cons_zero, Act.put, List.setIfInBounds_toArray, List.set_cons_zero, List.set_cons_succ]
  refine wpAnyH_take (i := 34) (v := (bif ((!q33) && (p.b 33)) then .pointer (some ⟨g, k * 89 + 22, none⟩) else undef)) rfl (by kernel_rfl) (by kernel_rfl) (by kernel_rfl) (fun _ _ _ h => h) (yields_bif (wanted_ct rfl (yielded_bif (by kernel_rfl))) (fun hc z hz => by have h1 := andR hc; have hc1 := andL hc; have h0 := notT (hc1); simp [go_sem, execOp, h1, h0])) hA ?_
  simp only [List.getElem_toArray, List.getElem_cons_succ, List.getElem_cons_zero, Act.put, List.setIfInBounds_toArray, List.set_cons_zero, List.set_cons_succ]
  refine wpAnyH_take (i := 35) (v := (bif ((!q33) && (p.b 33)) then .bool (p.b 22) else undef)) rfl (by kernel_rfl) (by kernel_rfl) (by kernel_rfl) (fun _ _ _ h => h) (yields_bif (wanted_ct rfl (yielded_bif (by kernel_rfl))) (fun hc z hz => by have h1 := andR hc; have hc1 := andL hc; have h0 := notT (hc1); simp [go_sem, execOp, h1, h0, (show z.cell? ⟨g, k * 89 + 22, none⟩ = some (.bool (p.b 22)) from (hz.cell (p := ⟨g, k * 89 + 22, none⟩) lg).trans c22)])) hA ?_
  simp only [List.getElem_toArray, List.getElem_cons_succ, List.getElem_cons_zero, Act.put, List.setIfInBounds_toArray, List.set_cons_zero, List.set_cons_succ]
  refine wpAnyH_take (i := 36) (v := (bif (!q33) then .bool q44 else undef)) rfl (by kernel_rfl) (by kernel_rfl) (by kernel_rfl) (fun _ _ _ h => h) (yields_bif (wanted_f rfl (by kernel_rfl)) (fun hc z hz => by have h0 := notT (hc); rw [Hq44.out]; cases hA : (p.b 33) <;> simp [go_sem, execOp, hA, h0])) hA ?_
  simp only [List.getElem_toArray, List.getElem_cons_succ, List.getElem_cons_zero, Act.put, List.setIfInBounds_toArray, List.set_cons_zero, List.set_cons_succ]
  refine wpAnyH_take (i := 37) (v := .bool q45) rfl (by kernel_rfl) (by kernel_rfl) (by kernel_rfl) (fun _ _ _ h => h) (Or.inl ⟨by kernel_rfl, fun z hz => by rw [Hq45.out]; cases hA : q33 <;> simp [go_sem, execOp, hA]⟩) hA ?_
  simp only [List.getElem_toArray, List.getElem_cons_succ, List.getElem_cons_zero, Act.put, List.setIfInBounds_toArray, List.set_cons_zero, List.set_cons_succ]
  refine wpAnyH_take (i := 39) (v := .agg #[.bool q45, .func (.func f0) bn0 cp0]) rfl (by kernel_rfl) (by kernel_rfl) (by kernel_rfl) (fun _ _ _ h => h) (Or.inl ⟨by kernel_rfl, fun z hz => by simp [go_sem, execOp, bldRow]⟩) hA ?_
  simp only [List.getElem_toArray, List.getElem_cons_succ, List.getElem_cons_zero, Act.put, List.setIfInBounds_toArray, List.set_cons_zero, List.set_cons_succ]
  refine wpAnyH_ready (rs := [40]) (by kernel_rfl) (by simp) (AllReadyH.cons rfl (fun K hK => ?_) AllReadyH.nil)
  go_simp
  refine hK.out _ _ (hA.alloc hA.size _) (fun hE => ?_)
  clear hK K
  refine wpAnyH_take (i := 41) (v := .slice (some ⟨we.heap.size, 0, none⟩) 2 2) rfl (by kernel_rfl) (by kernel_rfl) (by kernel_rfl) (fun _ _ _ h => h) (Or.inl ⟨by kernel_rfl, fun z hz => by kernel_rfl⟩) hE ?_
  simp only [List.getElem_toArray, List.getElem_cons_succ, List.getElem_cons_zero, Act.put, List.setIfInBounds_toArray, List.set_cons_zero, List.set_cons_succ]
  refine wpAnyH_done (by kernel_rfl) ?_ _
  have hr1 : q18 = (p.b 33 && !p.b 22) := by rw [Hq18.out, Hq17.out]
  have hr2 : q45 = ((syncedAll b (upd ps k p) && !p.b 22) || (p.b 33 && p.b 22)) := by rw [Hq45.out, Hq44.out, Hq33.out, Hq32.out, Hqa.out]
  have HR := Lib.hid (rows_new (W := (we.alloc (.cells #[.bool q18, .func (.func 56) #[.agg #[.pointer (some ⟨bx, 0, none⟩), .int .i64 k, .pointer (some ⟨g, k * 89, none⟩), .pointer (some ⟨g, k * 89 + 22, none⟩), .pointer (some ⟨g, k * 89 + 6, none⟩)]] #[], .bool q45, .func (.func f0) bn0 cp0] 61))) (n := 2) [(q18, .func (.func 56) #[.agg #[.pointer (some ⟨bx, 0, none⟩), .int .i64 k, .pointer (some ⟨g, k * 89, none⟩), .pointer (some ⟨g, k * 89 + 22, none⟩), .pointer (some ⟨g, k * 89 + 6, none⟩)]] #[]), (q45, .func (.func f0) bn0 cp0)] (heap_alloc_new we _) rfl rfl (by omega) (ds := setsL b k p ps q0) ⟨⟨hr1, does_syncs (H1.out.below hE) hk hn⟩, ⟨hr2, HD0.out.later (HBW.out.trans (hE.mono HBW.out.size))⟩, trivial⟩)
  clear hr1 hr2
  go_wp2_with fail
  go_ret
  exact ⟨_, rfl, HR.out, HBW.out.trans (hE.mono HBW.out.size)⟩
end Go.Proofs.Ytdangeefecdbaaa.Br
