/- What a step of the receiving machine does to a port in memory (ford/rx.Step); the port's place is one that there is. -/
import Derived.Test.YtdocomenngmccaaBr
import Derived.Test.YtdocomenngmccaaRight
import Derived.Lib.Hide
import Derived.StillTailTactics
import Derived.Deep.RegionHeld
import Derived.Deep.CutRange
set_option linter.unusedSimpArgs false
namespace Go.Proofs.Ytdocomenngmccaa.Br
open Go.RowKit
/-- The flags of a port, as cells. -/
def rowFl (p : Rec) : Array Value := #[.bool (p.b 22), .bool (p.b 23), .bool (p.b 24), .bool (p.b 25), .bool (p.b 26), .bool (p.b 27), .bool (p.b 28), .bool (p.b 29), .bool (p.b 30), .bool (p.b 31), .bool (p.b 32), .bool (p.b 33), .bool (p.b 34), .bool (p.b 35), .bool (p.b 36), .bool (p.b 37), .bool (p.b 38), .bool (p.b 39), .bool (p.b 40), .bool (p.b 41), .bool (p.b 42), .bool (p.b 43), .bool (p.b 44), .bool (p.b 45), .bool (p.b 46), .bool (p.b 47), .bool (p.b 48), .bool (p.b 49), .bool (p.b 50)]
theorem sizeFl (p : Rec) : (Try.prog.info? 50).map (·.size) = some (rowFl p).size := by show _ = some 29; kernel_rfl
theorem zeroFl (w : World) : Sem.run Try.prog (zeroValue 50) w = .ok (.agg (rowFl zeroR)) w := by kernel_rfl
theorem rowFl_one (p : Rec) : (rowFl p).all (·.oneCell') = true := by kernel_rfl
attribute [local go_sem] rowP_size zeroFl
theorem flagsP {w : World} {g n k : Nat} {ps : Nat → Rec} (h : Ports w g n ps) (hk : k < n) : w.rangeAt g (k * 89 + 22) (rowFl (ps k)).toList := fun j v hv => by
  have hj : j < 29 := (List.getElem?_eq_some_iff.1 hv).1
  rw [Nat.add_assoc]
  refine (h.cell hk (j := 22 + j) (by omega)).trans ?_
  rw [← hv, ← rowP_get (by omega)]
  show _ = (rowFl (ps k)).toList[j]?
  rcases (show j = 0 ∨ j = 1 ∨ j = 2 ∨ j = 3 ∨ j = 4 ∨ j = 5 ∨ j = 6 ∨ j = 7 ∨ j = 8 ∨ j = 9 ∨ j = 10 ∨ j = 11 ∨ j = 12 ∨ j = 13 ∨ j = 14 ∨ j = 15 ∨ j = 16 ∨ j = 17 ∨ j = 18 ∨ j = 19 ∨ j = 20 ∨ j = 21 ∨ j = 22 ∨ j = 23 ∨ j = 24 ∨ j = 25 ∨ j = 26 ∨ j = 27 ∨ j = 28 by omega) with rfl | rfl | rfl | rfl | rfl | rfl | rfl | rfl | rfl | rfl | rfl | rfl | rfl | rfl | rfl | rfl | rfl | rfl | rfl | rfl | rfl | rfl | rfl | rfl | rfl | rfl | rfl | rfl | rfl <;> rfl
/-- Who isn't Enabled and has something, or whose delay runs. -/
def c1 (p : Rec) : Bool := !p.b 2 && (p.b 35 || p.i 6 != 3)
def c2 (p : Rec) : Bool := p.i 15 == 0 && p.b 35 && p.b 2
def c3 (p : Rec) : Bool := p.i 15 == 1 && p.b 35 && p.b 2 && !p.b 36
/-- All is forgotten. -/
def disF (p : Rec) : Rec := (((((p.setB 35 false).setB 37 false).setB 38 false).setB 36 false).setI 6 3).setI 15 0
/-- A message is handed on. -/
def recF (p : Rec) : Rec := ((((((if p.i 51 = 2 then p.setB 37 true else p.setB 38 true).setB 32 false).setB 35 false).setB 36 true).setI 6 3).setI 15 1)
/-- The closure that does it. -/
def what (p : Rec) (g k : Nat) : Value :=
  if c1 p = true then .func (Fn.func 18) #[.agg #[.pointer (some ⟨g, k * 89, none⟩)]] #[]
  else if c2 p = true then .func (Fn.func 19) #[.agg #[.pointer (some ⟨g, k * 89, none⟩)]] #[]
  else if c3 p = true then .func (Fn.func 19) #[.agg #[.pointer (some ⟨g, k * 89, none⟩)]] #[]
  else .nilFunc
set_option maxHeartbeats 4000000 in
theorem row_any (p : Rec) (g k n : Nat) (ps : Nat → Rec) (w : World) (hk : k < n) (hp : Ports w g n (upd ps k p)) : Calls Try.prog 15 #[.agg #[.pointer (some ⟨g, k * 89, none⟩)]] w fun e w' => e = .returned (what p g k) ∧ Below w.heap.size w w' := by
  have hg := hp.lt
  have Hp := Lib.hid hp
  clear hp
  go_enter Try.func15, Try.ntmps15
  go_wp2_with fail
  obtain ⟨w1, hw1⟩ : ∃ x, x = w.alloc (.cells #[.pointer (some ⟨g, k * 89, none⟩)] 58) := ⟨_, rfl⟩
  rw [← hw1]
  have hs1 : w1.heap.size = w.heap.size + 1 := by rw [hw1]; simp
  have hc0 : w1.cell? ⟨w.heap.size, 0, none⟩ = some (.pointer (some ⟨g, k * 89, none⟩)) := by rw [hw1]; exact cells_of (heap_alloc_new _ _) 0
  have Hp1 := Lib.hid (show Ports w1 g n (upd ps k p) by rw [hw1]; exact Hp.out.alloc _)
  have HB1 := Lib.hid (show Below w.heap.size w w1 by rw [hw1]; exact more (Below.refl _ _) _)
  have hfl : ∀ x, Below w1.heap.size w1 x → x.rangeAt g (k * 89 + 22) (rowFl p).toList := fun x hx => by
    have h := flagsP (Hp1.out.below hx (by omega)) hk
    rwa [upd_same] at h
  have Hfl := Lib.hid hfl
  clear hw1 Hp hfl
  have ld : ∀ x, Below w1.heap.size w1 x → x.cell? ⟨w.heap.size, 0, none⟩ = some (.pointer (some ⟨g, k * 89, none⟩)) := fun x hx => (hx.cell (p := ⟨w.heap.size, 0, none⟩) (by show w.heap.size < _; omega)).trans hc0
  refine wp_region_held_drew (S := fun w' => Below w1.heap.size w1 w') (by kernel_rfl) (Below.refl _ _).drew (fun hH => ?_)
  refine wpAnyH_take (i := 0) rfl (by kernel_rfl) (by kernel_rfl) (by kernel_rfl) (fun _ _ _ h => h) (Or.inl ⟨by rfl, fun x _ => rfl⟩) hH ?_
  simp only [Act.put, List.setIfInBounds_toArray, List.set_cons_zero, List.set_cons_succ]
  refine wpAnyH_take (i := 1) (v := .pointer (some ⟨g, k * 89, none⟩)) rfl (by kernel_rfl) (by kernel_rfl) (by kernel_rfl) (fun _ _ _ h => h) (Or.inl ⟨by rfl, fun x hx => by have h := ld x hx; simp [go_sem, execOp, h]⟩) hH ?_
  simp only [Act.put, List.setIfInBounds_toArray, List.set_cons_zero, List.set_cons_succ]
  refine wpAnyH_take (i := 2) rfl (by kernel_rfl) (by kernel_rfl) (by kernel_rfl) (fun _ _ _ h => h) (Or.inl ⟨by rfl, fun x _ => rfl⟩) hH ?_
  simp only [Act.put, List.setIfInBounds_toArray, List.set_cons_zero, List.set_cons_succ]
  refine wpAnyH_take (i := 3) (v := .pointer (some ⟨g, k * 89, none⟩)) rfl (by kernel_rfl) (by kernel_rfl) (by kernel_rfl) (fun _ _ _ h => h) (Or.inl ⟨by rfl, fun x hx => by have h := ld x hx; simp [go_sem, execOp, h]⟩) hH ?_
  simp only [Act.put, List.setIfInBounds_toArray, List.set_cons_zero, List.set_cons_succ]
  refine wpAnyH_take (i := 4) rfl (by kernel_rfl) (by kernel_rfl) (by kernel_rfl) (fun _ _ _ h => h) (Or.inl ⟨by rfl, fun x _ => rfl⟩) hH ?_
  simp only [Act.put, List.setIfInBounds_toArray, List.set_cons_zero, List.set_cons_succ]
  refine wpAnyH_take (i := 5) rfl (by kernel_rfl) (by kernel_rfl) (by kernel_rfl) (fun _ _ _ h => h) (Or.inl ⟨by rfl, fun x _ => rfl⟩) hH ?_
  simp only [Act.put, List.setIfInBounds_toArray, List.set_cons_zero, List.set_cons_succ]
  refine wpAnyH_take (i := 6) rfl (by kernel_rfl) (by kernel_rfl) (by kernel_rfl) (fun _ _ _ h => h) (yieldsIf_load_mid (by rfl) 50 _ rfl g (k * 89 + 22) rfl (rowFl p).toList _ Hfl.out Try.underlying50 rfl (sizeFl _)) hH ?_
  simp only [Act.put, List.setIfInBounds_toArray, List.set_cons_zero, List.set_cons_succ]
  refine wpAnyH_ready (rs := [7]) (by kernel_rfl) (by simp) (AllReadyH.cons rfl (fun K hK => ?_) AllReadyH.nil)
  go_simp
  refine hK.out _ _ ((Below.refl w1.heap.size w1).drew.alloc (Nat.le_refl _) _) (fun hH2 => ?_)
  clear hK K
  refine wpAnyH_take (i := 8) (v := .pointer (some ⟨g, k * 89, none⟩)) rfl (by kernel_rfl) (by kernel_rfl) (by kernel_rfl) (fun _ _ _ h => h) (Or.inl ⟨by rfl, fun x _ => rfl⟩) hH2 ?_
  simp only [List.getElem_toArray, List.getElem_cons_succ, List.getElem_cons_zero, Act.put, List.setIfInBounds_toArray, List.set_cons_zero, List.set_cons_succ]
  refine wpAnyH_ready (rs := [9]) (by kernel_rfl) (by simp) (AllReadyH.cons rfl (fun K hK => ?_) AllReadyH.nil)
  rw [if_pos (by rfl)]
  refine wp_store_row 50 _ _ rfl (w.heap.size + 1) (rowFl p) rfl rfl 50 (rowFl zeroR) (by rw [← hs1]; exact heap_alloc_new w1 _) (sizeFl _) rfl (rowFl_one _) ?_
  have hS : Below w1.heap.size w1 ((w1.alloc (.cells (rowFl zeroR) 50)).drew.setRow (w.heap.size + 1) (rowFl p)) := by
    rw [← hs1]
    show Below w1.heap.size w1 ((w1.alloc (.cells (rowFl zeroR) 50)).setRow w1.heap.size (rowFl p)).drew
    rw [setRow_alloc]
    exact ((Below.refl w1.heap.size w1).alloc (Nat.le_refl _) _).drew
  refine hK.out _ _ hS (fun _ => ?_)
  clear hK K hH hH2
  refine wpAnyH_done (by kernel_rfl) ?_ _
  simp only [List.getElem_toArray, List.getElem_cons_succ, List.getElem_cons_zero, Act.put]
  obtain ⟨w2, hw2⟩ : ∃ x, x = (w1.alloc (.cells (rowFl zeroR) 50)).drew.setRow (w.heap.size + 1) (rowFl p) := ⟨_, rfl⟩
  change Exit.then _ _ _ _ ((w1.alloc (.cells (rowFl zeroR) 50)).drew.setRow (w.heap.size + 1) (rowFl p))
  rw [← hw2]
  have hr2 : w2.heap[w.heap.size + 1]? = some (.cells (rowFl p) 50 (0, 0)) := by
    rw [hw2, ← hs1]
    show ((w1.alloc (.cells (rowFl zeroR) 50)).setRow w1.heap.size (rowFl p)).heap[w1.heap.size]? = _
    rw [setRow_alloc]
    exact heap_alloc_new _ _
  have HB2 : Hid (Below w1.heap.size w1 w2) := by rw [hw2]; exact hS
  have Hp2 := Lib.hid (Hp1.out.below HB2.out (by omega))
  have e13 : w2.cell? ⟨w.heap.size + 1, 13, none⟩ = some (.bool (p.b 35)) := cells_of hr2 13
  have e14 : w2.cell? ⟨w.heap.size + 1, 14, none⟩ = some (.bool (p.b 36)) := cells_of hr2 14
  have e0 := ld w2 HB2.out
  have HB := Lib.hid (andthen HB1.out HB2.out)
  clear hw2 hS hr2 hc0 ld Hfl Hp1 HB1 HB2
  have e2 : w2.cell? ⟨g, k * 89 + 2, none⟩ = some (.bool (p.b 2)) := by
    rw [← upd_same ps k p]; exact Hp2.out.cell hk (j := 2) (by omega)
  have e6 : w2.cell? ⟨g, k * 89 + 6, none⟩ = some (.int .i64 (p.i 6)) := by
    rw [← upd_same ps k p]; exact Hp2.out.cell hk (j := 6) (by omega)
  have e15 : w2.cell? ⟨g, k * 89 + 15, none⟩ = some (.int .i64 (p.i 15)) := by
    rw [← upd_same ps k p]; exact Hp2.out.cell hk (j := 15) (by omega)
  go_upto_region 2 with (fail)
  go_cut [12] from 13 to 29 (fun c wx => c = .bool (c1 p) ∧ wx = w2)
  case first =>
    go_wp2_with fail
    all_goals
      go_meet
      exact ⟨(by unfold c1; simp [*]), rfl⟩
  case rest =>
    obtain ⟨rfl, rfl⟩ := hcut
    by_cases h1 : c1 p = true
    · have He := Lib.hid (show what p g k = .func (Fn.func 18) #[.agg #[.pointer (some ⟨g, k * 89, none⟩)]] #[] by unfold what; rw [if_pos h1])
      rw [h1]
      clear h1
      go_wp2_with fail
      go_ret
      exact ⟨by rw [He.out]; rfl, HB.out⟩
    · have H1 := Lib.hid h1
      rw [Bool.eq_false_iff.2 h1]
      clear h1
      go_upto_region 4 with (fail)
      go_cut [32] from 33 to 48 (fun c wx => c = .bool (c2 p) ∧ wx = wc)
      case first =>
        go_wp2_with fail
        all_goals
          go_meet
          exact ⟨(by unfold c2; simp [*]), rfl⟩
      case rest =>
        obtain ⟨rfl, rfl⟩ := hcut
        by_cases h2 : c2 p = true
        · have He := Lib.hid (show what p g k = .func (Fn.func 19) #[.agg #[.pointer (some ⟨g, k * 89, none⟩)]] #[] by unfold what; rw [if_neg H1.out, if_pos h2])
          rw [h2]
          clear h2
          go_wp2_with fail
          go_ret
          exact ⟨by rw [He.out]; rfl, HB.out⟩
        · have H2 := Lib.hid h2
          rw [Bool.eq_false_iff.2 h2]
          clear h2
          go_upto_region 6 with (fail)
          go_cut [51] from 52 to 72 (fun c wx => c = .bool (c3 p) ∧ wx = wc)
          case first =>
            go_wp2_with fail
            all_goals
              go_meet
              exact ⟨(by unfold c3; simp [*]), rfl⟩
          case rest =>
            obtain ⟨rfl, rfl⟩ := hcut
            by_cases h3 : c3 p = true
            · have He := Lib.hid (show what p g k = .func (Fn.func 19) #[.agg #[.pointer (some ⟨g, k * 89, none⟩)]] #[] by unfold what; rw [if_neg H1.out, if_neg H2.out, if_pos h3])
              rw [h3]
              clear h3
              go_wp2_with fail
              go_ret
              exact ⟨by rw [He.out]; rfl, HB.out⟩
            · have He := Lib.hid (show what p g k = .nilFunc by unfold what; rw [if_neg H1.out, if_neg H2.out, if_neg h3])
              rw [Bool.eq_false_iff.2 h3]
              clear h3
              go_wp2_with fail
              go_ret
              exact ⟨by rw [He.out]; rfl, HB.out⟩
theorem dis_any (p : Rec) (g k n : Nat) (ps : Nat → Rec) (w : World) (hk : k < n) (hp : Ports w g n (upd ps k p)) : Calls Try.prog 18 #[.agg #[.pointer (some ⟨g, k * 89, none⟩)]] w fun e w' => e = .returned (.tuple #[]) ∧ Ports w' g n (upd ps k (disF p)) ∧ Only (· = g) w w' := by
  have hg := hp.lt
  have f35 := hp.free (k * 89 + 22 + 13)
  have c35 : w.cell? ⟨g, k * 89 + 22 + 13, none⟩ = some (.bool (p.b 35)) := by
    rw [← upd_same ps k p]
    exact hp.cell hk (j := 35) (by omega)
  have f37 := hp.free (k * 89 + 22 + 15)
  have c37 : w.cell? ⟨g, k * 89 + 22 + 15, none⟩ = some (.bool (p.b 37)) := by
    rw [← upd_same ps k p]
    exact hp.cell hk (j := 37) (by omega)
  have f38 := hp.free (k * 89 + 22 + 16)
  have c38 : w.cell? ⟨g, k * 89 + 22 + 16, none⟩ = some (.bool (p.b 38)) := by
    rw [← upd_same ps k p]
    exact hp.cell hk (j := 38) (by omega)
  have f36 := hp.free (k * 89 + 22 + 14)
  have c36 : w.cell? ⟨g, k * 89 + 22 + 14, none⟩ = some (.bool (p.b 36)) := by
    rw [← upd_same ps k p]
    exact hp.cell hk (j := 36) (by omega)
  have f6 := hp.free (k * 89 + 6 + 0)
  have c6 : w.cell? ⟨g, k * 89 + 6 + 0, none⟩ = some (.int .i64 (p.i 6)) := by
    rw [← upd_same ps k p]
    exact hp.cell hk (j := 6) (by omega)
  have f15 := hp.free (k * 89 + 15 + 0)
  have c15 : w.cell? ⟨g, k * 89 + 15 + 0, none⟩ = some (.int .i64 (p.i 15)) := by
    rw [← upd_same ps k p]
    exact hp.cell hk (j := 15) (by omega)
  go_enter Try.func18, Try.ntmps18
  go_wp2_with fail
  go_end0
  exact ⟨rfl, (((((((hp.step (j := 35) (by omega) (rowP_put_35 _ _)).step (j := 37) (by omega) (rowP_put_37 _ _)).step (j := 38) (by omega) (rowP_put_38 _ _)).step (j := 36) (by omega) (rowP_put_36 _ _)).step (j := 6) (by omega) (rowP_put_6 _ _)).step (j := 15) (by omega) (rowP_put_15 _ _)).alloc _), (((((((Only.refl (· = g) w).setCell (Or.inl rfl) _).setCell (Or.inl rfl) _).setCell (Or.inl rfl) _).setCell (Or.inl rfl) _).setCell (Or.inl rfl) _).setCell (Or.inl rfl) _).alloc _⟩
theorem rec_any (p : Rec) (g k n : Nat) (ps : Nat → Rec) (w : World) (hk : k < n) (hp : Ports w g n (upd ps k p)) : Calls Try.prog 19 #[.agg #[.pointer (some ⟨g, k * 89, none⟩)]] w fun e w' => e = .returned (.tuple #[]) ∧ Ports w' g n (upd ps k (recF p)) ∧ Only (· = g) w w' := by
  have hg := hp.lt
  have f37 := hp.free (k * 89 + 22 + 15)
  have c37 : w.cell? ⟨g, k * 89 + 22 + 15, none⟩ = some (.bool (p.b 37)) := by
    rw [← upd_same ps k p]
    exact hp.cell hk (j := 37) (by omega)
  have f38 := hp.free (k * 89 + 22 + 16)
  have c38 : w.cell? ⟨g, k * 89 + 22 + 16, none⟩ = some (.bool (p.b 38)) := by
    rw [← upd_same ps k p]
    exact hp.cell hk (j := 38) (by omega)
  have f32 := hp.free (k * 89 + 22 + 10)
  have c32 : w.cell? ⟨g, k * 89 + 22 + 10, none⟩ = some (.bool (p.b 32)) := by
    rw [← upd_same ps k p]
    exact hp.cell hk (j := 32) (by omega)
  have f35 := hp.free (k * 89 + 22 + 13)
  have c35 : w.cell? ⟨g, k * 89 + 22 + 13, none⟩ = some (.bool (p.b 35)) := by
    rw [← upd_same ps k p]
    exact hp.cell hk (j := 35) (by omega)
  have f36 := hp.free (k * 89 + 22 + 14)
  have c36 : w.cell? ⟨g, k * 89 + 22 + 14, none⟩ = some (.bool (p.b 36)) := by
    rw [← upd_same ps k p]
    exact hp.cell hk (j := 36) (by omega)
  have f6 := hp.free (k * 89 + 6 + 0)
  have c6 : w.cell? ⟨g, k * 89 + 6 + 0, none⟩ = some (.int .i64 (p.i 6)) := by
    rw [← upd_same ps k p]
    exact hp.cell hk (j := 6) (by omega)
  have f15 := hp.free (k * 89 + 15 + 0)
  have c15 : w.cell? ⟨g, k * 89 + 15 + 0, none⟩ = some (.int .i64 (p.i 15)) := by
    rw [← upd_same ps k p]
    exact hp.cell hk (j := 15) (by omega)
  have f51 := hp.free (k * 89 + 51)
  have c51 : w.cell? ⟨g, k * 89 + 51, none⟩ = some (.int .i64 (p.i 51)) := by
    rw [← upd_same ps k p]
    exact hp.cell hk (j := 51) (by omega)
  go_enter Try.func19, Try.ntmps19
  by_cases h51 : p.i 51 = 2
  · have d51 : (p.i 51 == 2) = true := beq_iff_eq.2 h51
    have e : recF p = ((((((p.setB 37 true).setB 32 false).setB 35 false).setB 36 true).setI 6 3).setI 15 1) := by unfold recF; rw [if_pos h51]
    rw [e]
    go_wp2_with fail
    go_end0
    exact ⟨rfl, (((((((hp.step (j := 37) (by omega) (rowP_put_37 _ _)).step (j := 32) (by omega) (rowP_put_32 _ _)).step (j := 35) (by omega) (rowP_put_35 _ _)).step (j := 36) (by omega) (rowP_put_36 _ _)).step (j := 6) (by omega) (rowP_put_6 _ _)).step (j := 15) (by omega) (rowP_put_15 _ _)).alloc _), (((((((Only.refl (· = g) w).setCell (Or.inl rfl) _).setCell (Or.inl rfl) _).setCell (Or.inl rfl) _).setCell (Or.inl rfl) _).setCell (Or.inl rfl) _).setCell (Or.inl rfl) _).alloc _⟩
  · have d51 : (p.i 51 == 2) = false := beq_eq_false_iff_ne.2 h51
    have e : recF p = ((((((p.setB 38 true).setB 32 false).setB 35 false).setB 36 true).setI 6 3).setI 15 1) := by unfold recF; rw [if_neg h51]
    rw [e]
    go_wp2_with fail
    go_end0
    exact ⟨rfl, (((((((hp.step (j := 38) (by omega) (rowP_put_38 _ _)).step (j := 32) (by omega) (rowP_put_32 _ _)).step (j := 35) (by omega) (rowP_put_35 _ _)).step (j := 36) (by omega) (rowP_put_36 _ _)).step (j := 6) (by omega) (rowP_put_6 _ _)).step (j := 15) (by omega) (rowP_put_15 _ _)).alloc _), (((((((Only.refl (· = g) w).setCell (Or.inl rfl) _).setCell (Or.inl rfl) _).setCell (Or.inl rfl) _).setCell (Or.inl rfl) _).setCell (Or.inl rfl) _).setCell (Or.inl rfl) _).alloc _⟩
theorem gn1 (f : FuncId) (b c : Array Value) (x y : Operand) (w : World) : Sem.run Try.prog (eqGuard BinOp.eql 1 x y (.func (Fn.func f) b c) .nilFunc) w = .ok () w := by kernel_rfl
theorem gn2 (f : FuncId) (b c : Array Value) (w : World) : Sem.run Try.prog (binOp BinOp.eql 1 (.func (Fn.func f) b c) .nilFunc) w = .ok (.bool false) w := by kernel_rfl
theorem gn3 (x y : Operand) (w : World) : Sem.run Try.prog (eqGuard BinOp.eql 1 x y .nilFunc .nilFunc) w = .ok () w := by kernel_rfl
theorem gn4 (w : World) : Sem.run Try.prog (binOp BinOp.eql 1 .nilFunc .nilFunc) w = .ok (.bool true) w := by kernel_rfl
attribute [local go_sem] gn1 gn2 gn3 gn4
/-- What a step does to a port, and whether it was one. -/
def rxF (p : Rec) : Rec × Bool :=
  if c1 p = true then (disF p, true) else if c2 p = true then (recF p, true) else if c3 p = true then (recF p, true) else (p, false)
/-- What is told of a step. -/
def Stepped (w : World) (g n k : Nat) (ps : Nat → Rec) (e : Ending) (w' : World) : Prop :=
  e = .returned (.bool (rxF (ps k)).2) ∧ Ports w' g n (upd ps k (rxF (ps k)).1) ∧ Only (· = g) w w'
set_option maxHeartbeats 4000000 in
theorem step_any (w : World) (bx g n cap k : Nat) (ps : Nat → Rec) (hk : k < n)
    (hb : w.cell? ⟨bx, 17, none⟩ = some (.slice (some ⟨g, 0, none⟩) n cap)) (hp : Ports w g n ps) :
    Calls Try.prog 13 #[.pointer (some ⟨bx, 0, none⟩), .int .i64 k] w (Stepped w g n k ps) := by
  have hk0 : (0 : Int) ≤ k := by omega
  have hk1 : (k : Int) < n := by omega
  have Hp := Lib.hid hp
  clear hp
  go_enter Try.func13, Try.ntmps13
  go_wp2_with fail
  refine (row_any (ps k) g k n ps _ hk (Hp.out.start k)).mono ?_
  rintro e w1 ⟨rfl, hb1⟩
  have Hp1 := Lib.hid (Hp.out.below hb1 Hp.out.lt)
  have Ho1 := Lib.hid (Only.of_below (S := (· = g)) hb1)
  clear hb1 Hp
  unfold what
  by_cases h1 : c1 (ps k) = true
  · have He := Lib.hid (show rxF (ps k) = (disF (ps k), true) by unfold rxF; rw [if_pos h1])
    rw [if_pos h1]
    clear h1
    go_wp2_with fail
    refine (dis_any (ps k) g k n ps _ hk (Hp1.out.start k)).mono ?_
    rintro e w2 ⟨rfl, hp2, ho2⟩
    go_wp2_with fail
    go_ret
    exact ⟨by rw [He.out]; rfl, by rw [He.out]; exact hp2, Ho1.out.trans ho2⟩
  · by_cases h2 : c2 (ps k) = true
    · have He := Lib.hid (show rxF (ps k) = (recF (ps k), true) by unfold rxF; rw [if_neg h1, if_pos h2])
      rw [if_neg h1, if_pos h2]
      clear h1 h2
      go_wp2_with fail
      refine (rec_any (ps k) g k n ps _ hk (Hp1.out.start k)).mono ?_
      rintro e w2 ⟨rfl, hp2, ho2⟩
      go_wp2_with fail
      go_ret
      exact ⟨by rw [He.out]; rfl, by rw [He.out]; exact hp2, Ho1.out.trans ho2⟩
    · by_cases h3 : c3 (ps k) = true
      · have He := Lib.hid (show rxF (ps k) = (recF (ps k), true) by unfold rxF; rw [if_neg h1, if_neg h2, if_pos h3])
        rw [if_neg h1, if_neg h2, if_pos h3]
        clear h1 h2 h3
        go_wp2_with fail
        refine (rec_any (ps k) g k n ps _ hk (Hp1.out.start k)).mono ?_
        rintro e w2 ⟨rfl, hp2, ho2⟩
        go_wp2_with fail
        go_ret
        exact ⟨by rw [He.out]; rfl, by rw [He.out]; exact hp2, Ho1.out.trans ho2⟩
      · have He := Lib.hid (show rxF (ps k) = (ps k, false) by unfold rxF; rw [if_neg h1, if_neg h2, if_neg h3])
        rw [if_neg h1, if_neg h2, if_neg h3]
        clear h1 h2 h3
        go_wp2_with fail
        go_ret
        exact ⟨by rw [He.out]; rfl, by rw [He.out]; exact Hp1.out.start k, Ho1.out⟩
end Go.Proofs.Ytdocomenngmccaa.Br
