/- What a step of the protocol migration machine does to a port in memory (ford/mig.Step); the port's place is one that there is. -/
import Derived.Test.YtjefonjjgahmgaaBr
import Derived.Test.YtjefonjjgahmgaaRight
import Derived.Lib.Hide
import Derived.StillTailTactics
set_option linter.unusedSimpArgs false
namespace Go.Proofs.Ytjefonjjgahmgaa.Br
open Go.RowKit
attribute [local go_sem] rowP_size rowP_16 rowP_9 rowP_2 rowP_30 rowP_37 rowP_38 rowP_45
/-- What a row asks of a port, besides its state. -/
def whenF (rst : Bool) (p : Rec) : Nat → Bool
  | 0 => p.i 9 == 0
  | 1 => p.i 9 != 3 && !p.b 2
  | 2 => !p.b 2 || p.b 30 || rst && p.b 37 && !p.b 45
  | 3 => p.b 45 && p.b 38
  | _ => p.i 9 == 0 || !p.b 2 || p.b 30
/-- The state that a row asks. -/
def stateOf : Nat → Int
  | 0 => 0
  | 1 => 0
  | 2 => 2
  | 3 => 2
  | _ => 1
/-- Whether a row is the one. -/
def fires (rst : Bool) (p : Rec) (r : Nat) : Bool := p.i 16 == stateOf r && whenF rst p r
theorem when0_any (rst : Bool) (p : Rec) (w : World) : Calls Try.prog 19 #[.bool rst, .agg (rowP p)] w fun e w' => e = .returned (.bool (whenF rst p 0)) ∧ Below w.heap.size w w' := by
  unfold whenF
  go_enter Try.func19, Try.ntmps19
  go_wp2
  all_goals
    go_ret
    exact ⟨by simp [*], (Below.refl _ _).alloc (Nat.le_refl _) _⟩
theorem when1_any (rst : Bool) (p : Rec) (w : World) : Calls Try.prog 21 #[.bool rst, .agg (rowP p)] w fun e w' => e = .returned (.bool (whenF rst p 1)) ∧ Below w.heap.size w w' := by
  unfold whenF
  go_enter Try.func21, Try.ntmps21
  go_wp2
  all_goals
    go_ret
    exact ⟨by simp [*], (Below.refl _ _).alloc (Nat.le_refl _) _⟩
theorem when2_any (rst : Bool) (p : Rec) (w : World) : Calls Try.prog 23 #[.bool rst, .agg (rowP p)] w fun e w' => e = .returned (.bool (whenF rst p 2)) ∧ Below w.heap.size w w' := by
  unfold whenF
  go_enter Try.func23, Try.ntmps23
  go_wp2
  all_goals
    go_ret
    exact ⟨by simp [*], (Below.refl _ _).alloc (Nat.le_refl _) _⟩
theorem when3_any (rst : Bool) (p : Rec) (w : World) : Calls Try.prog 24 #[.bool rst, .agg (rowP p)] w fun e w' => e = .returned (.bool (whenF rst p 3)) ∧ Below w.heap.size w w' := by
  unfold whenF
  go_enter Try.func24, Try.ntmps24
  go_wp2
  all_goals
    go_ret
    exact ⟨by simp [*], (Below.refl _ _).alloc (Nat.le_refl _) _⟩
theorem when4_any (rst : Bool) (p : Rec) (w : World) : Calls Try.prog 26 #[.bool rst, .agg (rowP p)] w fun e w' => e = .returned (.bool (whenF rst p 4)) ∧ Below w.heap.size w w' := by
  unfold whenF
  go_enter Try.func26, Try.ntmps26
  go_wp2
  all_goals
    go_ret
    exact ⟨by simp [*], (Below.refl _ _).alloc (Nat.le_refl _) _⟩
/-- The rows, as cells. -/
def rowsC : Array Value := #[.int .i64 0, .func (Fn.func 19) #[] #[], .func (Fn.func 20) #[] #[], .int .i64 0, .func (Fn.func 21) #[] #[], .func (Fn.func 22) #[] #[], .int .i64 2, .func (Fn.func 23) #[] #[], .func (Fn.func 22) #[] #[], .int .i64 2, .func (Fn.func 24) #[] #[], .func (Fn.func 25) #[] #[], .int .i64 1, .func (Fn.func 26) #[] #[], .func (Fn.func 20) #[] #[]]
theorem rows_any (w : World) : Calls Try.prog 16 #[] w fun e w' => e = .returned (.slice (some ⟨w.heap.size, 0, none⟩) 5 5) ∧ w' = w.alloc (.cells rowsC 60) := by
  go_enter Try.func16, Try.ntmps16
  go_wp2
  go_ret
  exact ⟨rfl, rfl⟩
theorem sense_any (rst : Bool) (p : Rec) (g k n : Nat) (ps : Nat → Rec) (w : World) (hk : k < n) (hp : Ports w g n (upd ps k p)) : Calls Try.prog 20 #[.bool rst, .pointer (some ⟨g, k * 89, none⟩)] w fun e w' => e = .returned (.tuple #[]) ∧ Ports w' g n (upd ps k (((p.setB 37 false).setB 38 false).setI 16 2)) ∧ Only (· = g) w w' := by
  have hg := hp.lt
  have f37 := hp.free (k * 89 + 22 + 15)
  have c37 : w.cell? ⟨g, k * 89 + 22 + 15, none⟩ = some (.bool (p.b 37)) := by
    rw [← upd_same ps k p]
    exact hp.cell hk (j := 37) (by omega)
  have f38 := hp.free (k * 89 + 22 + 16)
  have c38 : w.cell? ⟨g, k * 89 + 22 + 16, none⟩ = some (.bool (p.b 38)) := by
    rw [← upd_same ps k p]
    exact hp.cell hk (j := 38) (by omega)
  have f16 := hp.free (k * 89 + 15 + 1)
  have c16 : w.cell? ⟨g, k * 89 + 15 + 1, none⟩ = some (.int .i64 (p.i 16)) := by
    rw [← upd_same ps k p]
    exact hp.cell hk (j := 16) (by omega)
  go_enter Try.func20, Try.ntmps20
  go_wp2
  go_end0
  exact ⟨rfl, (((hp.step (j := 37) (by omega) (rowP_put_37 _ _)).step (j := 38) (by omega) (rowP_put_38 _ _)).step (j := 16) (by omega) (rowP_put_16 _ _)), ((((Only.refl (· = g) w).setCell (Or.inl rfl) _).setCell (Or.inl rfl) _).setCell (Or.inl rfl) _)⟩
theorem check_any (rst : Bool) (p : Rec) (g k n : Nat) (ps : Nat → Rec) (w : World) (hk : k < n) (hp : Ports w g n (upd ps k p)) : Calls Try.prog 22 #[.bool rst, .pointer (some ⟨g, k * 89, none⟩)] w fun e w' => e = .returned (.tuple #[]) ∧ Ports w' g n (upd ps k ((((p.setB 30 false).setB 45 rst).setI 9 3).setI 16 0)) ∧ Only (· = g) w w' := by
  have hg := hp.lt
  have f30 := hp.free (k * 89 + 22 + 8)
  have c30 : w.cell? ⟨g, k * 89 + 22 + 8, none⟩ = some (.bool (p.b 30)) := by
    rw [← upd_same ps k p]
    exact hp.cell hk (j := 30) (by omega)
  have f45 := hp.free (k * 89 + 22 + 23)
  have c45 : w.cell? ⟨g, k * 89 + 22 + 23, none⟩ = some (.bool (p.b 45)) := by
    rw [← upd_same ps k p]
    exact hp.cell hk (j := 45) (by omega)
  have f9 := hp.free (k * 89 + 6 + 3)
  have c9 : w.cell? ⟨g, k * 89 + 6 + 3, none⟩ = some (.int .i64 (p.i 9)) := by
    rw [← upd_same ps k p]
    exact hp.cell hk (j := 9) (by omega)
  have f16 := hp.free (k * 89 + 15 + 1)
  have c16 : w.cell? ⟨g, k * 89 + 15 + 1, none⟩ = some (.int .i64 (p.i 16)) := by
    rw [← upd_same ps k p]
    exact hp.cell hk (j := 16) (by omega)
  go_enter Try.func22, Try.ntmps22
  go_wp2
  go_end0
  exact ⟨rfl, ((((hp.step (j := 30) (by omega) (rowP_put_30 _ _)).step (j := 45) (by omega) (rowP_put_45 _ _)).step (j := 9) (by omega) (rowP_put_9 _ _)).step (j := 16) (by omega) (rowP_put_16 _ _)), (((((Only.refl (· = g) w).setCell (Or.inl rfl) _).setCell (Or.inl rfl) _).setCell (Or.inl rfl) _).setCell (Or.inl rfl) _)⟩
theorem choose_any (rst : Bool) (p : Rec) (g k n : Nat) (ps : Nat → Rec) (w : World) (hk : k < n) (hp : Ports w g n (upd ps k p)) : Calls Try.prog 25 #[.bool rst, .pointer (some ⟨g, k * 89, none⟩)] w fun e w' => e = .returned (.tuple #[]) ∧ Ports w' g n (upd ps k (((p.setB 45 false).setI 9 3).setI 16 1)) ∧ Only (· = g) w w' := by
  have hg := hp.lt
  have f45 := hp.free (k * 89 + 22 + 23)
  have c45 : w.cell? ⟨g, k * 89 + 22 + 23, none⟩ = some (.bool (p.b 45)) := by
    rw [← upd_same ps k p]
    exact hp.cell hk (j := 45) (by omega)
  have f9 := hp.free (k * 89 + 6 + 3)
  have c9 : w.cell? ⟨g, k * 89 + 6 + 3, none⟩ = some (.int .i64 (p.i 9)) := by
    rw [← upd_same ps k p]
    exact hp.cell hk (j := 9) (by omega)
  have f16 := hp.free (k * 89 + 15 + 1)
  have c16 : w.cell? ⟨g, k * 89 + 15 + 1, none⟩ = some (.int .i64 (p.i 16)) := by
    rw [← upd_same ps k p]
    exact hp.cell hk (j := 16) (by omega)
  go_enter Try.func25, Try.ntmps25
  go_wp2
  go_end0
  exact ⟨rfl, (((hp.step (j := 45) (by omega) (rowP_put_45 _ _)).step (j := 9) (by omega) (rowP_put_9 _ _)).step (j := 16) (by omega) (rowP_put_16 _ _)), ((((Only.refl (· = g) w).setCell (Or.inl rfl) _).setCell (Or.inl rfl) _).setCell (Or.inl rfl) _)⟩
/-- What a step does to a port, and whether it was one. -/
def migF (rst : Bool) (p : Rec) : Rec × Bool :=
  if fires rst p 0 = true then ((((p.setB 37 false).setB 38 false).setI 16 2), true)
  else if fires rst p 1 = true then (((((p.setB 30 false).setB 45 rst).setI 9 3).setI 16 0), true)
  else if fires rst p 2 = true then (((((p.setB 30 false).setB 45 rst).setI 9 3).setI 16 0), true)
  else if fires rst p 3 = true then ((((p.setB 45 false).setI 9 3).setI 16 1), true)
  else if fires rst p 4 = true then ((((p.setB 37 false).setB 38 false).setI 16 2), true)
  else (p, false)
/-- What is told of a step. -/
def Stepped (rst : Bool) (w : World) (g n k : Nat) (ps : Nat → Rec) (e : Ending) (w' : World) : Prop :=
  e = .returned (.bool (migF rst (ps k)).2) ∧ Ports w' g n (upd ps k (migF rst (ps k)).1) ∧ Only (· = g) w w'
set_option maxHeartbeats 8000000 in
theorem step_any (w : World) (bx g n cap k : Nat) (ps : Nat → Rec) (rst : Bool) (hk : k < n)
    (hb : w.cell? ⟨bx, 17, none⟩ = some (.slice (some ⟨g, 0, none⟩) n cap)) (hb1 : w.cell? ⟨bx, 1, none⟩ = some (.bool rst)) (hp : Ports w g n ps) :
    Calls Try.prog 12 #[.pointer (some ⟨bx, 0, none⟩), .int .i64 k] w (Stepped rst w g n k ps) := by
  have hk0 : (0 : Int) ≤ k := by omega
  have hk1 : (k : Int) < n := by omega
  have hg := hp.lt
  have hbl := cell_lt hb1
  have Hp0 := Lib.hid hp
  have Hb1 := Lib.hid hb1
  clear hp hb1
  go_enter Try.func12, Try.ntmps12
  go_wp2_with fail
  refine (rows_any _).mono ?_
  rintro e w1 ⟨rfl, rfl⟩
  have Hp := Lib.hid (Hp0.out.alloc (.cells rowsC 60))
  have Ho := Lib.hid ((Only.refl (· = g) w).alloc (.cells rowsC 60))
  have Hr := Lib.hid (heap_alloc_new w (.cells rowsC 60))
  have Hb := Lib.hid (((more (Below.refl w.heap.size w) (.cells rowsC 60)).cell (p := ⟨bx, 1, none⟩) hbl).trans Hb1.out)
  clear Hp0 Hb1
  go_wp2_with fail
  go_loopw [16] (fun i wr => ∃ r : Nat, r ≤ 5 ∧ i = .int .i64 r ∧ Hid (∀ x, x < r → fires rst (ps k) x = false) ∧ Hid (Ports wr g n ps) ∧ Hid (Only (· = g) w wr) ∧ Hid (wr.heap[w.heap.size]? = some (.cells rowsC 60 (0, 0))) ∧ Hid (wr.cell? ⟨bx, 1, none⟩ = some (.bool rst))) (fun i _ => 5 - (intOf i).toNat)
  case atStart => exact ⟨0, by omega, rfl, fun x hx => absurd hx (Nat.not_lt_zero x), Hp, Ho, Hr, Hb⟩
  case round =>
    clear Hp Ho Hr hb Hb
    obtain ⟨r, hr4, rfl, hno, hP, hO, hR, hB1⟩ := hrel
    rcases (show r = 0 ∨ r = 1 ∨ r = 2 ∨ r = 3 ∨ r = 4 ∨ r = 5 by omega) with rfl | rfl | rfl | rfl | rfl | rfl
    · have r0 : wr.cell? ⟨w.heap.size, 0, none⟩ = some (.int .i64 0) := cells_of hR.out 0
      have r1 : wr.cell? ⟨w.heap.size, 1, none⟩ = some (.func (Fn.func 19) #[] #[]) := cells_of hR.out 1
      have r2 : wr.cell? ⟨w.heap.size, 2, none⟩ = some (.func (Fn.func 20) #[] #[]) := cells_of hR.out 2
      go_wp2_with fail
      clear r0 r1 r2
      have hne := Old.some (wr.heap.size + 1) (wr.alloc (.cells #[Value.int .i64 0, Value.func (Fn.func 19) #[] #[], Value.func (Fn.func 20) #[] #[]] 60))
      have hgr := hP.out.lt
      have y16 : ∀ y : Old (wr.heap.size + 1) (wr.alloc (.cells #[Value.int .i64 0, Value.func (Fn.func 19) #[] #[], Value.func (Fn.func 20) #[] #[]] 60)), y.w.cell? ⟨g, k * 89 + 15 + 1, none⟩ = some (.int .i64 ((ps k).i 16)) := fun y => ((hP.out.alloc _).below y.h (by omega)).cell hk (j := 16) (by omega)
      have q0 : ∀ y : Old (wr.heap.size + 1) (wr.alloc (.cells #[Value.int .i64 0, Value.func (Fn.func 19) #[] #[], Value.func (Fn.func 20) #[] #[]] 60)), y.w.cell? ⟨wr.heap.size, 0, none⟩ = some (.int .i64 0) := fun y => by
        rw [y.h.cell (p := ⟨wr.heap.size, 0, none⟩) (Nat.lt_succ_self _), World.cell?_alloc_new]
        rfl
      have q1 : ∀ y : Old (wr.heap.size + 1) (wr.alloc (.cells #[Value.int .i64 0, Value.func (Fn.func 19) #[] #[], Value.func (Fn.func 20) #[] #[]] 60)), y.w.cell? ⟨wr.heap.size, 1, none⟩ = some (.func (Fn.func 19) #[] #[]) := fun y => by
        rw [y.h.cell (p := ⟨wr.heap.size, 1, none⟩) (Nat.lt_succ_self _), World.cell?_alloc_new]
        rfl
      have hbr := cell_lt hB1.out
      have yb1 : ∀ y : Old (wr.heap.size + 1) (wr.alloc (.cells #[Value.int .i64 0, Value.func (Fn.func 19) #[] #[], Value.func (Fn.func 20) #[] #[]] 60)), y.w.cell? ⟨bx, 1, none⟩ = some (.bool rst) := fun y => by
        rw [y.h.cell (p := ⟨bx, 1, none⟩) (show bx < wr.heap.size + 1 by omega), (more (Below.refl wr.heap.size wr) _).cell (p := ⟨bx, 1, none⟩) hbr]
        exact hB1.out
      by_cases h0 : (ps k).i 16 = 0
      rotate_left
      · have Hf : Hid (fires rst (ps k) 0 = false) := Lib.hid (by simp [fires, stateOf, h0])
        have d0 : ((ps k).i 16 == 0) = false := beq_eq_false_iff_ne.2 h0
        clear h0
        refine wp_region_old (wr.heap.size + 1) (by kernel_rfl) (by kernel_rfl) ?_
        repeat (first | go_big_quiet_skip | (go_big_quiet_want; go_big_quiet_op; go_big_quiet_on))
        refine wpQuiet_nil ?_
        rintro _ ⟨y, rfl⟩
        have hP1 := Lib.hid ((hP.out.alloc _).below y.h (by omega))
        have hO1 := Lib.hid (((Only.refl (· = g) wr).alloc _).trans (Only.of_below (by simpa using y.h)))
        have hR1 := Lib.hid ((y.h.block _ (by have := (Array.getElem?_eq_some_iff.1 hR.out).1; omega)).trans ((Below.heap_alloc _ _ _ (Array.getElem?_eq_some_iff.1 hR.out).1).trans hR.out))
        have q2 : y.w.cell? ⟨wr.heap.size, 2, none⟩ = some (.func (Fn.func 20) #[] #[]) := by
          rw [y.h.cell (p := ⟨wr.heap.size, 2, none⟩) (Nat.lt_succ_self _), World.cell?_alloc_new]
          rfl
        have hb1 := yb1 y
        obtain ⟨w1, hy⟩ := y
        simp only [] at hP1 hO1 hR1 q2 hb1 ⊢
        go_wp2_with fail
        go_roundw
        case rel => exact ⟨1, by omega, by go_num, Lib.hid (fun x hx => by
          by_cases hxk : x < 0
          · exact hno.out x hxk
          · obtain rfl : x = 0 := by omega
            exact Hf.out), hP1, Lib.hid (hO.out.trans hO1.out), hR1, Lib.hid hb1⟩
        case measure => simp [intOf]
      have d0 : decide ((ps k).i 16 = 0) = true := decide_eq_true h0
      have hfr : ∀ y : Old (wr.heap.size + 1) (wr.alloc (.cells #[Value.int .i64 0, Value.func (Fn.func 19) #[] #[], Value.func (Fn.func 20) #[] #[]] 60)), y.w.rangeAt g (k * 89) (rowP (ps k)).toList := fun y => ((hP.out.alloc _).below y.h (by omega)).range hk
      have Hfr := Lib.hid hfr
      clear hfr
      cases ha : whenF rst (ps k) 0
      all_goals
        have hf : fires rst (ps k) 0 = whenF rst (ps k) 0 := by simp [fires, stateOf, h0]
        rw [ha] at hf
        have Hf := Lib.hid hf
        clear hf
        have cl : ∀ w, Calls Try.prog 19 #[.bool rst, .agg (rowP (ps k))] w fun e w' => e = .returned (.bool _) ∧ Below w.heap.size w w' := fun w => by
          have h := when0_any rst (ps k) w
          rw [ha] at h
          exact h
        have Cl := Lib.hid cl
        clear cl
        refine wp_region_old (wr.heap.size + 1) (by kernel_rfl) (by kernel_rfl) ?_
        repeat (first | go_big_quiet_skip | (go_big_quiet_want; first | (refine quiet_row 52 _ rfl g (k * 89) rfl (rowP (ps k)) _ (by rintro _ ⟨y, rfl⟩; exact Hfr.out y) Try.underlying52 rfl (sizeP _) ?_; go_big_quiet_on; simp only [Act.put, List.setIfInBounds_toArray, List.set_cons_zero, List.set_cons_succ]) | (go_big_quiet_op; first | go_big_quiet_on | go_big_quiet_call ((go_at_call 19; exact Calls.old (by simp) (Cl.out _))))))
        refine wpQuiet_nil ?_
        rintro _ ⟨y, rfl⟩
        have hP1 := Lib.hid ((hP.out.alloc _).below y.h (by omega))
        have hO1 := Lib.hid (((Only.refl (· = g) wr).alloc _).trans (Only.of_below (by simpa using y.h)))
        have hR1 := Lib.hid ((y.h.block _ (by have := (Array.getElem?_eq_some_iff.1 hR.out).1; omega)).trans ((Below.heap_alloc _ _ _ (Array.getElem?_eq_some_iff.1 hR.out).1).trans hR.out))
        have q2 : y.w.cell? ⟨wr.heap.size, 2, none⟩ = some (.func (Fn.func 20) #[] #[]) := by
          rw [y.h.cell (p := ⟨wr.heap.size, 2, none⟩) (Nat.lt_succ_self _), World.cell?_alloc_new]
          rfl
        have hb1 := yb1 y
        obtain ⟨w1, hy⟩ := y
        simp only [] at hP1 hO1 hR1 q2 hb1 ⊢
      · go_wp2_with fail
        go_roundw
        case rel => exact ⟨1, by omega, by go_num, Lib.hid (fun x hx => by
          by_cases hxk : x < 0
          · exact hno.out x hxk
          · obtain rfl : x = 0 := by omega
            exact Hf.out), hP1, Lib.hid (hO.out.trans hO1.out), hR1, Lib.hid hb1⟩
        case measure => simp [intOf]
      · have hs1 : wr.heap.size < w1.heap.size := cell_lt q2
        have hbl1 : bx < w1.heap.size := cell_lt hb1
        have e : migF rst (ps k) = (((((ps k).setB 37 false).setB 38 false).setI 16 2), true) := by
          unfold migF
          skip
          rw [if_pos Hf.out]
        have He := Lib.hid e
        clear e Hf hno ha h0 d0 hy
        go_wp2_with fail
        go_still_tail 7, (by kernel_rfl)
        go_wp2_with fail
        refine (sense_any rst (ps k) g k n ps _ hk (hP1.out.drew.start k)).mono ?_
        rintro e w2 ⟨rfl, hp2, ho2⟩
        have hO2 := Lib.hid ((hO.out.trans hO1.out).drew.trans ho2)
        clear q2 hO1 hO ho2
        go_wp2_with fail
        go_ret
        refine ⟨by rw [He.out]; rfl, by rw [He.out]; exact hp2, hO2.out⟩
    · have r0 : wr.cell? ⟨w.heap.size, 3, none⟩ = some (.int .i64 0) := cells_of hR.out 3
      have r1 : wr.cell? ⟨w.heap.size, 4, none⟩ = some (.func (Fn.func 21) #[] #[]) := cells_of hR.out 4
      have r2 : wr.cell? ⟨w.heap.size, 5, none⟩ = some (.func (Fn.func 22) #[] #[]) := cells_of hR.out 5
      go_wp2_with fail
      clear r0 r1 r2
      have hne := Old.some (wr.heap.size + 1) (wr.alloc (.cells #[Value.int .i64 0, Value.func (Fn.func 21) #[] #[], Value.func (Fn.func 22) #[] #[]] 60))
      have hgr := hP.out.lt
      have y16 : ∀ y : Old (wr.heap.size + 1) (wr.alloc (.cells #[Value.int .i64 0, Value.func (Fn.func 21) #[] #[], Value.func (Fn.func 22) #[] #[]] 60)), y.w.cell? ⟨g, k * 89 + 15 + 1, none⟩ = some (.int .i64 ((ps k).i 16)) := fun y => ((hP.out.alloc _).below y.h (by omega)).cell hk (j := 16) (by omega)
      have q0 : ∀ y : Old (wr.heap.size + 1) (wr.alloc (.cells #[Value.int .i64 0, Value.func (Fn.func 21) #[] #[], Value.func (Fn.func 22) #[] #[]] 60)), y.w.cell? ⟨wr.heap.size, 0, none⟩ = some (.int .i64 0) := fun y => by
        rw [y.h.cell (p := ⟨wr.heap.size, 0, none⟩) (Nat.lt_succ_self _), World.cell?_alloc_new]
        rfl
      have q1 : ∀ y : Old (wr.heap.size + 1) (wr.alloc (.cells #[Value.int .i64 0, Value.func (Fn.func 21) #[] #[], Value.func (Fn.func 22) #[] #[]] 60)), y.w.cell? ⟨wr.heap.size, 1, none⟩ = some (.func (Fn.func 21) #[] #[]) := fun y => by
        rw [y.h.cell (p := ⟨wr.heap.size, 1, none⟩) (Nat.lt_succ_self _), World.cell?_alloc_new]
        rfl
      have hbr := cell_lt hB1.out
      have yb1 : ∀ y : Old (wr.heap.size + 1) (wr.alloc (.cells #[Value.int .i64 0, Value.func (Fn.func 21) #[] #[], Value.func (Fn.func 22) #[] #[]] 60)), y.w.cell? ⟨bx, 1, none⟩ = some (.bool rst) := fun y => by
        rw [y.h.cell (p := ⟨bx, 1, none⟩) (show bx < wr.heap.size + 1 by omega), (more (Below.refl wr.heap.size wr) _).cell (p := ⟨bx, 1, none⟩) hbr]
        exact hB1.out
      by_cases h0 : (ps k).i 16 = 0
      rotate_left
      · have Hf : Hid (fires rst (ps k) 1 = false) := Lib.hid (by simp [fires, stateOf, h0])
        have d0 : ((ps k).i 16 == 0) = false := beq_eq_false_iff_ne.2 h0
        clear h0
        refine wp_region_old (wr.heap.size + 1) (by kernel_rfl) (by kernel_rfl) ?_
        repeat (first | go_big_quiet_skip | (go_big_quiet_want; go_big_quiet_op; go_big_quiet_on))
        refine wpQuiet_nil ?_
        rintro _ ⟨y, rfl⟩
        have hP1 := Lib.hid ((hP.out.alloc _).below y.h (by omega))
        have hO1 := Lib.hid (((Only.refl (· = g) wr).alloc _).trans (Only.of_below (by simpa using y.h)))
        have hR1 := Lib.hid ((y.h.block _ (by have := (Array.getElem?_eq_some_iff.1 hR.out).1; omega)).trans ((Below.heap_alloc _ _ _ (Array.getElem?_eq_some_iff.1 hR.out).1).trans hR.out))
        have q2 : y.w.cell? ⟨wr.heap.size, 2, none⟩ = some (.func (Fn.func 22) #[] #[]) := by
          rw [y.h.cell (p := ⟨wr.heap.size, 2, none⟩) (Nat.lt_succ_self _), World.cell?_alloc_new]
          rfl
        have hb1 := yb1 y
        obtain ⟨w1, hy⟩ := y
        simp only [] at hP1 hO1 hR1 q2 hb1 ⊢
        go_wp2_with fail
        go_roundw
        case rel => exact ⟨2, by omega, by go_num, Lib.hid (fun x hx => by
          by_cases hxk : x < 1
          · exact hno.out x hxk
          · obtain rfl : x = 1 := by omega
            exact Hf.out), hP1, Lib.hid (hO.out.trans hO1.out), hR1, Lib.hid hb1⟩
        case measure => simp [intOf]
      have d0 : decide ((ps k).i 16 = 0) = true := decide_eq_true h0
      have hfr : ∀ y : Old (wr.heap.size + 1) (wr.alloc (.cells #[Value.int .i64 0, Value.func (Fn.func 21) #[] #[], Value.func (Fn.func 22) #[] #[]] 60)), y.w.rangeAt g (k * 89) (rowP (ps k)).toList := fun y => ((hP.out.alloc _).below y.h (by omega)).range hk
      have Hfr := Lib.hid hfr
      clear hfr
      cases ha : whenF rst (ps k) 1
      all_goals
        have hf : fires rst (ps k) 1 = whenF rst (ps k) 1 := by simp [fires, stateOf, h0]
        rw [ha] at hf
        have Hf := Lib.hid hf
        clear hf
        have cl : ∀ w, Calls Try.prog 21 #[.bool rst, .agg (rowP (ps k))] w fun e w' => e = .returned (.bool _) ∧ Below w.heap.size w w' := fun w => by
          have h := when1_any rst (ps k) w
          rw [ha] at h
          exact h
        have Cl := Lib.hid cl
        clear cl
        refine wp_region_old (wr.heap.size + 1) (by kernel_rfl) (by kernel_rfl) ?_
        repeat (first | go_big_quiet_skip | (go_big_quiet_want; first | (refine quiet_row 52 _ rfl g (k * 89) rfl (rowP (ps k)) _ (by rintro _ ⟨y, rfl⟩; exact Hfr.out y) Try.underlying52 rfl (sizeP _) ?_; go_big_quiet_on; simp only [Act.put, List.setIfInBounds_toArray, List.set_cons_zero, List.set_cons_succ]) | (go_big_quiet_op; first | go_big_quiet_on | go_big_quiet_call ((go_at_call 21; exact Calls.old (by simp) (Cl.out _))))))
        refine wpQuiet_nil ?_
        rintro _ ⟨y, rfl⟩
        have hP1 := Lib.hid ((hP.out.alloc _).below y.h (by omega))
        have hO1 := Lib.hid (((Only.refl (· = g) wr).alloc _).trans (Only.of_below (by simpa using y.h)))
        have hR1 := Lib.hid ((y.h.block _ (by have := (Array.getElem?_eq_some_iff.1 hR.out).1; omega)).trans ((Below.heap_alloc _ _ _ (Array.getElem?_eq_some_iff.1 hR.out).1).trans hR.out))
        have q2 : y.w.cell? ⟨wr.heap.size, 2, none⟩ = some (.func (Fn.func 22) #[] #[]) := by
          rw [y.h.cell (p := ⟨wr.heap.size, 2, none⟩) (Nat.lt_succ_self _), World.cell?_alloc_new]
          rfl
        have hb1 := yb1 y
        obtain ⟨w1, hy⟩ := y
        simp only [] at hP1 hO1 hR1 q2 hb1 ⊢
      · go_wp2_with fail
        go_roundw
        case rel => exact ⟨2, by omega, by go_num, Lib.hid (fun x hx => by
          by_cases hxk : x < 1
          · exact hno.out x hxk
          · obtain rfl : x = 1 := by omega
            exact Hf.out), hP1, Lib.hid (hO.out.trans hO1.out), hR1, Lib.hid hb1⟩
        case measure => simp [intOf]
      · have hs1 : wr.heap.size < w1.heap.size := cell_lt q2
        have hbl1 : bx < w1.heap.size := cell_lt hb1
        have e : migF rst (ps k) = ((((((ps k).setB 30 false).setB 45 rst).setI 9 3).setI 16 0), true) := by
          unfold migF
          rw [if_neg (by rw [hno.out 0 (by omega)]; decide)]
          rw [if_pos Hf.out]
        have He := Lib.hid e
        clear e Hf hno ha h0 d0 hy
        go_wp2_with fail
        go_still_tail 7, (by kernel_rfl)
        go_wp2_with fail
        refine (check_any rst (ps k) g k n ps _ hk (hP1.out.drew.start k)).mono ?_
        rintro e w2 ⟨rfl, hp2, ho2⟩
        have hO2 := Lib.hid ((hO.out.trans hO1.out).drew.trans ho2)
        clear q2 hO1 hO ho2
        go_wp2_with fail
        go_ret
        refine ⟨by rw [He.out]; rfl, by rw [He.out]; exact hp2, hO2.out⟩
    · have r0 : wr.cell? ⟨w.heap.size, 6, none⟩ = some (.int .i64 2) := cells_of hR.out 6
      have r1 : wr.cell? ⟨w.heap.size, 7, none⟩ = some (.func (Fn.func 23) #[] #[]) := cells_of hR.out 7
      have r2 : wr.cell? ⟨w.heap.size, 8, none⟩ = some (.func (Fn.func 22) #[] #[]) := cells_of hR.out 8
      go_wp2_with fail
      clear r0 r1 r2
      have hne := Old.some (wr.heap.size + 1) (wr.alloc (.cells #[Value.int .i64 2, Value.func (Fn.func 23) #[] #[], Value.func (Fn.func 22) #[] #[]] 60))
      have hgr := hP.out.lt
      have y16 : ∀ y : Old (wr.heap.size + 1) (wr.alloc (.cells #[Value.int .i64 2, Value.func (Fn.func 23) #[] #[], Value.func (Fn.func 22) #[] #[]] 60)), y.w.cell? ⟨g, k * 89 + 15 + 1, none⟩ = some (.int .i64 ((ps k).i 16)) := fun y => ((hP.out.alloc _).below y.h (by omega)).cell hk (j := 16) (by omega)
      have q0 : ∀ y : Old (wr.heap.size + 1) (wr.alloc (.cells #[Value.int .i64 2, Value.func (Fn.func 23) #[] #[], Value.func (Fn.func 22) #[] #[]] 60)), y.w.cell? ⟨wr.heap.size, 0, none⟩ = some (.int .i64 2) := fun y => by
        rw [y.h.cell (p := ⟨wr.heap.size, 0, none⟩) (Nat.lt_succ_self _), World.cell?_alloc_new]
        rfl
      have q1 : ∀ y : Old (wr.heap.size + 1) (wr.alloc (.cells #[Value.int .i64 2, Value.func (Fn.func 23) #[] #[], Value.func (Fn.func 22) #[] #[]] 60)), y.w.cell? ⟨wr.heap.size, 1, none⟩ = some (.func (Fn.func 23) #[] #[]) := fun y => by
        rw [y.h.cell (p := ⟨wr.heap.size, 1, none⟩) (Nat.lt_succ_self _), World.cell?_alloc_new]
        rfl
      have hbr := cell_lt hB1.out
      have yb1 : ∀ y : Old (wr.heap.size + 1) (wr.alloc (.cells #[Value.int .i64 2, Value.func (Fn.func 23) #[] #[], Value.func (Fn.func 22) #[] #[]] 60)), y.w.cell? ⟨bx, 1, none⟩ = some (.bool rst) := fun y => by
        rw [y.h.cell (p := ⟨bx, 1, none⟩) (show bx < wr.heap.size + 1 by omega), (more (Below.refl wr.heap.size wr) _).cell (p := ⟨bx, 1, none⟩) hbr]
        exact hB1.out
      by_cases h0 : (ps k).i 16 = 2
      rotate_left
      · have Hf : Hid (fires rst (ps k) 2 = false) := Lib.hid (by simp [fires, stateOf, h0])
        have d0 : ((ps k).i 16 == 2) = false := beq_eq_false_iff_ne.2 h0
        clear h0
        refine wp_region_old (wr.heap.size + 1) (by kernel_rfl) (by kernel_rfl) ?_
        repeat (first | go_big_quiet_skip | (go_big_quiet_want; go_big_quiet_op; go_big_quiet_on))
        refine wpQuiet_nil ?_
        rintro _ ⟨y, rfl⟩
        have hP1 := Lib.hid ((hP.out.alloc _).below y.h (by omega))
        have hO1 := Lib.hid (((Only.refl (· = g) wr).alloc _).trans (Only.of_below (by simpa using y.h)))
        have hR1 := Lib.hid ((y.h.block _ (by have := (Array.getElem?_eq_some_iff.1 hR.out).1; omega)).trans ((Below.heap_alloc _ _ _ (Array.getElem?_eq_some_iff.1 hR.out).1).trans hR.out))
        have q2 : y.w.cell? ⟨wr.heap.size, 2, none⟩ = some (.func (Fn.func 22) #[] #[]) := by
          rw [y.h.cell (p := ⟨wr.heap.size, 2, none⟩) (Nat.lt_succ_self _), World.cell?_alloc_new]
          rfl
        have hb1 := yb1 y
        obtain ⟨w1, hy⟩ := y
        simp only [] at hP1 hO1 hR1 q2 hb1 ⊢
        go_wp2_with fail
        go_roundw
        case rel => exact ⟨3, by omega, by go_num, Lib.hid (fun x hx => by
          by_cases hxk : x < 2
          · exact hno.out x hxk
          · obtain rfl : x = 2 := by omega
            exact Hf.out), hP1, Lib.hid (hO.out.trans hO1.out), hR1, Lib.hid hb1⟩
        case measure => simp [intOf]
      have d0 : decide ((ps k).i 16 = 2) = true := decide_eq_true h0
      have hfr : ∀ y : Old (wr.heap.size + 1) (wr.alloc (.cells #[Value.int .i64 2, Value.func (Fn.func 23) #[] #[], Value.func (Fn.func 22) #[] #[]] 60)), y.w.rangeAt g (k * 89) (rowP (ps k)).toList := fun y => ((hP.out.alloc _).below y.h (by omega)).range hk
      have Hfr := Lib.hid hfr
      clear hfr
      cases ha : whenF rst (ps k) 2
      all_goals
        have hf : fires rst (ps k) 2 = whenF rst (ps k) 2 := by simp [fires, stateOf, h0]
        rw [ha] at hf
        have Hf := Lib.hid hf
        clear hf
        have cl : ∀ w, Calls Try.prog 23 #[.bool rst, .agg (rowP (ps k))] w fun e w' => e = .returned (.bool _) ∧ Below w.heap.size w w' := fun w => by
          have h := when2_any rst (ps k) w
          rw [ha] at h
          exact h
        have Cl := Lib.hid cl
        clear cl
        refine wp_region_old (wr.heap.size + 1) (by kernel_rfl) (by kernel_rfl) ?_
        repeat (first | go_big_quiet_skip | (go_big_quiet_want; first | (refine quiet_row 52 _ rfl g (k * 89) rfl (rowP (ps k)) _ (by rintro _ ⟨y, rfl⟩; exact Hfr.out y) Try.underlying52 rfl (sizeP _) ?_; go_big_quiet_on; simp only [Act.put, List.setIfInBounds_toArray, List.set_cons_zero, List.set_cons_succ]) | (go_big_quiet_op; first | go_big_quiet_on | go_big_quiet_call ((go_at_call 23; exact Calls.old (by simp) (Cl.out _))))))
        refine wpQuiet_nil ?_
        rintro _ ⟨y, rfl⟩
        have hP1 := Lib.hid ((hP.out.alloc _).below y.h (by omega))
        have hO1 := Lib.hid (((Only.refl (· = g) wr).alloc _).trans (Only.of_below (by simpa using y.h)))
        have hR1 := Lib.hid ((y.h.block _ (by have := (Array.getElem?_eq_some_iff.1 hR.out).1; omega)).trans ((Below.heap_alloc _ _ _ (Array.getElem?_eq_some_iff.1 hR.out).1).trans hR.out))
        have q2 : y.w.cell? ⟨wr.heap.size, 2, none⟩ = some (.func (Fn.func 22) #[] #[]) := by
          rw [y.h.cell (p := ⟨wr.heap.size, 2, none⟩) (Nat.lt_succ_self _), World.cell?_alloc_new]
          rfl
        have hb1 := yb1 y
        obtain ⟨w1, hy⟩ := y
        simp only [] at hP1 hO1 hR1 q2 hb1 ⊢
      · go_wp2_with fail
        go_roundw
        case rel => exact ⟨3, by omega, by go_num, Lib.hid (fun x hx => by
          by_cases hxk : x < 2
          · exact hno.out x hxk
          · obtain rfl : x = 2 := by omega
            exact Hf.out), hP1, Lib.hid (hO.out.trans hO1.out), hR1, Lib.hid hb1⟩
        case measure => simp [intOf]
      · have hs1 : wr.heap.size < w1.heap.size := cell_lt q2
        have hbl1 : bx < w1.heap.size := cell_lt hb1
        have e : migF rst (ps k) = ((((((ps k).setB 30 false).setB 45 rst).setI 9 3).setI 16 0), true) := by
          unfold migF
          rw [if_neg (by rw [hno.out 0 (by omega)]; decide), if_neg (by rw [hno.out 1 (by omega)]; decide)]
          rw [if_pos Hf.out]
        have He := Lib.hid e
        clear e Hf hno ha h0 d0 hy
        go_wp2_with fail
        go_still_tail 7, (by kernel_rfl)
        go_wp2_with fail
        refine (check_any rst (ps k) g k n ps _ hk (hP1.out.drew.start k)).mono ?_
        rintro e w2 ⟨rfl, hp2, ho2⟩
        have hO2 := Lib.hid ((hO.out.trans hO1.out).drew.trans ho2)
        clear q2 hO1 hO ho2
        go_wp2_with fail
        go_ret
        refine ⟨by rw [He.out]; rfl, by rw [He.out]; exact hp2, hO2.out⟩
    · have r0 : wr.cell? ⟨w.heap.size, 9, none⟩ = some (.int .i64 2) := cells_of hR.out 9
      have r1 : wr.cell? ⟨w.heap.size, 10, none⟩ = some (.func (Fn.func 24) #[] #[]) := cells_of hR.out 10
      have r2 : wr.cell? ⟨w.heap.size, 11, none⟩ = some (.func (Fn.func 25) #[] #[]) := cells_of hR.out 11
      go_wp2_with fail
      clear r0 r1 r2
      have hne := Old.some (wr.heap.size + 1) (wr.alloc (.cells #[Value.int .i64 2, Value.func (Fn.func 24) #[] #[], Value.func (Fn.func 25) #[] #[]] 60))
      have hgr := hP.out.lt
      have y16 : ∀ y : Old (wr.heap.size + 1) (wr.alloc (.cells #[Value.int .i64 2, Value.func (Fn.func 24) #[] #[], Value.func (Fn.func 25) #[] #[]] 60)), y.w.cell? ⟨g, k * 89 + 15 + 1, none⟩ = some (.int .i64 ((ps k).i 16)) := fun y => ((hP.out.alloc _).below y.h (by omega)).cell hk (j := 16) (by omega)
      have q0 : ∀ y : Old (wr.heap.size + 1) (wr.alloc (.cells #[Value.int .i64 2, Value.func (Fn.func 24) #[] #[], Value.func (Fn.func 25) #[] #[]] 60)), y.w.cell? ⟨wr.heap.size, 0, none⟩ = some (.int .i64 2) := fun y => by
        rw [y.h.cell (p := ⟨wr.heap.size, 0, none⟩) (Nat.lt_succ_self _), World.cell?_alloc_new]
        rfl
      have q1 : ∀ y : Old (wr.heap.size + 1) (wr.alloc (.cells #[Value.int .i64 2, Value.func (Fn.func 24) #[] #[], Value.func (Fn.func 25) #[] #[]] 60)), y.w.cell? ⟨wr.heap.size, 1, none⟩ = some (.func (Fn.func 24) #[] #[]) := fun y => by
        rw [y.h.cell (p := ⟨wr.heap.size, 1, none⟩) (Nat.lt_succ_self _), World.cell?_alloc_new]
        rfl
      have hbr := cell_lt hB1.out
      have yb1 : ∀ y : Old (wr.heap.size + 1) (wr.alloc (.cells #[Value.int .i64 2, Value.func (Fn.func 24) #[] #[], Value.func (Fn.func 25) #[] #[]] 60)), y.w.cell? ⟨bx, 1, none⟩ = some (.bool rst) := fun y => by
        rw [y.h.cell (p := ⟨bx, 1, none⟩) (show bx < wr.heap.size + 1 by omega), (more (Below.refl wr.heap.size wr) _).cell (p := ⟨bx, 1, none⟩) hbr]
        exact hB1.out
      by_cases h0 : (ps k).i 16 = 2
      rotate_left
      · have Hf : Hid (fires rst (ps k) 3 = false) := Lib.hid (by simp [fires, stateOf, h0])
        have d0 : ((ps k).i 16 == 2) = false := beq_eq_false_iff_ne.2 h0
        clear h0
        refine wp_region_old (wr.heap.size + 1) (by kernel_rfl) (by kernel_rfl) ?_
        repeat (first | go_big_quiet_skip | (go_big_quiet_want; go_big_quiet_op; go_big_quiet_on))
        refine wpQuiet_nil ?_
        rintro _ ⟨y, rfl⟩
        have hP1 := Lib.hid ((hP.out.alloc _).below y.h (by omega))
        have hO1 := Lib.hid (((Only.refl (· = g) wr).alloc _).trans (Only.of_below (by simpa using y.h)))
        have hR1 := Lib.hid ((y.h.block _ (by have := (Array.getElem?_eq_some_iff.1 hR.out).1; omega)).trans ((Below.heap_alloc _ _ _ (Array.getElem?_eq_some_iff.1 hR.out).1).trans hR.out))
        have q2 : y.w.cell? ⟨wr.heap.size, 2, none⟩ = some (.func (Fn.func 25) #[] #[]) := by
          rw [y.h.cell (p := ⟨wr.heap.size, 2, none⟩) (Nat.lt_succ_self _), World.cell?_alloc_new]
          rfl
        have hb1 := yb1 y
        obtain ⟨w1, hy⟩ := y
        simp only [] at hP1 hO1 hR1 q2 hb1 ⊢
        go_wp2_with fail
        go_roundw
        case rel => exact ⟨4, by omega, by go_num, Lib.hid (fun x hx => by
          by_cases hxk : x < 3
          · exact hno.out x hxk
          · obtain rfl : x = 3 := by omega
            exact Hf.out), hP1, Lib.hid (hO.out.trans hO1.out), hR1, Lib.hid hb1⟩
        case measure => simp [intOf]
      have d0 : decide ((ps k).i 16 = 2) = true := decide_eq_true h0
      have hfr : ∀ y : Old (wr.heap.size + 1) (wr.alloc (.cells #[Value.int .i64 2, Value.func (Fn.func 24) #[] #[], Value.func (Fn.func 25) #[] #[]] 60)), y.w.rangeAt g (k * 89) (rowP (ps k)).toList := fun y => ((hP.out.alloc _).below y.h (by omega)).range hk
      have Hfr := Lib.hid hfr
      clear hfr
      cases ha : whenF rst (ps k) 3
      all_goals
        have hf : fires rst (ps k) 3 = whenF rst (ps k) 3 := by simp [fires, stateOf, h0]
        rw [ha] at hf
        have Hf := Lib.hid hf
        clear hf
        have cl : ∀ w, Calls Try.prog 24 #[.bool rst, .agg (rowP (ps k))] w fun e w' => e = .returned (.bool _) ∧ Below w.heap.size w w' := fun w => by
          have h := when3_any rst (ps k) w
          rw [ha] at h
          exact h
        have Cl := Lib.hid cl
        clear cl
        refine wp_region_old (wr.heap.size + 1) (by kernel_rfl) (by kernel_rfl) ?_
        repeat (first | go_big_quiet_skip | (go_big_quiet_want; first | (refine quiet_row 52 _ rfl g (k * 89) rfl (rowP (ps k)) _ (by rintro _ ⟨y, rfl⟩; exact Hfr.out y) Try.underlying52 rfl (sizeP _) ?_; go_big_quiet_on; simp only [Act.put, List.setIfInBounds_toArray, List.set_cons_zero, List.set_cons_succ]) | (go_big_quiet_op; first | go_big_quiet_on | go_big_quiet_call ((go_at_call 24; exact Calls.old (by simp) (Cl.out _))))))
        refine wpQuiet_nil ?_
        rintro _ ⟨y, rfl⟩
        have hP1 := Lib.hid ((hP.out.alloc _).below y.h (by omega))
        have hO1 := Lib.hid (((Only.refl (· = g) wr).alloc _).trans (Only.of_below (by simpa using y.h)))
        have hR1 := Lib.hid ((y.h.block _ (by have := (Array.getElem?_eq_some_iff.1 hR.out).1; omega)).trans ((Below.heap_alloc _ _ _ (Array.getElem?_eq_some_iff.1 hR.out).1).trans hR.out))
        have q2 : y.w.cell? ⟨wr.heap.size, 2, none⟩ = some (.func (Fn.func 25) #[] #[]) := by
          rw [y.h.cell (p := ⟨wr.heap.size, 2, none⟩) (Nat.lt_succ_self _), World.cell?_alloc_new]
          rfl
        have hb1 := yb1 y
        obtain ⟨w1, hy⟩ := y
        simp only [] at hP1 hO1 hR1 q2 hb1 ⊢
      · go_wp2_with fail
        go_roundw
        case rel => exact ⟨4, by omega, by go_num, Lib.hid (fun x hx => by
          by_cases hxk : x < 3
          · exact hno.out x hxk
          · obtain rfl : x = 3 := by omega
            exact Hf.out), hP1, Lib.hid (hO.out.trans hO1.out), hR1, Lib.hid hb1⟩
        case measure => simp [intOf]
      · have hs1 : wr.heap.size < w1.heap.size := cell_lt q2
        have hbl1 : bx < w1.heap.size := cell_lt hb1
        have e : migF rst (ps k) = (((((ps k).setB 45 false).setI 9 3).setI 16 1), true) := by
          unfold migF
          rw [if_neg (by rw [hno.out 0 (by omega)]; decide), if_neg (by rw [hno.out 1 (by omega)]; decide), if_neg (by rw [hno.out 2 (by omega)]; decide)]
          rw [if_pos Hf.out]
        have He := Lib.hid e
        clear e Hf hno ha h0 d0 hy
        go_wp2_with fail
        go_still_tail 7, (by kernel_rfl)
        go_wp2_with fail
        refine (choose_any rst (ps k) g k n ps _ hk (hP1.out.drew.start k)).mono ?_
        rintro e w2 ⟨rfl, hp2, ho2⟩
        have hO2 := Lib.hid ((hO.out.trans hO1.out).drew.trans ho2)
        clear q2 hO1 hO ho2
        go_wp2_with fail
        go_ret
        refine ⟨by rw [He.out]; rfl, by rw [He.out]; exact hp2, hO2.out⟩
    · have r0 : wr.cell? ⟨w.heap.size, 12, none⟩ = some (.int .i64 1) := cells_of hR.out 12
      have r1 : wr.cell? ⟨w.heap.size, 13, none⟩ = some (.func (Fn.func 26) #[] #[]) := cells_of hR.out 13
      have r2 : wr.cell? ⟨w.heap.size, 14, none⟩ = some (.func (Fn.func 20) #[] #[]) := cells_of hR.out 14
      go_wp2_with fail
      clear r0 r1 r2
      have hne := Old.some (wr.heap.size + 1) (wr.alloc (.cells #[Value.int .i64 1, Value.func (Fn.func 26) #[] #[], Value.func (Fn.func 20) #[] #[]] 60))
      have hgr := hP.out.lt
      have y16 : ∀ y : Old (wr.heap.size + 1) (wr.alloc (.cells #[Value.int .i64 1, Value.func (Fn.func 26) #[] #[], Value.func (Fn.func 20) #[] #[]] 60)), y.w.cell? ⟨g, k * 89 + 15 + 1, none⟩ = some (.int .i64 ((ps k).i 16)) := fun y => ((hP.out.alloc _).below y.h (by omega)).cell hk (j := 16) (by omega)
      have q0 : ∀ y : Old (wr.heap.size + 1) (wr.alloc (.cells #[Value.int .i64 1, Value.func (Fn.func 26) #[] #[], Value.func (Fn.func 20) #[] #[]] 60)), y.w.cell? ⟨wr.heap.size, 0, none⟩ = some (.int .i64 1) := fun y => by
        rw [y.h.cell (p := ⟨wr.heap.size, 0, none⟩) (Nat.lt_succ_self _), World.cell?_alloc_new]
        rfl
      have q1 : ∀ y : Old (wr.heap.size + 1) (wr.alloc (.cells #[Value.int .i64 1, Value.func (Fn.func 26) #[] #[], Value.func (Fn.func 20) #[] #[]] 60)), y.w.cell? ⟨wr.heap.size, 1, none⟩ = some (.func (Fn.func 26) #[] #[]) := fun y => by
        rw [y.h.cell (p := ⟨wr.heap.size, 1, none⟩) (Nat.lt_succ_self _), World.cell?_alloc_new]
        rfl
      have hbr := cell_lt hB1.out
      have yb1 : ∀ y : Old (wr.heap.size + 1) (wr.alloc (.cells #[Value.int .i64 1, Value.func (Fn.func 26) #[] #[], Value.func (Fn.func 20) #[] #[]] 60)), y.w.cell? ⟨bx, 1, none⟩ = some (.bool rst) := fun y => by
        rw [y.h.cell (p := ⟨bx, 1, none⟩) (show bx < wr.heap.size + 1 by omega), (more (Below.refl wr.heap.size wr) _).cell (p := ⟨bx, 1, none⟩) hbr]
        exact hB1.out
      by_cases h0 : (ps k).i 16 = 1
      rotate_left
      · have Hf : Hid (fires rst (ps k) 4 = false) := Lib.hid (by simp [fires, stateOf, h0])
        have d0 : ((ps k).i 16 == 1) = false := beq_eq_false_iff_ne.2 h0
        clear h0
        refine wp_region_old (wr.heap.size + 1) (by kernel_rfl) (by kernel_rfl) ?_
        repeat (first | go_big_quiet_skip | (go_big_quiet_want; go_big_quiet_op; go_big_quiet_on))
        refine wpQuiet_nil ?_
        rintro _ ⟨y, rfl⟩
        have hP1 := Lib.hid ((hP.out.alloc _).below y.h (by omega))
        have hO1 := Lib.hid (((Only.refl (· = g) wr).alloc _).trans (Only.of_below (by simpa using y.h)))
        have hR1 := Lib.hid ((y.h.block _ (by have := (Array.getElem?_eq_some_iff.1 hR.out).1; omega)).trans ((Below.heap_alloc _ _ _ (Array.getElem?_eq_some_iff.1 hR.out).1).trans hR.out))
        have q2 : y.w.cell? ⟨wr.heap.size, 2, none⟩ = some (.func (Fn.func 20) #[] #[]) := by
          rw [y.h.cell (p := ⟨wr.heap.size, 2, none⟩) (Nat.lt_succ_self _), World.cell?_alloc_new]
          rfl
        have hb1 := yb1 y
        obtain ⟨w1, hy⟩ := y
        simp only [] at hP1 hO1 hR1 q2 hb1 ⊢
        go_wp2_with fail
        go_roundw
        case rel => exact ⟨5, by omega, by go_num, Lib.hid (fun x hx => by
          by_cases hxk : x < 4
          · exact hno.out x hxk
          · obtain rfl : x = 4 := by omega
            exact Hf.out), hP1, Lib.hid (hO.out.trans hO1.out), hR1, Lib.hid hb1⟩
        case measure => simp [intOf]
      have d0 : decide ((ps k).i 16 = 1) = true := decide_eq_true h0
      have hfr : ∀ y : Old (wr.heap.size + 1) (wr.alloc (.cells #[Value.int .i64 1, Value.func (Fn.func 26) #[] #[], Value.func (Fn.func 20) #[] #[]] 60)), y.w.rangeAt g (k * 89) (rowP (ps k)).toList := fun y => ((hP.out.alloc _).below y.h (by omega)).range hk
      have Hfr := Lib.hid hfr
      clear hfr
      cases ha : whenF rst (ps k) 4
      all_goals
        have hf : fires rst (ps k) 4 = whenF rst (ps k) 4 := by simp [fires, stateOf, h0]
        rw [ha] at hf
        have Hf := Lib.hid hf
        clear hf
        have cl : ∀ w, Calls Try.prog 26 #[.bool rst, .agg (rowP (ps k))] w fun e w' => e = .returned (.bool _) ∧ Below w.heap.size w w' := fun w => by
          have h := when4_any rst (ps k) w
          rw [ha] at h
          exact h
        have Cl := Lib.hid cl
        clear cl
        refine wp_region_old (wr.heap.size + 1) (by kernel_rfl) (by kernel_rfl) ?_
        repeat (first | go_big_quiet_skip | (go_big_quiet_want; first | (refine quiet_row 52 _ rfl g (k * 89) rfl (rowP (ps k)) _ (by rintro _ ⟨y, rfl⟩; exact Hfr.out y) Try.underlying52 rfl (sizeP _) ?_; go_big_quiet_on; simp only [Act.put, List.setIfInBounds_toArray, List.set_cons_zero, List.set_cons_succ]) | (go_big_quiet_op; first | go_big_quiet_on | go_big_quiet_call ((go_at_call 26; exact Calls.old (by simp) (Cl.out _))))))
        refine wpQuiet_nil ?_
        rintro _ ⟨y, rfl⟩
        have hP1 := Lib.hid ((hP.out.alloc _).below y.h (by omega))
        have hO1 := Lib.hid (((Only.refl (· = g) wr).alloc _).trans (Only.of_below (by simpa using y.h)))
        have hR1 := Lib.hid ((y.h.block _ (by have := (Array.getElem?_eq_some_iff.1 hR.out).1; omega)).trans ((Below.heap_alloc _ _ _ (Array.getElem?_eq_some_iff.1 hR.out).1).trans hR.out))
        have q2 : y.w.cell? ⟨wr.heap.size, 2, none⟩ = some (.func (Fn.func 20) #[] #[]) := by
          rw [y.h.cell (p := ⟨wr.heap.size, 2, none⟩) (Nat.lt_succ_self _), World.cell?_alloc_new]
          rfl
        have hb1 := yb1 y
        obtain ⟨w1, hy⟩ := y
        simp only [] at hP1 hO1 hR1 q2 hb1 ⊢
      · go_wp2_with fail
        go_roundw
        case rel => exact ⟨5, by omega, by go_num, Lib.hid (fun x hx => by
          by_cases hxk : x < 4
          · exact hno.out x hxk
          · obtain rfl : x = 4 := by omega
            exact Hf.out), hP1, Lib.hid (hO.out.trans hO1.out), hR1, Lib.hid hb1⟩
        case measure => simp [intOf]
      · have hs1 : wr.heap.size < w1.heap.size := cell_lt q2
        have hbl1 : bx < w1.heap.size := cell_lt hb1
        have e : migF rst (ps k) = (((((ps k).setB 37 false).setB 38 false).setI 16 2), true) := by
          unfold migF
          rw [if_neg (by rw [hno.out 0 (by omega)]; decide), if_neg (by rw [hno.out 1 (by omega)]; decide), if_neg (by rw [hno.out 2 (by omega)]; decide), if_neg (by rw [hno.out 3 (by omega)]; decide)]
          rw [if_pos Hf.out]
        have He := Lib.hid e
        clear e Hf hno ha h0 d0 hy
        go_wp2_with fail
        go_still_tail 7, (by kernel_rfl)
        go_wp2_with fail
        refine (sense_any rst (ps k) g k n ps _ hk (hP1.out.drew.start k)).mono ?_
        rintro e w2 ⟨rfl, hp2, ho2⟩
        have hO2 := Lib.hid ((hO.out.trans hO1.out).drew.trans ho2)
        clear q2 hO1 hO ho2
        go_wp2_with fail
        go_ret
        refine ⟨by rw [He.out]; rfl, by rw [He.out]; exact hp2, hO2.out⟩
    · have e : migF rst (ps k) = (ps k, false) := by
        unfold migF
        rw [if_neg (by rw [hno.out 0 (by omega)]; decide), if_neg (by rw [hno.out 1 (by omega)]; decide), if_neg (by rw [hno.out 2 (by omega)]; decide), if_neg (by rw [hno.out 3 (by omega)]; decide), if_neg (by rw [hno.out 4 (by omega)]; decide)]
      have He := Lib.hid e
      clear e
      go_wp2_with fail
      go_ret
      exact ⟨by rw [He.out]; rfl, by rw [He.out]; exact hP.out.start k, hO.out⟩
end Go.Proofs.Ytjefonjjgahmgaa.Br
