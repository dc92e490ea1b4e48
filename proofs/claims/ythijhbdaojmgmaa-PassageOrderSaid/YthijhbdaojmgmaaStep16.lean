/- What a step of the passage machine does to a port in memory (ford/passage.Step); the port's place is one that there is. -/
import Derived.Test.YthijhbdaojmgmaaBr
import Derived.Test.YthijhbdaojmgmaaShared
import Derived.Lib.Hide
import Derived.StillTailTactics
namespace Go.Proofs.Ythijhbdaojmgmaa.Br
open Go.RowKit
attribute [local go_sem] rowP_size rowP_20 rowP_26 rowP_28
/-- What a row asks. -/
def askF (p : Rec) : Nat → Bool
  | 0 => p.b 28
  | 1 => !p.b 28
  | 2 => p.b 26
  | _ => !p.b 26
/-- The flags of a port, as cells. -/
def rowFl (p : Rec) : Array Value := #[.bool (p.b 22), .bool (p.b 23), .bool (p.b 24), .bool (p.b 25), .bool (p.b 26), .bool (p.b 27), .bool (p.b 28), .bool (p.b 29), .bool (p.b 30), .bool (p.b 31), .bool (p.b 32), .bool (p.b 33), .bool (p.b 34), .bool (p.b 35), .bool (p.b 36), .bool (p.b 37), .bool (p.b 38), .bool (p.b 39), .bool (p.b 40), .bool (p.b 41), .bool (p.b 42), .bool (p.b 43), .bool (p.b 44), .bool (p.b 45), .bool (p.b 46), .bool (p.b 47), .bool (p.b 48), .bool (p.b 49), .bool (p.b 50)]
theorem sizeFl (p : Rec) : (Try.prog.info? 48).map (·.size) = some (rowFl p).size := by show _ = some 29; kernel_rfl
theorem ix0 (a b c d : Bool) (w : World) : Sem.run Try.prog (Instr.index 67 (.agg #[.bool a, .bool b, .bool c, .bool d]) (.int .i64 0)) w = .ok (.bool a) w := by kernel_rfl
theorem ix1 (a b c d : Bool) (w : World) : Sem.run Try.prog (Instr.index 67 (.agg #[.bool a, .bool b, .bool c, .bool d]) (.int .i64 1)) w = .ok (.bool b) w := by kernel_rfl
theorem ix2 (a b c d : Bool) (w : World) : Sem.run Try.prog (Instr.index 67 (.agg #[.bool a, .bool b, .bool c, .bool d]) (.int .i64 2)) w = .ok (.bool c) w := by kernel_rfl
theorem ix3 (a b c d : Bool) (w : World) : Sem.run Try.prog (Instr.index 67 (.agg #[.bool a, .bool b, .bool c, .bool d]) (.int .i64 3)) w = .ok (.bool d) w := by kernel_rfl
attribute [local go_sem] ix0 ix1 ix2 ix3
theorem flagsP {w : World} {g n k : Nat} {ps : Nat → Rec} (h : Ports w g n ps) (hk : k < n) : w.rangeAt g (k * 89 + 22) (rowFl (ps k)).toList := fun j v hv => by
  have hj : j < 29 := (List.getElem?_eq_some_iff.1 hv).1
  rw [Nat.add_assoc]
  refine (h.cell hk (j := 22 + j) (by omega)).trans ?_
  rw [← hv, ← rowP_get (by omega)]
  show _ = (rowFl (ps k)).toList[j]?
  rcases (show j = 0 ∨ j = 1 ∨ j = 2 ∨ j = 3 ∨ j = 4 ∨ j = 5 ∨ j = 6 ∨ j = 7 ∨ j = 8 ∨ j = 9 ∨ j = 10 ∨ j = 11 ∨ j = 12 ∨ j = 13 ∨ j = 14 ∨ j = 15 ∨ j = 16 ∨ j = 17 ∨ j = 18 ∨ j = 19 ∨ j = 20 ∨ j = 21 ∨ j = 22 ∨ j = 23 ∨ j = 24 ∨ j = 25 ∨ j = 26 ∨ j = 27 ∨ j = 28 by omega) with rfl | rfl | rfl | rfl | rfl | rfl | rfl | rfl | rfl | rfl | rfl | rfl | rfl | rfl | rfl | rfl | rfl | rfl | rfl | rfl | rfl | rfl | rfl | rfl | rfl | rfl | rfl | rfl | rfl <;> rfl
theorem asked_any (p : Rec) (a : Nat) (ha : a < 4) (w : World) : Calls Try.prog 17 #[.agg (rowFl p), .int .i64 a] w fun e w' => e = .returned (.bool (askF p a)) ∧ Below w.heap.size w w' := by
  unfold rowFl
  rcases (show a = 0 ∨ a = 1 ∨ a = 2 ∨ a = 3 by omega) with rfl | rfl | rfl | rfl
  all_goals
    go_enter Try.func17, Try.ntmps17
    go_wp2
    go_ret
    exact ⟨rfl, (Below.refl _ _).alloc (Nat.le_refl _) _⟩
/-- The rows, as cells. -/
def rowsC : Array Value := #[.int .i64 0, .int .i64 0, .func (Fn.func 20) #[] #[], .int .i64 1, .int .i64 1, .int .i64 1, .func (Fn.func 21) #[] #[], .int .i64 0, .int .i64 1, .int .i64 2, .func (Fn.func 22) #[] #[], .int .i64 2, .int .i64 2, .int .i64 3, .func (Fn.func 21) #[] #[], .int .i64 0]
theorem rows_any (w : World) : Calls Try.prog 16 #[] w fun e w' => e = .returned (.slice (some ⟨w.heap.size, 0, none⟩) 4 4) ∧ w' = w.alloc (.cells rowsC 61) := by
  go_enter Try.func16, Try.ntmps16
  go_wp2
  go_ret
  exact ⟨rfl, rfl⟩
theorem passOne_any (p : Rec) (g k n : Nat) (ps : Nat → Rec) (w : World) (hk : k < n) (hp : Ports w g n (upd ps k p)) : Calls Try.prog 20 #[.pointer (some ⟨g, k * 89 + 22, none⟩)] w fun e w' => e = .returned (.tuple #[]) ∧ Ports w' g n (upd ps k (p.setB 29 true)) ∧ Only (· = g) w w' := by
  have hg := hp.lt
  have f29 := hp.free (k * 89 + 22 + 7)
  have c29 : w.cell? ⟨g, k * 89 + 22 + 7, none⟩ = some (.bool (p.b 29)) := by
    rw [← upd_same ps k p]
    exact hp.cell hk (j := 29) (by omega)
  go_enter Try.func20, Try.ntmps20
  go_wp2
  go_end0
  exact ⟨rfl, (hp.step (j := 29) (by omega) (rowP_put_29 _ _)), ((Only.refl (· = g) w).setCell (Or.inl rfl) _)⟩
theorem passTwo_any (p : Rec) (g k n : Nat) (ps : Nat → Rec) (w : World) (hk : k < n) (hp : Ports w g n (upd ps k p)) : Calls Try.prog 22 #[.pointer (some ⟨g, k * 89 + 22, none⟩)] w fun e w' => e = .returned (.tuple #[]) ∧ Ports w' g n (upd ps k (p.setB 27 true)) ∧ Only (· = g) w w' := by
  have hg := hp.lt
  have f27 := hp.free (k * 89 + 22 + 5)
  have c27 : w.cell? ⟨g, k * 89 + 22 + 5, none⟩ = some (.bool (p.b 27)) := by
    rw [← upd_same ps k p]
    exact hp.cell hk (j := 27) (by omega)
  go_enter Try.func22, Try.ntmps22
  go_wp2
  go_end0
  exact ⟨rfl, (hp.step (j := 27) (by omega) (rowP_put_27 _ _)), ((Only.refl (· = g) w).setCell (Or.inl rfl) _)⟩
theorem stops_any (p : Rec) (g k n : Nat) (ps : Nat → Rec) (w : World) (hk : k < n) (hp : Ports w g n (upd ps k p)) : Calls Try.prog 21 #[.pointer (some ⟨g, k * 89 + 22, none⟩)] w fun e w' => e = .returned (.tuple #[]) ∧ Ports w' g n (upd ps k ((p.setB 29 false).setB 27 false)) ∧ Only (· = g) w w' := by
  have hg := hp.lt
  have f29 := hp.free (k * 89 + 22 + 7)
  have c29 : w.cell? ⟨g, k * 89 + 22 + 7, none⟩ = some (.bool (p.b 29)) := by
    rw [← upd_same ps k p]
    exact hp.cell hk (j := 29) (by omega)
  have f27 := hp.free (k * 89 + 22 + 5)
  have c27 : w.cell? ⟨g, k * 89 + 22 + 5, none⟩ = some (.bool (p.b 27)) := by
    rw [← upd_same ps k p]
    exact hp.cell hk (j := 27) (by omega)
  go_enter Try.func21, Try.ntmps21
  go_wp2
  go_end0
  exact ⟨rfl, ((hp.step (j := 29) (by omega) (rowP_put_29 _ _)).step (j := 27) (by omega) (rowP_put_27 _ _)), (((Only.refl (· = g) w).setCell (Or.inl rfl) _).setCell (Or.inl rfl) _)⟩

/-- Whether a row is the one. -/
def fires (p : Rec) : Nat → Bool
  | 0 => p.i 20 == 0 && p.b 28
  | 1 => p.i 20 == 1 && !p.b 28
  | 2 => p.i 20 == 1 && p.b 26
  | _ => p.i 20 == 2 && !p.b 26
/-- The state that a row asks. -/
def stateOf : Nat → Int
  | 0 => 0
  | 1 => 1
  | 2 => 1
  | _ => 2
theorem fires_ask (p : Rec) (r : Nat) (hr : r < 4) (h : p.i 20 = stateOf r) : fires p r = askF p r := by
  rcases (show r = 0 ∨ r = 1 ∨ r = 2 ∨ r = 3 by omega) with rfl | rfl | rfl | rfl <;> simp [fires, askF, stateOf] at h ⊢ <;> simp [h]
/-- What a step does to a port, and whether it was one. -/
def passF (p : Rec) : Rec × Bool :=
  if fires p 0 = true then ((p.setB 29 true).setI 20 1, true)
  else if fires p 1 = true then (((p.setB 29 false).setB 27 false).setI 20 0, true)
  else if fires p 2 = true then ((p.setB 27 true).setI 20 2, true)
  else if fires p 3 = true then (((p.setB 29 false).setB 27 false).setI 20 0, true)
  else (p, false)
/-- What is told of a step. -/
def Stepped (w : World) (g n k : Nat) (ps : Nat → Rec) (e : Ending) (w' : World) : Prop :=
  e = .returned (.bool (passF (ps k)).2) ∧ Ports w' g n (upd ps k (passF (ps k)).1) ∧ Only (· = g) w w'
theorem size52 (p : Rec) : (Try.prog.info? 52).map (·.size) = some (rowP p).size := by rw [rowP_size]; kernel_rfl
set_option maxHeartbeats 4000000 in
theorem step_any (w : World) (bx g n cap k : Nat) (ps : Nat → Rec) (hk : k < n)
    (hb : w.cell? ⟨bx, 17, none⟩ = some (.slice (some ⟨g, 0, none⟩) n cap)) (hp : Ports w g n ps) :
    Calls Try.prog 12 #[.pointer (some ⟨bx, 0, none⟩), .int .i64 k] w (Stepped w g n k ps) := by
  have hk0 : (0 : Int) ≤ k := by omega
  have hk1 : (k : Int) < n := by omega
  have hg := hp.lt
  have Hp0 := Lib.hid hp
  clear hp
  go_enter Try.func12, Try.ntmps12
  go_wp2_with fail
  refine (rows_any _).mono ?_
  rintro e w1 ⟨rfl, rfl⟩
  have Hp := Lib.hid (Hp0.out.alloc (.cells rowsC 61))
  have Ho := Lib.hid ((Only.refl (· = g) w).alloc (.cells rowsC 61))
  have Hr := Lib.hid (heap_alloc_new w (.cells rowsC 61))
  clear Hp0
  go_wp2_with fail
  go_loopw [16] (fun i wr => ∃ r : Nat, r ≤ 4 ∧ i = .int .i64 r ∧ Hid (∀ x, x < r → fires (ps k) x = false) ∧ Hid (Ports wr g n ps) ∧ Hid (Only (· = g) w wr) ∧ Hid (wr.heap[w.heap.size]? = some (.cells rowsC 61 (0, 0)))) (fun i _ => 4 - (intOf i).toNat)
  case atStart => exact ⟨0, by omega, rfl, fun x hx => absurd hx (Nat.not_lt_zero x), Hp, Ho, Hr⟩
  case round =>
    clear Hp Ho Hr hb
    obtain ⟨r, hr4, rfl, hno, hP, hO, hR⟩ := hrel
    rcases (show r = 0 ∨ r = 1 ∨ r = 2 ∨ r = 3 ∨ r = 4 by omega) with rfl | rfl | rfl | rfl | rfl
    · have r0 : wr.cell? ⟨w.heap.size, 0, none⟩ = some (.int .i64 0) := cells_of hR.out 0
      have r1 : wr.cell? ⟨w.heap.size, 1, none⟩ = some (.int .i64 0) := cells_of hR.out 1
      have r2 : wr.cell? ⟨w.heap.size, 2, none⟩ = some (.func (Fn.func 20) #[] #[]) := cells_of hR.out 2
      have r3 : wr.cell? ⟨w.heap.size, 3, none⟩ = some (.int .i64 1) := cells_of hR.out 3
      go_wp2_with fail
      clear r0 r1 r2 r3
      have hne := Old.some (wr.heap.size + 1) (wr.alloc (.cells #[Value.int .i64 0, Value.int .i64 0, Value.func (Fn.func 20) #[] #[], Value.int .i64 1] 61))
      have hgr := hP.out.lt
      have y20 : ∀ y : Old (wr.heap.size + 1) (wr.alloc (.cells #[Value.int .i64 0, Value.int .i64 0, Value.func (Fn.func 20) #[] #[], Value.int .i64 1] 61)), y.w.cell? ⟨g, k * 89 + 15 + 5, none⟩ = some (.int .i64 ((ps k).i 20)) := fun y => ((hP.out.alloc _).below y.h (by omega)).cell hk (j := 20) (by omega)
      have q0 : ∀ y : Old (wr.heap.size + 1) (wr.alloc (.cells #[Value.int .i64 0, Value.int .i64 0, Value.func (Fn.func 20) #[] #[], Value.int .i64 1] 61)), y.w.cell? ⟨wr.heap.size, 0, none⟩ = some (.int .i64 0) := fun y => by
        rw [y.h.cell (p := ⟨wr.heap.size, 0, none⟩) (Nat.lt_succ_self _), World.cell?_alloc_new]
        rfl
      have q1 : ∀ y : Old (wr.heap.size + 1) (wr.alloc (.cells #[Value.int .i64 0, Value.int .i64 0, Value.func (Fn.func 20) #[] #[], Value.int .i64 1] 61)), y.w.cell? ⟨wr.heap.size, 1, none⟩ = some (.int .i64 0) := fun y => by
        rw [y.h.cell (p := ⟨wr.heap.size, 1, none⟩) (Nat.lt_succ_self _), World.cell?_alloc_new]
        rfl
      by_cases h0 : (ps k).i 20 = 0
      rotate_left
      · have Hf : Hid (fires (ps k) 0 = false) := Lib.hid (by simp [fires, h0])
        have d0 : ((ps k).i 20 == 0) = false := beq_eq_false_iff_ne.2 h0
        clear h0
        refine wp_region_old (wr.heap.size + 1) (by kernel_rfl) (by kernel_rfl) ?_
        repeat (first | go_big_quiet_skip | (go_big_quiet_want; go_big_quiet_op; go_big_quiet_on))
        refine wpQuiet_nil ?_
        rintro _ ⟨y, rfl⟩
        have hP1 := Lib.hid ((hP.out.alloc _).below y.h (by omega))
        have hO1 := Lib.hid (((Only.refl (· = g) wr).alloc _).trans (Only.of_below (by simpa using y.h)))
        have hR1 := Lib.hid ((y.h.block _ (by have := (Array.getElem?_eq_some_iff.1 hR.out).1; omega)).trans ((Below.heap_alloc _ _ _ (Array.getElem?_eq_some_iff.1 hR.out).1).trans hR.out))
        have q2 : y.w.cell? ⟨wr.heap.size, 2, none⟩ = some (.func (Fn.func 20) #[] #[]) := by
          rw [y.h.cell (p := ⟨wr.heap.size, 2, none⟩) (Nat.lt_succ_self _), World.cell?_alloc_new]
          rfl
        have q3 : y.w.cell? ⟨wr.heap.size, 3, none⟩ = some (.int .i64 1) := by
          rw [y.h.cell (p := ⟨wr.heap.size, 3, none⟩) (Nat.lt_succ_self _), World.cell?_alloc_new]
          rfl
        obtain ⟨w1, hy⟩ := y
        simp only [] at hP1 hO1 hR1 q2 q3 ⊢
        go_wp2_with fail
        go_roundw
        case rel => exact ⟨1, by omega, by go_num, Lib.hid (fun x hx => by
          by_cases hxk : x < 0
          · exact hno.out x hxk
          · obtain rfl : x = 0 := by omega
            exact Hf.out), hP1, Lib.hid (hO.out.trans hO1.out), hR1⟩
        case measure => simp [intOf]
      have d0 : decide ((ps k).i 20 = 0) = true := decide_eq_true h0
      have hfl : wr.rangeAt g (k * 89 + 22) (rowFl (ps k)).toList := flagsP hP.out hk
      have hfr : ∀ y : Old (wr.heap.size + 1) (wr.alloc (.cells #[Value.int .i64 0, Value.int .i64 0, Value.func (Fn.func 20) #[] #[], Value.int .i64 1] 61)), y.w.rangeAt g (k * 89 + 22) (rowFl (ps k)).toList := fun y => flagsP ((hP.out.alloc _).below y.h (by omega)) hk
      have Hfr := Lib.hid hfr
      clear hfr hfl
      cases ha : askF (ps k) 0
      all_goals
        have hf := fires_ask (ps k) 0 (by omega) h0
        rw [ha] at hf
        have Hf := Lib.hid hf
        clear hf
        have cl : ∀ w, Calls Try.prog 17 #[.agg (rowFl (ps k)), .int .i64 0] w fun e w' => e = .returned (.bool _) ∧ Below w.heap.size w w' := fun w => by
          have h := asked_any (ps k) 0 (by omega) w
          rw [ha] at h
          exact h
        have Cl := Lib.hid cl
        clear cl
        refine wp_region_old (wr.heap.size + 1) (by kernel_rfl) (by kernel_rfl) ?_
        repeat (first | go_big_quiet_skip | (go_big_quiet_want; first | (refine quiet_row 48 _ rfl g (k * 89 + 22) rfl (rowFl (ps k)) _ (by rintro _ ⟨y, rfl⟩; exact Hfr.out y) Try.underlying48 rfl (sizeFl _) ?_; go_big_quiet_on; simp only [Act.put, List.setIfInBounds_toArray, List.set_cons_zero, List.set_cons_succ]) | (go_big_quiet_op; first | go_big_quiet_on | go_big_quiet_call ((go_at_call 17; exact Calls.old (by simp) (Cl.out _))))))
        refine wpQuiet_nil ?_
        rintro _ ⟨y, rfl⟩
        have hP1 := Lib.hid ((hP.out.alloc _).below y.h (by omega))
        have hO1 := Lib.hid (((Only.refl (· = g) wr).alloc _).trans (Only.of_below (by simpa using y.h)))
        have hR1 := Lib.hid ((y.h.block _ (by have := (Array.getElem?_eq_some_iff.1 hR.out).1; omega)).trans ((Below.heap_alloc _ _ _ (Array.getElem?_eq_some_iff.1 hR.out).1).trans hR.out))
        have q2 : y.w.cell? ⟨wr.heap.size, 2, none⟩ = some (.func (Fn.func 20) #[] #[]) := by
          rw [y.h.cell (p := ⟨wr.heap.size, 2, none⟩) (Nat.lt_succ_self _), World.cell?_alloc_new]
          rfl
        have q3 : y.w.cell? ⟨wr.heap.size, 3, none⟩ = some (.int .i64 1) := by
          rw [y.h.cell (p := ⟨wr.heap.size, 3, none⟩) (Nat.lt_succ_self _), World.cell?_alloc_new]
          rfl
        obtain ⟨w1, hy⟩ := y
        simp only [] at hP1 hO1 hR1 q2 q3 ⊢
      · go_wp2_with fail
        go_roundw
        case rel => exact ⟨1, by omega, by go_num, Lib.hid (fun x hx => by
          by_cases hxk : x < 0
          · exact hno.out x hxk
          · obtain rfl : x = 0 := by omega
            exact Hf.out), hP1, Lib.hid (hO.out.trans hO1.out), hR1⟩
        case measure => simp [intOf]
      · have hs1 : wr.heap.size < w1.heap.size := cell_lt q3
        have e : passF (ps k) = ((((ps k).setB 29 true)).setI 20 1, true) := by
          unfold passF
          skip
          rw [if_pos Hf.out]
        have He := Lib.hid e
        clear e Hf hno ha h0 d0 hy
        go_wp2_with fail
        go_still_tail 5, (by kernel_rfl)
        go_wp2_with fail
        refine (passOne_any (ps k) g k n ps _ hk (hP1.out.drew.start k)).mono ?_
        rintro e w2 ⟨rfl, hp2, ho2⟩
        have s2 := (ho2.cell (p := ⟨wr.heap.size, 3, none⟩) (show wr.heap.size < w1.drew.heap.size from hs1) (show ¬ wr.heap.size = g by omega)).trans q3
        have c20 := hp2.cell hk (j := 20) (by omega)
        have f20 := hp2.free (k * 89 + 15 + 5)
        have hO2 := Lib.hid ((hO.out.trans hO1.out).drew.trans ho2)
        clear q2 q3 hO1 hO ho2
        go_wp2_with fail
        go_ret
        refine ⟨by rw [He.out]; rfl, by rw [He.out]; exact hp2.step (j := 20) (by omega) (rowP_put_20 _ _), hO2.out.setCell (Or.inl rfl) _⟩
    · have r0 : wr.cell? ⟨w.heap.size, 4, none⟩ = some (.int .i64 1) := cells_of hR.out 4
      have r1 : wr.cell? ⟨w.heap.size, 5, none⟩ = some (.int .i64 1) := cells_of hR.out 5
      have r2 : wr.cell? ⟨w.heap.size, 6, none⟩ = some (.func (Fn.func 21) #[] #[]) := cells_of hR.out 6
      have r3 : wr.cell? ⟨w.heap.size, 7, none⟩ = some (.int .i64 0) := cells_of hR.out 7
      go_wp2_with fail
      clear r0 r1 r2 r3
      have hne := Old.some (wr.heap.size + 1) (wr.alloc (.cells #[Value.int .i64 1, Value.int .i64 1, Value.func (Fn.func 21) #[] #[], Value.int .i64 0] 61))
      have hgr := hP.out.lt
      have y20 : ∀ y : Old (wr.heap.size + 1) (wr.alloc (.cells #[Value.int .i64 1, Value.int .i64 1, Value.func (Fn.func 21) #[] #[], Value.int .i64 0] 61)), y.w.cell? ⟨g, k * 89 + 15 + 5, none⟩ = some (.int .i64 ((ps k).i 20)) := fun y => ((hP.out.alloc _).below y.h (by omega)).cell hk (j := 20) (by omega)
      have q0 : ∀ y : Old (wr.heap.size + 1) (wr.alloc (.cells #[Value.int .i64 1, Value.int .i64 1, Value.func (Fn.func 21) #[] #[], Value.int .i64 0] 61)), y.w.cell? ⟨wr.heap.size, 0, none⟩ = some (.int .i64 1) := fun y => by
        rw [y.h.cell (p := ⟨wr.heap.size, 0, none⟩) (Nat.lt_succ_self _), World.cell?_alloc_new]
        rfl
      have q1 : ∀ y : Old (wr.heap.size + 1) (wr.alloc (.cells #[Value.int .i64 1, Value.int .i64 1, Value.func (Fn.func 21) #[] #[], Value.int .i64 0] 61)), y.w.cell? ⟨wr.heap.size, 1, none⟩ = some (.int .i64 1) := fun y => by
        rw [y.h.cell (p := ⟨wr.heap.size, 1, none⟩) (Nat.lt_succ_self _), World.cell?_alloc_new]
        rfl
      by_cases h0 : (ps k).i 20 = 1
      rotate_left
      · have Hf : Hid (fires (ps k) 1 = false) := Lib.hid (by simp [fires, h0])
        have d0 : ((ps k).i 20 == 1) = false := beq_eq_false_iff_ne.2 h0
        clear h0
        refine wp_region_old (wr.heap.size + 1) (by kernel_rfl) (by kernel_rfl) ?_
        repeat (first | go_big_quiet_skip | (go_big_quiet_want; go_big_quiet_op; go_big_quiet_on))
        refine wpQuiet_nil ?_
        rintro _ ⟨y, rfl⟩
        have hP1 := Lib.hid ((hP.out.alloc _).below y.h (by omega))
        have hO1 := Lib.hid (((Only.refl (· = g) wr).alloc _).trans (Only.of_below (by simpa using y.h)))
        have hR1 := Lib.hid ((y.h.block _ (by have := (Array.getElem?_eq_some_iff.1 hR.out).1; omega)).trans ((Below.heap_alloc _ _ _ (Array.getElem?_eq_some_iff.1 hR.out).1).trans hR.out))
        have q2 : y.w.cell? ⟨wr.heap.size, 2, none⟩ = some (.func (Fn.func 21) #[] #[]) := by
          rw [y.h.cell (p := ⟨wr.heap.size, 2, none⟩) (Nat.lt_succ_self _), World.cell?_alloc_new]
          rfl
        have q3 : y.w.cell? ⟨wr.heap.size, 3, none⟩ = some (.int .i64 0) := by
          rw [y.h.cell (p := ⟨wr.heap.size, 3, none⟩) (Nat.lt_succ_self _), World.cell?_alloc_new]
          rfl
        obtain ⟨w1, hy⟩ := y
        simp only [] at hP1 hO1 hR1 q2 q3 ⊢
        go_wp2_with fail
        go_roundw
        case rel => exact ⟨2, by omega, by go_num, Lib.hid (fun x hx => by
          by_cases hxk : x < 1
          · exact hno.out x hxk
          · obtain rfl : x = 1 := by omega
            exact Hf.out), hP1, Lib.hid (hO.out.trans hO1.out), hR1⟩
        case measure => simp [intOf]
      have d0 : decide ((ps k).i 20 = 1) = true := decide_eq_true h0
      have hfl : wr.rangeAt g (k * 89 + 22) (rowFl (ps k)).toList := flagsP hP.out hk
      have hfr : ∀ y : Old (wr.heap.size + 1) (wr.alloc (.cells #[Value.int .i64 1, Value.int .i64 1, Value.func (Fn.func 21) #[] #[], Value.int .i64 0] 61)), y.w.rangeAt g (k * 89 + 22) (rowFl (ps k)).toList := fun y => flagsP ((hP.out.alloc _).below y.h (by omega)) hk
      have Hfr := Lib.hid hfr
      clear hfr hfl
      cases ha : askF (ps k) 1
      all_goals
        have hf := fires_ask (ps k) 1 (by omega) h0
        rw [ha] at hf
        have Hf := Lib.hid hf
        clear hf
        have cl : ∀ w, Calls Try.prog 17 #[.agg (rowFl (ps k)), .int .i64 1] w fun e w' => e = .returned (.bool _) ∧ Below w.heap.size w w' := fun w => by
          have h := asked_any (ps k) 1 (by omega) w
          rw [ha] at h
          exact h
        have Cl := Lib.hid cl
        clear cl
        refine wp_region_old (wr.heap.size + 1) (by kernel_rfl) (by kernel_rfl) ?_
        repeat (first | go_big_quiet_skip | (go_big_quiet_want; first | (refine quiet_row 48 _ rfl g (k * 89 + 22) rfl (rowFl (ps k)) _ (by rintro _ ⟨y, rfl⟩; exact Hfr.out y) Try.underlying48 rfl (sizeFl _) ?_; go_big_quiet_on; simp only [Act.put, List.setIfInBounds_toArray, List.set_cons_zero, List.set_cons_succ]) | (go_big_quiet_op; first | go_big_quiet_on | go_big_quiet_call ((go_at_call 17; exact Calls.old (by simp) (Cl.out _))))))
        refine wpQuiet_nil ?_
        rintro _ ⟨y, rfl⟩
        have hP1 := Lib.hid ((hP.out.alloc _).below y.h (by omega))
        have hO1 := Lib.hid (((Only.refl (· = g) wr).alloc _).trans (Only.of_below (by simpa using y.h)))
        have hR1 := Lib.hid ((y.h.block _ (by have := (Array.getElem?_eq_some_iff.1 hR.out).1; omega)).trans ((Below.heap_alloc _ _ _ (Array.getElem?_eq_some_iff.1 hR.out).1).trans hR.out))
        have q2 : y.w.cell? ⟨wr.heap.size, 2, none⟩ = some (.func (Fn.func 21) #[] #[]) := by
          rw [y.h.cell (p := ⟨wr.heap.size, 2, none⟩) (Nat.lt_succ_self _), World.cell?_alloc_new]
          rfl
        have q3 : y.w.cell? ⟨wr.heap.size, 3, none⟩ = some (.int .i64 0) := by
          rw [y.h.cell (p := ⟨wr.heap.size, 3, none⟩) (Nat.lt_succ_self _), World.cell?_alloc_new]
          rfl
        obtain ⟨w1, hy⟩ := y
        simp only [] at hP1 hO1 hR1 q2 q3 ⊢
      · go_wp2_with fail
        go_roundw
        case rel => exact ⟨2, by omega, by go_num, Lib.hid (fun x hx => by
          by_cases hxk : x < 1
          · exact hno.out x hxk
          · obtain rfl : x = 1 := by omega
            exact Hf.out), hP1, Lib.hid (hO.out.trans hO1.out), hR1⟩
        case measure => simp [intOf]
      · have hs1 : wr.heap.size < w1.heap.size := cell_lt q3
        have e : passF (ps k) = (((((ps k).setB 29 false).setB 27 false)).setI 20 0, true) := by
          unfold passF
          rw [if_neg (by rw [hno.out 0 (by omega)]; decide)]
          rw [if_pos Hf.out]
        have He := Lib.hid e
        clear e Hf hno ha h0 d0 hy
        go_wp2_with fail
        go_still_tail 5, (by kernel_rfl)
        go_wp2_with fail
        refine (stops_any (ps k) g k n ps _ hk (hP1.out.drew.start k)).mono ?_
        rintro e w2 ⟨rfl, hp2, ho2⟩
        have s2 := (ho2.cell (p := ⟨wr.heap.size, 3, none⟩) (show wr.heap.size < w1.drew.heap.size from hs1) (show ¬ wr.heap.size = g by omega)).trans q3
        have c20 := hp2.cell hk (j := 20) (by omega)
        have f20 := hp2.free (k * 89 + 15 + 5)
        have hO2 := Lib.hid ((hO.out.trans hO1.out).drew.trans ho2)
        clear q2 q3 hO1 hO ho2
        go_wp2_with fail
        go_ret
        refine ⟨by rw [He.out]; rfl, by rw [He.out]; exact hp2.step (j := 20) (by omega) (rowP_put_20 _ _), hO2.out.setCell (Or.inl rfl) _⟩
    · have r0 : wr.cell? ⟨w.heap.size, 8, none⟩ = some (.int .i64 1) := cells_of hR.out 8
      have r1 : wr.cell? ⟨w.heap.size, 9, none⟩ = some (.int .i64 2) := cells_of hR.out 9
      have r2 : wr.cell? ⟨w.heap.size, 10, none⟩ = some (.func (Fn.func 22) #[] #[]) := cells_of hR.out 10
      have r3 : wr.cell? ⟨w.heap.size, 11, none⟩ = some (.int .i64 2) := cells_of hR.out 11
      go_wp2_with fail
      clear r0 r1 r2 r3
      have hne := Old.some (wr.heap.size + 1) (wr.alloc (.cells #[Value.int .i64 1, Value.int .i64 2, Value.func (Fn.func 22) #[] #[], Value.int .i64 2] 61))
      have hgr := hP.out.lt
      have y20 : ∀ y : Old (wr.heap.size + 1) (wr.alloc (.cells #[Value.int .i64 1, Value.int .i64 2, Value.func (Fn.func 22) #[] #[], Value.int .i64 2] 61)), y.w.cell? ⟨g, k * 89 + 15 + 5, none⟩ = some (.int .i64 ((ps k).i 20)) := fun y => ((hP.out.alloc _).below y.h (by omega)).cell hk (j := 20) (by omega)
      have q0 : ∀ y : Old (wr.heap.size + 1) (wr.alloc (.cells #[Value.int .i64 1, Value.int .i64 2, Value.func (Fn.func 22) #[] #[], Value.int .i64 2] 61)), y.w.cell? ⟨wr.heap.size, 0, none⟩ = some (.int .i64 1) := fun y => by
        rw [y.h.cell (p := ⟨wr.heap.size, 0, none⟩) (Nat.lt_succ_self _), World.cell?_alloc_new]
        rfl
      have q1 : ∀ y : Old (wr.heap.size + 1) (wr.alloc (.cells #[Value.int .i64 1, Value.int .i64 2, Value.func (Fn.func 22) #[] #[], Value.int .i64 2] 61)), y.w.cell? ⟨wr.heap.size, 1, none⟩ = some (.int .i64 2) := fun y => by
        rw [y.h.cell (p := ⟨wr.heap.size, 1, none⟩) (Nat.lt_succ_self _), World.cell?_alloc_new]
        rfl
      by_cases h0 : (ps k).i 20 = 1
      rotate_left
      · have Hf : Hid (fires (ps k) 2 = false) := Lib.hid (by simp [fires, h0])
        have d0 : ((ps k).i 20 == 1) = false := beq_eq_false_iff_ne.2 h0
        clear h0
        refine wp_region_old (wr.heap.size + 1) (by kernel_rfl) (by kernel_rfl) ?_
        repeat (first | go_big_quiet_skip | (go_big_quiet_want; go_big_quiet_op; go_big_quiet_on))
        refine wpQuiet_nil ?_
        rintro _ ⟨y, rfl⟩
        have hP1 := Lib.hid ((hP.out.alloc _).below y.h (by omega))
        have hO1 := Lib.hid (((Only.refl (· = g) wr).alloc _).trans (Only.of_below (by simpa using y.h)))
        have hR1 := Lib.hid ((y.h.block _ (by have := (Array.getElem?_eq_some_iff.1 hR.out).1; omega)).trans ((Below.heap_alloc _ _ _ (Array.getElem?_eq_some_iff.1 hR.out).1).trans hR.out))
        have q2 : y.w.cell? ⟨wr.heap.size, 2, none⟩ = some (.func (Fn.func 22) #[] #[]) := by
          rw [y.h.cell (p := ⟨wr.heap.size, 2, none⟩) (Nat.lt_succ_self _), World.cell?_alloc_new]
          rfl
        have q3 : y.w.cell? ⟨wr.heap.size, 3, none⟩ = some (.int .i64 2) := by
          rw [y.h.cell (p := ⟨wr.heap.size, 3, none⟩) (Nat.lt_succ_self _), World.cell?_alloc_new]
          rfl
        obtain ⟨w1, hy⟩ := y
        simp only [] at hP1 hO1 hR1 q2 q3 ⊢
        go_wp2_with fail
        go_roundw
        case rel => exact ⟨3, by omega, by go_num, Lib.hid (fun x hx => by
          by_cases hxk : x < 2
          · exact hno.out x hxk
          · obtain rfl : x = 2 := by omega
            exact Hf.out), hP1, Lib.hid (hO.out.trans hO1.out), hR1⟩
        case measure => simp [intOf]
      have d0 : decide ((ps k).i 20 = 1) = true := decide_eq_true h0
      have hfl : wr.rangeAt g (k * 89 + 22) (rowFl (ps k)).toList := flagsP hP.out hk
      have hfr : ∀ y : Old (wr.heap.size + 1) (wr.alloc (.cells #[Value.int .i64 1, Value.int .i64 2, Value.func (Fn.func 22) #[] #[], Value.int .i64 2] 61)), y.w.rangeAt g (k * 89 + 22) (rowFl (ps k)).toList := fun y => flagsP ((hP.out.alloc _).below y.h (by omega)) hk
      have Hfr := Lib.hid hfr
      clear hfr hfl
      cases ha : askF (ps k) 2
      all_goals
        have hf := fires_ask (ps k) 2 (by omega) h0
        rw [ha] at hf
        have Hf := Lib.hid hf
        clear hf
        have cl : ∀ w, Calls Try.prog 17 #[.agg (rowFl (ps k)), .int .i64 2] w fun e w' => e = .returned (.bool _) ∧ Below w.heap.size w w' := fun w => by
          have h := asked_any (ps k) 2 (by omega) w
          rw [ha] at h
          exact h
        have Cl := Lib.hid cl
        clear cl
        refine wp_region_old (wr.heap.size + 1) (by kernel_rfl) (by kernel_rfl) ?_
        repeat (first | go_big_quiet_skip | (go_big_quiet_want; first | (refine quiet_row 48 _ rfl g (k * 89 + 22) rfl (rowFl (ps k)) _ (by rintro _ ⟨y, rfl⟩; exact Hfr.out y) Try.underlying48 rfl (sizeFl _) ?_; go_big_quiet_on; simp only [Act.put, List.setIfInBounds_toArray, List.set_cons_zero, List.set_cons_succ]) | (go_big_quiet_op; first | go_big_quiet_on | go_big_quiet_call ((go_at_call 17; exact Calls.old (by simp) (Cl.out _))))))
        refine wpQuiet_nil ?_
        rintro _ ⟨y, rfl⟩
        have hP1 := Lib.hid ((hP.out.alloc _).below y.h (by omega))
        have hO1 := Lib.hid (((Only.refl (· = g) wr).alloc _).trans (Only.of_below (by simpa using y.h)))
        have hR1 := Lib.hid ((y.h.block _ (by have := (Array.getElem?_eq_some_iff.1 hR.out).1; omega)).trans ((Below.heap_alloc _ _ _ (Array.getElem?_eq_some_iff.1 hR.out).1).trans hR.out))
        have q2 : y.w.cell? ⟨wr.heap.size, 2, none⟩ = some (.func (Fn.func 22) #[] #[]) := by
          rw [y.h.cell (p := ⟨wr.heap.size, 2, none⟩) (Nat.lt_succ_self _), World.cell?_alloc_new]
          rfl
        have q3 : y.w.cell? ⟨wr.heap.size, 3, none⟩ = some (.int .i64 2) := by
          rw [y.h.cell (p := ⟨wr.heap.size, 3, none⟩) (Nat.lt_succ_self _), World.cell?_alloc_new]
          rfl
        obtain ⟨w1, hy⟩ := y
        simp only [] at hP1 hO1 hR1 q2 q3 ⊢
      · go_wp2_with fail
        go_roundw
        case rel => exact ⟨3, by omega, by go_num, Lib.hid (fun x hx => by
          by_cases hxk : x < 2
          · exact hno.out x hxk
          · obtain rfl : x = 2 := by omega
            exact Hf.out), hP1, Lib.hid (hO.out.trans hO1.out), hR1⟩
        case measure => simp [intOf]
      · have hs1 : wr.heap.size < w1.heap.size := cell_lt q3
        have e : passF (ps k) = ((((ps k).setB 27 true)).setI 20 2, true) := by
          unfold passF
          rw [if_neg (by rw [hno.out 0 (by omega)]; decide), if_neg (by rw [hno.out 1 (by omega)]; decide)]
          rw [if_pos Hf.out]
        have He := Lib.hid e
        clear e Hf hno ha h0 d0 hy
        go_wp2_with fail
        go_still_tail 5, (by kernel_rfl)
        go_wp2_with fail
        refine (passTwo_any (ps k) g k n ps _ hk (hP1.out.drew.start k)).mono ?_
        rintro e w2 ⟨rfl, hp2, ho2⟩
        have s2 := (ho2.cell (p := ⟨wr.heap.size, 3, none⟩) (show wr.heap.size < w1.drew.heap.size from hs1) (show ¬ wr.heap.size = g by omega)).trans q3
        have c20 := hp2.cell hk (j := 20) (by omega)
        have f20 := hp2.free (k * 89 + 15 + 5)
        have hO2 := Lib.hid ((hO.out.trans hO1.out).drew.trans ho2)
        clear q2 q3 hO1 hO ho2
        go_wp2_with fail
        go_ret
        refine ⟨by rw [He.out]; rfl, by rw [He.out]; exact hp2.step (j := 20) (by omega) (rowP_put_20 _ _), hO2.out.setCell (Or.inl rfl) _⟩
    · have r0 : wr.cell? ⟨w.heap.size, 12, none⟩ = some (.int .i64 2) := cells_of hR.out 12
      have r1 : wr.cell? ⟨w.heap.size, 13, none⟩ = some (.int .i64 3) := cells_of hR.out 13
      have r2 : wr.cell? ⟨w.heap.size, 14, none⟩ = some (.func (Fn.func 21) #[] #[]) := cells_of hR.out 14
      have r3 : wr.cell? ⟨w.heap.size, 15, none⟩ = some (.int .i64 0) := cells_of hR.out 15
      go_wp2_with fail
      clear r0 r1 r2 r3
      have hne := Old.some (wr.heap.size + 1) (wr.alloc (.cells #[Value.int .i64 2, Value.int .i64 3, Value.func (Fn.func 21) #[] #[], Value.int .i64 0] 61))
      have hgr := hP.out.lt
      have y20 : ∀ y : Old (wr.heap.size + 1) (wr.alloc (.cells #[Value.int .i64 2, Value.int .i64 3, Value.func (Fn.func 21) #[] #[], Value.int .i64 0] 61)), y.w.cell? ⟨g, k * 89 + 15 + 5, none⟩ = some (.int .i64 ((ps k).i 20)) := fun y => ((hP.out.alloc _).below y.h (by omega)).cell hk (j := 20) (by omega)
      have q0 : ∀ y : Old (wr.heap.size + 1) (wr.alloc (.cells #[Value.int .i64 2, Value.int .i64 3, Value.func (Fn.func 21) #[] #[], Value.int .i64 0] 61)), y.w.cell? ⟨wr.heap.size, 0, none⟩ = some (.int .i64 2) := fun y => by
        rw [y.h.cell (p := ⟨wr.heap.size, 0, none⟩) (Nat.lt_succ_self _), World.cell?_alloc_new]
        rfl
      have q1 : ∀ y : Old (wr.heap.size + 1) (wr.alloc (.cells #[Value.int .i64 2, Value.int .i64 3, Value.func (Fn.func 21) #[] #[], Value.int .i64 0] 61)), y.w.cell? ⟨wr.heap.size, 1, none⟩ = some (.int .i64 3) := fun y => by
        rw [y.h.cell (p := ⟨wr.heap.size, 1, none⟩) (Nat.lt_succ_self _), World.cell?_alloc_new]
        rfl
      by_cases h0 : (ps k).i 20 = 2
      rotate_left
      · have Hf : Hid (fires (ps k) 3 = false) := Lib.hid (by simp [fires, h0])
        have d0 : ((ps k).i 20 == 2) = false := beq_eq_false_iff_ne.2 h0
        clear h0
        refine wp_region_old (wr.heap.size + 1) (by kernel_rfl) (by kernel_rfl) ?_
        repeat (first | go_big_quiet_skip | (go_big_quiet_want; go_big_quiet_op; go_big_quiet_on))
        refine wpQuiet_nil ?_
        rintro _ ⟨y, rfl⟩
        have hP1 := Lib.hid ((hP.out.alloc _).below y.h (by omega))
        have hO1 := Lib.hid (((Only.refl (· = g) wr).alloc _).trans (Only.of_below (by simpa using y.h)))
        have hR1 := Lib.hid ((y.h.block _ (by have := (Array.getElem?_eq_some_iff.1 hR.out).1; omega)).trans ((Below.heap_alloc _ _ _ (Array.getElem?_eq_some_iff.1 hR.out).1).trans hR.out))
        have q2 : y.w.cell? ⟨wr.heap.size, 2, none⟩ = some (.func (Fn.func 21) #[] #[]) := by
          rw [y.h.cell (p := ⟨wr.heap.size, 2, none⟩) (Nat.lt_succ_self _), World.cell?_alloc_new]
          rfl
        have q3 : y.w.cell? ⟨wr.heap.size, 3, none⟩ = some (.int .i64 0) := by
          rw [y.h.cell (p := ⟨wr.heap.size, 3, none⟩) (Nat.lt_succ_self _), World.cell?_alloc_new]
          rfl
        obtain ⟨w1, hy⟩ := y
        simp only [] at hP1 hO1 hR1 q2 q3 ⊢
        go_wp2_with fail
        go_roundw
        case rel => exact ⟨4, by omega, by go_num, Lib.hid (fun x hx => by
          by_cases hxk : x < 3
          · exact hno.out x hxk
          · obtain rfl : x = 3 := by omega
            exact Hf.out), hP1, Lib.hid (hO.out.trans hO1.out), hR1⟩
        case measure => simp [intOf]
      have d0 : decide ((ps k).i 20 = 2) = true := decide_eq_true h0
      have hfl : wr.rangeAt g (k * 89 + 22) (rowFl (ps k)).toList := flagsP hP.out hk
      have hfr : ∀ y : Old (wr.heap.size + 1) (wr.alloc (.cells #[Value.int .i64 2, Value.int .i64 3, Value.func (Fn.func 21) #[] #[], Value.int .i64 0] 61)), y.w.rangeAt g (k * 89 + 22) (rowFl (ps k)).toList := fun y => flagsP ((hP.out.alloc _).below y.h (by omega)) hk
      have Hfr := Lib.hid hfr
      clear hfr hfl
      cases ha : askF (ps k) 3
      all_goals
        have hf := fires_ask (ps k) 3 (by omega) h0
        rw [ha] at hf
        have Hf := Lib.hid hf
        clear hf
        have cl : ∀ w, Calls Try.prog 17 #[.agg (rowFl (ps k)), .int .i64 3] w fun e w' => e = .returned (.bool _) ∧ Below w.heap.size w w' := fun w => by
          have h := asked_any (ps k) 3 (by omega) w
          rw [ha] at h
          exact h
        have Cl := Lib.hid cl
        clear cl
        refine wp_region_old (wr.heap.size + 1) (by kernel_rfl) (by kernel_rfl) ?_
        repeat (first | go_big_quiet_skip | (go_big_quiet_want; first | (refine quiet_row 48 _ rfl g (k * 89 + 22) rfl (rowFl (ps k)) _ (by rintro _ ⟨y, rfl⟩; exact Hfr.out y) Try.underlying48 rfl (sizeFl _) ?_; go_big_quiet_on; simp only [Act.put, List.setIfInBounds_toArray, List.set_cons_zero, List.set_cons_succ]) | (go_big_quiet_op; first | go_big_quiet_on | go_big_quiet_call ((go_at_call 17; exact Calls.old (by simp) (Cl.out _))))))
        refine wpQuiet_nil ?_
        rintro _ ⟨y, rfl⟩
        have hP1 := Lib.hid ((hP.out.alloc _).below y.h (by omega))
        have hO1 := Lib.hid (((Only.refl (· = g) wr).alloc _).trans (Only.of_below (by simpa using y.h)))
        have hR1 := Lib.hid ((y.h.block _ (by have := (Array.getElem?_eq_some_iff.1 hR.out).1; omega)).trans ((Below.heap_alloc _ _ _ (Array.getElem?_eq_some_iff.1 hR.out).1).trans hR.out))
        have q2 : y.w.cell? ⟨wr.heap.size, 2, none⟩ = some (.func (Fn.func 21) #[] #[]) := by
          rw [y.h.cell (p := ⟨wr.heap.size, 2, none⟩) (Nat.lt_succ_self _), World.cell?_alloc_new]
          rfl
        have q3 : y.w.cell? ⟨wr.heap.size, 3, none⟩ = some (.int .i64 0) := by
          rw [y.h.cell (p := ⟨wr.heap.size, 3, none⟩) (Nat.lt_succ_self _), World.cell?_alloc_new]
          rfl
        obtain ⟨w1, hy⟩ := y
        simp only [] at hP1 hO1 hR1 q2 q3 ⊢
      · go_wp2_with fail
        go_roundw
        case rel => exact ⟨4, by omega, by go_num, Lib.hid (fun x hx => by
          by_cases hxk : x < 3
          · exact hno.out x hxk
          · obtain rfl : x = 3 := by omega
            exact Hf.out), hP1, Lib.hid (hO.out.trans hO1.out), hR1⟩
        case measure => simp [intOf]
      · have hs1 : wr.heap.size < w1.heap.size := cell_lt q3
        have e : passF (ps k) = (((((ps k).setB 29 false).setB 27 false)).setI 20 0, true) := by
          unfold passF
          rw [if_neg (by rw [hno.out 0 (by omega)]; decide), if_neg (by rw [hno.out 1 (by omega)]; decide), if_neg (by rw [hno.out 2 (by omega)]; decide)]
          rw [if_pos Hf.out]
        have He := Lib.hid e
        clear e Hf hno ha h0 d0 hy
        go_wp2_with fail
        go_still_tail 5, (by kernel_rfl)
        go_wp2_with fail
        refine (stops_any (ps k) g k n ps _ hk (hP1.out.drew.start k)).mono ?_
        rintro e w2 ⟨rfl, hp2, ho2⟩
        have s2 := (ho2.cell (p := ⟨wr.heap.size, 3, none⟩) (show wr.heap.size < w1.drew.heap.size from hs1) (show ¬ wr.heap.size = g by omega)).trans q3
        have c20 := hp2.cell hk (j := 20) (by omega)
        have f20 := hp2.free (k * 89 + 15 + 5)
        have hO2 := Lib.hid ((hO.out.trans hO1.out).drew.trans ho2)
        clear q2 q3 hO1 hO ho2
        go_wp2_with fail
        go_ret
        refine ⟨by rw [He.out]; rfl, by rw [He.out]; exact hp2.step (j := 20) (by omega) (rowP_put_20 _ _), hO2.out.setCell (Or.inl rfl) _⟩
    · have e : passF (ps k) = (ps k, false) := by
        unfold passF
        rw [if_neg (by rw [hno.out 0 (by omega)]; decide), if_neg (by rw [hno.out 1 (by omega)]; decide), if_neg (by rw [hno.out 2 (by omega)]; decide), if_neg (by rw [hno.out 3 (by omega)]; decide)]
      have He := Lib.hid e
      clear e
      go_wp2_with fail
      go_ret
      exact ⟨by rw [He.out]; rfl, by rw [He.out]; exact hP.out.start k, hO.out⟩
end Go.Proofs.Ythijhbdaojmgmaa.Br
