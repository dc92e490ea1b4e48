/- What a step of the bridge detection machine does to a port in memory (ford/edge.Step); the port's place is one that there is. -/
import Derived.Test.YtgemeaahecnkjaaBr
import Derived.Lib.Hide
namespace Go.Proofs.Ytgemeaahecnkjaa.Br
open Go.RowKit
attribute [local go_sem] rowP_size rowP_2 rowP_4 rowP_5 rowP_6 rowP_32 rowP_34 rowP_45

/-- What leaves asks. -/
def leavesB (p : Rec) : Bool := !p.b 32 || (!p.b 2 && !p.b 4)
/-- What enters asks. -/
def entersB (p : Rec) : Bool := (!p.b 2 && p.b 4) || (p.i 6 == 0 && p.b 5 && p.b 45 && p.b 34)

theorem leaves_any (p : Rec) (w : World) : Calls Try.prog 16 #[.agg (rowP p)] w fun e w' => e = .returned (.bool (leavesB p)) ∧ Below w.heap.size w w' := by
  unfold leavesB
  go_enter Try.func16, Try.ntmps16
  go_wp2
  all_goals
    go_ret
    exact ⟨by simp [*], (Below.refl _ _).alloc (Nat.le_refl _) _⟩

theorem enters_any (p : Rec) (w : World) : Calls Try.prog 17 #[.agg (rowP p)] w fun e w' => e = .returned (.bool (entersB p)) ∧ Below w.heap.size w w' := by
  unfold entersB
  go_enter Try.func17, Try.ntmps17
  go_wp2
  all_goals
    go_ret
    exact ⟨by simp [*], (Below.refl _ _).alloc (Nat.le_refl _) _⟩

theorem size52 (p : Rec) : (Try.prog.info? 52).map (·.size) = some (rowP p).size := by rw [rowP_size]; kernel_rfl

/-- What a step does to a port, and whether it was one. -/
def edgeF (p : Rec) : Rec × Bool :=
  if p.i 17 = 0 then (if leavesB p = true then ((p.setI 17 1).setB 32 false, true) else (p, false))
  else if p.i 17 = 1 then (if entersB p = true then ((p.setI 17 0).setB 32 true, true) else (p, false))
  else (p, false)

/-- What is told of a step. -/
def Stepped (w : World) (g n k : Nat) (ps : Nat → Rec) (e : Ending) (w' : World) : Prop :=
  e = .returned (.bool (edgeF (ps k)).2) ∧ Ports w' g n (upd ps k (edgeF (ps k)).1) ∧ Only (· = g) w w'

set_option maxHeartbeats 2000000 in
theorem step_0true (w : World) (bx g n cap k : Nat) (ps : Nat → Rec) (hk : k < n)
    (hb : w.cell? ⟨bx, 17, none⟩ = some (.slice (some ⟨g, 0, none⟩) n cap)) (hp : Ports w g n ps) (h0 : (ps k).i 17 = 0) (hl : leavesB (ps k) = true) :
    Calls Try.prog 12 #[.pointer (some ⟨bx, 0, none⟩), .int .i64 k] w (Stepped w g n k ps) := by
  have hk0 : (0 : Int) ≤ k := by omega
  have hk1 : (k : Int) < n := by omega
  have hg := hp.lt
  have c17 : w.cell? ⟨g, k * 89 + 15 + 2, none⟩ = some (.int .i64 0) := by rw [← h0]; exact hp.cell hk (j := 17) (by omega)
  have cl : ∀ w, Calls Try.prog 16 #[.agg (rowP (ps k))] w fun e w' => e = .returned (.bool true) ∧ Below w.heap.size w w' := fun w => by
    have := leaves_any (ps k) w
    rwa [hl] at this
  have Cl := Lib.hid cl
  clear cl
  have e : edgeF (ps k) = (((ps k).setI 17 1).setB 32 false, true) := by
    unfold edgeF
    simp [h0, hl]
  have He := Lib.hid e
  have H0 := Lib.hid h0
  clear e hl h0
  go_enter Try.func12, Try.ntmps12
  go_wp2
  refine wp_region_old (w.heap.size + 1) (by kernel_rfl) (by kernel_rfl) ?_
  have hne := Old.some (w.heap.size + 1) (w.alloc (.cells #[Value.func (Fn.func 16) #[] #[], Value.func (Fn.func 17) #[] #[]] 55))
  have hf0 : ∀ y : Old (w.heap.size + 1) (w.alloc (.cells #[Value.func (Fn.func 16) #[] #[], Value.func (Fn.func 17) #[] #[]] 55)), y.w.cell? ⟨w.heap.size, 0, none⟩ = some (.func (Fn.func 16) #[] #[]) := fun y => by
    rw [y.h.cell (p := ⟨w.heap.size, 0, none⟩) (Nat.lt_succ_self _), World.cell?_alloc_new]
    rfl
  have hr := fun y : Old (w.heap.size + 1) (w.alloc (.cells #[Value.func (Fn.func 16) #[] #[], Value.func (Fn.func 17) #[] #[]] 55)) => ((hp.alloc _).below y.h (by omega)).range hk
  have Hr := Lib.hid hr
  clear hr
  repeat (first | go_big_quiet_skip | (go_big_quiet_want; first | (refine quiet_row 52 _ rfl g (k * 89) rfl (rowP (ps k)) _ (by rintro _ ⟨y, rfl⟩; exact Hr.out y) Try.underlying52 rfl (size52 _) ?_; go_big_quiet_on; simp only [Act.put, List.setIfInBounds_toArray, List.set_cons_zero, List.set_cons_succ]) | (go_big_quiet_op; first | go_big_quiet_on | go_big_quiet_call ((go_at_call 16; exact Calls.old (by simp) (Cl.out _))))))
  refine wpQuiet_nil ?_
  rintro _ ⟨y, rfl⟩
  have hpy := (hp.alloc (.cells #[Value.func (Fn.func 16) #[] #[], Value.func (Fn.func 17) #[] #[]] 55)).below y.h (by omega)
  obtain ⟨w1, hy⟩ := y
  simp only [] at hpy ⊢
  have hoy := (Only.refl (· = g) w).alloc (.cells #[Value.func (Fn.func 16) #[] #[], Value.func (Fn.func 17) #[] #[]] 55)
  have ho : Only (· = g) w w1 := hoy.trans (Only.of_below (by simpa using hy))
  have Hp := Lib.hid hpy
  have Ho := Lib.hid ho
  clear hne hf0 hp hpy Hr hy ho hoy c17
  have c17 : w1.cell? ⟨g, k * 89 + 15 + 2, none⟩ = some (.int .i64 0) := by rw [← H0.out]; exact Hp.out.cell hk (j := 17) (by omega)
  have c32 : w1.cell? ⟨g, k * 89 + 22 + 10, none⟩ = some (.bool ((ps k).b 32)) := Hp.out.cell hk (j := 32) (by omega)
  have f1 := Hp.out.free (k * 89 + 15 + 2)
  have f2 := Hp.out.free (k * 89 + 22 + 10)
  go_wp2
  go_ret
  refine ⟨by rw [He.out]; rfl, ?_, (Ho.out.setCell (Or.inl rfl) _).setCell (Or.inl rfl) _⟩
  rw [He.out]
  exact ((Hp.out.start k).step (j := 17) (by omega) (rowP_put_17 _ _)).step (j := 32) (by omega) (rowP_put_32 _ _)

set_option maxHeartbeats 2000000 in
theorem step_0false (w : World) (bx g n cap k : Nat) (ps : Nat → Rec) (hk : k < n)
    (hb : w.cell? ⟨bx, 17, none⟩ = some (.slice (some ⟨g, 0, none⟩) n cap)) (hp : Ports w g n ps) (h0 : (ps k).i 17 = 0) (hl : leavesB (ps k) = false) :
    Calls Try.prog 12 #[.pointer (some ⟨bx, 0, none⟩), .int .i64 k] w (Stepped w g n k ps) := by
  have hk0 : (0 : Int) ≤ k := by omega
  have hk1 : (k : Int) < n := by omega
  have hg := hp.lt
  have c17 : w.cell? ⟨g, k * 89 + 15 + 2, none⟩ = some (.int .i64 0) := by rw [← h0]; exact hp.cell hk (j := 17) (by omega)
  have cl : ∀ w, Calls Try.prog 16 #[.agg (rowP (ps k))] w fun e w' => e = .returned (.bool false) ∧ Below w.heap.size w w' := fun w => by
    have := leaves_any (ps k) w
    rwa [hl] at this
  have Cl := Lib.hid cl
  clear cl
  have e : edgeF (ps k) = (ps k, false) := by
    unfold edgeF
    simp [h0, hl]
  have He := Lib.hid e
  have H0 := Lib.hid h0
  clear e hl h0
  go_enter Try.func12, Try.ntmps12
  go_wp2
  refine wp_region_old (w.heap.size + 1) (by kernel_rfl) (by kernel_rfl) ?_
  have hne := Old.some (w.heap.size + 1) (w.alloc (.cells #[Value.func (Fn.func 16) #[] #[], Value.func (Fn.func 17) #[] #[]] 55))
  have hf0 : ∀ y : Old (w.heap.size + 1) (w.alloc (.cells #[Value.func (Fn.func 16) #[] #[], Value.func (Fn.func 17) #[] #[]] 55)), y.w.cell? ⟨w.heap.size, 0, none⟩ = some (.func (Fn.func 16) #[] #[]) := fun y => by
    rw [y.h.cell (p := ⟨w.heap.size, 0, none⟩) (Nat.lt_succ_self _), World.cell?_alloc_new]
    rfl
  have hr := fun y : Old (w.heap.size + 1) (w.alloc (.cells #[Value.func (Fn.func 16) #[] #[], Value.func (Fn.func 17) #[] #[]] 55)) => ((hp.alloc _).below y.h (by omega)).range hk
  have Hr := Lib.hid hr
  clear hr
  repeat (first | go_big_quiet_skip | (go_big_quiet_want; first | (refine quiet_row 52 _ rfl g (k * 89) rfl (rowP (ps k)) _ (by rintro _ ⟨y, rfl⟩; exact Hr.out y) Try.underlying52 rfl (size52 _) ?_; go_big_quiet_on; simp only [Act.put, List.setIfInBounds_toArray, List.set_cons_zero, List.set_cons_succ]) | (go_big_quiet_op; first | go_big_quiet_on | go_big_quiet_call ((go_at_call 16; exact Calls.old (by simp) (Cl.out _))))))
  refine wpQuiet_nil ?_
  rintro _ ⟨y, rfl⟩
  have hpy := (hp.alloc (.cells #[Value.func (Fn.func 16) #[] #[], Value.func (Fn.func 17) #[] #[]] 55)).below y.h (by omega)
  obtain ⟨w1, hy⟩ := y
  simp only [] at hpy ⊢
  have hoy := (Only.refl (· = g) w).alloc (.cells #[Value.func (Fn.func 16) #[] #[], Value.func (Fn.func 17) #[] #[]] 55)
  have ho : Only (· = g) w w1 := hoy.trans (Only.of_below (by simpa using hy))
  have Hp := Lib.hid hpy
  have Ho := Lib.hid ho
  clear hne hf0 hp hpy Hr hy ho hoy c17
  go_wp2
  go_ret
  refine ⟨by rw [He.out]; rfl, ?_, Ho.out⟩
  rw [He.out]
  exact Hp.out.start k

set_option maxHeartbeats 2000000 in
theorem step_1true (w : World) (bx g n cap k : Nat) (ps : Nat → Rec) (hk : k < n)
    (hb : w.cell? ⟨bx, 17, none⟩ = some (.slice (some ⟨g, 0, none⟩) n cap)) (hp : Ports w g n ps) (h0 : (ps k).i 17 = 1) (hl : entersB (ps k) = true) :
    Calls Try.prog 12 #[.pointer (some ⟨bx, 0, none⟩), .int .i64 k] w (Stepped w g n k ps) := by
  have hk0 : (0 : Int) ≤ k := by omega
  have hk1 : (k : Int) < n := by omega
  have hg := hp.lt
  have c17 : w.cell? ⟨g, k * 89 + 15 + 2, none⟩ = some (.int .i64 1) := by rw [← h0]; exact hp.cell hk (j := 17) (by omega)
  have cl : ∀ w, Calls Try.prog 17 #[.agg (rowP (ps k))] w fun e w' => e = .returned (.bool true) ∧ Below w.heap.size w w' := fun w => by
    have := enters_any (ps k) w
    rwa [hl] at this
  have Cl := Lib.hid cl
  clear cl
  have e : edgeF (ps k) = (((ps k).setI 17 0).setB 32 true, true) := by
    unfold edgeF
    simp [h0, hl]
  have He := Lib.hid e
  have H0 := Lib.hid h0
  clear e hl h0
  go_enter Try.func12, Try.ntmps12
  go_wp2
  refine wp_region_old (w.heap.size + 1) (by kernel_rfl) (by kernel_rfl) ?_
  have hne := Old.some (w.heap.size + 1) (w.alloc (.cells #[Value.func (Fn.func 16) #[] #[], Value.func (Fn.func 17) #[] #[]] 55))
  have hf0 : ∀ y : Old (w.heap.size + 1) (w.alloc (.cells #[Value.func (Fn.func 16) #[] #[], Value.func (Fn.func 17) #[] #[]] 55)), y.w.cell? ⟨w.heap.size, 1, none⟩ = some (.func (Fn.func 17) #[] #[]) := fun y => by
    rw [y.h.cell (p := ⟨w.heap.size, 1, none⟩) (Nat.lt_succ_self _), World.cell?_alloc_new]
    rfl
  have hr := fun y : Old (w.heap.size + 1) (w.alloc (.cells #[Value.func (Fn.func 16) #[] #[], Value.func (Fn.func 17) #[] #[]] 55)) => ((hp.alloc _).below y.h (by omega)).range hk
  have Hr := Lib.hid hr
  clear hr
  repeat (first | go_big_quiet_skip | (go_big_quiet_want; first | (refine quiet_row 52 _ rfl g (k * 89) rfl (rowP (ps k)) _ (by rintro _ ⟨y, rfl⟩; exact Hr.out y) Try.underlying52 rfl (size52 _) ?_; go_big_quiet_on; simp only [Act.put, List.setIfInBounds_toArray, List.set_cons_zero, List.set_cons_succ]) | (go_big_quiet_op; first | go_big_quiet_on | go_big_quiet_call ((go_at_call 17; exact Calls.old (by simp) (Cl.out _))))))
  refine wpQuiet_nil ?_
  rintro _ ⟨y, rfl⟩
  have hpy := (hp.alloc (.cells #[Value.func (Fn.func 16) #[] #[], Value.func (Fn.func 17) #[] #[]] 55)).below y.h (by omega)
  obtain ⟨w1, hy⟩ := y
  simp only [] at hpy ⊢
  have hoy := (Only.refl (· = g) w).alloc (.cells #[Value.func (Fn.func 16) #[] #[], Value.func (Fn.func 17) #[] #[]] 55)
  have ho : Only (· = g) w w1 := hoy.trans (Only.of_below (by simpa using hy))
  have Hp := Lib.hid hpy
  have Ho := Lib.hid ho
  clear hne hf0 hp hpy Hr hy ho hoy c17
  have c17 : w1.cell? ⟨g, k * 89 + 15 + 2, none⟩ = some (.int .i64 1) := by rw [← H0.out]; exact Hp.out.cell hk (j := 17) (by omega)
  have c32 : w1.cell? ⟨g, k * 89 + 22 + 10, none⟩ = some (.bool ((ps k).b 32)) := Hp.out.cell hk (j := 32) (by omega)
  have f1 := Hp.out.free (k * 89 + 15 + 2)
  have f2 := Hp.out.free (k * 89 + 22 + 10)
  go_wp2
  go_ret
  refine ⟨by rw [He.out]; rfl, ?_, (Ho.out.setCell (Or.inl rfl) _).setCell (Or.inl rfl) _⟩
  rw [He.out]
  exact ((Hp.out.start k).step (j := 17) (by omega) (rowP_put_17 _ _)).step (j := 32) (by omega) (rowP_put_32 _ _)

set_option maxHeartbeats 2000000 in
theorem step_1false (w : World) (bx g n cap k : Nat) (ps : Nat → Rec) (hk : k < n)
    (hb : w.cell? ⟨bx, 17, none⟩ = some (.slice (some ⟨g, 0, none⟩) n cap)) (hp : Ports w g n ps) (h0 : (ps k).i 17 = 1) (hl : entersB (ps k) = false) :
    Calls Try.prog 12 #[.pointer (some ⟨bx, 0, none⟩), .int .i64 k] w (Stepped w g n k ps) := by
  have hk0 : (0 : Int) ≤ k := by omega
  have hk1 : (k : Int) < n := by omega
  have hg := hp.lt
  have c17 : w.cell? ⟨g, k * 89 + 15 + 2, none⟩ = some (.int .i64 1) := by rw [← h0]; exact hp.cell hk (j := 17) (by omega)
  have cl : ∀ w, Calls Try.prog 17 #[.agg (rowP (ps k))] w fun e w' => e = .returned (.bool false) ∧ Below w.heap.size w w' := fun w => by
    have := enters_any (ps k) w
    rwa [hl] at this
  have Cl := Lib.hid cl
  clear cl
  have e : edgeF (ps k) = (ps k, false) := by
    unfold edgeF
    simp [h0, hl]
  have He := Lib.hid e
  have H0 := Lib.hid h0
  clear e hl h0
  go_enter Try.func12, Try.ntmps12
  go_wp2
  refine wp_region_old (w.heap.size + 1) (by kernel_rfl) (by kernel_rfl) ?_
  have hne := Old.some (w.heap.size + 1) (w.alloc (.cells #[Value.func (Fn.func 16) #[] #[], Value.func (Fn.func 17) #[] #[]] 55))
  have hf0 : ∀ y : Old (w.heap.size + 1) (w.alloc (.cells #[Value.func (Fn.func 16) #[] #[], Value.func (Fn.func 17) #[] #[]] 55)), y.w.cell? ⟨w.heap.size, 1, none⟩ = some (.func (Fn.func 17) #[] #[]) := fun y => by
    rw [y.h.cell (p := ⟨w.heap.size, 1, none⟩) (Nat.lt_succ_self _), World.cell?_alloc_new]
    rfl
  have hr := fun y : Old (w.heap.size + 1) (w.alloc (.cells #[Value.func (Fn.func 16) #[] #[], Value.func (Fn.func 17) #[] #[]] 55)) => ((hp.alloc _).below y.h (by omega)).range hk
  have Hr := Lib.hid hr
  clear hr
  repeat (first | go_big_quiet_skip | (go_big_quiet_want; first | (refine quiet_row 52 _ rfl g (k * 89) rfl (rowP (ps k)) _ (by rintro _ ⟨y, rfl⟩; exact Hr.out y) Try.underlying52 rfl (size52 _) ?_; go_big_quiet_on; simp only [Act.put, List.setIfInBounds_toArray, List.set_cons_zero, List.set_cons_succ]) | (go_big_quiet_op; first | go_big_quiet_on | go_big_quiet_call ((go_at_call 17; exact Calls.old (by simp) (Cl.out _))))))
  refine wpQuiet_nil ?_
  rintro _ ⟨y, rfl⟩
  have hpy := (hp.alloc (.cells #[Value.func (Fn.func 16) #[] #[], Value.func (Fn.func 17) #[] #[]] 55)).below y.h (by omega)
  obtain ⟨w1, hy⟩ := y
  simp only [] at hpy ⊢
  have hoy := (Only.refl (· = g) w).alloc (.cells #[Value.func (Fn.func 16) #[] #[], Value.func (Fn.func 17) #[] #[]] 55)
  have ho : Only (· = g) w w1 := hoy.trans (Only.of_below (by simpa using hy))
  have Hp := Lib.hid hpy
  have Ho := Lib.hid ho
  clear hne hf0 hp hpy Hr hy ho hoy c17
  go_wp2
  go_ret
  refine ⟨by rw [He.out]; rfl, ?_, Ho.out⟩
  rw [He.out]
  exact Hp.out.start k

set_option maxHeartbeats 2000000 in
theorem step_lo (w : World) (bx g n cap k : Nat) (ps : Nat → Rec) (hk : k < n)
    (hb : w.cell? ⟨bx, 17, none⟩ = some (.slice (some ⟨g, 0, none⟩) n cap)) (hp : Ports w g n ps) (h0 : (ps k).i 17 < 0) :
    Calls Try.prog 12 #[.pointer (some ⟨bx, 0, none⟩), .int .i64 k] w (Stepped w g n k ps) := by
  have hk0 : (0 : Int) ≤ k := by omega
  have hk1 : (k : Int) < n := by omega
  have hg := hp.lt
  have c17 : w.cell? ⟨g, k * 89 + 15 + 2, none⟩ = some (.int .i64 ((ps k).i 17)) := hp.cell hk (j := 17) (by omega)
  have e : edgeF (ps k) = (ps k, false) := by
    unfold edgeF
    rw [if_neg (by omega), if_neg (by omega)]
  have He := Lib.hid e
  have d1 : decide ((ps k).i 17 < 0) = true := decide_eq_true h0
  clear e h0
  go_enter Try.func12, Try.ntmps12
  go_wp2
  refine wp_region_old (w.heap.size + 1) (by kernel_rfl) (by kernel_rfl) ?_
  have hne := Old.some (w.heap.size + 1) (w.alloc (.cells #[Value.func (Fn.func 16) #[] #[], Value.func (Fn.func 17) #[] #[]] 55))
  repeat (first | go_big_quiet_skip | (go_big_quiet_want; go_big_quiet_op; go_big_quiet_on))
  refine wpQuiet_nil ?_
  rintro _ ⟨y, rfl⟩
  have hpy := (hp.alloc (.cells #[Value.func (Fn.func 16) #[] #[], Value.func (Fn.func 17) #[] #[]] 55)).below y.h (by omega)
  obtain ⟨w1, hy⟩ := y
  simp only [] at hpy ⊢
  have hoy := (Only.refl (· = g) w).alloc (.cells #[Value.func (Fn.func 16) #[] #[], Value.func (Fn.func 17) #[] #[]] 55)
  have ho : Only (· = g) w w1 := hoy.trans (Only.of_below (by simpa using hy))
  have Hp := Lib.hid hpy
  have Ho := Lib.hid ho
  clear hne hp hpy hy ho hoy c17
  go_wp2
  go_ret
  refine ⟨by rw [He.out]; rfl, ?_, Ho.out⟩
  rw [He.out]
  exact Hp.out.start k

set_option maxHeartbeats 2000000 in
theorem step_hi (w : World) (bx g n cap k : Nat) (ps : Nat → Rec) (hk : k < n)
    (hb : w.cell? ⟨bx, 17, none⟩ = some (.slice (some ⟨g, 0, none⟩) n cap)) (hp : Ports w g n ps) (h0 : 1 < (ps k).i 17) :
    Calls Try.prog 12 #[.pointer (some ⟨bx, 0, none⟩), .int .i64 k] w (Stepped w g n k ps) := by
  have hk0 : (0 : Int) ≤ k := by omega
  have hk1 : (k : Int) < n := by omega
  have hg := hp.lt
  have c17 : w.cell? ⟨g, k * 89 + 15 + 2, none⟩ = some (.int .i64 ((ps k).i 17)) := hp.cell hk (j := 17) (by omega)
  have e : edgeF (ps k) = (ps k, false) := by
    unfold edgeF
    rw [if_neg (by omega), if_neg (by omega)]
  have He := Lib.hid e
  have d1 : decide ((ps k).i 17 < 0) = false := decide_eq_false (by omega)
  have d2 : decide (2 ≤ (ps k).i 17) = true := decide_eq_true (by omega)
  clear e h0
  go_enter Try.func12, Try.ntmps12
  go_wp2
  refine wp_region_old (w.heap.size + 1) (by kernel_rfl) (by kernel_rfl) ?_
  have hne := Old.some (w.heap.size + 1) (w.alloc (.cells #[Value.func (Fn.func 16) #[] #[], Value.func (Fn.func 17) #[] #[]] 55))
  repeat (first | go_big_quiet_skip | (go_big_quiet_want; go_big_quiet_op; go_big_quiet_on))
  refine wpQuiet_nil ?_
  rintro _ ⟨y, rfl⟩
  have hpy := (hp.alloc (.cells #[Value.func (Fn.func 16) #[] #[], Value.func (Fn.func 17) #[] #[]] 55)).below y.h (by omega)
  obtain ⟨w1, hy⟩ := y
  simp only [] at hpy ⊢
  have hoy := (Only.refl (· = g) w).alloc (.cells #[Value.func (Fn.func 16) #[] #[], Value.func (Fn.func 17) #[] #[]] 55)
  have ho : Only (· = g) w w1 := hoy.trans (Only.of_below (by simpa using hy))
  have Hp := Lib.hid hpy
  have Ho := Lib.hid ho
  clear hne hp hpy hy ho hoy c17
  go_wp2
  go_ret
  refine ⟨by rw [He.out]; rfl, ?_, Ho.out⟩
  rw [He.out]
  exact Hp.out.start k

/-- A step of the machine, whatever state the port is in. -/
theorem step_any (w : World) (bx g n cap k : Nat) (ps : Nat → Rec) (hk : k < n)
    (hb : w.cell? ⟨bx, 17, none⟩ = some (.slice (some ⟨g, 0, none⟩) n cap)) (hp : Ports w g n ps) :
    Calls Try.prog 12 #[.pointer (some ⟨bx, 0, none⟩), .int .i64 k] w (Stepped w g n k ps) := by
  by_cases h0 : (ps k).i 17 = 0
  · cases hl : leavesB (ps k)
    · exact step_0false w bx g n cap k ps hk hb hp h0 hl
    · exact step_0true w bx g n cap k ps hk hb hp h0 hl
  · by_cases h1 : (ps k).i 17 = 1
    · cases hl : entersB (ps k)
      · exact step_1false w bx g n cap k ps hk hb hp h1 hl
      · exact step_1true w bx g n cap k ps hk hb hp h1 hl
    · by_cases h2 : (ps k).i 17 < 0
      · exact step_lo w bx g n cap k ps hk hb hp h2
      · exact step_hi w bx g n cap k ps hk hb hp (by omega)
end Go.Proofs.Ytgemeaahecnkjaa.Br
