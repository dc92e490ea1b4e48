/- What taking a message in does to a port in memory (ford/rx.Take, ford/fordref09.Take): both the same; every number of a port, every message. -/
import Derived.Test.YtdocomenngmccaaStep09
import Derived.Test.YtdocomenngmccaaWhole
import Derived.Deep.CutRange
set_option linter.unusedSimpArgs false
namespace Go.Proofs.Ytdocomenngmccaa.Br
open Go.RowKit
/-- A message, as cells: numbered as within a port. -/
def rowM (m : Rec) : Array Value := #[.int .i64 (m.i 51), .bool (m.b 52), .bool (m.b 53), .bool (m.b 54), .bool (m.b 55), .bool (m.b 56), .bool (m.b 57), .int .i64 (m.i 58), .int .u64 (m.i 59), .int .u32 (m.i 60), .int .u64 (m.i 61), .int .u16 (m.i 62), .int .u16 (m.i 63), .int .i64 (m.i 64), .int .i64 (m.i 65), .int .i64 (m.i 66), .int .i64 (m.i 67)]
theorem rowM_size (m : Rec) : (rowM m).size = 17 := rfl
theorem rowM_0 (m : Rec) : (rowM m)[0]? = some (.int .i64 (m.i 51)) := rfl
theorem rowM_one (m : Rec) : (rowM m).all (·.oneCell') = true := by kernel_rfl
theorem sizeM (m : Rec) : (Try.prog.info? 35).map (·.size) = some (rowM m).size := by rw [rowM_size]; kernel_rfl
/-- A port with another message. -/
def putM (p m : Rec) : Rec := ⟨fun j => if 51 ≤ j ∧ j < 68 then m.i j else p.i j, fun j => if 51 ≤ j ∧ j < 68 then m.b j else p.b j⟩
theorem putM_in (p m : Rec) {j : Nat} (h1 : 51 ≤ j) (h2 : j < 68) : cellP (putM p m) j = cellP m j := by
  rcases (show j = 51 ∨ j = 52 ∨ j = 53 ∨ j = 54 ∨ j = 55 ∨ j = 56 ∨ j = 57 ∨ j = 58 ∨ j = 59 ∨ j = 60 ∨ j = 61 ∨ j = 62 ∨ j = 63 ∨ j = 64 ∨ j = 65 ∨ j = 66 ∨ j = 67 by omega) with rfl | rfl | rfl | rfl | rfl | rfl | rfl | rfl | rfl | rfl | rfl | rfl | rfl | rfl | rfl | rfl | rfl <;> rfl
theorem putM_lo (p m : Rec) {j : Nat} (h : j < 26) : cellP (putM p m) j = cellP p j := by
  rcases (show j = 0 ∨ j = 1 ∨ j = 2 ∨ j = 3 ∨ j = 4 ∨ j = 5 ∨ j = 6 ∨ j = 7 ∨ j = 8 ∨ j = 9 ∨ j = 10 ∨ j = 11 ∨ j = 12 ∨ j = 13 ∨ j = 14 ∨ j = 15 ∨ j = 16 ∨ j = 17 ∨ j = 18 ∨ j = 19 ∨ j = 20 ∨ j = 21 ∨ j = 22 ∨ j = 23 ∨ j = 24 ∨ j = 25 by omega) with rfl | rfl | rfl | rfl | rfl | rfl | rfl | rfl | rfl | rfl | rfl | rfl | rfl | rfl | rfl | rfl | rfl | rfl | rfl | rfl | rfl | rfl | rfl | rfl | rfl | rfl <;> rfl
theorem putM_mi (p m : Rec) {j : Nat} (h : j < 25) : cellP (putM p m) (26 + j) = cellP p (26 + j) := by
  rcases (show j = 0 ∨ j = 1 ∨ j = 2 ∨ j = 3 ∨ j = 4 ∨ j = 5 ∨ j = 6 ∨ j = 7 ∨ j = 8 ∨ j = 9 ∨ j = 10 ∨ j = 11 ∨ j = 12 ∨ j = 13 ∨ j = 14 ∨ j = 15 ∨ j = 16 ∨ j = 17 ∨ j = 18 ∨ j = 19 ∨ j = 20 ∨ j = 21 ∨ j = 22 ∨ j = 23 ∨ j = 24 by omega) with rfl | rfl | rfl | rfl | rfl | rfl | rfl | rfl | rfl | rfl | rfl | rfl | rfl | rfl | rfl | rfl | rfl | rfl | rfl | rfl | rfl | rfl | rfl | rfl | rfl <;> rfl
theorem putM_hi (p m : Rec) {j : Nat} (h : j < 21) : cellP (putM p m) (68 + j) = cellP p (68 + j) := by
  rcases (show j = 0 ∨ j = 1 ∨ j = 2 ∨ j = 3 ∨ j = 4 ∨ j = 5 ∨ j = 6 ∨ j = 7 ∨ j = 8 ∨ j = 9 ∨ j = 10 ∨ j = 11 ∨ j = 12 ∨ j = 13 ∨ j = 14 ∨ j = 15 ∨ j = 16 ∨ j = 17 ∨ j = 18 ∨ j = 19 ∨ j = 20 by omega) with rfl | rfl | rfl | rfl | rfl | rfl | rfl | rfl | rfl | rfl | rfl | rfl | rfl | rfl | rfl | rfl | rfl | rfl | rfl | rfl | rfl <;> rfl
theorem putM_out (p m : Rec) {j : Nat} (h : j < 51 ∨ (68 ≤ j ∧ j < 89)) : cellP (putM p m) j = cellP p j := by
  by_cases h1 : j < 26
  · exact putM_lo p m h1
  · by_cases h2 : j < 51
    · obtain ⟨x, rfl⟩ : ∃ x, j = 26 + x := ⟨j - 26, by omega⟩
      exact putM_mi p m (by omega)
    · obtain ⟨x, rfl⟩ : ∃ x, j = 68 + x := ⟨j - 68, by omega⟩
      exact putM_hi p m (by omega)
theorem rowM_get (m : Rec) {j : Nat} (h : j < 17) : (rowM m)[j]? = some (cellP m (51 + j)) := by
  rcases (show j = 0 ∨ j = 1 ∨ j = 2 ∨ j = 3 ∨ j = 4 ∨ j = 5 ∨ j = 6 ∨ j = 7 ∨ j = 8 ∨ j = 9 ∨ j = 10 ∨ j = 11 ∨ j = 12 ∨ j = 13 ∨ j = 14 ∨ j = 15 ∨ j = 16 by omega) with rfl | rfl | rfl | rfl | rfl | rfl | rfl | rfl | rfl | rfl | rfl | rfl | rfl | rfl | rfl | rfl | rfl <;> rfl
/-- A message stored into a port. -/
theorem Ports.msg {w : World} {g n k : Nat} {ps : Nat → Rec} (h : Ports w g n ps) (hk : k < n) (m : Rec) : Ports (w.setCells g (k * 89 + 51) (rowM m).toList) g n (upd ps k (putM (ps k) m)) := by
  have h0 := h
  obtain ⟨C, hg, hc⟩ := h
  obtain ⟨C', hg'⟩ := setCells_block (rowM m).toList (k * 89 + 51) w C hg
  have hl : (rowM m).toList.length = 17 := by simp [rowM_size]
  refine ⟨C', hg', fun x hx j hj => ?_⟩
  rw [← cells_of hg' (x * 89 + j)]
  by_cases e : x = k
  · subst e
    rw [upd_same]
    by_cases h1 : 51 ≤ j ∧ j < 68
    · rw [putM_in _ _ h1.1 h1.2]
      have := World.cell?_setCells_in g (rowM m).toList (x * 89 + 51) w (fun i hi => by rw [Nat.add_assoc, h0.cell hx (by omega)]; rfl) (j - 51) (by omega)
      rw [show x * 89 + 51 + (j - 51) = x * 89 + j by omega] at this
      rw [this]
      have hm := rowM_get m (j := j - 51) (by omega)
      rw [show 51 + (j - 51) = j by omega] at hm
      rw [← hm]
      simp
    · rw [putM_out _ _ (by omega), World.cell?_setCells_out g _ _ w _ (fun _ _ => by
        rw [hl]
        show x * 89 + j < x * 89 + 51 ∨ x * 89 + 51 + 17 ≤ x * 89 + j
        omega)]
      exact h0.cell hx hj
  · rw [World.cell?_setCells_out g _ _ w _ (fun _ _ => by
      rw [hl]
      show x * 89 + j < k * 89 + 51 ∨ k * 89 + 51 + 17 ≤ x * 89 + j
      omega), upd_other _ _ e]
    exact h0.cell hx hj
theorem Ports.roomM {w : World} {g n k : Nat} {ps : Nat → Rec} (h : Ports w g n ps) (hk : k < n) (m : Rec) : w.there g (k * 89 + 51) (rowM m).size := fun j hj => by
  rw [rowM_size] at hj
  exact ⟨by rw [Nat.add_assoc, h.cell hk (by omega)]; rfl, h.free _⟩
/-- Whether a port refuses a message. -/
def refuses (rst : Bool) (m p : Rec) : Bool := !p.b 2 || p.b 35 || (m.i 51 == 2 && !rst)
/-- What taking a message in does to a port. -/
def takeF (rst : Bool) (m p : Rec) : Rec × Bool := if refuses rst m p = true then (p, false) else ((putM p m).setB 35 true, true)
attribute [local go_sem] rowM_size rowM_0
def Took (rst : Bool) (m : Rec) (w : World) (g n k : Nat) (ps : Nat → Rec) (e : Ending) (w' : World) : Prop :=
  e = .returned (.bool (takeF rst m (ps k)).2) ∧ Ports w' g n (upd ps k (takeF rst m (ps k)).1) ∧ Only (· = g) w w'
set_option maxHeartbeats 600000 in
theorem take_in (w : World) (bx g n cap k : Nat) (ps : Nat → Rec) (rst : Bool) (m : Rec) (hk : k < n)
    (hb : w.cell? ⟨bx, 17, none⟩ = some (.slice (some ⟨g, 0, none⟩) n cap)) (hb1 : w.cell? ⟨bx, 1, none⟩ = some (.bool rst)) (hp : Ports w g n ps) :
    Calls Try.prog 9 #[.pointer (some ⟨bx, 0, none⟩), .int .i64 k, .agg (rowM m)] w (Took rst m w g n k ps) := by
  have hk0 : (0 : Int) ≤ k := by omega
  have hk1 : (k : Int) < n := by omega
  have d0 : decide ((k : Int) < 0) = false := decide_eq_false (by omega)
  have d1 : decide (n ≤ k) = false := decide_eq_false (by omega)
  have hg := hp.lt
  have hbl := cell_lt hb1
  have Hp := Lib.hid (hp.alloc (.cells (rowM m) 35))
  have hrm : (w.alloc (.cells (rowM m) 35)).rangeAt w.heap.size 0 (rowM m).toList := fun j v hv => by
    rw [Nat.zero_add, cells_of (heap_alloc_new _ _) j]
    simpa using hv
  have e2 : w.cell? ⟨g, k * 89 + 2, none⟩ = some (.bool ((ps k).b 2)) := hp.cell hk (j := 2) (by omega)
  have e35 : w.cell? ⟨g, k * 89 + 22 + 13, none⟩ = some (.bool ((ps k).b 35)) := hp.cell hk (j := 35) (by omega)
  clear hp
  go_enter Try.func9, Try.ntmps9
  go_upto_region 4 with (fail)
  go_cut [48] from 25 to 48 (fun c wx => c = .bool (refuses rst m (ps k)) ∧ wx = w.alloc (.cells (rowM m) 35))
  case first =>
    go_wp2_with fail
    all_goals
      go_meet
      exact ⟨(by unfold refuses; simp [*]), rfl⟩
  case rest =>
    obtain ⟨rfl, rfl⟩ := hcut
    by_cases h1 : refuses rst m (ps k) = true
    · have He := Lib.hid (show takeF rst m (ps k) = (ps k, false) by unfold takeF; rw [if_pos h1])
      rw [h1]
      clear h1
      go_wp2_with fail
      go_ret
      exact ⟨by rw [He.out]; rfl, by rw [He.out]; exact Hp.out.start k, (Only.refl (· = g) w).alloc _⟩
    · have He := Lib.hid (show takeF rst m (ps k) = ((putM (ps k) m).setB 35 true, true) by unfold takeF; rw [if_neg h1])
      rw [Bool.eq_false_iff.2 h1]
      clear h1
      have HP2 := Hp
      obtain ⟨w2, hw2⟩ : ∃ x, x = (w.alloc (.cells (rowM m) 35)).setCells g (k * 89 + 51) (rowM m).toList := ⟨_, rfl⟩
      have hst : Sem.run Try.prog (storeCells ⟨g, k * 89 + 51, none⟩ (rowM m).toList) (w.alloc (.cells (rowM m) 35)) = .ok () w2 := by
        rw [hw2]
        exact run_storeCells_cells (P := Try.prog) g (k * 89 + 51) (rowM m).toList 0 (w.alloc (.cells (rowM m) 35)) (fun j hj => (HP2.out.roomM hk m j (by simpa using hj)).1) (fun j hj => (HP2.out.roomM hk m j (by simpa using hj)).2) (fun v hv => by have := rowM_one m; rw [Array.all_eq_true'] at this; exact this v (by simpa using hv))
      have hp2 : Ports w2 g n (upd ps k (putM (ps k) m)) := by rw [hw2]; exact HP2.out.msg hk m
      have Ho2 := Lib.hid (show Only (· = g) w w2 by rw [hw2]; exact ((Only.refl (· = g) w).alloc _).trans (Only.setCells (S := (· = g)) rfl _ _ _))
      have c35 := hp2.cell hk (j := 35) (by omega)
      have f35 := hp2.free (k * 89 + 22 + 13)
      clear hw2 HP2
      go_wp2_with (first | (refine wpList_row rfl 35 _ rfl w.heap.size 0 rfl (rowM m) _ hrm Try.underlying35 rfl (sizeM _) ?_; simp only [Act.put, List.setIfInBounds_toArray, List.set_cons_zero, List.set_cons_succ]) | fail)
      go_ret
      exact ⟨by rw [He.out]; rfl, by rw [He.out]; exact hp2.step (j := 35) (by omega) (rowP_put_35 _ _), Ho2.out.setCell (Or.inl rfl) _⟩
end Go.Proofs.Ytdocomenngmccaa.Br
