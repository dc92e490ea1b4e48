/- What the example of the laws of the ways answers: true. -/
import Derived.Test.YtfoenfhfohaoaaaHops
set_option linter.unusedSimpArgs false
namespace Go.Proofs.Ytfoenfhfohaoaaa.Rea
open Go.RowKit
theorem flt_5 : flt 5 = 4617315517961601024 := by decide
theorem flt_10 : flt 10 = 4621819117588971520 := by decide
theorem flt_2 : flt 2 = 4611686018427387904 := by decide
theorem ord_self (n : Nat) (h : n < 2 ^ 53) : (FloatKind.f64.format.order (flt n) (flt n) == some .eq) = true := by
  rw [fmt64, order_flt (stands n h) (stands n h), cmp_eq]
  exact decide_eq_true rfl
/-- The example's hops. -/
def exL (q : Nat) : Hop := if q = 0 then ⟨0, 1, 5⟩ else if q = 1 then ⟨1, 2, 5⟩ else ⟨0, 2, 10⟩
def exC : Array Value := #[.int .i64 0, .int .i64 1, .int .u32 5, .int .i64 1, .int .i64 2, .int .u32 5, .int .i64 0, .int .i64 2, .int .u32 10]
theorem mk3 (w : World) : Sem.run Try.prog (Instr.buildSlice 26 3 #[(0, .agg #[.int .i64 0, .int .i64 1, .int .u32 5]), (1, .agg #[.int .i64 1, .int .i64 2, .int .u32 5]), (2, .agg #[.int .i64 0, .int .i64 2, .int .u32 10])]) w = .ok (.slice (some ⟨w.heap.size, 0, none⟩) 3 3) (w.alloc (.cells exC 47)) := by kernel_rfl
theorem mkU (w : World) : Sem.run Try.prog (Instr.buildSlice 37 2 #[(0, .int .u32 5), (1, .int .u32 5)]) w = .ok (.slice (some ⟨w.heap.size, 0, none⟩) 2 2) (w.alloc (.cells #[.int .u32 5, .int .u32 5] 38)) := by kernel_rfl
theorem ex_0 : refn 4 exL 3 0 4 0 = some (0, 0) := by decide
theorem ex_1 : refn 4 exL 3 0 4 1 = some (5, 1) := by decide
theorem ex_2 : refn 4 exL 3 0 4 2 = some (10, 1) := by decide
theorem ex_3 : refn 4 exL 3 0 4 3 = none := by decide
attribute [local go_sem] mk3 mkU
set_option maxHeartbeats 2000000 in
theorem awake_any (w : World) : Calls Try.prog 7 #[] w fun e w' => e = .returned (.bool true) ∧ Below w.heap.size w w' := by
  go_enter Try.func7, Try.ntmps7
  go_wp2_with fail
  have hv : HopsV (w.alloc (.cells exC 47)) (some ⟨w.heap.size, 0, none⟩) 3 exL := .inr ⟨w.heap.size, 0, rfl, fun k hk j hj => by
    rw [Nat.zero_add, cells_of (heap_alloc_new _ _)]
    match k, hk, j, hj with
    | 0, _, 0, _ => rfl
    | 0, _, 1, _ => rfl
    | 0, _, 2, _ => rfl
    | 1, _, 0, _ => rfl
    | 1, _, 1, _ => rfl
    | 1, _, 2, _ => rfl
    | 2, _, 0, _ => rfl
    | 2, _, 1, _ => rfl
    | 2, _, 2, _ => rfl⟩
  refine (far_any _ 4 3 0 (by omega) (by omega) (by omega) exL _ 3 hv (fun q => by unfold exL; split <;> (try split) <;> decide)).mono ?_
  rintro e w1 ⟨g, o, rfl, hg, hO, hopt, hbd, hb1⟩
  have ho : o = refn 4 exL 3 0 4 := hopt.uniq (refn_opt 4 3 0 exL (by omega))
  subst ho
  have HB1 := Lib.hid (andthen (more (Below.refl w.heap.size w) (.cells exC 47)) hb1)
  have c0 : w1.cell? ⟨g, 0, none⟩ = some (.complex .f64 0 0) := by
    have h := hO.cell (i := 0) (by omega)
    rw [ex_0, cv_00] at h
    exact h
  have c1 : w1.cell? ⟨g, 1, none⟩ = some (.complex .f64 4617315517961601024 4607182418800017408) := by
    have h := hO.cell (i := 1) (by omega)
    rw [ex_1] at h
    rw [← flt_5, ← flt_1]
    exact h
  have c2 : w1.cell? ⟨g, 2, none⟩ = some (.complex .f64 4621819117588971520 4607182418800017408) := by
    have h := hO.cell (i := 2) (by omega)
    rw [ex_2] at h
    rw [← flt_10, ← flt_1]
    exact h
  have c3 : w1.cell? ⟨g, 3, none⟩ = some (cv none) := by
    have h := hO.cell (i := 3) (by omega)
    rw [ex_3] at h
    exact h
  have f0 := ord_self 0 (by decide)
  have f1 := ord_self 1 (by decide)
  have f5 := ord_self 5 (by decide)
  have f10 := ord_self 10 (by decide)
  have f2 := ord_self 2 (by decide)
  rw [flt_0] at f0
  rw [flt_1] at f1
  rw [flt_5] at f5
  rw [flt_10] at f10
  rw [flt_2] at f2
  clear hO hopt hbd hb1 hv hg
  go_wp2_with fail
  refine (none_any none trivial _).mono ?_
  rintro e w' ⟨rfl, rfl⟩
  go_wp2_with fail
  refine (length_any _ (some ⟨w'.heap.size, 0, none⟩) 2 2 (fun _ => 5) ?_ (fun _ => by decide) (by omega)).mono ?_
  · exact .inr ⟨w'.heap.size, 0, rfl, fun k hk j hj => by
      obtain rfl : j = 0 := by omega
      rw [Nat.zero_add, cells_of (heap_alloc_new _ _)]
      match k, hk with
      | 0, _ => rfl
      | 1, _ => rfl⟩
  rintro e w2 ⟨rfl, rfl⟩
  rw [show flt (sumc (fun _ => 5) 2) = 4621819117588971520 from flt_10, flt_2]
  have HB2 := Lib.hid (more HB1.out (.cells #[.int .u32 5, .int .u32 5] 38))
  go_wp2_with fail
  go_ret
  exact ⟨rfl, HB2.out⟩
end Go.Proofs.Ytfoenfhfohaoaaa.Rea
