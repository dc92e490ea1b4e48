/- Law ClockRight of chapter 8: the walk joined with the plain law. -/
import Derived.Test.YtpnlblkeckpmnaaCk12
import Derived.Test.YtpnlblkeckpmnaaCk13
import Derived.Test.YtpnlblkeckpmnaaOpen
set_option linter.unusedSimpArgs false
namespace Go.Proofs.Ytpnlblkeckpmnaa.Br
open Go.RowKit
theorem at_17 (b : Bri) (gp cp go co gf cf : Nat) : (rowB (b.at gp cp go co gf cf))[17]? = some (.slice (some ⟨gp, 0, none⟩) b.n cp) := rfl
theorem row_old {W : World} {g B : Nat} {C : Array Value} {T : TypeId} {fr : Nat × Nat} (h : W.heap[g]? = some (.cells C T fr)) (hB : g < B) (z : Old B W) : z.w.rangeAt g 0 C.toList := fun j v hv => by
  rw [Nat.zero_add, cells_of ((z.h.block g hB).trans h) j]
  simpa using hv
attribute [local go_sem] zeroBr at_17
set_option maxRecDepth 100000 in
set_option maxHeartbeats 8000000 in
theorem clright_any (b : Bri) (ps ss : Nat → Rec) (fs : Nat → Int) (w : World) (h : Reads0 w b ps ss fs) :
    Calls Try.prog 3 #[.agg (rowB b)] w fun e w' => e = .returned (.bool true) ∧ Below w.heap.size w w' := by
  have HR := Lib.hid h
  clear h
  go_enter Try.func3, Try.ntmps3
  go_wp2_with fail
  refine (awake_any _).mono ?_
  rintro e w1 ⟨rfl, hb1⟩
  have HB : Hid (w1.heap[w.heap.size]? = some (.cells (rowB b) 33 (0, 0))) := (hb1.block _ (by simp)).trans (at_new rfl)
  have HW1 := Lib.hid (andthen (more (Below.refl w.heap.size w) _) hb1)
  clear hb1
  have hlt := (Array.getElem?_eq_some_iff.1 HB.out).1
  have d17 : w1.cell? ⟨w.heap.size, 17, none⟩ = some (.slice b.ap b.n b.cp) := cells_of HB.out 17
  have d18 : w1.cell? ⟨w.heap.size, 18, none⟩ = some (.slice b.ao b.no b.co) := cells_of HB.out 18
  have d19 : w1.cell? ⟨w.heap.size, 19, none⟩ = some (.slice b.af b.nf b.cf) := cells_of HB.out 19
  by_cases hG : (b.n : Int) ≤ 40 ∧ (b.no : Int) ≤ 40 ∧ (b.nf : Int) ≤ 40
  rotate_left
  · go_wp2_with fail
    all_goals first
      | (go_ret; exact ⟨rfl, HW1.out⟩)
      | (exfalso; exact hG ⟨by omega, by omega, by omega⟩)
  obtain ⟨g1, g2, g3⟩ := hG
  have hn : b.n ≤ 1000 := by omega
  have HV := Lib.hid (HR.out.below HW1.out).p
  cases hq : goodB b ps
  all_goals
    have C1 := Lib.hid (fun y : Old w1.heap.size w1 => clockright_any b ps y.w (HV.out.below y.h) hn)
    have C2 := Lib.hid (fun y : Old w1.heap.size w1 => refright_any b ps y.w (HV.out.below y.h))
    rw [hq] at C1 C2
    have Hx := Lib.hid (fun y : Old w1.heap.size w1 => row_old HB.out hlt y)
    have hne := Old.some w1.heap.size w1
    clear hq
    go_wp2_with fail
    refine wp_region_old w1.heap.size (by kernel_rfl) (by kernel_rfl) ?_
    repeat (first | go_big_quiet_skip | (go_big_quiet_want; first | (refine quiet_row 33 _ rfl w.heap.size 0 rfl (rowB b) _ (by rintro _ ⟨z, rfl⟩; exact Hx.out z) Try.underlying33 rfl (sizeB _) ?_; go_big_quiet_on; simp only [Act.put, List.setIfInBounds_toArray, List.set_cons_zero, List.set_cons_succ]) | (go_big_quiet_op; first | go_big_quiet_on | go_big_quiet_call ((go_at_call 9; exact Calls.old (by simp) (C1.out _))) | go_big_quiet_call ((go_at_call 10; exact Calls.old (by simp) (C2.out _))))))
    refine wpQuiet_nil ?_
    rintro _ ⟨y, rfl⟩
    have hy := y.h
    obtain ⟨w2, hw2⟩ := y
    simp only [] at hy ⊢
    have Hy := Lib.hid hy
    clear hy hw2 hne C1 C2 Hx
    go_wp2_with fail
    go_ret
    exact ⟨rfl, HW1.out.trans (Hy.out.mono HW1.out.size)⟩
end Go.Proofs.Ytpnlblkeckpmnaa.Br
