/- Chapter 8: the library's IndexFunc and ContainsFunc over ports, and what hangs on all ports. Conditions: the ports can be read; there aren't very many. -/
import Derived.Test.YtdangeefecdbaaaWhole
import Derived.Test.YtdangeefecdbaaaClone
import Derived.StillTailTactics
set_option linter.unusedSimpArgs false
namespace Go.Proofs.Ytdangeefecdbaaa.Br
open Go.RowKit
/-- Does one of the first n meet f? -/
def anyR (f : Nat → Bool) (n : Nat) : Bool := (List.range n).any f
theorem anyR_no {f : Nat → Bool} {n : Nat} (h : ∀ j, j < n → f j = false) : anyR f n = false := by
  unfold anyR
  rw [List.any_eq_false]
  intro x hx
  rw [h x (List.mem_range.1 hx)]
  simp
theorem anyR_yes {f : Nat → Bool} {n j : Nat} (hj : j < n) (h : f j = true) : anyR f n = true := by
  unfold anyR
  rw [List.any_eq_true]
  exact ⟨j, List.mem_range.2 hj, h⟩
theorem portV {w : World} {g o n k : Nat} {ps : Nat → Rec} (h : ∀ k, k < n → ∀ j, j < 89 → w.cell? ⟨g, o + (k * 89 + j), none⟩ = some (cellP (ps k) j)) (hk : k < n) : w.rangeAt g (o + k * 89) (rowP (ps k)).toList := fun j v hv => by
  have hj : j < 89 := by
    have := (List.getElem?_eq_some_iff.1 hv).1
    simpa [rowP_size] using this
  rw [Nat.add_assoc, h k hk j hj, ← rowP_get hj, ← hv]
  simp
/-- A function of ports: what it answers. -/
def Asks (cl : Nat) (P : Rec → Bool) : Prop := (∀ (args : Array Value) (w : World), Sem.run Try.prog (callFunc cl args) w = .ok (.enter cl args) w) ∧ ∀ (q : Rec) (w : World), Calls Try.prog cl #[.agg (rowP q)] w fun e w' => e = .returned (.bool (P q)) ∧ Below w.heap.size w w'
set_option maxRecDepth 100000 in
set_option maxHeartbeats 8000000 in
theorem index_any (cl : Nat) (P : Rec → Bool) (hcl : Asks cl P) (ap : Option Addr) (n cp : Nat) (ps : Nat → Rec) (w : World) (hv : View w ap 89 n fun k j => cellP (ps k) j) (hn : n ≤ 1000) :
    Calls Try.prog 60 #[.slice ap n cp, .func (.func cl) #[] #[]] w fun e w' => (∃ r : Int, e = .returned (.int .i64 r) ∧ decide (0 ≤ r) = anyR (fun j => P (ps j)) n) ∧ Below w.heap.size w w' := by
  have HV := Lib.hid hv
  have HCL := Lib.hid hcl.2
  have hen := hcl.1
  clear hv hcl
  go_enter Try.func60, Try.ntmps60
  go_wp2_with fail
  have hB0 : Below w.heap.size w w := Below.refl _ _
  go_loopw [8] (fun i wr => ∃ m : Nat, m ≤ n ∧ i = .int .i64 m ∧ Hid (∀ j, j < m → P (ps j) = false) ∧ Hid (Below w.heap.size w wr)) (fun i _ => n - (intOf i).toNat)
  case atStart => exact ⟨0, by omega, rfl, Lib.hid (fun j hj => by omega), Lib.hid hB0⟩
  case round =>
    clear hB0
    obtain ⟨m, hm, rfl, hF, hBr⟩ := hrel
    have hm0 : (0 : Int) ≤ m := by omega
    by_cases hlt : m < n
    · have dl : decide ((m : Int) < n) = true := decide_eq_true (by omega)
      have hm1 : (m : Int) < n := by omega
      have hwm : IntKind.i64.wrap ((m : Int) + 1) = (m + 1 : Nat) := by unfold IntKind.wrap; simp [IntKind.signed, IntKind.bits]; omega
      rcases HV.out with h0 | ⟨g, o, hap, hc⟩
      · omega
      have hgl : g < w.heap.size := cell_lt (hc m hlt 0 (by omega))
      have hr : wr.rangeAt g (o + m * 89) (rowP (ps m)).toList := portV (fun k hk j hj => (hBr.out.cell (p := ⟨g, _, none⟩) hgl).trans (hc k hk j hj)) hlt
      subst hap
      clear hc
      go_wp2_with (first | (refine wpList_row rfl 51 _ rfl g (o + m * 89) rfl _ _ hr Try.underlying51 rfl (sizeP _) ?_; simp only [Act.put, List.setIfInBounds_toArray, List.set_cons_zero, List.set_cons_succ]) | fail)
      refine Calls.mono (HCL.out (ps m) wr) ?_
      rintro e w2 ⟨rfl, hb2⟩
      have HB2 := Lib.hid (hBr.out.trans (hb2.mono hBr.out.size))
      clear hb2 hr hBr
      cases hP : P (ps m) with
      | true =>
        have hA : anyR (fun j => P (ps j)) n = true := anyR_yes hlt hP
        have HA := Lib.hid hA
        clear hA hP
        go_wp2_with fail
        go_ret
        exact ⟨⟨m, rfl, by rw [HA.out]; exact decide_eq_true hm0⟩, HB2.out⟩
      | false =>
        have HF := Lib.hid (show ∀ j, j < m + 1 → P (ps j) = false from fun j hj => by
          by_cases e : j = m
          · rw [e]; exact hP
          · exact hF.out j (by omega))
        clear hP
        go_wp2_with fail
        exact ⟨⟨m + 1, by omega, rfl, HF, HB2⟩, by simp [intOf]; omega⟩
    · have dl : decide ((m : Int) < n) = false := decide_eq_false (by omega)
      have hA := Lib.hid (anyR_no (f := fun j => P (ps j)) (n := n) (fun j hj => hF.out j (by omega)))
      go_wp2_with fail
      go_ret
      exact ⟨⟨-1, rfl, by rw [hA.out]; rfl⟩, hBr.out⟩
theorem contains_any (cl : Nat) (P : Rec → Bool) (hcl : Asks cl P) (ap : Option Addr) (n cp : Nat) (ps : Nat → Rec) (w : World) (hv : View w ap 89 n fun k j => cellP (ps k) j) (hn : n ≤ 1000) :
    Calls Try.prog 58 #[.slice ap n cp, .func (.func cl) #[] #[]] w fun e w' => e = .returned (.bool (anyR (fun j => P (ps j)) n)) ∧ Below w.heap.size w w' := by
  go_enter Try.func58, Try.ntmps58
  go_wp2_with fail
  refine (index_any cl P hcl ap n cp ps w hv hn).mono ?_
  rintro e w2 ⟨⟨r, rfl, hr⟩, hb2⟩
  have HR := Lib.hid hr
  have HB := Lib.hid hb2
  clear hr hb2
  go_wp2_with fail
  go_ret
  exact ⟨by rw [← HR.out]; rfl, HB.out⟩
end Go.Proofs.Ytdangeefecdbaaa.Br
