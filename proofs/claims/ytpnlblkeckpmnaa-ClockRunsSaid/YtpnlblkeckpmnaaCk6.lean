/- Chapter 8: one less if it is above 0; the library's ContainsFunc over numbers; times that can't be told. No condition but that there aren't very many numbers. -/
import Derived.Test.YtpnlblkeckpmnaaCk2
set_option linter.unusedSimpArgs false
namespace Go.Proofs.Ytpnlblkeckpmnaa.Br
open Go.RowKit
/-- A function of numbers: what it answers. -/
def AsksI (cl : Nat) (P : Int → Bool) : Prop := (∀ (args : Array Value) (w : World), Sem.run Try.prog (callFunc cl args) w = .ok (.enter cl args) w) ∧ ∀ (q : Int) (w : World), Calls Try.prog cl #[.int .i64 q] w fun e w' => e = .returned (.bool (P q)) ∧ Below w.heap.size w w'
set_option maxRecDepth 100000 in
set_option maxHeartbeats 8000000 in
theorem indexI_any (cl : Nat) (P : Int → Bool) (hcl : AsksI cl P) (ap : Option Addr) (n cp : Nat) (ps : Nat → Int) (w : World) (hv : View w ap 1 n fun k _ => .int .i64 (ps k)) (hn : n ≤ 1000) :
    Calls Try.prog 38 #[.slice ap n cp, .func (.func cl) #[] #[]] w fun e w' => (∃ r : Int, e = .returned (.int .i64 r) ∧ decide (0 ≤ r) = anyR (fun j => P (ps j)) n) ∧ Below w.heap.size w w' := by
  have HV := Lib.hid hv
  have HCL := Lib.hid hcl.2
  have hen := hcl.1
  clear hv hcl
  go_enter Try.func38, Try.ntmps38
  go_wp2_with fail
  have hB0 : Below w.heap.size w w := Below.refl _ _
  go_loopw [8] (fun i wr => ∃ m : Nat, m ≤ n ∧ i = .int .i64 m ∧ Hid (∀ j, j < m → P (ps j) = false) ∧ Hid (Below w.heap.size w wr)) (fun i _ => n - (intOf i).toNat)
  case atStart => exact ⟨0, by omega, rfl, Lib.hid (fun j hj => by omega), Lib.hid hB0⟩
  case round =>
    clear hB0
    obtain ⟨m, hm, rfl, hF, hBr⟩ := hrel
    have hm0 : (0 : Int) ≤ m := by omega
    by_cases hlt : m < n
    · have dl : decide ((m : Int) < n) = true := decide_eq_true (by omega)
      have hm1 : (m : Int) < n := by omega
      have hwm : IntKind.i64.wrap ((m : Int) + 1) = (m + 1 : Nat) := by unfold IntKind.wrap; simp [IntKind.signed, IntKind.bits]; omega
      rcases HV.out with h0 | ⟨g, o, hap, hc⟩
      · omega
      have hgl : g < w.heap.size := cell_lt (hc m hlt 0 (by omega))
      have hr : wr.cell? ⟨g, o + m, none⟩ = some (.int .i64 (ps m)) := by
        have h := hc m hlt 0 (by omega)
        rw [Nat.mul_one, Nat.add_zero] at h
        exact (hBr.out.cell (p := ⟨g, _, none⟩) hgl).trans h
      subst hap
      clear hc
      go_wp2_with fail
      refine Calls.mono (HCL.out (ps m) wr) ?_
      rintro e w2 ⟨rfl, hb2⟩
      have HB2 := Lib.hid (hBr.out.trans (hb2.mono hBr.out.size))
      clear hb2 hr hBr
      cases hP : P (ps m) with
      | true =>
        have hA : anyR (fun j => P (ps j)) n = true := anyR_yes hlt hP
        have HA := Lib.hid hA
        clear hA hP
        go_wp2_with fail
        go_ret
        exact ⟨⟨m, rfl, by rw [HA.out]; exact decide_eq_true hm0⟩, HB2.out⟩
      | false =>
        have HF := Lib.hid (show ∀ j, j < m + 1 → P (ps j) = false from fun j hj => by
          by_cases e : j = m
          · rw [e]; exact hP
          · exact hF.out j (by omega))
        clear hP
        go_wp2_with fail
        exact ⟨⟨m + 1, by omega, rfl, HF, HB2⟩, by simp [intOf]; omega⟩
    · have dl : decide ((m : Int) < n) = false := decide_eq_false (by omega)
      have hA := Lib.hid (anyR_no (f := fun j => P (ps j)) (n := n) (fun j hj => hF.out j (by omega)))
      go_wp2_with fail
      go_ret
      exact ⟨⟨-1, rfl, by rw [hA.out]; rfl⟩, hBr.out⟩
theorem containsI_any (cl : Nat) (P : Int → Bool) (hcl : AsksI cl P) (ap : Option Addr) (n cp : Nat) (ps : Nat → Int) (w : World) (hv : View w ap 1 n fun k _ => .int .i64 (ps k)) (hn : n ≤ 1000) :
    Calls Try.prog 35 #[.slice ap n cp, .func (.func cl) #[] #[]] w fun e w' => e = .returned (.bool (anyR (fun j => P (ps j)) n)) ∧ Below w.heap.size w w' := by
  go_enter Try.func35, Try.ntmps35
  go_wp2_with fail
  refine (indexI_any cl P hcl ap n cp ps w hv hn).mono ?_
  rintro e w2 ⟨⟨r, rfl, hr⟩, hb2⟩
  have HR := Lib.hid hr
  have HB := Lib.hid hb2
  clear hr hb2
  go_wp2_with fail
  go_ret
  exact ⟨by rw [← HR.out]; rfl, HB.out⟩
theorem down_any (x : Int) (h : 0 ≤ x ∧ x ≤ 1000) (w : World) : Calls Try.prog 32 #[.int .i64 x] w fun e w' => e = .returned (.int .i64 (max (x - 1) 0)) ∧ Below w.heap.size w w' := by
  obtain ⟨vv, hvv⟩ : ∃ y : Int, y = max (x - 1) 0 := ⟨_, rfl⟩
  rw [← hvv]
  have HV := Lib.hid hvv
  have hw : IntKind.i64.wrap (x - 1) = x - 1 := by unfold IntKind.wrap; simp [IntKind.signed, IntKind.bits]; omega
  clear hvv
  go_enter Try.func32, Try.ntmps32
  by_cases h0 : 0 < x
  · have d0 : decide (0 < x) = true := decide_eq_true h0
    have HE := Lib.hid (show vv = x - 1 by rw [HV.out]; omega)
    clear h0
    go_wp2_with fail
    go_ret
    exact ⟨by rw [HE.out]; rfl, Below.refl _ _⟩
  · have d0 : decide (0 < x) = false := decide_eq_false h0
    have HE := Lib.hid (show vv = x by rw [HV.out]; omega)
    clear h0
    go_wp2_with fail
    go_ret
    exact ⟨by rw [HE.out]; rfl, Below.refl _ _⟩
/-- A number that can't be told. -/
def farN (x : Int) : Bool := decide (x < 0) || decide (65535 < x)
theorem far_cl : AsksI 36 farN := ⟨enters Try.func36 (by kernel_rfl) rfl, fun q w => by
  unfold farN
  cases h0 : decide (q < 0) <;> cases h1 : decide (65535 < q) <;>
    (go_enter Try.func36, Try.ntmps36
     go_wp2_with fail
     go_ret
     exact ⟨rfl, Below.refl _ _⟩)⟩
theorem far_law (a m h d : Int) : anyR (fun j => farN (#[a, m, h, d].getD j 0)) 4 = !few4 a m h d := by
  have e : anyR (fun j => farN (#[a, m, h, d].getD j 0)) 4 = (farN a || (farN m || (farN h || farN d))) := by
    simp [anyR, List.range, List.range.loop]
  rw [e]
  unfold farN few4
  rw [Bool.eq_iff_iff]
  simp <;> omega
theorem far_any (a m h d : Int) (w : World) : Calls Try.prog 26 #[.agg #[.int .i64 a, .int .i64 m, .int .i64 h, .int .i64 d]] w fun e w' => e = .returned (.bool (!few4 a m h d)) ∧ Below w.heap.size w w' := by
  rw [← far_law]
  obtain ⟨f, hf⟩ : ∃ f : Nat → Int, f = fun j => #[a, m, h, d].getD j 0 := ⟨_, rfl⟩
  have e0 : f 0 = a := by rw [hf]; rfl
  have e1 : f 1 = m := by rw [hf]; rfl
  have e2 : f 2 = h := by rw [hf]; rfl
  have e3 : f 3 = d := by rw [hf]; rfl
  have E := Lib.hid (And.intro e0 (And.intro e1 (And.intro e2 e3)))
  have HF := Lib.hid hf
  clear e0 e1 e2 e3 hf
  go_enter Try.func26, Try.ntmps26
  go_wp2_with fail
  refine (containsI_any _ farN far_cl _ 4 _ f _ (.inr ⟨_, 0, rfl, fun k hk j hj => ?hc⟩) (by omega)).mono ?_
  case hc =>
    obtain rfl : j = 0 := by omega
    rcases (show k = 0 ∨ k = 1 ∨ k = 2 ∨ k = 3 by omega) with rfl | rfl | rfl | rfl <;> simp [E.out, go_sem]
  rintro e w2 ⟨rfl, hb2⟩
  have HB2 := Lib.hid hb2
  clear hb2
  rw [HF.out]
  go_wp2_with fail
  go_ret
  exact ⟨rfl, (more (more (Below.refl _ _) _) _).trans (HB2.out.mono (by simp; omega))⟩
end Go.Proofs.Ytpnlblkeckpmnaa.Br
