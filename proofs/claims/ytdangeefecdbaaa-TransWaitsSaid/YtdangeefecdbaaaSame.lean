/- What fordref08.Same answers of two bridges that are alike: true. -/
import Derived.Test.YtdangeefecdbaaaClone
namespace Go.Proofs.Ytdangeefecdbaaa.Br
open Go.RowKit
set_option maxRecDepth 100000 in
set_option maxHeartbeats 4000000 in
theorem eqP (p : Rec) (w : World) : Sem.run Try.prog (Op.equalIn 10000 51 (.agg (rowP p)) (.agg (rowP p))) w = .ok true w := by
  unfold rowP
  simp [go_sem]
set_option maxRecDepth 100000 in
set_option maxHeartbeats 4000000 in
theorem eqS (p : Rec) (w : World) : Sem.run Try.prog (Op.equalIn 10000 67 (.agg (rowS p)) (.agg (rowS p))) w = .ok true w := by
  unfold rowS
  simp [go_sem]
theorem guardP : Try.prog.eqGuardType Try.prog.depth 51 = false := by kernel_rfl
theorem guardS : Try.prog.eqGuardType Try.prog.depth 67 = false := by kernel_rfl
section
variable {C : World → Prop} {K : Act → Prop} {a : Act} {o : Oper}
theorem quiet_neqP (x y : Operand) (ho : o.op = .binOp .neq 51 x y 51) (p : Rec) (hx : a.eval x = .agg (rowP p)) (hy : a.eval y = .agg (rowP p)) (hk : K (a.put o.dst (.bool false))) : o.quiet Try.prog a C K :=
  ⟨_, fun w hw => by
    unfold Oper.quietAt execOp
    simp only [ho, hx, hy, Sem.run_bind, run_eqGuard_agg w .neq 51 x y _ _ guardP, Result.andThen_ok, run_neq_struct, eqP]
    exact ⟨rfl, rfl⟩, hk⟩
theorem quiet_neqS (x y : Operand) (ho : o.op = .binOp .neq 67 x y 67) (p : Rec) (hx : a.eval x = .agg (rowS p)) (hy : a.eval y = .agg (rowS p)) (hk : K (a.put o.dst (.bool false))) : o.quiet Try.prog a C K :=
  ⟨_, fun w hw => by
    unfold Oper.quietAt execOp
    simp only [ho, hx, hy, Sem.run_bind, run_eqGuard_agg w .neq 67 x y _ _ guardS, Result.andThen_ok, run_neq_struct, eqS]
    exact ⟨rfl, rfl⟩, hk⟩
end
theorem sizeS (p : Rec) : (Try.prog.info? 67).map (·.size) = some (rowS p).size := by rw [rowS_size]; kernel_rfl
attribute [local go_sem] rowB_size rowB_0 rowB_1 rowB_2 rowB_3 rowB_4 rowB_5 rowB_6 rowB_7 rowB_8 rowB_9 rowB_10 rowB_11 rowB_12 rowB_13 rowB_14 rowB_15 rowB_16 rowB_17 rowB_18 rowB_19
set_option maxRecDepth 100000 in
set_option maxHeartbeats 8000000 in
theorem same_any (x : Bri) (ap : Option Addr) (cp : Nat) (ao : Option Addr) (co : Nat) (af : Option Addr) (cf : Nat) (ps ss : Nat → Rec) (fs : Nat → Int) (w : World) (h1 : Reads w x ps ss fs)
    (h2 : Reads w { x with ap := ap, cp := cp, ao := ao, co := co, af := af, cf := cf } ps ss fs) :
    Calls Try.prog 16 #[.agg (rowB x), .agg (rowB { x with ap := ap, cp := cp, ao := ao, co := co, af := af, cf := cf })] w fun e w' => e = .returned (.bool true) ∧ Below w.heap.size w w' := by
  have hx1 : x.n ≤ 140737488351232 := by have := h1.pb; omega
  have hx2 : x.no ≤ 140737488351232 := by have := h1.sb; omega
  have hx3 : x.nf ≤ 140737488351232 := by have := h1.fb; omega
  have H1 := Lib.hid h1
  have H2 := Lib.hid h2
  clear h1 h2
  go_enter Try.func16, Try.ntmps16
  go_wp2_with fail
  go_loopw [5] (fun i wr => ∃ k : Nat, k ≤ x.n ∧ i = .int .i64 k ∧ Hid (Below (w.heap.size + 2) ((w.alloc (.cells (rowB x) 33)).alloc (.cells (rowB { x with ap := ap, cp := cp, ao := ao, co := co, af := af, cf := cf }) 33)) wr)) (fun i _ => x.n - (intOf i).toNat)
  case atStart => exact ⟨0, Nat.zero_le _, rfl, Below.refl _ _⟩
  case round =>
    obtain ⟨k, hk, rfl, hWp⟩ := hrel
    have hBx : wr.heap[w.heap.size]? = some (.cells (rowB x) 33 (0, 0)) := (hWp.out.block _ (by omega)).trans (at_old (by simp) (at_new rfl))
    have hBy : wr.heap[w.heap.size + 1]? = some (.cells (rowB { x with ap := ap, cp := cp, ao := ao, co := co, af := af, cf := cf }) 33 (0, 0)) := (hWp.out.block _ (by omega)).trans (at_new (by simp))
    have hsz : w.heap.size + 2 ≤ wr.heap.size := by have := hWp.out.size; simpa using this
    by_cases hlt : k < x.n
    · rcases H1.out.p with h0 | ⟨g, o, hap, hc⟩
      · omega
      rcases H2.out.p with h0 | ⟨g2, o2, hap2, hc2⟩
      · have h0' : x.n = 0 := h0
        omega
      have ex : wr.cell? ⟨w.heap.size, 17, none⟩ = some (.slice (some ⟨g, o, none⟩) x.n x.cp) := by
        rw [← hap]
        exact cells_of hBx 17
      have ey : wr.cell? ⟨w.heap.size + 1, 17, none⟩ = some (.slice (some ⟨g2, o2, none⟩) x.n cp) := by
        rw [← hap2]
        exact cells_of hBy 17
      have hgw : g < w.heap.size := cell_lt (hc k hlt 0 (by omega))
      have hgw2 : g2 < w.heap.size := cell_lt (hc2 k hlt 0 (by omega))
      have hww : Below w.heap.size w wr := (more (more (Below.refl _ _) _) _).trans (hWp.out.mono (by omega))
      have zx : ∀ z : Old wr.heap.size wr, z.w.cell? ⟨w.heap.size, 17, none⟩ = some (.slice (some ⟨g, o, none⟩) x.n x.cp) := fun z => (z.h.cell (p := ⟨w.heap.size, 17, none⟩) (by show w.heap.size < _; omega)).trans ex
      have zy : ∀ z : Old wr.heap.size wr, z.w.cell? ⟨w.heap.size + 1, 17, none⟩ = some (.slice (some ⟨g2, o2, none⟩) x.n cp) := fun z => (z.h.cell (p := ⟨w.heap.size + 1, 17, none⟩) (by show w.heap.size + 1 < _; omega)).trans ey
      have rx : ∀ z : Old wr.heap.size wr, z.w.rangeAt g (o + k * 89) (rowP (ps k)).toList := fun z j v hj => by
        have hj' : j < 89 := by
          have := (List.getElem?_eq_some_iff.1 hj).1
          simpa [rowP_size] using this
        rw [Nat.add_assoc, z.h.cell (p := ⟨g, _, none⟩) (by show g < _; omega), hww.cell (p := ⟨g, _, none⟩) hgw, hc k hlt j hj', ← rowP_get hj']
        simpa using hj
      have ry : ∀ z : Old wr.heap.size wr, z.w.rangeAt g2 (o2 + k * 89) (rowP (ps k)).toList := fun z j v hj => by
        have hj' : j < 89 := by
          have := (List.getElem?_eq_some_iff.1 hj).1
          simpa [rowP_size] using this
        rw [Nat.add_assoc, z.h.cell (p := ⟨g2, _, none⟩) (by show g2 < _; omega), hww.cell (p := ⟨g2, _, none⟩) hgw2, hc2 k hlt j hj', ← rowP_get hj']
        simpa using hj
      have Rx := Lib.hid rx
      have Ry := Lib.hid ry
      have hne := Old.some wr.heap.size wr
      have hk0 : (0 : Int) ≤ k := by omega
      have hk1 : (k : Int) < x.n := by omega
      clear rx ry hap hap2 hc hc2 hBx hBy hww
      go_wp2_with fail
      refine wp_region_old wr.heap.size (by kernel_rfl) (by kernel_rfl) ?_
      repeat (first | go_big_quiet_skip | (go_big_quiet_want; first | (refine quiet_row 51 _ rfl g (o + k * 89) rfl (rowP (ps k)) _ (by rintro _ ⟨z, rfl⟩; exact Rx.out z) Try.underlying51 rfl (sizeP _) ?_; go_big_quiet_on; simp only [Act.put, List.setIfInBounds_toArray, List.set_cons_zero, List.set_cons_succ]) | (refine quiet_row 51 _ rfl g2 (o2 + k * 89) rfl (rowP (ps k)) _ (by rintro _ ⟨z, rfl⟩; exact Ry.out z) Try.underlying51 rfl (sizeP _) ?_; go_big_quiet_on; simp only [Act.put, List.setIfInBounds_toArray, List.set_cons_zero, List.set_cons_succ]) | (refine quiet_neqP _ _ rfl (ps k) rfl rfl ?_; go_big_quiet_on; simp only [Act.put, List.setIfInBounds_toArray, List.set_cons_zero, List.set_cons_succ]) | (go_big_quiet_op; go_big_quiet_on)))
      refine wpQuiet_nil ?_
      rintro _ ⟨z, rfl⟩
      have hz := hWp.out.trans (z.h.mono (by omega))
      obtain ⟨wz, hwz⟩ := z
      simp only [] at hz ⊢
      have Hz := Lib.hid hz
      clear hz hwz zx zy hne ex ey
      go_wp2_with fail
      go_roundw
      case rel => exact ⟨k + 1, by omega, by go_num, Hz.out⟩
      case measure => simp [intOf]; omega
    · have ex : wr.cell? ⟨w.heap.size, 17, none⟩ = some (.slice x.ap x.n x.cp) := cells_of hBx 17
      have hk2 : (x.n : Int) ≤ k := by omega
      clear hBx hBy
      go_wp2_with fail
      clear ex hlt
      go_loopw [6] (fun i wr => ∃ k : Nat, k ≤ x.no ∧ i = .int .i64 k ∧ Hid (Below (w.heap.size + 2) ((w.alloc (.cells (rowB x) 33)).alloc (.cells (rowB { x with ap := ap, cp := cp, ao := ao, co := co, af := af, cf := cf }) 33)) wr)) (fun i _ => x.no - (intOf i).toNat)
      case atStart => exact ⟨0, Nat.zero_le _, rfl, hWp⟩
      case round =>
        obtain ⟨k, hk, rfl, hWs⟩ := hrel
        have hBx : wr.heap[w.heap.size]? = some (.cells (rowB x) 33 (0, 0)) := (hWs.out.block _ (by omega)).trans (at_old (by simp) (at_new rfl))
        have hBy : wr.heap[w.heap.size + 1]? = some (.cells (rowB { x with ap := ap, cp := cp, ao := ao, co := co, af := af, cf := cf }) 33 (0, 0)) := (hWs.out.block _ (by omega)).trans (at_new (by simp))
        have hsz : w.heap.size + 2 ≤ wr.heap.size := by have := hWs.out.size; simpa using this
        by_cases hlt : k < x.no
        · rcases H1.out.s with h0 | ⟨g, o, hap, hc⟩
          · omega
          rcases H2.out.s with h0 | ⟨g2, o2, hap2, hc2⟩
          · have h0' : x.no = 0 := h0
            omega
          have ex : wr.cell? ⟨w.heap.size, 18, none⟩ = some (.slice (some ⟨g, o, none⟩) x.no x.co) := by
            rw [← hap]
            exact cells_of hBx 18
          have ey : wr.cell? ⟨w.heap.size + 1, 18, none⟩ = some (.slice (some ⟨g2, o2, none⟩) x.no co) := by
            rw [← hap2]
            exact cells_of hBy 18
          have hgw : g < w.heap.size := cell_lt (hc k hlt 0 (by omega))
          have hgw2 : g2 < w.heap.size := cell_lt (hc2 k hlt 0 (by omega))
          have hww : Below w.heap.size w wr := (more (more (Below.refl _ _) _) _).trans (hWs.out.mono (by omega))
          have zx : ∀ z : Old wr.heap.size wr, z.w.cell? ⟨w.heap.size, 18, none⟩ = some (.slice (some ⟨g, o, none⟩) x.no x.co) := fun z => (z.h.cell (p := ⟨w.heap.size, 18, none⟩) (by show w.heap.size < _; omega)).trans ex
          have zy : ∀ z : Old wr.heap.size wr, z.w.cell? ⟨w.heap.size + 1, 18, none⟩ = some (.slice (some ⟨g2, o2, none⟩) x.no co) := fun z => (z.h.cell (p := ⟨w.heap.size + 1, 18, none⟩) (by show w.heap.size + 1 < _; omega)).trans ey
          have rx : ∀ z : Old wr.heap.size wr, z.w.rangeAt g (o + k * 18) (rowS (ss k)).toList := fun z j v hj => by
            have hj' : j < 18 := by
              have := (List.getElem?_eq_some_iff.1 hj).1
              simpa [rowS_size] using this
            rw [Nat.add_assoc, z.h.cell (p := ⟨g, _, none⟩) (by show g < _; omega), hww.cell (p := ⟨g, _, none⟩) hgw, hc k hlt j hj', ← rowS_get hj']
            simpa using hj
          have ry : ∀ z : Old wr.heap.size wr, z.w.rangeAt g2 (o2 + k * 18) (rowS (ss k)).toList := fun z j v hj => by
            have hj' : j < 18 := by
              have := (List.getElem?_eq_some_iff.1 hj).1
              simpa [rowS_size] using this
            rw [Nat.add_assoc, z.h.cell (p := ⟨g2, _, none⟩) (by show g2 < _; omega), hww.cell (p := ⟨g2, _, none⟩) hgw2, hc2 k hlt j hj', ← rowS_get hj']
            simpa using hj
          have Rx := Lib.hid rx
          have Ry := Lib.hid ry
          have hne := Old.some wr.heap.size wr
          have hk0 : (0 : Int) ≤ k := by omega
          have hk1 : (k : Int) < x.no := by omega
          clear rx ry hap hap2 hc hc2 hBx hBy hww
          go_wp2_with fail
          refine wp_region_old wr.heap.size (by kernel_rfl) (by kernel_rfl) ?_
          repeat (first | go_big_quiet_skip | (go_big_quiet_want; first | (refine quiet_row 67 _ rfl g (o + k * 18) rfl (rowS (ss k)) _ (by rintro _ ⟨z, rfl⟩; exact Rx.out z) Try.underlying67 rfl (sizeS _) ?_; go_big_quiet_on; simp only [Act.put, List.setIfInBounds_toArray, List.set_cons_zero, List.set_cons_succ]) | (refine quiet_row 67 _ rfl g2 (o2 + k * 18) rfl (rowS (ss k)) _ (by rintro _ ⟨z, rfl⟩; exact Ry.out z) Try.underlying67 rfl (sizeS _) ?_; go_big_quiet_on; simp only [Act.put, List.setIfInBounds_toArray, List.set_cons_zero, List.set_cons_succ]) | (refine quiet_neqS _ _ rfl (ss k) rfl rfl ?_; go_big_quiet_on; simp only [Act.put, List.setIfInBounds_toArray, List.set_cons_zero, List.set_cons_succ]) | (go_big_quiet_op; go_big_quiet_on)))
          refine wpQuiet_nil ?_
          rintro _ ⟨z, rfl⟩
          have hz := hWs.out.trans (z.h.mono (by omega))
          obtain ⟨wz, hwz⟩ := z
          simp only [] at hz ⊢
          have Hz := Lib.hid hz
          clear hz hwz zx zy hne ex ey
          go_wp2_with fail
          go_roundw
          case rel => exact ⟨k + 1, by omega, by go_num, Hz.out⟩
          case measure => simp [intOf]; omega
        · have ex : wr.cell? ⟨w.heap.size, 18, none⟩ = some (.slice x.ao x.no x.co) := cells_of hBx 18
          have hk2 : (x.no : Int) ≤ k := by omega
          clear hBx hBy
          go_wp2_with fail
          clear ex hlt
          go_loopw [7] (fun i wr => ∃ k : Nat, k ≤ x.nf ∧ i = .int .i64 k ∧ Hid (Below (w.heap.size + 2) ((w.alloc (.cells (rowB x) 33)).alloc (.cells (rowB { x with ap := ap, cp := cp, ao := ao, co := co, af := af, cf := cf }) 33)) wr)) (fun i _ => x.nf - (intOf i).toNat)
          case atStart => exact ⟨0, Nat.zero_le _, rfl, hWs⟩
          case round =>
            obtain ⟨k, hk, rfl, hWf⟩ := hrel
            have hBx : wr.heap[w.heap.size]? = some (.cells (rowB x) 33 (0, 0)) := (hWf.out.block _ (by omega)).trans (at_old (by simp) (at_new rfl))
            have hBy : wr.heap[w.heap.size + 1]? = some (.cells (rowB { x with ap := ap, cp := cp, ao := ao, co := co, af := af, cf := cf }) 33 (0, 0)) := (hWf.out.block _ (by omega)).trans (at_new (by simp))
            have hsz : w.heap.size + 2 ≤ wr.heap.size := by have := hWf.out.size; simpa using this
            by_cases hlt : k < x.nf
            · rcases H1.out.f with h0 | ⟨g, o, hap, hc⟩
              · omega
              rcases H2.out.f with h0 | ⟨g2, o2, hap2, hc2⟩
              · have h0' : x.nf = 0 := h0
                omega
              have ex : wr.cell? ⟨w.heap.size, 19, none⟩ = some (.slice (some ⟨g, o, none⟩) x.nf x.cf) := by
                rw [← hap]
                exact cells_of hBx 19
              have ey : wr.cell? ⟨w.heap.size + 1, 19, none⟩ = some (.slice (some ⟨g2, o2, none⟩) x.nf cf) := by
                rw [← hap2]
                exact cells_of hBy 19
              have hgw : g < w.heap.size := cell_lt (hc k hlt 0 (by omega))
              have hgw2 : g2 < w.heap.size := cell_lt (hc2 k hlt 0 (by omega))
              have hww : Below w.heap.size w wr := (more (more (Below.refl _ _) _) _).trans (hWf.out.mono (by omega))
              have zx : ∀ z : Old wr.heap.size wr, z.w.cell? ⟨w.heap.size, 19, none⟩ = some (.slice (some ⟨g, o, none⟩) x.nf x.cf) := fun z => (z.h.cell (p := ⟨w.heap.size, 19, none⟩) (by show w.heap.size < _; omega)).trans ex
              have zy : ∀ z : Old wr.heap.size wr, z.w.cell? ⟨w.heap.size + 1, 19, none⟩ = some (.slice (some ⟨g2, o2, none⟩) x.nf cf) := fun z => (z.h.cell (p := ⟨w.heap.size + 1, 19, none⟩) (by show w.heap.size + 1 < _; omega)).trans ey
              have rx : ∀ z : Old wr.heap.size wr, z.w.cell? ⟨g, o + k, none⟩ = some (.int .i64 (fs k)) := fun z => by
                have hq := hc k hlt 0 (by omega)
                rw [Nat.mul_one, Nat.add_zero] at hq
                rw [z.h.cell (p := ⟨g, _, none⟩) (by show g < _; omega), hww.cell (p := ⟨g, _, none⟩) hgw]
                exact hq
              have ry : ∀ z : Old wr.heap.size wr, z.w.cell? ⟨g2, o2 + k, none⟩ = some (.int .i64 (fs k)) := fun z => by
                have hq := hc2 k hlt 0 (by omega)
                rw [Nat.mul_one, Nat.add_zero] at hq
                rw [z.h.cell (p := ⟨g2, _, none⟩) (by show g2 < _; omega), hww.cell (p := ⟨g2, _, none⟩) hgw2]
                exact hq
              have hne := Old.some wr.heap.size wr
              have hk0 : (0 : Int) ≤ k := by omega
              have hk1 : (k : Int) < x.nf := by omega
              clear hap hap2 hc hc2 hBx hBy hww
              go_wp2_with fail
              refine wp_region_old wr.heap.size (by kernel_rfl) (by kernel_rfl) ?_
              repeat (first | go_big_quiet_skip | (go_big_quiet_want; go_big_quiet_op; go_big_quiet_on))
              refine wpQuiet_nil ?_
              rintro _ ⟨z, rfl⟩
              have hz := hWf.out.trans (z.h.mono (by omega))
              obtain ⟨wz, hwz⟩ := z
              simp only [] at hz ⊢
              have Hz := Lib.hid hz
              clear hz hwz zx zy hne ex ey rx ry
              go_wp2_with fail
              go_roundw
              case rel => exact ⟨k + 1, by omega, by go_num, Hz.out⟩
              case measure => simp [intOf]; omega
            · have ex : wr.cell? ⟨w.heap.size, 19, none⟩ = some (.slice x.af x.nf x.cf) := cells_of hBx 19
              have hk2 : (x.nf : Int) ≤ k := by omega
              clear hBx hBy
              go_wp2_with fail
              go_ret
              exact ⟨rfl, (more (more (Below.refl _ _) _) _).trans (hWf.out.mono (by omega))⟩
end Go.Proofs.Ytdangeefecdbaaa.Br
