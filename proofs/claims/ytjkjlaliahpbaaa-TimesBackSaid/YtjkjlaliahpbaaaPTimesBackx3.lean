-- PRINTED BY print.sh 35421559b90ae4d0a3588c463048766b98c2df88dd9212a6774a882060cdf62d: not written by this session
import Derived.Test.YtjkjlaliahpbaaaPTimesBackx0
import Derived.Test.YtjkjlaliahpbaaaPTimesBackx2
namespace Go.Proofs.Ytjkjlaliahpbaaa.PTimesBack
open Go.RowKit Go.Proofs.YtjkjlaliahpbaaaW.PrintWords Go.Proofs.YtjkjlaliahpbaaaW.PrintLast Go.Proofs.YtjkjlaliahpbaaaW.PrintMore
attribute [local go_sem] max2_int min2_int max_two min_two max_three min_three max_four min_four   -- for this text's walks alone
set_option linter.unusedVariables false
set_option linter.unusedSimpArgs false

/-! ### fordlaw04_TimesBack: function 5 -/
def fordlaw04_TimesBack.j0 : Nat → Int → Int → Bool → Int → Bool → Option (Bool)
  | 0, _, _, _, _, _ => none
  | k + 1, x0, x1, x5, x6, x16 => if x16 = true then (some false) else (if x5 = true then ((times_To.f (wrap64 (x0))).bind fun t124 => ((times_From.f t124).bind fun t125 => (if t125 = (wrap64 (x0)) then (if (wrap64 ((wrap64 (256 * x6)) - (wrap64 (x1)))) ≥ (-127) then (some (decide ((wrap64 ((wrap64 (256 * x6)) - (wrap64 (x1)))) ≤ 128))) else (some false)) else (some false)))) else (some false))
def fordlaw04_TimesBack.f (k : Nat) (a0 : Int) (a1 : Int) : Option (Bool) := (fordlaw04_awake.f).bind fun t122 => ((times_From.f a1).bind fun t123 => (if t123 < 0 then (fordlaw04_TimesBack.j0 k a0 a1 t122 t123 true) else (fordlaw04_TimesBack.j0 k a0 a1 t122 t123 (decide (t123 > 256)))))
theorem fordlaw04_TimesBack.mono_l : ∀ k, (∀ y0 y1 y2 y3 y4, LeO (fordlaw04_TimesBack.j0 k y0 y1 y2 y3 y4) (fordlaw04_TimesBack.j0 (k + 1) y0 y1 y2 y3 y4))
  | 0 => fun _ _ _ _ _ r h => by simp [fordlaw04_TimesBack.j0] at h
  | k + 1 => by
    have ih0 := fordlaw04_TimesBack.mono_l k
    · intro y0 y1 y2 y3 y4
      unfold fordlaw04_TimesBack.j0
      repeat' first
      | (with_reducible exact ih0 _ _ _ _ _)
      | (with_reducible exact LeO.refl _)
      | (with_reducible exact LeO.none _)
      | (with_reducible refine LeO.ite ?_ ?_)
      | (with_reducible refine LeO.bind ?_ (fun _ => ?_))
      | exact ih0 _ _ _ _ _
      | exact LeO.none _
      | refine LeO.ite ?_ ?_
      | refine LeO.bind ?_ (fun _ => ?_)
theorem fordlaw04_TimesBack.mono : ∀ a0 a1 k, LeO (fordlaw04_TimesBack.f k a0 a1) (fordlaw04_TimesBack.f (k + 1) a0 a1) := by
  intro a0 a1 k
  have ih0 := fordlaw04_TimesBack.mono_l k
  unfold fordlaw04_TimesBack.f
  repeat' first
      | (with_reducible exact ih0 _ _ _ _ _)
      | (with_reducible exact LeO.refl _)
      | (with_reducible exact LeO.none _)
      | (with_reducible refine LeO.ite ?_ ?_)
      | (with_reducible refine LeO.bind ?_ (fun _ => ?_))
      | exact ih0 _ _ _ _ _
      | exact LeO.none _
      | refine LeO.ite ?_ ?_
      | refine LeO.bind ?_ (fun _ => ?_)
set_option maxHeartbeats 8000000 in
set_option maxRecDepth 100000 in
theorem fordlaw04_TimesBack.calls (k : Nat) (a0 : Int) (a1 : Int) (r : Bool) (w : World) (h : fordlaw04_TimesBack.f k a0 a1 = some r) :
    Calls Try.prog 5 #[.int .u8 a0, .int .u16 a1] w fun e w' => e = .returned (.bool r) ∧ Below w.heap.size w w' := by
  have HB := Aside0.mk (Below.refl w.heap.size w)
  have H : ((fordlaw04_awake.f).bind fun t122 => ((times_From.f a1).bind fun t123 => (if t123 < 0 then (fordlaw04_TimesBack.j0 k a0 a1 t122 t123 true) else (fordlaw04_TimesBack.j0 k a0 a1 t122 t123 (decide (t123 > 256)))))) = some r := h
  clear h
  replace H := Option.bind_eq_some_iff.mp H
  obtain ⟨t122, A30, H⟩ := H
  replace H : ((times_From.f a1).bind fun t123 => (if t123 < 0 then (fordlaw04_TimesBack.j0 k a0 a1 t122 t123 true) else (fordlaw04_TimesBack.j0 k a0 a1 t122 t123 (decide (t123 > 256))))) = some r := H
  have A3 := Aside0.mk A30
  clear A30
  replace H := Option.bind_eq_some_iff.mp H
  obtain ⟨t123, A40, H⟩ := H
  replace H : (if t123 < 0 then (fordlaw04_TimesBack.j0 k a0 a1 t122 t123 true) else (fordlaw04_TimesBack.j0 k a0 a1 t122 t123 (decide (t123 > 256)))) = some r := H
  have A4 := Aside0.mk A40
  clear A40
  have HC5 := Aside0.mk H
  clear H
  go_enter Try.func5, Try.ntmps5
  go_upto_region 3 with (first | ((with_reducible refine gate_callee (f := 8) rfl ?_); refine goesL_ (some 8) rfl rfl Try.func8 (by kernel_rfl) rfl #[] rfl (by (try simp only [List.map_toArray, List.map_cons, List.map_nil]); first | done | rfl | (simp only [List.length_drop, List.length_take]; rfl)) ?_; (with_reducible refine (fordlaw04_awake.calls  t122 _ A3.out).mono ?_); rintro e w6 ⟨rfl, hb⟩; refine ⟨_, rfl, ?_⟩; have n0_ := Aside0.mk (below_step (by repeat (first | (with_reducible first | exact HB.out | apply below_alloc | apply pw_below_drewN | apply below_drew1) | exact HB.out)) hb); clear HB; have HB := n0_; clear n0_; (try clear hb); (try clear hb2); (try clear hk); (try clear hi)) | ((with_reducible refine gate_callee (f := 17) rfl ?_); refine goesL_ (some 10) rfl rfl Try.func17 (by kernel_rfl) rfl #[.int .u16 a1] rfl (by (try simp only [List.map_toArray, List.map_cons, List.map_nil]); first | done | rfl | (simp only [List.length_drop, List.length_take]; rfl)) ?_; (with_reducible refine (times_From.calls a1 t123 _ A4.out).mono ?_); rintro e w' ⟨rfl, ⟨nd, rfl⟩⟩; refine ⟨_, rfl, ?_⟩))
  (try simp only [Act.put, List.setIfInBounds_toArray, List.set_cons_zero, List.set_cons_succ])
  go_cut [16] (fun v16 wc => ∃ (kq : Nat) (x16_4 : Bool), v16 = .bool x16_4 ∧ Aside0 (fordlaw04_TimesBack.j0 kq a0 a1 t122 t123 x16_4 = some r) ∧ Aside0 (kq ≤ k) ∧ Aside0 (Below w.heap.size w wc))
  case first =>
    have H := HC5.out
    clear HC5
    by_cases c7 : t123 < 0
    · rw [if_pos c7] at H
      have c7b0 : decide (t123 < 0) = true := decide_eq_true c7
      clear c7
      (first | rw [c7b0] | (simp only [i64_w, i32_w]; rw [c7b0]) | skip)
      have H' := Aside0.mk H
      clear H
      go_wp2
      go_meet
      case rel => exact ⟨_, (true), (by first | rfl | (simp; done) | (simp [*]; done)), H', ⟨by first | omega | exact Nat.le_refl _⟩, ⟨by repeat (first | (with_reducible first | exact HB.out | apply below_alloc | apply pw_below_drewN | apply below_drew1) | exact HB.out)⟩⟩
    · rw [if_neg c7] at H
      have c7b0 : decide (t123 < 0) = false := decide_eq_false c7
      clear c7
      (first | rw [c7b0] | (simp only [i64_w, i32_w]; rw [c7b0]) | skip)
      have H' := Aside0.mk H
      clear H
      go_wp2
      go_meet
      case rel => exact ⟨_, (decide (t123 > 256)), (by first | rfl | (simp; done) | (simp [*]; done)), H', ⟨by first | omega | exact Nat.le_refl _⟩, ⟨by repeat (first | (with_reducible first | exact HB.out | apply below_alloc | apply pw_below_drewN | apply below_drew1) | exact HB.out)⟩⟩
  case rest =>
    clear HC5
    try clear c1
    try clear p2
    try clear c5
    try clear c7
    try clear c7b0
    obtain ⟨kq, x16_4, rfl, HA, HJ4, HB⟩ := hcut
    cases kq with
    | zero => exact absurd HA.out (by simp [fordlaw04_TimesBack.j0])
    | succ kj4 =>
      have H := HA.out
      clear HA
      simp only [fordlaw04_TimesBack.j0] at H
      by_cases c8 : x16_4 = true
      · subst c8
        have H1 : (some false) = some r := by rw [if_pos rfl] at H; exact H
        clear H
        have H := H1
        clear H1
        obtain rfl := Option.some.inj H
        go_wp2
        go_ret
        exact ⟨by first | rfl | (simp [errW_none, errW_some] <;> rfl) | (simp [*, errW_none, errW_some] <;> rfl), by repeat (first | (with_reducible first | exact HB.out | apply below_alloc | apply pw_below_drewN | apply below_drew1) | exact HB.out)⟩
      · replace c8 := Bool.eq_false_iff.mpr c8
        subst c8
        have H1 : (if t122 = true then ((times_To.f (wrap64 (a0))).bind fun t124 => ((times_From.f t124).bind fun t125 => (if t125 = (wrap64 (a0)) then (if (wrap64 ((wrap64 (256 * t123)) - (wrap64 (a1)))) ≥ (-127) then (some (decide ((wrap64 ((wrap64 (256 * t123)) - (wrap64 (a1)))) ≤ 128))) else (some false)) else (some false)))) else (some false)) = some r := by rw [if_neg (show ¬ (false = true) by decide)] at H; exact H
        clear H
        have H := H1
        clear H1
        by_cases c9 : t122 = true
        · subst c9
          have H1 : ((times_To.f (wrap64 (a0))).bind fun t124 => ((times_From.f t124).bind fun t125 => (if t125 = (wrap64 (a0)) then (if (wrap64 ((wrap64 (256 * t123)) - (wrap64 (a1)))) ≥ (-127) then (some (decide ((wrap64 ((wrap64 (256 * t123)) - (wrap64 (a1)))) ≤ 128))) else (some false)) else (some false)))) = some r := by rw [if_pos rfl] at H; exact H
          clear H
          have H := H1
          clear H1
          replace H := Option.bind_eq_some_iff.mp H
          obtain ⟨t124, A100, H⟩ := H
          replace H : ((times_From.f t124).bind fun t125 => (if t125 = (wrap64 (a0)) then (if (wrap64 ((wrap64 (256 * t123)) - (wrap64 (a1)))) ≥ (-127) then (some (decide ((wrap64 ((wrap64 (256 * t123)) - (wrap64 (a1)))) ≤ 128))) else (some false)) else (some false))) = some r := H
          have A10 := Aside0.mk A100
          clear A100
          replace H := Option.bind_eq_some_iff.mp H
          obtain ⟨t125, A110, H⟩ := H
          replace H : (if t125 = (wrap64 (a0)) then (if (wrap64 ((wrap64 (256 * t123)) - (wrap64 (a1)))) ≥ (-127) then (some (decide ((wrap64 ((wrap64 (256 * t123)) - (wrap64 (a1)))) ≤ 128))) else (some false)) else (some false)) = some r := H
          have A11 := Aside0.mk A110
          clear A110
          by_cases c12 : t125 = (wrap64 (a0))
          · rw [if_pos c12] at H
            have c12b0 : (t125 == (wrap64 (a0))) = true := beq_iff_eq.mpr c12
            have c12b1 : (t125 != (wrap64 (a0))) = false := bne_eq_false_iff_eq.mpr c12
            clear c12
            by_cases c13 : (wrap64 ((wrap64 (256 * t123)) - (wrap64 (a1)))) ≥ (-127)
            · rw [if_pos c13] at H
              have c13b0 : decide ((-127) ≤ (wrap64 ((wrap64 (256 * t123)) - (wrap64 (a1))))) = true := decide_eq_true c13
              clear c13
              obtain rfl := Option.some.inj H
              go_wp2_with (first | (go_at_call 15; (with_reducible refine (times_To.calls (wrap64 (a0)) t124 _ A10.out).mono ?_); rintro e w14 ⟨rfl, hb⟩; have n0_ := Aside0.mk (below_step (by repeat (first | (with_reducible first | exact HB.out | apply below_alloc | apply pw_below_drewN | apply below_drew1) | exact HB.out)) hb); clear HB; have HB := n0_; clear n0_; (try clear hb); (try clear hb2); (try clear hk); (try clear hi)) | (go_at_call 17; (with_reducible refine (times_From.calls t124 t125 _ A11.out).mono ?_); rintro e w' ⟨rfl, ⟨nd, rfl⟩⟩))
              go_ret
              exact ⟨by first | rfl | (simp [errW_none, errW_some] <;> rfl) | (simp [*, errW_none, errW_some] <;> rfl), by repeat (first | (with_reducible first | exact HB.out | apply below_alloc | apply pw_below_drewN | apply below_drew1) | exact HB.out)⟩
            · rw [if_neg c13] at H
              have c13b0 : decide ((-127) ≤ (wrap64 ((wrap64 (256 * t123)) - (wrap64 (a1))))) = false := decide_eq_false c13
              clear c13
              obtain rfl := Option.some.inj H
              go_wp2_with (first | (go_at_call 15; (with_reducible refine (times_To.calls (wrap64 (a0)) t124 _ A10.out).mono ?_); rintro e w15 ⟨rfl, hb⟩; have n0_ := Aside0.mk (below_step (by repeat (first | (with_reducible first | exact HB.out | apply below_alloc | apply pw_below_drewN | apply below_drew1) | exact HB.out)) hb); clear HB; have HB := n0_; clear n0_; (try clear hb); (try clear hb2); (try clear hk); (try clear hi)) | (go_at_call 17; (with_reducible refine (times_From.calls t124 t125 _ A11.out).mono ?_); rintro e w' ⟨rfl, ⟨nd, rfl⟩⟩))
              go_ret
              exact ⟨by first | rfl | (simp [errW_none, errW_some] <;> rfl) | (simp [*, errW_none, errW_some] <;> rfl), by repeat (first | (with_reducible first | exact HB.out | apply below_alloc | apply pw_below_drewN | apply below_drew1) | exact HB.out)⟩
          · rw [if_neg c12] at H
            have c12b0 : (t125 == (wrap64 (a0))) = false := beq_eq_false_iff_ne.mpr c12
            have c12b1 : (t125 != (wrap64 (a0))) = true := bne_iff_ne.mpr c12
            obtain rfl := Option.some.inj H
            go_wp2_with (first | (go_at_call 15; (with_reducible refine (times_To.calls (wrap64 (a0)) t124 _ A10.out).mono ?_); rintro e w16 ⟨rfl, hb⟩; have n0_ := Aside0.mk (below_step (by repeat (first | (with_reducible first | exact HB.out | apply below_alloc | apply pw_below_drewN | apply below_drew1) | exact HB.out)) hb); clear HB; have HB := n0_; clear n0_; (try clear hb); (try clear hb2); (try clear hk); (try clear hi)) | (go_at_call 17; (with_reducible refine (times_From.calls t124 t125 _ A11.out).mono ?_); rintro e w' ⟨rfl, ⟨nd, rfl⟩⟩))
            go_ret
            exact ⟨by first | rfl | (simp [errW_none, errW_some] <;> rfl) | (simp [*, errW_none, errW_some] <;> rfl), by repeat (first | (with_reducible first | exact HB.out | apply below_alloc | apply pw_below_drewN | apply below_drew1) | exact HB.out)⟩
        · replace c9 := Bool.eq_false_iff.mpr c9
          subst c9
          have H1 : (some false) = some r := by rw [if_neg (show ¬ (false = true) by decide)] at H; exact H
          clear H
          have H := H1
          clear H1
          obtain rfl := Option.some.inj H
          go_wp2
          go_ret
          exact ⟨by first | rfl | (simp [errW_none, errW_some] <;> rfl) | (simp [*, errW_none, errW_some] <;> rfl), by repeat (first | (with_reducible first | exact HB.out | apply below_alloc | apply pw_below_drewN | apply below_drew1) | exact HB.out)⟩

/-- THE ONE PURE STATEMENT of fordlaw04_TimesBack: yours. -/
def fordlaw04_TimesBack.Pure : Prop := ∀ (a0 : Int) (a1 : Int), (Lit.int .u8 a0).wf = true → (Lit.int .u16 a1).wf = true → ∃ k, fordlaw04_TimesBack.f k a0 a1 = some true
theorem fordlaw04_TimesBack.walk (P : fordlaw04_TimesBack.Pure) (a0 : Int) (a1 : Int) (w : World) (w0 : (Lit.int .u8 a0).wf = true) (w1 : (Lit.int .u16 a1).wf = true) :
    Calls Try.prog 5 #[.int .u8 a0, .int .u16 a1] w fun e w' => e = .returned (.bool true) ∧ Below w.heap.size w w' := by
  obtain ⟨k, h⟩ := P a0 a1 w0 w1
  refine (fordlaw04_TimesBack.calls k a0 a1 true w h).mono ?_
  rintro e w' ⟨rfl, hd⟩
  exact ⟨rfl, hd⟩

end Go.Proofs.Ytjkjlaliahpbaaa.PTimesBack
