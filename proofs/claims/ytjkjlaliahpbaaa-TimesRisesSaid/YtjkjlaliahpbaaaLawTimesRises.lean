/- Law TimesRises of layer 4 holds for all inputs: more seconds are no fewer 256ths, and the other way round; no condition. -/
import Derived.Test.YtjkjlaliahpbaaaRows
import Derived.Test.YtjkjlaliahpbaaaPTimesRisesx2
import Derived.Laws.BitsAllLaws
import Derived.WalkKit
import Derived.ProofKit
import Derived.OpenShut
import Derived.ShutString
import Derived.ChangeOld
import Derived.Below
import Derived.SizedLaws
namespace Go.Proofs.Ytjkjlaliahpbaaa.Rises
open Go.RowKit Go.Proofs.Ytjkjlaliahpbaaa.PTimesRises Go.Proofs.YtjkjlaliahpbaaaW.PrintWords Go.Proofs.YtjkjlaliahpbaaaW.PrintLast Go.Proofs.YtjkjlaliahpbaaaW.PrintMore
theorem awake_is : fordlaw04_awake.f = some true := by decide +kernel

theorem to_is (a : Int) : times_To.f a = some ((if a < 0 then 0 else if 255 < a then 255 else a) * 256) := by
  unfold times_To.f mn mx
  congr 1
  split <;> split <;> (try split) <;> (try split) <;> omega

theorem from_is {x : Int} (h0 : 0 ≤ x) (h1 : x ≤ 65535) : times_From.f x = some ((x + 128) / 256) := by
  have e1 : wrap64 x = x := by unfold wrap64; omega
  have e2 : wrap64 (x + 128) = x + 128 := by unfold wrap64; omega
  have e3 : Int.tdiv (x + 128) 256 = (x + 128) / 256 := Int.tdiv_eq_ediv_of_nonneg (by omega)
  have e4 : wrap64 ((x + 128) / 256) = (x + 128) / 256 := by unfold wrap64; omega
  unfold times_From.f
  rw [e1, e2, e3, e4]

/-- A number of seconds in 256ths. -/
def T (a : Int) : Int := (if a < 0 then 0 else if 255 < a then 255 else a) * 256
/-- A number of 256ths in seconds. -/
def F (x : Int) : Int := (x + 128) / 256
theorem to_any (a : Int) (w : World) : Calls Try.prog 15 #[.int .i64 a] w fun e w' => e = .returned (.int .u16 (T a)) ∧ Below w.heap.size w w' :=
  times_To.calls a _ w (to_is a)
theorem from_any {x : Int} (w : World) (h0 : 0 ≤ x) (h1 : x ≤ 65535) : Calls Try.prog 17 #[.int .u16 x] w fun e w' => e = .returned (.int .i64 (F x)) ∧ Below w.heap.size w w' :=
  (times_From.calls x _ w (from_is h0 h1)).mono fun _ _ ⟨he, hd⟩ => ⟨he, hd.below⟩
theorem awake_any (w : World) : Calls Try.prog 8 #[] w fun e w' => e = .returned (.bool true) ∧ Below w.heap.size w w' :=
  fordlaw04_awake.calls true w awake_is
theorem t_le {a b : Int} (h : a ≤ b) : T a ≤ T b := by
  unfold T
  split <;> split <;> (try split) <;> (try split) <;> omega
theorem f_le {a b : Int} (h : a ≤ b) : F a ≤ F b := by
  unfold F
  omega
theorem t_mod (a : Int) : Int.tmod (T a) 256 = 0 := by
  unfold T
  exact Int.mul_tmod_left _ _
theorem bnext {w w1 w2 : World} (h : Below w.heap.size w w1) (k : Below w1.heap.size w1 w2) : Below w.heap.size w w2 := h.trans (k.mono h.size)

set_option maxHeartbeats 1000000 in
theorem law (a b x y : Int) (w : World) (hx : 0 ≤ x ∧ x ≤ 65535) (hy : 0 ≤ y ∧ y ≤ 65535) :
    Calls Try.prog 7 #[.int .i64 a, .int .i64 b, .int .u16 x, .int .u16 y] w fun e w' => e = .returned (.bool true) ∧ Below w.heap.size w w' := by
  have hm := t_mod a
  obtain ⟨hx0, hx1⟩ := hx
  obtain ⟨hy0, hy1⟩ := hy
  by_cases c1 : b < a
  all_goals by_cases c2 : y < x
  · have d1 : decide (b < a) = true := decide_eq_true c1
    have d2 : decide (y < x) = true := decide_eq_true c2
    clear c1 c2
    go_enter Try.func7, Try.ntmps7
    go_wp2_with (first | (go_at_call 8; refine (awake_any _).mono ?_; rintro e w1 ⟨rfl, hb1⟩) | (go_at_call 15; refine (to_any _ _).mono ?_; rintro e w2 ⟨rfl, hb2⟩))
    go_ret
    exact ⟨rfl, bnext hb1 hb2⟩
  · have d1 : decide (b < a) = true := decide_eq_true c1
    have d2 : decide (y < x) = false := decide_eq_false c2
    have d3 : decide (F x ≤ F y) = true := decide_eq_true (f_le (by omega))
    clear c1 c2
    go_enter Try.func7, Try.ntmps7
    go_wp2_with (first | (go_at_call 8; refine (awake_any _).mono ?_; rintro e w1 ⟨rfl, hb1⟩) | (go_at_call 15; refine (to_any _ _).mono ?_; rintro e w4 ⟨rfl, hb4⟩) | (go_at_call_of 17 x; refine (from_any _ hx0 hx1).mono ?_; rintro e w2 ⟨rfl, hb2⟩) | (go_at_call_of 17 y; refine (from_any _ hy0 hy1).mono ?_; rintro e w3 ⟨rfl, hb3⟩))
    go_ret
    exact ⟨rfl, bnext (bnext (bnext hb1 hb2) hb3) hb4⟩
  · have d1 : decide (b < a) = false := decide_eq_false c1
    have d2 : decide (y < x) = true := decide_eq_true c2
    have d3 : decide (T a ≤ T b) = true := decide_eq_true (t_le (by omega))
    clear c1 c2
    go_enter Try.func7, Try.ntmps7
    go_wp2_with fail
    refine (awake_any _).mono ?_
    rintro e w1 ⟨rfl, hb1⟩
    go_wp2_with fail
    refine (to_any _ _).mono ?_
    rintro e w2 ⟨rfl, hb2⟩
    go_wp2_with fail
    refine (to_any _ _).mono ?_
    rintro e w3 ⟨rfl, hb3⟩
    go_wp2_with fail
    refine (to_any _ _).mono ?_
    rintro e w4 ⟨rfl, hb4⟩
    go_wp2_with fail
    go_ret
    exact ⟨rfl, bnext (bnext (bnext hb1 hb2) hb3) hb4⟩
  · have d1 : decide (b < a) = false := decide_eq_false c1
    have d2 : decide (y < x) = false := decide_eq_false c2
    have d3 : decide (T a ≤ T b) = true := decide_eq_true (t_le (by omega))
    have d4 : decide (F x ≤ F y) = true := decide_eq_true (f_le (by omega))
    clear c1 c2
    go_enter Try.func7, Try.ntmps7
    go_wp2_with fail
    refine (awake_any _).mono ?_
    rintro e w1 ⟨rfl, hb1⟩
    go_wp2_with fail
    refine (to_any _ _).mono ?_
    rintro e w2 ⟨rfl, hb2⟩
    go_wp2_with fail
    refine (to_any _ _).mono ?_
    rintro e w3 ⟨rfl, hb3⟩
    go_wp2_with fail
    refine (from_any _ hx0 hx1).mono ?_
    rintro e w4 ⟨rfl, hb4⟩
    go_wp2_with fail
    refine (from_any _ hy0 hy1).mono ?_
    rintro e w5 ⟨rfl, hb5⟩
    go_wp2_with fail
    refine (to_any _ _).mono ?_
    rintro e w6 ⟨rfl, hb6⟩
    go_wp2_with fail
    go_ret
    exact ⟨rfl, bnext (bnext (bnext (bnext (bnext hb1 hb2) hb3) hb4) hb5) hb6⟩

open Go.ChangeShapes Go.WideShapes Go.ChangeAt
open Go.ChangeMaps (open_string shut_string)
theorem own : ownKnob Try.prog.godebug = none := by kernel_rfl
set_option maxRecDepth 100000 in
theorem lifted (os : Os) (started : os.Started) (H : Type) (enc : TypeId × Value → H) :
    ReturnsInHanded {} Try.checked os 7 .any (Rows.timesRisesSpec.pre6 enc Try.prog Try.f7 Rows.timesRisesRow.domain false) (Rows.timesRisesSpec.post enc Try.prog Try.f7 false true false false) := by
  refine returnsInHanded_of_change_sized (C := Try.checked) own started (by kernel_rfl) Try.func7
    (ChangeSpec.witness6 (enc := enc) (C := Try.checked) false ⟨#[], #[.int .i64 0, .int .i64 0, .int .u16 0, .int .u16 0], []⟩ 8 (by kernel_rfl) (by kernel_rfl) (by kernel_rfl) (by kernel_rfl)) ?_
  intro W base args ds gs before hval0 hW hcnd hsz0 _
  have hval : ∀ (j : Nat) t v, Try.f7.params[j]? = some t → args[j]? = some v → Value.okWide Try.prog W .any base t v := hval0
  have hW' := hW
  obtain ⟨p, q, hA0, hV, rfl, hfz, hnd⟩ := hW
  have hA : DataW.TrodAll enc Try.prog W 0 (fun _ => true) true Try.f7.params.toList args.toList ds p := hA0
  rw [Try.params7] at hA hval
  obtain ⟨v0, vs0, d0, ds0, p0, q0, hargs, rfl, rfl, h0, r0⟩ := trodAll_cons hA
  obtain ⟨v1, vs1, d1, ds1, p1, q1, rfl, rfl, rfl, h1, r1⟩ := trodAll_cons r0
  obtain ⟨v2, vs2, d2, ds2, p2, q2, rfl, rfl, rfl, h2, r2⟩ := trodAll_cons r1
  obtain ⟨v3, vs3, d3, ds3, p3, q3, rfl, rfl, rfl, h3, r3⟩ := trodAll_cons r2
  obtain ⟨rfl, rfl, rfl⟩ := trodAll_nil r3
  obtain rfl : args = #[v0, v1, v2, v3] := by cases args; simp_all
  obtain ⟨rfl, rfl⟩ := trodVars_none hV
  obtain ⟨a0, rfl, rfl, rfl, w0⟩ := open_int Try.underlying3 (hval 0 3 v0 rfl rfl) h0
  obtain ⟨a1, rfl, rfl, rfl, w1⟩ := open_int Try.underlying3 (hval 1 3 v1 rfl rfl) h1
  obtain ⟨a2, rfl, rfl, rfl, w2⟩ := open_int Try.underlying28 (hval 2 28 v2 rfl rfl) h2
  obtain ⟨a3, rfl, rfl, rfl, w3⟩ := open_int Try.underlying28 (hval 3 28 v3 rfl rfl) h3
  clear hA0 hval0 hsz0
  refine (law a0 a1 a2 a3 W (bounds_u16 w2) (bounds_u16 w3)).mono fun e W' ⟨he, bel⟩ => ?_
  subst he
  exact ⟨_, rfl, _, _, _, [], _, [], hW', trodAll_mk1 (shut_bool Try.underlying4 _), (trodAll_cons_mk (shut_int Try.underlying3 w0) (trodAll_cons_mk (shut_int Try.underlying3 w1) (trodAll_cons_mk (shut_int Try.underlying28 w2) (trodAll_cons_mk (shut_int Try.underlying28 w3) trodAll_mk0)))), rfl, bel.frame _, fun h => by cases h⟩
theorem over : Rows.timesRisesRow.holds Try.pinned (OpenSpec.ofChange Rows.timesRisesSpec) :=
  OpenClaim.holds_of_wide 7 Try.f7 rfl rfl rfl rfl rfl rfl rfl ⟨rfl, rfl, rfl, rfl, rfl⟩ rfl rfl rfl rfl rfl (by kernel_rfl) Try.func7 (by kernel_rfl)
    (of_decide_eq_true (by kernel_rfl)) (by unfold Func.isWrapper; first | (rw [if_pos (by decide +kernel)]; kernel_rfl) | (rw [if_neg (by decide +kernel)]; exact ⟨rfl, rfl⟩))
    (fun os started H enc _ => lifted os started H enc)
theorem proved : Rows.TimesRisesSaid := over
end Go.Proofs.Ytjkjlaliahpbaaa.Rises
namespace Go.Proofs.Ytjkjlaliahpbaaa
/-- The row, under a short name, for the claim. -/
theorem timesRises_holds : Rows.TimesRisesSaid := Rises.proved
#print axioms timesRises_holds
end Go.Proofs.Ytjkjlaliahpbaaa
