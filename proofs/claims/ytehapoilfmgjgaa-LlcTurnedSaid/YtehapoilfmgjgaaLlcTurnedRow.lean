/- The row of law LlcTurned of layer 06: for every input it returns true, and the input reads as it did. -/
import Derived.Test.YtehapoilfmgjgaaRows
import Derived.Test.YtehapoilfmgjgaaLlcTurnedLaw
import Derived.Test.YtehapoilfmgjgaaFl
import Derived.WalkKit
import Derived.ProofKit
import Derived.OpenShut
import Derived.ChangeOld
import Derived.Below
import Derived.SizedLaws
import Derived.Lib.SmallJoins
namespace Go.Proofs.Ytehapoilfmgjgaa.LlcTurnedRow
open Go.RowKit Go.Joins Go.ChangeShapes Go.WideShapes Go.ChangeAt Go.Proofs.Ytehapoilfmgjgaa.Oct
theorem laidOut : laidOutB Try.prog = true := by kernel_rfl
theorem own : ownKnob Try.prog.godebug = none := by kernel_rfl
set_option maxRecDepth 100000 in
theorem lifted (os : Os) (started : os.Started) (H : Type) (enc : TypeId × Value → H) :
    ReturnsInHanded {} Try.checked os 4 .any (Rows.llcTurnedSpec.pre6 enc Try.prog Try.f4 Rows.llcTurnedRow.domain false) (Rows.llcTurnedSpec.post enc Try.prog Try.f4 false true false false) := by
  refine returnsInHanded_of_change_sized (C := Try.checked) own started (by kernel_rfl) Try.func4
    (ChangeSpec.witness6 (enc := enc) (C := Try.checked) false ⟨#[], #[.int .u64 0, .agg (rowM zeroMsg), .int .u8 0, .int .u8 0, .int .u8 0], []⟩ 8 (by kernel_rfl) (by kernel_rfl) (by kernel_rfl) (by kernel_rfl)) ?_
  intro W base args ds gs before hval0 hW hcnd hsz0 _
  have hval : ∀ (j : Nat) t v, Try.f4.params[j]? = some t → args[j]? = some v → Value.okWide Try.prog W .any base t v := hval0
  have hW' := hW
  obtain ⟨p, q, hA0, hV, rfl, hfz, hnd⟩ := hW
  have hA : DataW.TrodAll enc Try.prog W 0 (fun _ => true) true Try.f4.params.toList args.toList ds p := hA0
  rw [Try.params4] at hA hval
  obtain ⟨v0, vs0, d0, ds0, p0, q0, hargs0, rfl, rfl, h0, r0⟩ := trodAll_cons hA
  obtain ⟨v1, vs1, d1, ds1, p1, q1, hargs1, rfl, rfl, h1, r1⟩ := trodAll_cons r0
  obtain ⟨v2, vs2, d2, ds2, p2, q2, hargs2, rfl, rfl, h2, r2⟩ := trodAll_cons r1
  obtain ⟨v3, vs3, d3, ds3, p3, q3, hargs3, rfl, rfl, h3, r3⟩ := trodAll_cons r2
  obtain ⟨v4, vs4, d4, ds4, p4, q4, hargs4, rfl, rfl, h4, r4⟩ := trodAll_cons r3
  obtain ⟨rfl, rfl, rfl⟩ := trodAll_nil r4
  subst hargs1
  subst hargs2
  subst hargs3
  subst hargs4
  obtain rfl : args = #[v0, v1, v2, v3, v4] := by cases args; simp_all
  obtain ⟨rfl, rfl⟩ := trodVars_none hV
  obtain ⟨a0, rfl, rfl, rfl, wa0⟩ := open_int Try.underlying22 (hval 0 22 v0 rfl rfl) h0
  have ha0 : 0 ≤ a0 ∧ a0 < 18446744073709551616 := by have h := bounds_u64 wa0; omega
  have h1k := h1
  have hlt1 : ∀ x ∈ p1, x.block < W.heap.size := fun x hx => hW'.lt x (by simp [hx])
  obtain ⟨m1, rfl, hm1⟩ := open_msg (hval 1 30 v1 rfl rfl) h1
  obtain ⟨a2, rfl, rfl, rfl, wa2⟩ := open_int Try.underlying5 (hval 2 5 v2 rfl rfl) h2
  have ha2 : 0 ≤ a2 ∧ a2 ≤ 255 := bounds_u8 wa2
  obtain ⟨i2, rfl⟩ := Int.eq_ofNat_of_zero_le ha2.1
  have hi2 : i2 ≤ 255 := by omega
  obtain ⟨a3, rfl, rfl, rfl, wa3⟩ := open_int Try.underlying5 (hval 3 5 v3 rfl rfl) h3
  have ha3 : 0 ≤ a3 ∧ a3 ≤ 255 := bounds_u8 wa3
  obtain ⟨i3, rfl⟩ := Int.eq_ofNat_of_zero_le ha3.1
  have hi3 : i3 ≤ 255 := by omega
  obtain ⟨a4, rfl, rfl, rfl, wa4⟩ := open_int Try.underlying5 (hval 4 5 v4 rfl rfl) h4
  have ha4 : 0 ≤ a4 ∧ a4 ≤ 255 := bounds_u8 wa4
  obtain ⟨i4, rfl⟩ := Int.eq_ofNat_of_zero_le ha4.1
  have hi4 : i4 ≤ 255 := by omega
  clear hA0 hval0 hsz0
  refine (turned_any W a0 ha0 m1 hm1 i2 hi2 i3 hi3 i4 hi4).mono fun e W' ⟨he, bel⟩ => ?_
  subst he
  exact ⟨_, rfl, _, _, _, [], _, [], hW', trodAll_mk1 (shut_bool Try.underlying4 _), (trodAll_cons_mk (shut_int Try.underlying22 wa0) (trodAll_cons_mk (Below.trod laidOut (by kernel_rfl) (of_decide_eq_true (by kernel_rfl)) h1k bel hlt1) (trodAll_cons_mk (shut_int Try.underlying5 wa2) (trodAll_cons_mk (shut_int Try.underlying5 wa3) (trodAll_cons_mk (shut_int Try.underlying5 wa4) trodAll_mk0))))), rfl, bel.frame _, fun h => by cases h⟩
theorem over : Rows.llcTurnedRow.holds Try.pinned (OpenSpec.ofChange Rows.llcTurnedSpec) :=
  OpenClaim.holds_of_wide 4 Try.f4 rfl rfl rfl rfl rfl rfl rfl ⟨rfl, rfl, rfl, rfl, rfl⟩ rfl rfl rfl rfl rfl (by kernel_rfl) Try.func4 (by kernel_rfl)
    (of_decide_eq_true (by kernel_rfl)) (by unfold Func.isWrapper; first | (rw [if_pos (by decide +kernel)]; kernel_rfl) | (rw [if_neg (by decide +kernel)]; exact ⟨rfl, rfl⟩))
    (fun os started H enc _ => lifted os started H enc)
theorem proved : Rows.LlcTurnedSaid := over
end Go.Proofs.Ytehapoilfmgjgaa.LlcTurnedRow
namespace Go.Proofs.Ytehapoilfmgjgaa
/-- The row, under a short name, for the claim. -/
theorem llcTurned_holds : Rows.LlcTurnedSaid := LlcTurnedRow.proved
#print axioms llcTurned_holds
end Go.Proofs.Ytehapoilfmgjgaa
