/- The row of law LlcBack of layer 06: for every input it returns true, and the input reads as it did. -/
import Derived.Test.YtehapoilfmgjgaaRows
import Derived.Test.YtehapoilfmgjgaaLlcBackLaw
import Derived.Test.YtehapoilfmgjgaaOpen01
import Derived.Test.YtehapoilfmgjgaaFl
import Derived.WalkKit
import Derived.ProofKit
import Derived.OpenShut
import Derived.ChangeOld
import Derived.Below
import Derived.SizedLaws
import Derived.Lib.SmallJoins
namespace Go.Proofs.Ytehapoilfmgjgaa.LlcBackRow
open Go.RowKit Go.Joins Go.ChangeShapes Go.WideShapes Go.ChangeAt Go.Proofs.Ytehapoilfmgjgaa.Oct
theorem laidOut : laidOutB Try.prog = true := by kernel_rfl
theorem own : ownKnob Try.prog.godebug = none := by kernel_rfl
set_option maxRecDepth 100000 in
theorem lifted (os : Os) (started : os.Started) (H : Type) (enc : TypeId × Value → H) :
    ReturnsInHanded {} Try.checked os 6 .any (Rows.llcBackSpec.pre6 enc Try.prog Try.f6 Rows.llcBackRow.domain false) (Rows.llcBackSpec.post enc Try.prog Try.f6 false true false false) := by
  refine returnsInHanded_of_change_sized (C := Try.checked) own started (by kernel_rfl) Try.func6
    (ChangeSpec.witness6 (enc := enc) (C := Try.checked) false ⟨#[], #[.int .u64 0, .agg (rowM zeroMsg), .slice none 0 0], []⟩ 8 (by kernel_rfl) (by kernel_rfl) (by kernel_rfl) (by kernel_rfl)) ?_
  intro W base args ds gs before hval0 hW hcnd hsz0 _
  have hval : ∀ (j : Nat) t v, Try.f6.params[j]? = some t → args[j]? = some v → Value.okWide Try.prog W .any base t v := hval0
  have hW' := hW
  obtain ⟨p, q, hA0, hV, rfl, hfz, hnd⟩ := hW
  have hA : DataW.TrodAll enc Try.prog W 0 (fun _ => true) true Try.f6.params.toList args.toList ds p := hA0
  rw [Try.params6] at hA hval
  obtain ⟨v0, vs0, d0, ds0, p0, q0, hargs0, rfl, rfl, h0, r0⟩ := trodAll_cons hA
  obtain ⟨v1, vs1, d1, ds1, p1, q1, hargs1, rfl, rfl, h1, r1⟩ := trodAll_cons r0
  obtain ⟨v2, vs2, d2, ds2, p2, q2, hargs2, rfl, rfl, h2, r2⟩ := trodAll_cons r1
  obtain ⟨rfl, rfl, rfl⟩ := trodAll_nil r2
  subst hargs1
  subst hargs2
  obtain rfl : args = #[v0, v1, v2] := by cases args; simp_all
  obtain ⟨rfl, rfl⟩ := trodVars_none hV
  obtain ⟨a0, rfl, rfl, rfl, wa0⟩ := open_int Try.underlying22 (hval 0 22 v0 rfl rfl) h0
  have ha0 : 0 ≤ a0 ∧ a0 < 18446744073709551616 := by have h := bounds_u64 wa0; omega
  have h1k := h1
  have hlt1 : ∀ x ∈ p1, x.block < W.heap.size := fun x hx => hW'.lt x (by simp [hx])
  obtain ⟨m1, rfl, hm1⟩ := open_msg (hval 1 30 v1 rfl rfl) h1
  have h2k := h2
  have hlt2 : ∀ x ∈ p2, x.block < W.heap.size := fun x hx => hW'.lt x (by simp [hx])
  obtain ⟨la2, ln2, lc2, lf2, rfl, hV2, hB2, hN2, hC2⟩ := open_any Try.underlying33 Try.underlying5 (by kernel_rfl) (hval 2 33 v2 rfl rfl) h2
  have hY2 : ∀ j, j < ln2 → 0 ≤ lf2 j ∧ lf2 j ≤ 255 := fun j hj => bounds_u8 (hB2 j hj)
  clear hA0 hval0 hsz0
  refine (lback_any W a0 ha0 m1 hm1 la2 ln2 lc2 lf2 hV2 hY2 hN2 hC2).mono fun e W' ⟨he, bel⟩ => ?_
  subst he
  exact ⟨_, rfl, _, _, _, [], _, [], hW', trodAll_mk1 (shut_bool Try.underlying4 _), (trodAll_cons_mk (shut_int Try.underlying22 wa0) (trodAll_cons_mk (Below.trod laidOut (by kernel_rfl) (of_decide_eq_true (by kernel_rfl)) h1k bel hlt1) (trodAll_cons_mk (Below.trod laidOut (by kernel_rfl) (of_decide_eq_true (by kernel_rfl)) h2k bel hlt2) trodAll_mk0))), rfl, bel.frame _, fun h => by cases h⟩
theorem over : Rows.llcBackRow.holds Try.pinned (OpenSpec.ofChange Rows.llcBackSpec) :=
  OpenClaim.holds_of_wide 6 Try.f6 rfl rfl rfl rfl rfl rfl rfl ⟨rfl, rfl, rfl, rfl, rfl⟩ rfl rfl rfl rfl rfl (by kernel_rfl) Try.func6 (by kernel_rfl)
    (of_decide_eq_true (by kernel_rfl)) (by unfold Func.isWrapper; first | (rw [if_pos (by decide +kernel)]; kernel_rfl) | (rw [if_neg (by decide +kernel)]; exact ⟨rfl, rfl⟩))
    (fun os started H enc _ => lifted os started H enc)
theorem proved : Rows.LlcBackSaid := over
end Go.Proofs.Ytehapoilfmgjgaa.LlcBackRow
namespace Go.Proofs.Ytehapoilfmgjgaa
/-- The row, under a short name, for the claim. -/
theorem llcBack_holds : Rows.LlcBackSaid := LlcBackRow.proved
#print axioms llcBack_holds
end Go.Proofs.Ytehapoilfmgjgaa
