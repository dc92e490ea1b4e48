/- The row of law TransWaits of layer 15: for every input it returns true, and the input reads as it did. -/
import Derived.Test.YtdangeefecdbaaaRows
import Derived.Test.YtdangeefecdbaaaTransWaitsLaw
import Derived.WalkKit
import Derived.ProofKit
import Derived.OpenShut
import Derived.ChangeOld
import Derived.Below
import Derived.SizedLaws
import Derived.Lib.SmallJoins
namespace Go.Proofs.Ytdangeefecdbaaa.TransWaitsRow
open Go.RowKit Go.Joins Go.ChangeShapes Go.WideShapes Go.ChangeAt Go.Proofs.Ytdangeefecdbaaa.Br
theorem laidOut : laidOutB Try.prog = true := by kernel_rfl
theorem own : ownKnob Try.prog.godebug = none := by kernel_rfl
def zeroArg : Array Value := rowB zeroBri
set_option maxRecDepth 100000 in
theorem lifted (os : Os) (started : os.Started) (H : Type) (enc : TypeId × Value → H) :
    ReturnsInHanded {} Try.checked os 4 .any (Rows.transWaitsSpec.pre6 enc Try.prog Try.f4 Rows.transWaitsRow.domain false) (Rows.transWaitsSpec.post enc Try.prog Try.f4 false true false false) := by
  refine returnsInHanded_of_change_sized (C := Try.checked) own started (by kernel_rfl) Try.func4
    (ChangeSpec.witness6 (enc := enc) (C := Try.checked) false ⟨#[], #[.agg zeroArg, .int .u8 0], []⟩ 8 (by kernel_rfl) (by kernel_rfl) (by kernel_rfl) (by kernel_rfl)) ?_
  intro W base args ds gs before hval0 hW hcnd hsz0 _
  have hval : ∀ (j : Nat) t v, Try.f4.params[j]? = some t → args[j]? = some v → Value.okWide Try.prog W .any base t v := hval0
  have hW' := hW
  obtain ⟨p, q, hA0, hV, rfl, hfz, hnd⟩ := hW
  have hA : DataW.TrodAll enc Try.prog W 0 (fun _ => true) true Try.f4.params.toList args.toList ds p := hA0
  rw [Try.params4] at hA hval
  obtain ⟨v0, vs0, d0, ds0, p0, q0, hargs0, rfl, rfl, h0, r0⟩ := trodAll_cons hA
  obtain ⟨v1, vs1, d1, ds1, p1, q1, hargs1, rfl, rfl, h1, r1⟩ := trodAll_cons r0
  obtain ⟨rfl, rfl, rfl⟩ := trodAll_nil r1
  subst hargs1
  obtain rfl : args = #[v0, v1] := by cases args; simp_all
  obtain ⟨rfl, rfl⟩ := trodVars_none hV
  have hlt : ∀ x ∈ p0, x.block < W.heap.size := fun x hx => by simpa using hW'.lt x (by simp; exact Or.inl hx)
  have h0k := h0
  obtain ⟨b, ps, ss, fs, rfl, hR⟩ := open_bri (hval 0 33 v0 rfl rfl) h0
  obtain ⟨a1, rfl, rfl, rfl, wa1⟩ := open_int Try.underlying5 (hval 1 5 v1 rfl rfl) h1
  have ha1 : 0 ≤ a1 ∧ a1 ≤ 255 := bounds_u8 wa1
  obtain ⟨i1, rfl⟩ := Int.eq_ofNat_of_zero_le ha1.1
  have hi1 : i1 ≤ 255 := by omega
  clear hA0 hval0 hsz0
  refine (waits_any b ps ss fs W i1 hi1 hR).mono fun e W' ⟨he, bel⟩ => ?_
  subst he
  exact ⟨_, rfl, _, _, _, [], _, [], hW', trodAll_mk1 (shut_bool Try.underlying4 _), (trodAll_cons_mk (Below.trod laidOut (by kernel_rfl) (of_decide_eq_true (by kernel_rfl)) h0k bel hlt) (trodAll_cons_mk (shut_int Try.underlying5 wa1) trodAll_mk0)), rfl, bel.frame _, fun h => by cases h⟩
theorem over : Rows.transWaitsRow.holds Try.pinned (OpenSpec.ofChange Rows.transWaitsSpec) :=
  OpenClaim.holds_of_wide 4 Try.f4 rfl rfl rfl rfl rfl rfl rfl ⟨rfl, rfl, rfl, rfl, rfl⟩ rfl rfl rfl rfl rfl (by kernel_rfl) Try.func4 (by kernel_rfl)
    (of_decide_eq_true (by kernel_rfl)) (by unfold Func.isWrapper; first | (rw [if_pos (by decide +kernel)]; kernel_rfl) | (rw [if_neg (by decide +kernel)]; exact ⟨rfl, rfl⟩))
    (fun os started H enc _ => lifted os started H enc)
theorem proved : Rows.TransWaitsSaid := over
end Go.Proofs.Ytdangeefecdbaaa.TransWaitsRow
namespace Go.Proofs.Ytdangeefecdbaaa
/-- The row, under a short name, for the claim. -/
theorem transWaits_holds : Rows.TransWaitsSaid := TransWaitsRow.proved
#print axioms transWaits_holds
end Go.Proofs.Ytdangeefecdbaaa
