/- A scope out of which the run jumps on to its labels, once. No condition. -/
import Derived.Test.YtmlhbfkmnbhoeaaProg
import Derived.WalkKit
import Derived.WalkMore
import Derived.Scope
import Derived.Lib.Hide
namespace Go.Proofs.Ytmlhbfkmnbhoeaa.Br
open Go.RowKit
/-- As Q; by a goto: what stands at the label, from there on, without another one. -/
def Exit.fwd (P : Program) (c : Code) (Q : Exit → Act → World → Prop) : Exit → Act → World → Prop
  | .goto l, a, w => ∃ rest, findLabel c l = some rest ∧ rest.wp P (Exit.noGoto Q) a w
  | e, a, w => Q e a w
section
variable {P : Program} {a : Act} {w : World} {Q : Exit → Act → World → Prop} {c : Code}
theorem fwd_normal : Exit.fwd P c Q .normal a w = Q .normal a w := rfl
theorem fwd_exit (id : Nat) : Exit.fwd P c Q (.exit id) a w = Q (.exit id) a w := rfl
theorem fwd_ret : Exit.fwd P c Q .ret a w = Q .ret a w := rfl
theorem fwd_panic (ch : List PanicEntry) : Exit.fwd P c Q (.panic ch) a w = Q (.panic ch) a w := rfl
theorem wp_scope_fwd (h : ∀ c0, c0 = c → c.wp P (Exit.fwd P c0 Q) a w) : (Code.scope c).wp P Q a w := by
  have h := h c rfl
  intro b k cs
  have hg : ∀ l rest, findLabel c l = some rest → gotoIn l (.inScope c :: k) = some (.code rest :: .inScope c :: k) := fun l rest hf => by simp [gotoIn, hf]
  obtain ⟨e, a₁, w₁, hq, harr⟩ := h b (.inScope c :: k) cs
  cases e with
  | normal => exact ⟨.normal, a₁, w₁, hq, .head step_scope (Steps.trans harr (.one step_inScope))⟩
  | exit id => exact ⟨.exit id, a₁, w₁, hq, fun k' hk => .head step_scope (harr k' (by simp [exitTo, hk]))⟩
  | goto l =>
    obtain ⟨rest, hf, hr⟩ := hq
    obtain ⟨e₂, a₂, w₂, hq₂, harr₂⟩ := hr b (.inScope c :: k) cs
    have hto := harr _ (hg l rest hf)
    cases e₂ with
    | normal => exact ⟨.normal, a₂, w₂, hq₂, .head step_scope (Steps.trans hto (Steps.trans harr₂ (.one step_inScope)))⟩
    | exit id => exact ⟨.exit id, a₂, w₂, hq₂, fun k' hk => .head step_scope (Steps.trans hto (harr₂ k' (by simp [exitTo, hk])))⟩
    | goto l' => exact hq₂.elim
    | ret => exact ⟨_, a₂, w₂, hq₂, .of_steps (.head step_scope hto) harr₂⟩
    | panic ch => exact ⟨_, a₂, w₂, hq₂, .of_steps (.head step_scope hto) harr₂⟩
    | outgrown => exact ⟨_, a₂, w₂, hq₂, .of_steps (.head step_scope hto) harr₂⟩
  | ret => exact ⟨_, a₁, w₁, hq, .of_steps (.one step_scope) harr⟩
  | panic ch => exact ⟨_, a₁, w₁, hq, .of_steps (.one step_scope) harr⟩
  | outgrown => exact ⟨_, a₁, w₁, hq, .of_steps (.one step_scope) harr⟩
end
end Go.Proofs.Ytmlhbfkmnbhoeaa.Br
