/- Whole ports stored into the ports of a bridge, and loads of whole ports in a region that draws its order. -/
import Derived.Test.YtdangeefecdbaaaRight
import Derived.Deep.MidRow
import Derived.StillTailTactics
namespace Go.Proofs.Ytdangeefecdbaaa.Br
open Go.RowKit
theorem Only.setCells {S : Nat → Prop} {g : Nat} (hg : S g) : ∀ (vs : List Value) (o : Nat) (w : World), Only S w (w.setCells g o vs)
  | [], _, w => Only.refl S w
  | v :: r, o, w => ((Only.refl S w).setCell (p := ⟨g, o, none⟩) (Or.inl hg) v).trans (Only.setCells hg r (o + 1) _)
theorem setCells_block {g : Nat} {T : TypeId} {fr : Nat × Nat} : ∀ (vs : List Value) (o : Nat) (w : World) (C : Array Value), w.heap[g]? = some (.cells C T fr) → ∃ C' : Array Value, (w.setCells g o vs).heap[g]? = some (.cells C' T fr)
  | [], _, _, C, h => ⟨C, h⟩
  | v :: r, o, w, C, h => setCells_block r (o + 1) _ (C.setIfInBounds o v) (by simp [World.setCell, Array.getElem?_modify, h])
/-- A whole port stored. -/
theorem Ports.row {w : World} {g n k : Nat} {ps : Nat → Rec} (h : Ports w g n ps) (hk : k < n) (p : Rec) : Ports (w.setCells g (k * 89) (rowP p).toList) g n (upd ps k p) := by
  have h0 := h
  obtain ⟨C, hg, hc⟩ := h
  obtain ⟨C', hg'⟩ := setCells_block (rowP p).toList (k * 89) w C hg
  have hl : (rowP p).toList.length = 89 := by simp [rowP_size]
  refine ⟨C', hg', fun x hx j hj => ?_⟩
  rw [← cells_of hg' (x * 89 + j)]
  by_cases e : x = k
  · subst e
    rw [World.cell?_setCells_in g _ _ w (fun i hi => by rw [h0.cell hx (by omega)]; rfl) j (by omega), upd_same, ← rowP_get hj]
    simp
  · rw [World.cell?_setCells_out g _ _ w _ (fun _ _ => by
      rw [hl]
      show x * 89 + j < k * 89 ∨ k * 89 + 89 ≤ x * 89 + j
      omega), upd_other _ _ e]
    exact h0.cell hx hj
theorem Ports.room {w : World} {g n k : Nat} {ps : Nat → Rec} (h : Ports w g n ps) (hk : k < n) (p : Rec) : w.there g (k * 89) (rowP p).size := fun j hj => by
  rw [rowP_size] at hj
  exact ⟨by rw [h.cell hk hj]; rfl, h.free _⟩
theorem wpStill_row {P : Program} {ops : Array Oper} {w : World} {Q : Act → Prop} {a : Act} {o : Oper} {rest : List Oper} (hgd : o.guard = none) (ty : TypeId) (x : Operand) (ho : o.op = .load ty x) (b off : Nat) (hx : a.eval x = .pointer (some ⟨b, off, none⟩)) (cs : Array Value) (d : TypeDesc) (hc : w.rangeAt b off cs.toList)
    (hu : P.underlying ty = some d) (hd : d.isRow = true) (hi : (P.info? ty).map (·.size) = some cs.size) (h : wpStill P ops w Q rest (a.put o.dst (.agg cs))) : wpStill P ops w Q (o :: rest) a :=
  wpStill_step fun K hK => by
    rw [if_pos (by simp [Region.wanted, hgd])]
    unfold Oper.still execOp
    simp only [ho, hx, Instr.loadAt, Instr.sureAddr, Sem.run_bind, Sem.run_pure, Result.andThen_ok, run_loadVar_mid w b off ty cs.toList d hc hu hd (by simpa using hi)]
    exact ⟨rfl, hK _ h⟩
end Go.Proofs.Ytdangeefecdbaaa.Br
