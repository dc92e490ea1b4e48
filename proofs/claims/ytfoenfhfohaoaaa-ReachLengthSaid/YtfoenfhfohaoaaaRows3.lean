/- Ways of the document's in memory: rows of three cells in a block. -/
import Derived.Test.YtfoenfhfohaoaaaFun2
import Derived.Laws.MakeOwn
namespace Go.Proofs.Ytfoenfhfohaoaaa.Rea
open Go.RowKit
theorem rowW_size (x : Way) : (rowW x).size = 3 := by cases x <;> rfl
/-- A way's cell. -/
def cellW (r : Way) (j : Nat) : Value := (rowW r)[j]?.getD undef
theorem rowW_get {r : Way} {j : Nat} (h : j < 3) : (rowW r)[j]? = some (cellW r j) := by
  unfold cellW
  have hs : j < (rowW r).size := by rw [rowW_size]; exact h
  rw [Array.getElem?_eq_getElem hs]
  rfl
theorem rowW_one (x : Way) : (rowW x).all (·.oneCell') = true := by cases x <;> kernel_rfl
theorem cellW_one (r : Way) (j : Nat) (hj : j < 3) : (cellW r j).oneCell' = true := by
  cases r with
  | none =>
    match j, hj with
    | 0, _ => rfl
    | 1, _ => rfl
    | 2, _ => rfl
  | some a =>
    match j, hj with
    | 0, _ => rfl
    | 1, _ => rfl
    | 2, _ => rfl
def put1 (ps : Nat → Way) (k : Nat) (p : Way) : Nat → Way := fun x => if x = k then p else ps x
theorem put1_same (ps : Nat → Way) (k : Nat) (p : Way) : put1 ps k p k = p := if_pos rfl
theorem put1_other (ps : Nat → Way) {k x : Nat} (p : Way) (h : x ≠ k) : put1 ps k p x = ps x := if_neg h
/-- n ways lie in block g, from its head on; none of its cells is frozen. -/
def Rows3 (w : World) (g n : Nat) (ps : Nat → Way) : Prop :=
  ∃ C : Array Value, w.heap[g]? = some (.cells C 34 (0, 0)) ∧ ∀ k, k < n → ∀ j, j < 3 → C[k * 3 + j]? = some (cellW (ps k) j)
theorem Rows3.lt {w : World} {g n : Nat} {ps : Nat → Way} (h : Rows3 w g n ps) : g < w.heap.size := by
  obtain ⟨C, hg, _⟩ := h
  exact (Array.getElem?_eq_some_iff.1 hg).1
theorem Rows3.cell {w : World} {g n : Nat} {ps : Nat → Way} (h : Rows3 w g n ps) {k j : Nat} (hk : k < n) (hj : j < 3) : w.cell? ⟨g, k * 3 + j, none⟩ = some (cellW (ps k) j) := by
  obtain ⟨C, hg, hc⟩ := h
  simpa [World.cell?, hg] using hc k hk j hj
theorem Rows3.free {w : World} {g n : Nat} {ps : Nat → Way} (h : Rows3 w g n ps) (o : Nat) : w.frozen? ⟨g, o, none⟩ = false := by
  obtain ⟨C, hg, _⟩ := h
  simp [World.frozen?, hg]
theorem Rows3.of_block {w w' : World} {g n : Nat} {ps : Nat → Way} (h : Rows3 w g n ps) (e : w'.heap[g]? = w.heap[g]?) : Rows3 w' g n ps := by
  obtain ⟨C, hg, hc⟩ := h
  exact ⟨C, e.trans hg, hc⟩
theorem Rows3.below {w w' : World} {g n B : Nat} {ps : Nat → Way} (h : Rows3 w g n ps) (hb : Below B w w') (hB : g < B) : Rows3 w' g n ps := h.of_block (hb.block g hB)
theorem Rows3.only {S : Nat → Prop} {w w' : World} {g n : Nat} {ps : Nat → Way} (h : Rows3 w g n ps) (hb : Only S w w') (hn : ¬ S g) : Rows3 w' g n ps := h.of_block (hb.block g h.lt hn)
theorem Rows3.alloc {w : World} {g n : Nat} {ps : Nat → Way} (h : Rows3 w g n ps) (o : Obj) : Rows3 (w.alloc o) g n ps := h.of_block (Below.heap_alloc _ _ _ h.lt)
theorem Rows3.drew {w : World} {g n : Nat} {ps : Nat → Way} (h : Rows3 w g n ps) : Rows3 w.drew g n ps := h
theorem Rows3.other {w : World} {g n : Nat} {ps : Nat → Way} (h : Rows3 w g n ps) {a : Addr} (ha : g ≠ a.block) (v : Value) : Rows3 (w.setCell a v) g n ps := h.of_block (Below.heap_setCell _ _ _ _ ha)
/-- A way's cells, for a load of the whole. -/
theorem Rows3.range {w : World} {g n : Nat} {ps : Nat → Way} (h : Rows3 w g n ps) {k : Nat} (hk : k < n) : w.rangeAt g (k * 3) (rowW (ps k)).toList := fun j v hv => by
  have hj : j < 3 := by
    have := (List.getElem?_eq_some_iff.1 hv).1
    simpa [rowW_size] using this
  rw [h.cell hk hj, ← rowW_get hj]
  simpa using hv

theorem Only.setCells {S : Nat → Prop} {g : Nat} (hg : S g) : ∀ (vs : List Value) (o : Nat) (w : World), Only S w (w.setCells g o vs)
  | [], _, w => Only.refl S w
  | v :: r, o, w => ((Only.refl S w).setCell (p := ⟨g, o, none⟩) (Or.inl hg) v).trans (Only.setCells hg r (o + 1) _)
theorem setCells_block {g : Nat} {T : TypeId} {fr : Nat × Nat} : ∀ (vs : List Value) (o : Nat) (w : World) (C : Array Value), w.heap[g]? = some (.cells C T fr) → ∃ C' : Array Value, (w.setCells g o vs).heap[g]? = some (.cells C' T fr)
  | [], _, _, C, h => ⟨C, h⟩
  | v :: r, o, w, C, h => setCells_block r (o + 1) _ (C.setIfInBounds o v) (by simp [World.setCell, Array.getElem?_modify, h])
/-- A whole way stored. -/
theorem Rows3.row {w : World} {g n k : Nat} {ps : Nat → Way} (h : Rows3 w g n ps) (hk : k < n) (p : Way) : Rows3 (w.setCells g (k * 3) (rowW p).toList) g n (put1 ps k p) := by
  have h0 := h
  obtain ⟨C, hg, hc⟩ := h
  obtain ⟨C', hg'⟩ := setCells_block (rowW p).toList (k * 3) w C hg
  have hl : (rowW p).toList.length = 3 := by simp [rowW_size]
  refine ⟨C', hg', fun x hx j hj => ?_⟩
  rw [← cells_of hg' (x * 3 + j)]
  by_cases e : x = k
  · subst e
    rw [World.cell?_setCells_in g _ _ w (fun i hi => by rw [h0.cell hx (by omega)]; rfl) j (by omega), put1_same, ← rowW_get hj]
    simp
  · rw [World.cell?_setCells_out g _ _ w _ (fun _ _ => by
      rw [hl]
      show x * 3 + j < k * 3 ∨ k * 3 + 3 ≤ x * 3 + j
      omega), put1_other _ _ e]
    exact h0.cell hx hj
theorem Rows3.room {w : World} {g n k : Nat} {ps : Nat → Way} (h : Rows3 w g n ps) (hk : k < n) (p : Way) : w.there g (k * 3) (rowW p).size := fun j hj => by
  rw [rowW_size] at hj
  exact ⟨by rw [h.cell hk hj]; rfl, h.free _⟩
theorem Rows3.view {w : World} {g n : Nat} {ps : Nat → Way} (h : Rows3 w g n ps) : View w (some ⟨g, 0, none⟩) 3 n fun k j => cellW (ps k) j :=
  .inr ⟨g, 0, rfl, fun k hk j hj => by rw [Nat.zero_add]; exact h.cell hk hj⟩
theorem Rows3.own {w : World} {g n cap : Nat} {ps : Nat → Way} (h : Own w g 34 3 n cap fun k j => cellW (ps k) j) : Rows3 w g n ps := h.cur
theorem Rows3.congr {w : World} {g n : Nat} {ps qs : Nat → Way} (h : Rows3 w g n ps) (e : ∀ k, k < n → ps k = qs k) : Rows3 w g n qs := by
  obtain ⟨C, hg, hc⟩ := h
  exact ⟨C, hg, fun k hk j hj => by rw [← e k hk]; exact hc k hk j hj⟩
/-- What make lays: ways that there are not. -/
theorem Rows3.made (w : World) (n : Nat) : Rows3 (w.alloc (.cells (madeCells (rowW none) (n * 3)) 34)) w.heap.size n (fun _ => none) := by
  refine ⟨_, heap_alloc_new _ _, fun k hk j hj => ?_⟩
  have h1 : (k * 3 + j) % 3 = j := by omega
  unfold madeCells
  rw [Array.getElem?_map, Array.getElem?_range]
  rw [if_pos (by omega)]
  simp only [Option.map_some, rowW_size, h1]
  match j, hj with
  | 0, _ => rfl
  | 1, _ => rfl
  | 2, _ => rfl
/-- The first way begins. -/
theorem Rows3.begin_ {w : World} {g n s : Nat} (h : Rows3 w g n (fun _ => none)) (hs : s < n) : Rows3 (w.setCell ⟨g, s * 3 + 2, none⟩ (.bool true)) g n (start s) := by
  obtain ⟨C, hg, hc⟩ := h
  refine ⟨C.setIfInBounds (s * 3 + 2) (.bool true), by simp [World.setCell, Array.getElem?_modify, hg], fun k hk j hj => ?_⟩
  have h1 := hc k hk j hj
  have h2 := hc s hs 2 (by omega)
  rw [Array.getElem?_setIfInBounds]
  unfold start
  by_cases e : k = s
  · subst e
    rw [if_pos rfl]
    match j, hj with
    | 0, _ => rw [if_neg (by omega)]; exact h1
    | 1, _ => rw [if_neg (by omega)]; exact h1
    | 2, _ => rw [if_pos rfl, if_pos (Array.getElem?_eq_some_iff.1 h2).1]; rfl
  · rw [if_neg e, if_neg (by omega)]
    exact h1
end Go.Proofs.Ytfoenfhfohaoaaa.Rea
