/- Chapter 15: function values by what they do; slices of rows; reads under a guard, kept as they are; slices of rows appended. No condition. -/
import Derived.Test.YtdangeefecdbaaaTr3
import Derived.Laws.Append
import Derived.Laws.AppendOwn
set_option linter.unusedSimpArgs false
set_option linter.unusedVariables false
namespace Go.Proofs.Ytdangeefecdbaaa.Br
open Go.RowKit
/-- In every later world a call of this function value makes of the ports what is told. -/
def Does (bx g : Nat) (b : Bri) (ss : Nat → Rec) (fs : Nat → Int) (W : World) (v : Value) (q : Nat → Rec) : Prop :=
  ∃ f bnd caps, v = .func (.func f) bnd caps ∧ (∀ args w, Sem.run Try.prog (callFunc f args) w = .ok (.enter f args) w) ∧ ∀ w', Below W.heap.size W w' → Calls Try.prog f (bnd ++ caps) w' fun e w'' => e = .returned (.tuple #[]) ∧ Bst w'' bx g b q ss fs ∧ Only (· = g) w' w''
theorem Does.later {bx g : Nat} {b : Bri} {ss : Nat → Rec} {fs : Nat → Int} {W W' : World} {v : Value} {q : Nat → Rec} (h : Does bx g b ss fs W v q) (hb : Below W.heap.size W W') : Does bx g b ss fs W' v q := by
  obtain ⟨f, bnd, caps, h1, h2, h3⟩ := h
  exact ⟨f, bnd, caps, h1, h2, fun w' hw => h3 w' (hb.trans (hw.mono hb.size))⟩
/-- Rows' cells. -/
def cellsR (l : List (Bool × Value)) : List Value := l.flatMap fun a => [.bool a.1, a.2]
theorem cellsR_length (l : List (Bool × Value)) : (cellsR l).length = l.length * 2 := by
  induction l with
  | nil => rfl
  | cons a l ih => simp only [cellsR, List.flatMap_cons, List.length_append, List.length_cons, List.length_nil] at ih ⊢; omega
theorem cellsR_append (l r : List (Bool × Value)) : cellsR (l ++ r) = cellsR l ++ cellsR r := by simp [cellsR]
theorem cellsR_get : ∀ (l : List (Bool × Value)) (i : Nat) (a : Bool × Value), l[i]? = some a → (cellsR l)[i * 2]? = some (.bool a.1) ∧ (cellsR l)[i * 2 + 1]? = some a.2
  | [], i, a, h => by cases h
  | b :: l, 0, a, h => by
    have h' : b = a := by simpa using h
    subst h'
    exact ⟨rfl, rfl⟩
  | b :: l, i + 1, a, h => by
    have := cellsR_get l i a (by simpa using h)
    have e : cellsR (b :: l) = .bool b.1 :: b.2 :: cellsR l := rfl
    rw [e, show (i + 1) * 2 = i * 2 + 1 + 1 by omega]
    simpa using this
/-- Row for row: the condition is what is told, the function value does what is told. -/
def Pairs (bx g : Nat) (b : Bri) (ss : Nat → Rec) (fs : Nat → Int) (W : World) : List (Bool × Value) → List (Bool × (Nat → Rec)) → Prop
  | [], [] => True
  | a :: l, d :: r => (a.1 = d.1 ∧ Does bx g b ss fs W a.2 d.2) ∧ Pairs bx g b ss fs W l r
  | _, _ => False
theorem Pairs.later {bx g : Nat} {b : Bri} {ss : Nat → Rec} {fs : Nat → Int} {W W' : World} (hb : Below W.heap.size W W') : ∀ {l : List (Bool × Value)} {ds : List (Bool × (Nat → Rec))}, Pairs bx g b ss fs W l ds → Pairs bx g b ss fs W' l ds
  | [], [], _ => trivial
  | _ :: _, _ :: _, h => ⟨⟨h.1.1, h.1.2.later hb⟩, Pairs.later hb h.2⟩
  | [], _ :: _, h => h.elim
  | _ :: _, [], h => h.elim
theorem Pairs.append {bx g : Nat} {b : Bri} {ss : Nat → Rec} {fs : Nat → Int} {W : World} : ∀ {l : List (Bool × Value)} {ds : List (Bool × (Nat → Rec))} {l' : List (Bool × Value)} {ds' : List (Bool × (Nat → Rec))}, Pairs bx g b ss fs W l ds → Pairs bx g b ss fs W l' ds' → Pairs bx g b ss fs W (l ++ l') (ds ++ ds')
  | [], [], _, _, _, k => k
  | _ :: _, _ :: _, _, _, h, k => ⟨h.1, Pairs.append h.2 k⟩
  | [], _ :: _, _, _, h, _ => h.elim
  | _ :: _, [], _, _, h, _ => h.elim
theorem Pairs.length {bx g : Nat} {b : Bri} {ss : Nat → Rec} {fs : Nat → Int} {W : World} : ∀ {l : List (Bool × Value)} {ds : List (Bool × (Nat → Rec))}, Pairs bx g b ss fs W l ds → l.length = ds.length
  | [], [], _ => rfl
  | _ :: _, _ :: _, h => by simp [Pairs.length h.2]
  | [], _ :: _, h => h.elim
  | _ :: _, [], h => h.elim
theorem Pairs.get {bx g : Nat} {b : Bri} {ss : Nat → Rec} {fs : Nat → Int} {W : World} : ∀ {l : List (Bool × Value)} {ds : List (Bool × (Nat → Rec))} (i : Nat), Pairs bx g b ss fs W l ds → i < l.length → ∃ c v q, l[i]? = some (c, v) ∧ ds[i]? = some (c, q) ∧ Does bx g b ss fs W v q
  | [], [], i, _, hi => by simp at hi
  | a :: l, d :: r, 0, h, _ => ⟨a.1, a.2, d.2, by simp, by simp [h.1.1], h.1.2⟩
  | a :: l, d :: r, i + 1, h, hi => by
    obtain ⟨c, v, q, h1, h2, h3⟩ := Pairs.get i h.2 (by simpa using hi)
    exact ⟨c, v, q, by simpa using h1, by simpa using h2, h3⟩
  | [], _ :: _, _, h, _ => h.elim
  | _ :: _, [], _, h, _ => h.elim
theorem Pairs.one {bx g : Nat} {b : Bri} {ss : Nat → Rec} {fs : Nat → Int} {W : World} : ∀ {l : List (Bool × Value)} {ds : List (Bool × (Nat → Rec))}, Pairs bx g b ss fs W l ds → ∀ u ∈ cellsR l, u.oneCell' = true
  | [], [], _, u, hu => by cases hu
  | a :: l, d :: r, h, u, hu => by
    have e : cellsR (a :: l) = .bool a.1 :: a.2 :: cellsR l := rfl
    rw [e] at hu
    rcases List.mem_cons.1 hu with rfl | hu
    · rfl
    rcases List.mem_cons.1 hu with rfl | hu
    · obtain ⟨f, bnd, caps, h1, _⟩ := h.1.2
      rw [h1]
      rfl
    · exact Pairs.one h.2 u hu
  | [], _ :: _, h, _, _ => h.elim
  | _ :: _, [], h, _, _ => h.elim
/-- A slice of rows that can be read. -/
def RowsAt (W : World) (v : Value) (l : List (Bool × Value)) (cap : Nat) : Prop :=
  (v = .slice none 0 0 ∧ l = [] ∧ cap = 0) ∨ ∃ gr, v = .slice (some ⟨gr, 0, none⟩) l.length cap ∧ l.length ≤ cap ∧ 0 < l.length ∧ ∀ j u, (cellsR l)[j]? = some u → W.cell? ⟨gr, j, none⟩ = some u
theorem RowsAt.later {W W' : World} {v : Value} {l : List (Bool × Value)} {cap : Nat} (h : RowsAt W v l cap) (hb : Below W.heap.size W W') : RowsAt W' v l cap := by
  rcases h with h | ⟨gr, h1, h2, h0, h3⟩
  · exact .inl h
  · exact .inr ⟨gr, h1, h2, h0, fun j u hu => (hb.cell (p := ⟨gr, j, none⟩) (cell_lt (h3 j u hu))).trans (h3 j u hu)⟩
/-- A slice of rows of which is told what they ask and do. -/
def Rows (bx g : Nat) (b : Bri) (ss : Nat → Rec) (fs : Nat → Int) (W : World) (v : Value) (ds : List (Bool × (Nat → Rec))) : Prop :=
  ∃ l cap, RowsAt W v l cap ∧ Pairs bx g b ss fs W l ds
/-- The same, a slice of whose block nothing is left. -/
def RowsF (bx g : Nat) (b : Bri) (ss : Nat → Rec) (fs : Nat → Int) (W : World) (v : Value) (ds : List (Bool × (Nat → Rec))) : Prop :=
  ∃ l gr, v = .slice (some ⟨gr, 0, none⟩) l.length l.length ∧ 0 < l.length ∧ (∀ j u, (cellsR l)[j]? = some u → W.cell? ⟨gr, j, none⟩ = some u) ∧ Pairs bx g b ss fs W l ds
theorem RowsF.rows {bx g : Nat} {b : Bri} {ss : Nat → Rec} {fs : Nat → Int} {W : World} {v : Value} {ds : List (Bool × (Nat → Rec))} (h : RowsF bx g b ss fs W v ds) : Rows bx g b ss fs W v ds := by
  obtain ⟨l, gr, h1, h0, h2, h3⟩ := h
  exact ⟨l, l.length, .inr ⟨gr, h1, Nat.le_refl _, h0, h2⟩, h3⟩
theorem RowsF.later {bx g : Nat} {b : Bri} {ss : Nat → Rec} {fs : Nat → Int} {W W' : World} {v : Value} {ds : List (Bool × (Nat → Rec))} (h : RowsF bx g b ss fs W v ds) (hb : Below W.heap.size W W') : RowsF bx g b ss fs W' v ds := by
  obtain ⟨l, gr, h1, h0, h2, h3⟩ := h
  exact ⟨l, gr, h1, h0, fun j u hu => (hb.cell (p := ⟨gr, j, none⟩) (cell_lt (h2 j u hu))).trans (h2 j u hu), h3.later hb⟩
theorem Rows.later {bx g : Nat} {b : Bri} {ss : Nat → Rec} {fs : Nat → Int} {W W' : World} {v : Value} {ds : List (Bool × (Nat → Rec))} (h : Rows bx g b ss fs W v ds) (hb : Below W.heap.size W W') : Rows bx g b ss fs W' v ds := by
  obtain ⟨l, cap, h1, h2⟩ := h
  exact ⟨l, cap, h1.later hb, h2.later hb⟩
theorem rows_new {bx g : Nat} {b : Bri} {ss : Nat → Rec} {fs : Nat → Int} {W : World} {gr n : Nat} {C : Array Value} (l : List (Bool × Value)) {ds : List (Bool × (Nat → Rec))} (h : W.heap[gr]? = some (.cells C 61 (0, 0))) (hc : C.toList = cellsR l) (hn : l.length = n) (h0 : 0 < n) (hp : Pairs bx g b ss fs W l ds) : RowsF bx g b ss fs W (.slice (some ⟨gr, 0, none⟩) n n) ds := by
  subst hn
  refine ⟨l, gr, rfl, h0, fun j u hu => ?_, hp⟩
  rw [cells_of h, ← Array.getElem?_toList, hc]
  exact hu
theorem infoR : (Try.prog.info? 61).map (fun i => (i.zero, i.size, i.bytes)) = some (some (.agg #[.bool false, Value.nilFunc]), 2, 16) := by kernel_rfl
/-- A slice of rows appended to one of whose block nothing is left. -/
theorem run_append_rows {bx g : Nat} {b : Bri} {ss : Nat → Rec} {fs : Nat → Int} {W : World} {v1 v2 : Value} {d1 d2 : List (Bool × (Nat → Rec))} (h1 : RowsF bx g b ss fs W v1 d1) (h2 : Rows bx g b ss fs W v2 d2) (hl1 : d1.length ≤ 100) (hl2 : d2.length ≤ 100) (ty : TypeId) :
    ∃ v w', (Builtin.append_ #[58, 58] ty #[v1, v2]).run Try.prog W = .ok v w' ∧ Rows bx g b ss fs w' v (d1 ++ d2) ∧ Below W.heap.size W w' := by
  obtain ⟨i, hi, hz, hs, hby⟩ : ∃ i, Try.prog.info? 61 = some i ∧ i.zero = some (.agg #[.bool false, Value.nilFunc]) ∧ i.size = 2 ∧ i.bytes = 16 := by
    have := infoR
    cases hi : Try.prog.info? 61 with
    | none => rw [hi] at this; simp at this
    | some i =>
      rw [hi] at this
      simp at this
      exact ⟨i, rfl, this.1, this.2.1, this.2.2⟩
  obtain ⟨l1, g1, rfl, h01, hc1, hp1⟩ := h1
  obtain ⟨l2, cap2, hr2, hp2⟩ := h2
  have e1 := hp1.length
  have e2 := hp2.length
  rcases hr2 with ⟨rfl, rfl, rfl⟩ | ⟨g2, rfl, hcap, h02, hc2⟩
  · obtain rfl : d2 = [] := List.length_eq_zero_iff.1 (by rw [← e2]; rfl)
    refine ⟨.slice (some ⟨g1, 0, none⟩) l1.length l1.length, W, ?_, ?_, Below.refl _ _⟩
    · simp [Builtin.append_, run_underlying Try.underlying58, sizeOf, typeInfo, hi, Builtin.lenOf, Builtin.firstCells, storeCells]
    · rw [List.append_nil]
      exact ⟨l1, l1.length, .inr ⟨g1, rfl, Nat.le_refl _, h01, hc1⟩, hp1⟩
  · have hadd : ∀ (gg j : Nat), (⟨gg, 0, none⟩ : Addr).add j = ⟨gg, j, none⟩ := fun gg j => by unfold Addr.add; split <;> simp_all
    have hr := run_append_grow (P := Try.prog) (w := W) 58 ty 61 i _ Try.underlying58 hi hz ⟨g1, 0, none⟩ l1.length l1.length (cellsR l1) (by rw [cellsR_length, hs]) (fun j u hu => by rw [hadd]; exact hc1 j u hu) ⟨g2, 0, none⟩ l2.length cap2 (cellsR l2) (by rw [cellsR_length, hs]) (fun j u hu => by rw [hadd]; exact hc2 j u hu) (by omega) (by omega) (growslice_fits (by omega) (by rw [hby]; omega))
    have key : ∀ o : Obj, o = Obj.cells ((cellsR l1).toArray ++ (cellsR l2).toArray ++ Builtin.zeroCells (Value.agg #[.bool false, Value.nilFunc]).cells (grownCap W (l1.length + l2.length) l1.length 61 - (l1.length + l2.length))) 61 → Rows bx g b ss fs (W.drew.alloc o) (.slice (some ⟨W.heap.size, 0, none⟩) (l1.length + l2.length) (grownCap W (l1.length + l2.length) l1.length 61)) (d1 ++ d2) ∧ Below W.heap.size W (W.drew.alloc o) := by
      intro o ho
      have hb : Below W.heap.size W (W.drew.alloc o) := ⟨rfl, rfl, rfl, by simp, fun k hk => Below.heap_alloc W.drew o k hk⟩
      have hh : (W.drew.alloc o).heap[W.heap.size]? = some o := heap_alloc_new W.drew o
      refine ⟨⟨l1 ++ l2, grownCap W (l1.length + l2.length) l1.length 61, .inr ⟨W.heap.size, by rw [List.length_append], by rw [List.length_append]; exact grownCap_ge _ _ _ _, by rw [List.length_append]; omega, fun j u hu => ?_⟩, (hp1.append hp2).later hb⟩, hb⟩
      rw [ho] at hh
      rw [ho, cells_of hh, ← Array.getElem?_toList]
      simp only [Array.toList_append, ← cellsR_append]
      rw [List.getElem?_append_left (List.getElem?_eq_some_iff.1 hu).1]
      exact hu
    exact ⟨_, _, hr, (key _ rfl).1, (key _ rfl).2⟩
end Go.Proofs.Ytdangeefecdbaaa.Br
