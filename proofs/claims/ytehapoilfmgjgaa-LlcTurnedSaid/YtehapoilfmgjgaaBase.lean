/- Plain words for bytes in memory: worlds that part in new blocks and in one written block, slices that can be read, a slice that is copied into a new one. No condition. -/
import Derived.Test.YtehapoilfmgjgaaPut
import Derived.Deep.MidRow
import Derived.Laws.EntriesVeiled
import Derived.Laws.AppendOwnNone
import Derived.WalkSpells
namespace Go.Proofs.Ytehapoilfmgjgaa.Oct
open Go.RowKit
/-- All old blocks but some are as they were; the streams are as they were; no block has gone. -/
structure Only (S : Nat → Prop) (w w' : World) : Prop where
  os : w'.os = w.os
  tape : w'.tape = w.tape
  output : w'.output = w.output
  size : w.heap.size ≤ w'.heap.size
  block : ∀ k, k < w.heap.size → ¬ S k → w'.heap[k]? = w.heap[k]?
theorem Only.refl (S : Nat → Prop) (w : World) : Only S w w := ⟨rfl, rfl, rfl, Nat.le_refl _, fun _ _ _ => rfl⟩
theorem Only.trans {S : Nat → Prop} {a b c : World} (h : Only S a b) (k : Only S b c) : Only S a c :=
  ⟨k.os.trans h.os, k.tape.trans h.tape, k.output.trans h.output, Nat.le_trans h.size k.size, fun i hi hn => (k.block i (Nat.lt_of_lt_of_le hi h.size) hn).trans (h.block i hi hn)⟩
theorem Only.of_below {S : Nat → Prop} {w w' : World} (h : Below w.heap.size w w') : Only S w w' := ⟨h.os, h.tape, h.output, h.size, fun k hk _ => h.block k hk⟩
theorem Only.below {S : Nat → Prop} {w w' : World} {B : Nat} (h : Only S w w') (hB : B ≤ w.heap.size) (hS : ∀ k, S k → B ≤ k) : Below B w w' :=
  ⟨h.os, h.tape, h.output, h.size, fun k hk => h.block k (by omega) (fun hs => by have := hS k hs; omega)⟩
theorem Only.drew {S : Nat → Prop} {a w : World} (h : Only S a w) : Only S a w.drew := ⟨h.os, h.tape, h.output, h.size, h.block⟩
theorem Only.alloc {S : Nat → Prop} {a w : World} (h : Only S a w) (o : Obj) : Only S a (w.alloc o) :=
  h.trans ⟨rfl, rfl, rfl, by simp, fun k hk _ => Below.heap_alloc _ _ _ hk⟩
theorem Only.setCell {S : Nat → Prop} {a w : World} (h : Only S a w) {p : Addr} (hp : S p.block ∨ a.heap.size ≤ p.block) (v : Value) : Only S a (w.setCell p v) :=
  ⟨h.os, h.tape, h.output, by simpa [World.setCell] using h.size, fun k hk hn => by
    rw [Below.heap_setCell _ _ _ _ (fun e => by rcases hp with hp | hp; exact hn (e ▸ hp); omega)]
    exact h.block k hk hn⟩
theorem Only.cell {S : Nat → Prop} {w w' : World} (h : Only S w w') {p : Addr} (hp : p.block < w.heap.size) (hn : ¬ S p.block) : w'.cell? p = w.cell? p := World.cell?_of_block (w := w) (h.block p.block hp hn)
theorem Only.mono {S T : Nat → Prop} {w w' : World} (h : Only S w w') (hST : ∀ k, S k → T k) : Only T w w' := ⟨h.os, h.tape, h.output, h.size, fun k hk hn => h.block k hk (fun hs => hn (hST k hs))⟩

theorem cells_of {w : World} {g : Nat} {C : Array Value} {T : TypeId} {fr : Nat × Nat} (h : w.heap[g]? = some (.cells C T fr)) (j : Nat) : w.cell? ⟨g, j, none⟩ = C[j]? := cell_of_row w g j C T fr h
theorem more {w w' : World} (h : Below w.heap.size w w') (o : Obj) : Below w.heap.size w (w'.alloc o) := h.alloc h.size o
theorem andthen {w w1 w2 : World} (h : Below w.heap.size w w1) (k : Below w1.heap.size w1 w2) : Below w.heap.size w w2 := h.trans (k.mono h.size)
theorem cell_lt {w : World} {g o : Nat} {v : Value} (h : w.cell? ⟨g, o, none⟩ = some v) : g < w.heap.size := by
  by_cases hlt : g < w.heap.size
  · exact hlt
  · have hn : w.heap[g]? = none := by simp; omega
    simp [World.cell?, hn] at h
/-- n things of sz cells each can be read behind an address. -/
def View (w : World) (a : Option Addr) (sz n : Nat) (c : Nat → Nat → Value) : Prop :=
  n = 0 ∨ ∃ g o, a = some ⟨g, o, none⟩ ∧ ∀ k, k < n → ∀ j, j < sz → w.cell? ⟨g, o + (k * sz + j), none⟩ = some (c k j)
theorem View.below {w w' : World} {a : Option Addr} {sz n : Nat} {c : Nat → Nat → Value} (h : View w a sz n c) (hb : Below w.heap.size w w') : View w' a sz n c := by
  rcases h with h | ⟨g, o, ha, hc⟩
  · exact .inl h
  · exact .inr ⟨g, o, ha, fun k hk j hj => by rw [hb.cell (p := ⟨g, _, none⟩) (cell_lt (hc k hk j hj))]; exact hc k hk j hj⟩
theorem at_new {w : World} {o : Obj} {n : Nat} (h : n = w.heap.size) : (w.alloc o).heap[n]? = some o := by rw [h]; exact heap_alloc_new _ _
theorem at_old {w : World} {o : Obj} {n : Nat} {x : Option Obj} (h : n < w.heap.size) (e : w.heap[n]? = x) : (w.alloc o).heap[n]? = x := by rw [Below.heap_alloc _ _ _ h]; exact e
theorem at_set {w : World} {g i : Nat} {cs cs' : Array Value} {T : TypeId} {v : Value} (h : w.heap[g]? = some (.cells cs T (0, 0))) (e : cs.setIfInBounds i v = cs') : (w.setCell ⟨g, i, none⟩ v).heap[g]? = some (.cells cs' T (0, 0)) := by
  rw [← e]
  exact heap_setCell_same w g i cs T v h
theorem at_far {w : World} {a : Addr} {n : Nat} {v : Value} {x : Option Obj} (h : n ≠ a.block) (e : w.heap[n]? = x) : (w.setCell a v).heap[n]? = x := by rw [Below.heap_setCell _ _ _ _ h]; exact e
/-- n things of sz cells, one behind the other. -/
def grid (sz n : Nat) (c : Nat → Nat → Value) : List Value := (List.range (n * sz)).map fun x => c (x / sz) (x % sz)
theorem grid_length (sz n : Nat) (c : Nat → Nat → Value) : (grid sz n c).length = n * sz := by simp [grid]
theorem grid_get {sz n : Nat} {c : Nat → Nat → Value} {x : Nat} {u : Value} (h : (grid sz n c)[x]? = some u) : x < n * sz ∧ u = c (x / sz) (x % sz) := by
  unfold grid at h
  rw [List.getElem?_map] at h
  by_cases hx : x < n * sz
  · rw [List.getElem?_range hx] at h
    exact ⟨hx, (Option.some.inj h).symm⟩
  · rw [List.getElem?_eq_none (by simp <;> omega)] at h
    cases h
theorem grid_at {sz n : Nat} {c : Nat → Nat → Value} {k j : Nat} (hk : k < n) (hj : j < sz) : (grid sz n c)[k * sz + j]? = some (c k j) := by
  have hx : k * sz + j < n * sz := by
    have : (k + 1) * sz ≤ n * sz := Nat.mul_le_mul_right _ hk
    rw [Nat.succ_mul] at this
    omega
  have hs : 0 < sz := by omega
  unfold grid
  rw [List.getElem?_map, List.getElem?_range hx]
  simp only [Option.map_some]
  rw [Nat.mul_comm k sz, Nat.mul_add_div hs, Nat.mul_add_mod, Nat.div_eq_of_lt hj, Nat.mod_eq_of_lt hj, Nat.add_zero]
theorem View.news {w : World} {a : Option Addr} {sz n : Nat} {c : Nat → Nat → Value} (h : View w a sz n c) (hs : 0 < sz) : ∀ ad, a = some ad → ∀ j u, (grid sz n c)[j]? = some u → w.cell? (ad.add j) = some u := by
  intro ad ha j u hu
  obtain ⟨hj, rfl⟩ := grid_get hu
  rcases h with rfl | ⟨g, o, ha', hc⟩
  · omega
  · obtain rfl : ad = ⟨g, o, none⟩ := Option.some.inj (ha.symm.trans ha')
    rw [Addr.add_mid]
    have := hc (j / sz) ((Nat.div_lt_iff_lt_mul hs).2 hj) (j % sz) (Nat.mod_lt _ hs)
    rwa [Nat.div_add_mod'] at this
/-- n things lie at the head of block g, which has room for cap. -/
def Own (w : World) (g : Nat) (T : TypeId) (sz n cap : Nat) (c : Nat → Nat → Value) : Prop :=
  ∃ cur : Array Value, w.heap[g]? = some (.cells cur T (0, 0)) ∧ n ≤ cap ∧ cap ≤ maxLen ∧ cur.size = cap * sz ∧ cur.toList.take (n * sz) = grid sz n c
theorem Own.lt {w : World} {g n cap sz : Nat} {T : TypeId} {c : Nat → Nat → Value} (h : Own w g T sz n cap c) : g < w.heap.size := by
  obtain ⟨cur, hg, _⟩ := h
  exact (Array.getElem?_eq_some_iff.1 hg).1
theorem Own.of_block {w w' : World} {g n cap sz : Nat} {T : TypeId} {c : Nat → Nat → Value} (h : Own w g T sz n cap c) (e : w'.heap[g]? = w.heap[g]?) : Own w' g T sz n cap c := by
  obtain ⟨cur, hg, h1⟩ := h
  exact ⟨cur, e.trans hg, h1⟩
theorem Own.cur {w : World} {g n cap sz : Nat} {T : TypeId} {c : Nat → Nat → Value} (h : Own w g T sz n cap c) : ∃ cur : Array Value, w.heap[g]? = some (.cells cur T (0, 0)) ∧ ∀ k, k < n → ∀ j, j < sz → cur[k * sz + j]? = some (c k j) := by
  obtain ⟨cur, hg, _, _, _, ht⟩ := h
  refine ⟨cur, hg, fun k hk j hj => ?_⟩
  have h1 := grid_at (c := c) hk hj
  rw [← ht, List.getElem?_take] at h1
  split at h1
  · simpa using h1
  · cases h1
theorem Own.view {w : World} {g n cap sz : Nat} {T : TypeId} {c : Nat → Nat → Value} (h : Own w g T sz n cap c) : View w (some ⟨g, 0, none⟩) sz n c := by
  obtain ⟨cur, hg, hc⟩ := h.cur
  exact .inr ⟨g, 0, rfl, fun k hk j hj => by rw [Nat.zero_add]; simpa [World.cell?, hg] using hc k hk j hj⟩
/-- 'append([]T{}, xs...)'. -/
theorem wpList_clone {P : Program} {ops : Array Oper} {rest : List Oper} {o : Oper} {a : Act} {w : World} {Q : Exit → Act → World → Prop} (hgd : o.guard = none) (s x : Operand) (t : TypeId)
    (ho : o.op = .call { callee := .builtin .append, args := #[s, x], argTypes := #[t, t] })
    (e : TypeId) (i : TypeInfo) (z : Value) (size bytes : Nat) (ht : P.underlying t = some (.slice e)) (hi : P.info? e = some i) (hz : i.zero = some z)
    (hsize : i.size = size) (hby : i.bytes = bytes) (hzs : z.cells.size = size) (hsz : 0 < size)
    (g : Nat) (hs : a.eval s = .slice (some ⟨g, 0, none⟩) 0 0) (hg : w.heap[g]? = some (.cells #[] e (0, 0)))
    (ao : Option Addr) (m c : Nat) (f : Nat → Nat → Value) (hx : a.eval x = .slice ao m c) (hnil : ao = none → m = 0 ∧ c = 0) (hv : View w ao size m f) (h1 : ∀ u ∈ grid size m f, u.oneCell' = true)
    (h63 : m ≤ maxLen) (hbytes : m * bytes ≤ 140737488355328)
    (h : ∀ g' cap' w', g ≤ g' → Own w' g' e size m cap' f → Only (· = g) w w' → wpList P ops Q rest (a.put o.dst (.slice (some ⟨g', 0, none⟩) m cap')) w') : wpList P ops Q (o :: rest) a w := by
  have hgl : g < w.heap.size := (Array.getElem?_eq_some_iff.1 hg).1
  have hown : w.ownsRow g e size (.slice (some ⟨g, 0, none⟩) 0 0) 0 [] := ⟨by simp, .inr ⟨g, 0, #[], rfl, Nat.le_refl _, hg, Nat.le_refl _, by simp [maxLen], by simp, by simp⟩⟩
  cases ao with
  | none =>
    obtain ⟨rfl, rfl⟩ := hnil rfl
    refine wpList_append_own_none hgd s x t ho g e i size ht hi _ 0 [] hs hown hx ?_
    exact h g 0 w (Nat.le_refl _) ⟨#[], hg, Nat.le_refl _, by simp [maxLen], by simp, by simp [grid]⟩ (Only.refl _ _)
  | some ad =>
    refine wpList_append_own w hgd s x t ho g e i z size bytes ht hi hz hsize hby hzs hsz _ 0 [] hs hown ad m c (grid size m f) hx (grid_length _ _ _) (hv.news hsz ad rfl) h1 (by omega) (by simpa using hbytes) (Nat.le_of_lt hgl) ?_
    intro v' w' hown' hgrow hnn
    obtain ⟨hl, ⟨rfl, _⟩ | ⟨g', cap', cur, rfl, hg', hh, hc1, hc2, hc3, hc4⟩⟩ := hown'
    · exact absurd (hnn.1 rfl).1 (by simp)
    · rw [Nat.zero_add] at hc1 hc4 ⊢
      exact h g' cap' w' hg' ⟨cur, hh, hc1, hc2, hc3, by simpa using hc4⟩ ⟨hgrow.os, hgrow.tape, hgrow.output, hgrow.size, fun k hk hn => hgrow.block k hk (fun e => hn (by simpa [Value.ownBlock] using e))⟩
theorem grid_one {sz n : Nat} {c : Nat → Nat → Value} (hs : 0 < sz) (h : ∀ k j, j < sz → (c k j).oneCell' = true) : ∀ u ∈ grid sz n c, u.oneCell' = true := by
  intro u hu
  unfold grid at hu
  obtain ⟨x, _, rfl⟩ := List.mem_map.1 hu
  exact h _ _ (Nat.mod_lt _ hs)
end Go.Proofs.Ytehapoilfmgjgaa.Oct
