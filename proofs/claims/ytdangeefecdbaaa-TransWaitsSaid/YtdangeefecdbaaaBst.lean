/- The state of a bridge in memory: its own cells, its ports, what it has sent, what is to be flushed; messages as rows; an append onto a slice that is full. No condition. -/
import Derived.Test.YtdangeefecdbaaaWhole
import Derived.Test.YtdangeefecdbaaaClone
import Derived.Laws.Append
import Derived.Laws.AppendOwn
set_option linter.unusedSimpArgs false
namespace Go.Proofs.Ytdangeefecdbaaa.Br
open Go.RowKit
/-- A bridge in block bx, whose ports lie in block g. -/
structure Bst (w : World) (bx g : Nat) (b : Bri) (ps ss : Nat → Rec) (fs : Nat → Int) : Prop where
  h : w.heap[bx]? = some (.cells (rowB b) 33 (0, 0))
  ap : b.ap = some ⟨g, 0, none⟩
  p : Ports w g b.n ps
  s : View w b.ao 18 b.no fun k j => cellS (ss k) j
  f : View w b.af 1 b.nf fun k _ => .int .i64 (fs k)
  ne : bx ≠ g
  sn : ∀ g' o, b.ao = some ⟨g', o, none⟩ → g' ≠ g ∧ g' ≠ bx
  fn : ∀ g' o, b.af = some ⟨g', o, none⟩ → g' ≠ g ∧ g' ≠ bx
  so : b.ao = none → b.no = 0 ∧ b.co = 0
  fo : b.af = none → b.nf = 0 ∧ b.cf = 0
  sc : b.no ≤ b.co ∧ b.co ≤ maxLen
  fc : b.nf ≤ b.cf ∧ b.cf ≤ maxLen
theorem Bst.lt {w : World} {bx g : Nat} {b : Bri} {ps ss : Nat → Rec} {fs : Nat → Int} (h : Bst w bx g b ps ss fs) : bx < w.heap.size := (Array.getElem?_eq_some_iff.1 h.h).1
theorem View.keep {w w' : World} {a : Option Addr} {sz n : Nat} {c : Nat → Nat → Value} (h : View w a sz n c) (e : ∀ g o, a = some ⟨g, o, none⟩ → g < w.heap.size → w'.heap[g]? = w.heap[g]?) : View w' a sz n c := by
  rcases h with h | ⟨g, o, ha, hc⟩
  · exact .inl h
  · by_cases hs : 0 < n ∧ 0 < sz
    · have hg := cell_lt (hc 0 hs.1 0 hs.2)
      have he := e g o ha hg
      exact .inr ⟨g, o, ha, fun k hk j hj => by rw [World.cell?_of_block (w := w) (a := ⟨g, _, none⟩) he]; exact hc k hk j hj⟩
    · by_cases hn : n = 0
      · exact .inl hn
      · exact .inr ⟨g, o, ha, fun k hk j hj => by omega⟩
theorem Bst.below {w w' : World} {bx g : Nat} {b : Bri} {ps ss : Nat → Rec} {fs : Nat → Int} (h : Bst w bx g b ps ss fs) (hb : Below w.heap.size w w') : Bst w' bx g b ps ss fs :=
  ⟨(hb.block _ h.lt).trans h.h, h.ap, h.p.below hb h.p.lt, h.s.keep (fun _ _ _ hg => hb.block _ hg), h.f.keep (fun _ _ _ hg => hb.block _ hg), h.ne, h.sn, h.fn, h.so, h.fo, h.sc, h.fc⟩
/-- Another block is written. -/
theorem Bst.only {S : Nat → Prop} {w w' : World} {bx g : Nat} {b : Bri} {ps ss : Nat → Rec} {fs : Nat → Int} (h : Bst w bx g b ps ss fs) (hb : Only S w w') (h1 : ¬ S bx) (h2 : ¬ S g) (h3 : ∀ g' o, b.ao = some ⟨g', o, none⟩ → ¬ S g') (h4 : ∀ g' o, b.af = some ⟨g', o, none⟩ → ¬ S g') : Bst w' bx g b ps ss fs :=
  ⟨(hb.block _ h.lt h1).trans h.h, h.ap, h.p.only hb h2, h.s.keep (fun g' o e hg => hb.block _ hg (h3 g' o e)), h.f.keep (fun g' o e hg => hb.block _ hg (h4 g' o e)), h.ne, h.sn, h.fn, h.so, h.fo, h.sc, h.fc⟩
/-- A store into a port's cell. -/
theorem Bst.put {w : World} {bx g k j : Nat} {b : Bri} {ps ss : Nat → Rec} {fs : Nat → Int} {p p' : Rec} {v : Value} (h : Bst w bx g b (upd ps k p) ss fs) (hj : j < 89) (hv : (rowP p).setIfInBounds j v = rowP p') : Bst (w.setCell ⟨g, k * 89 + j, none⟩ v) bx g b (upd ps k p') ss fs :=
  ⟨at_far h.ne h.h, h.ap, h.p.step hj hv, h.s.keep (fun g' o e _ => Below.heap_setCell _ _ _ _ (h.sn g' o e).1), h.f.keep (fun g' o e _ => Below.heap_setCell _ _ _ _ (h.fn g' o e).1), h.ne, h.sn, h.fn, h.so, h.fo, h.sc, h.fc⟩
theorem Bst.start {w : World} {bx g : Nat} {b : Bri} {ps ss : Nat → Rec} {fs : Nat → Int} (h : Bst w bx g b ps ss fs) (k : Nat) : Bst w bx g b (upd ps k (ps k)) ss fs := by rw [upd_self]; exact h
/-- What was sent lies elsewhere now. -/
theorem Bst.out {w : World} {bx g go n co : Nat} {b : Bri} {ps ss ss' : Nat → Rec} {fs : Nat → Int} (h : Bst w bx g b ps ss fs) (ho : Own w go 67 18 n co fun k j => cellS (ss' k) j) (h1 : go ≠ bx) (h2 : go ≠ g) :
    Bst (w.setCell ⟨bx, 18, none⟩ (.slice (some ⟨go, 0, none⟩) n co)) bx g { b with ao := some ⟨go, 0, none⟩, no := n, co := co } ps ss' fs := by
  obtain ⟨cur, hcur, hc1, hc2, hc3⟩ := id ho
  refine ⟨at_set h.h (rowB_put_18 _ _ _ _), h.ap, h.p.other (Ne.symm h.ne) _, ho.view.keep (fun g' o e _ => ?_), h.f.keep (fun g' o e _ => Below.heap_setCell _ _ _ _ (h.fn g' o e).2), h.ne, fun g' o e => ?_, h.fn, (fun e => by cases e), h.fo, ⟨hc1, hc2⟩, h.fc⟩
  · cases e
    exact Below.heap_setCell _ _ _ _ h1
  · cases e
    exact ⟨h2, h1⟩
/-- What is to be flushed lies elsewhere now. -/
theorem Bst.flushed {w : World} {bx g go n co : Nat} {b : Bri} {ps ss : Nat → Rec} {fs fs' : Nat → Int} (h : Bst w bx g b ps ss fs) (ho : Own w go 3 1 n co fun k _ => .int .i64 (fs' k)) (h1 : go ≠ bx) (h2 : go ≠ g) :
    Bst (w.setCell ⟨bx, 19, none⟩ (.slice (some ⟨go, 0, none⟩) n co)) bx g { b with af := some ⟨go, 0, none⟩, nf := n, cf := co } ps ss fs' := by
  obtain ⟨cur, hcur, hc1, hc2, hc3⟩ := id ho
  refine ⟨at_set h.h (rowB_put_19 _ _ _ _), h.ap, h.p.other (Ne.symm h.ne) _, h.s.keep (fun g' o e _ => Below.heap_setCell _ _ _ _ (h.sn g' o e).2), ho.view.keep (fun g' o e _ => ?_), h.ne, h.sn, fun g' o e => ?_, h.so, (fun e => by cases e), h.sc, ⟨hc1, hc2⟩⟩
  · cases e
    exact Below.heap_setCell _ _ _ _ h1
  · cases e
    exact ⟨h2, h1⟩
/-- A clone, stored into a block of its own. -/
theorem Bst.of_clone {w w' : World} {b : Bri} {ps ss : Nat → Rec} {fs : Nat → Int} {gp cp go co gf cf : Nat} (hp : Own w gp 51 89 b.n cp fun k j => cellP (ps k) j) (hs : Own w go 67 18 b.no co fun k j => cellS (ss k) j) (hf : Own w gf 3 1 b.nf cf fun k _ => .int .i64 (fs k))
    (h12 : gp < go) (h23 : go < gf) (bx : Nat) (hw : Below w.heap.size w w') (hbx : w.heap.size ≤ bx) (hX : w'.heap[bx]? = some (.cells (rowB (b.at gp cp go co gf cf)) 33 (0, 0))) : Bst w' bx gp (b.at gp cp go co gf cf) ps ss fs := by
  have l1 := hp.lt
  have l2 := hs.lt
  have l3 := hf.lt
  obtain ⟨c2, _, e1, e2, _⟩ := id hs
  obtain ⟨c3, _, e3, e4, _⟩ := id hf
  exact ⟨hX, rfl, hp.ports.below hw l1, hs.view.keep (fun _ _ _ hg => hw.block _ hg), hf.view.keep (fun _ _ _ hg => hw.block _ hg), by omega, (fun g' o e => by cases e; omega), (fun g' o e => by cases e; omega), (fun e => by cases e), (fun e => by cases e), ⟨e1, e2⟩, ⟨e3, e4⟩⟩
/-- What the laws read. -/
theorem Bst.reads {w : World} {bx g : Nat} {b : Bri} {ps ss : Nat → Rec} {fs : Nat → Int} (h : Bst w bx g b ps ss fs) (h1 : b.n ≤ 1000) (h2 : b.no ≤ 1000) (h3 : b.nf ≤ 1000) : Reads w b ps ss fs :=
  ⟨by rw [show PortsV w b ps = View w b.ap 89 b.n (fun k j => cellP (ps k) j) from rfl, h.ap]; exact h.p.view, h.s, h.f, (fun e => by rw [h.ap] at e; cases e), h.so, h.fo, by omega, by omega, by omega⟩
theorem grid_snoc {sz : Nat} (hs : 0 < sz) (n : Nat) (c : Nat → Nat → Value) : grid sz (n + 1) c = grid sz n c ++ (List.range sz).map (c n) := by
  unfold grid
  rw [Nat.add_mul, Nat.one_mul, List.range_add, List.map_append, List.map_map]
  congr 1
  apply List.map_congr_left
  intro x hx
  have hx' := List.mem_range.1 hx
  simp only [Function.comp]
  rw [show (n * sz + x) / sz = n by rw [Nat.mul_comm, Nat.mul_add_div hs, Nat.div_eq_of_lt hx', Nat.add_zero], show (n * sz + x) % sz = x by rw [Nat.mul_comm, Nat.mul_add_mod, Nat.mod_eq_of_lt hx']]
theorem grid_congr {sz n : Nat} {f g : Nat → Nat → Value} (_hs : 0 < sz) (h : ∀ k j, k < n → f k j = g k j) : grid sz n f = grid sz n g := by
  unfold grid
  apply List.map_congr_left
  intro x hx
  have hx' := List.mem_range.1 hx
  exact h _ _ (Nat.div_lt_of_lt_mul (by rw [Nat.mul_comm]; exact hx'))
/-- Onto a slice that is full one row more. -/
theorem run_append_full {P : Program} {w : World} (t ty e : TypeId) (i : TypeInfo) (z : Value) (sz bytes : Nat) (ht : P.underlying t = some (.slice e)) (hi : P.info? e = some i) (hz : i.zero = some z)
    (hsize : i.size = sz) (hby : i.bytes = bytes) (hzs : z.cells.size = sz) (hsz : 0 < sz)
    (ao : Option Addr) (n : Nat) (f : Nat → Nat → Value) (hv : View w ao sz n f) (hnil : ao = none → n = 0) (c : Nat → Value) (ad : Addr) (cc : Nat) (hnews : ∀ j, j < sz → w.cell? (ad.add j) = some (c j)) (h1 : ∀ j, j < sz → (c j).oneCell' = true)
    (h63 : n + 1 ≤ maxLen) (hbytes : (n + 1) * bytes ≤ 140737488355328) :
    ∃ g' cap' w', (Builtin.append_ #[t, t] ty #[.slice ao n n, .slice (some ad) 1 cc]).run P w = .ok (.slice (some ⟨g', 0, none⟩) (n + 1) cap') w' ∧ w.heap.size ≤ g' ∧ Own w' g' e sz (n + 1) cap' (fun k j => if k < n then f k j else c j) ∧ Below w.heap.size w w' := by
  have hnl : ∀ (j : Nat) (u : Value), ((List.range sz).map c)[j]? = some u → w.cell? (ad.add j) = some u := fun j u hj => by
    rw [List.getElem?_map] at hj
    cases hr : (List.range sz)[j]? with
    | none => rw [hr] at hj; cases hj
    | some x =>
      rw [hr] at hj
      have hx := List.getElem?_eq_some_iff.1 hr
      obtain ⟨hl, he⟩ := hx
      simp at hl he
      subst he
      cases hj
      exact hnews j hl
  have hgrid : grid sz (n + 1) (fun k j => if k < n then f k j else c j) = grid sz n f ++ (List.range sz).map c := by
    rw [grid_snoc hsz]
    congr 1
    · exact grid_congr hsz (fun k j hk => if_pos hk)
    · apply List.map_congr_left
      intro x _
      exact if_neg (Nat.lt_irrefl _)
  cases ao with
  | none =>
    obtain rfl := hnil rfl
    obtain ⟨v', w', hr, ho, hg, hn⟩ := run_append_own (P := P) w w.heap.size t ty e i z sz bytes ht hi hz hsize hby hzs hsz (.slice none 0 0) 0 [] (World.ownsRow_nil w _ e sz) ad 1 cc ((List.range sz).map c) (by simp) hnl (by
      intro u hu
      obtain ⟨x, hx, rfl⟩ := List.mem_map.1 hu
      exact h1 x (List.mem_range.1 hx)) h63 hbytes (Nat.le_refl _)
    obtain ⟨hl, ⟨rfl, h0⟩ | ⟨g', cap', cur, rfl, hg', hh, q1, q2, q3, q4⟩⟩ := ho
    · cases h0
    · refine ⟨g', cap', w', by rw [hr], hg', ⟨cur, hh, q1, q2, q3, by rw [hgrid]; simpa [grid] using q4⟩, ⟨hg.os, hg.tape, hg.output, hg.size, fun k hk => hg.block k hk (by simp [Value.ownBlock])⟩⟩
  | some a =>
    subst hsize
    subst hby
    have hsmall : n + 1 ≤ 9223372036854775807 := by simp only [maxLen] at h63; omega
    have hr := run_append_grow (P := P) (w := w) t ty e i z ht hi hz a n n (grid i.size n f) (grid_length _ _ _) (hv.news hsz a rfl) ad 1 cc ((List.range i.size).map c) (by simp) hnl (by omega) (by omega) (growslice_fits (by omega) hbytes)
    have hge := grownCap_ge w (n + 1) n e
    have hcm : grownCap w (n + 1) n e ≤ maxLen := grownCap_le_maxLen w (n + 1) n e h63
    refine ⟨_, _, _, hr, Nat.le_refl _, ⟨_, heap_alloc_new w.drew _, hge, hcm, ?_, ?_⟩, ⟨rfl, rfl, rfl, by simp, fun k hk => Below.heap_alloc w.drew _ k hk⟩⟩
    · simp only [Array.size_append, List.size_toArray, size_zeroCells, hzs, grid_length, List.length_map, List.length_range]
      rw [show n * i.size + i.size = (n + 1) * i.size by rw [Nat.add_mul, Nat.one_mul], ← Nat.add_mul]
      congr 1
      omega
    · rw [hgrid]
      simp only [Array.toList_append, List.append_assoc]
      rw [← List.append_assoc]
      have hl : (grid i.size n f ++ (List.range i.size).map c).length = (n + 1) * i.size := by simp [grid_length, Nat.add_mul]
      rw [← hl]
      exact List.take_left
/-- A message, as cells; its record is that of what was sent. -/
def rowMs (r : Rec) : Array Value := #[.int .i64 (r.i 1), .bool (r.b 2), .bool (r.b 3), .bool (r.b 4), .bool (r.b 5), .bool (r.b 6), .bool (r.b 7), .int .i64 (r.i 8), .int .u64 (r.i 9), .int .u32 (r.i 10), .int .u64 (r.i 11), .int .u16 (r.i 12), .int .u16 (r.i 13), .int .i64 (r.i 14), .int .i64 (r.i 15), .int .i64 (r.i 16), .int .i64 (r.i 17)]
theorem rowMs_size (r : Rec) : (rowMs r).size = 17 := rfl
theorem rowMs_one (r : Rec) : (rowMs r).all (·.oneCell') = true := by kernel_rfl
theorem sizeM (r : Rec) : (Try.prog.info? 49).map (·.size) = some (rowMs r).size := by rw [rowMs_size]; kernel_rfl
theorem zeroM (w : World) : Sem.run Try.prog (zeroValue 49) w = .ok (.agg (rowMs zeroR)) w := by kernel_rfl
theorem zeroRow0 (w : World) : Sem.run Try.prog (zeroValue 67) w = .ok (.agg (rowS zeroR)) w := by kernel_rfl
theorem rowMs_0 (r : Rec) : (rowMs r)[0]? = some (.int .i64 (r.i 1)) := rfl
theorem rowMs_put_0 (r : Rec) (v : Int) : (rowMs r).setIfInBounds 0 (.int .i64 v) = rowMs (r.setI 1 v) := rfl
theorem rowMs_1 (r : Rec) : (rowMs r)[1]? = some (.bool (r.b 2)) := rfl
theorem rowMs_put_1 (r : Rec) (v : Bool) : (rowMs r).setIfInBounds 1 (.bool v) = rowMs (r.setB 2 v) := rfl
theorem rowMs_2 (r : Rec) : (rowMs r)[2]? = some (.bool (r.b 3)) := rfl
theorem rowMs_put_2 (r : Rec) (v : Bool) : (rowMs r).setIfInBounds 2 (.bool v) = rowMs (r.setB 3 v) := rfl
theorem rowMs_3 (r : Rec) : (rowMs r)[3]? = some (.bool (r.b 4)) := rfl
theorem rowMs_put_3 (r : Rec) (v : Bool) : (rowMs r).setIfInBounds 3 (.bool v) = rowMs (r.setB 4 v) := rfl
theorem rowMs_4 (r : Rec) : (rowMs r)[4]? = some (.bool (r.b 5)) := rfl
theorem rowMs_put_4 (r : Rec) (v : Bool) : (rowMs r).setIfInBounds 4 (.bool v) = rowMs (r.setB 5 v) := rfl
theorem rowMs_5 (r : Rec) : (rowMs r)[5]? = some (.bool (r.b 6)) := rfl
theorem rowMs_put_5 (r : Rec) (v : Bool) : (rowMs r).setIfInBounds 5 (.bool v) = rowMs (r.setB 6 v) := rfl
theorem rowMs_6 (r : Rec) : (rowMs r)[6]? = some (.bool (r.b 7)) := rfl
theorem rowMs_put_6 (r : Rec) (v : Bool) : (rowMs r).setIfInBounds 6 (.bool v) = rowMs (r.setB 7 v) := rfl
theorem rowMs_7 (r : Rec) : (rowMs r)[7]? = some (.int .i64 (r.i 8)) := rfl
theorem rowMs_put_7 (r : Rec) (v : Int) : (rowMs r).setIfInBounds 7 (.int .i64 v) = rowMs (r.setI 8 v) := rfl
theorem rowMs_8 (r : Rec) : (rowMs r)[8]? = some (.int .u64 (r.i 9)) := rfl
theorem rowMs_put_8 (r : Rec) (v : Int) : (rowMs r).setIfInBounds 8 (.int .u64 v) = rowMs (r.setI 9 v) := rfl
theorem rowMs_9 (r : Rec) : (rowMs r)[9]? = some (.int .u32 (r.i 10)) := rfl
theorem rowMs_put_9 (r : Rec) (v : Int) : (rowMs r).setIfInBounds 9 (.int .u32 v) = rowMs (r.setI 10 v) := rfl
theorem rowMs_10 (r : Rec) : (rowMs r)[10]? = some (.int .u64 (r.i 11)) := rfl
theorem rowMs_put_10 (r : Rec) (v : Int) : (rowMs r).setIfInBounds 10 (.int .u64 v) = rowMs (r.setI 11 v) := rfl
theorem rowMs_11 (r : Rec) : (rowMs r)[11]? = some (.int .u16 (r.i 12)) := rfl
theorem rowMs_put_11 (r : Rec) (v : Int) : (rowMs r).setIfInBounds 11 (.int .u16 v) = rowMs (r.setI 12 v) := rfl
theorem rowMs_12 (r : Rec) : (rowMs r)[12]? = some (.int .u16 (r.i 13)) := rfl
theorem rowMs_put_12 (r : Rec) (v : Int) : (rowMs r).setIfInBounds 12 (.int .u16 v) = rowMs (r.setI 13 v) := rfl
theorem rowMs_13 (r : Rec) : (rowMs r)[13]? = some (.int .i64 (r.i 14)) := rfl
theorem rowMs_put_13 (r : Rec) (v : Int) : (rowMs r).setIfInBounds 13 (.int .i64 v) = rowMs (r.setI 14 v) := rfl
theorem rowMs_14 (r : Rec) : (rowMs r)[14]? = some (.int .i64 (r.i 15)) := rfl
theorem rowMs_put_14 (r : Rec) (v : Int) : (rowMs r).setIfInBounds 14 (.int .i64 v) = rowMs (r.setI 15 v) := rfl
theorem rowMs_15 (r : Rec) : (rowMs r)[15]? = some (.int .i64 (r.i 16)) := rfl
theorem rowMs_put_15 (r : Rec) (v : Int) : (rowMs r).setIfInBounds 15 (.int .i64 v) = rowMs (r.setI 16 v) := rfl
theorem rowMs_16 (r : Rec) : (rowMs r)[16]? = some (.int .i64 (r.i 17)) := rfl
theorem rowMs_put_16 (r : Rec) (v : Int) : (rowMs r).setIfInBounds 16 (.int .i64 v) = rowMs (r.setI 17 v) := rfl
theorem rowMs_sent (r : Rec) (k : Nat) (w : World) : Sem.run Try.prog (Instr.build 67 #[(0, .int .i64 k), (1, .agg (rowMs r))]) w = .ok (.agg (rowS (r.setI 0 k))) w := by kernel_rfl
/-- Cells of a row that lies in a block. -/
theorem range_sub {w : World} {g : Nat} {C : Array Value} {T : TypeId} {fr : Nat × Nat} (h : w.heap[g]? = some (.cells C T fr)) (o : Nat) (cs : List Value) (hc : ∀ (j : Nat) (v : Value), cs[j]? = some v → C[o + j]? = some v) : w.rangeAt g o cs := fun j v hv => (cells_of h _).trans (hc j v hv)
end Go.Proofs.Ytdangeefecdbaaa.Br
