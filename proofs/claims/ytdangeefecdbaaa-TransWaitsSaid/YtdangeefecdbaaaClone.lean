/- What fordref08.Clone makes of a bridge whose ports, messages and places can be read: the same bridge, whose three slices lie in new blocks of their own. -/
import Derived.Test.YtdangeefecdbaaaFew
import Derived.Laws.AppendOwnNone
import Derived.WalkSpells
namespace Go.Proofs.Ytdangeefecdbaaa.Br
open Go.RowKit
attribute [local go_sem] rowB_size rowB_0 rowB_1 rowB_2 rowB_3 rowB_4 rowB_5 rowB_6 rowB_7 rowB_8 rowB_9 rowB_10 rowB_11 rowB_12 rowB_13 rowB_14 rowB_15 rowB_16 rowB_17 rowB_18 rowB_19
theorem at_new {w : World} {o : Obj} {n : Nat} (h : n = w.heap.size) : (w.alloc o).heap[n]? = some o := by rw [h]; exact heap_alloc_new _ _
theorem at_old {w : World} {o : Obj} {n : Nat} {x : Option Obj} (h : n < w.heap.size) (e : w.heap[n]? = x) : (w.alloc o).heap[n]? = x := by rw [Below.heap_alloc _ _ _ h]; exact e
theorem at_set {w : World} {g i : Nat} {cs cs' : Array Value} {T : TypeId} {v : Value} (h : w.heap[g]? = some (.cells cs T (0, 0))) (e : cs.setIfInBounds i v = cs') : (w.setCell ⟨g, i, none⟩ v).heap[g]? = some (.cells cs' T (0, 0)) := by
  rw [← e]
  exact heap_setCell_same w g i cs T v h
theorem at_far {w : World} {a : Addr} {n : Nat} {v : Value} {x : Option Obj} (h : n ≠ a.block) (e : w.heap[n]? = x) : (w.setCell a v).heap[n]? = x := by rw [Below.heap_setCell _ _ _ _ h]; exact e
/-- n things of sz cells, one behind the other. -/
def grid (sz n : Nat) (c : Nat → Nat → Value) : List Value := (List.range (n * sz)).map fun x => c (x / sz) (x % sz)
theorem grid_length (sz n : Nat) (c : Nat → Nat → Value) : (grid sz n c).length = n * sz := by simp [grid]
theorem grid_get {sz n : Nat} {c : Nat → Nat → Value} {x : Nat} {u : Value} (h : (grid sz n c)[x]? = some u) : x < n * sz ∧ u = c (x / sz) (x % sz) := by
  unfold grid at h
  rw [List.getElem?_map] at h
  by_cases hx : x < n * sz
  · rw [List.getElem?_range hx] at h
    exact ⟨hx, (Option.some.inj h).symm⟩
  · rw [List.getElem?_eq_none (by simp <;> omega)] at h
    cases h
theorem grid_at {sz n : Nat} {c : Nat → Nat → Value} {k j : Nat} (hk : k < n) (hj : j < sz) : (grid sz n c)[k * sz + j]? = some (c k j) := by
  have hx : k * sz + j < n * sz := by
    have : (k + 1) * sz ≤ n * sz := Nat.mul_le_mul_right _ hk
    rw [Nat.succ_mul] at this
    omega
  have hs : 0 < sz := by omega
  unfold grid
  rw [List.getElem?_map, List.getElem?_range hx]
  simp only [Option.map_some]
  rw [Nat.mul_comm k sz, Nat.mul_add_div hs, Nat.mul_add_mod, Nat.div_eq_of_lt hj, Nat.mod_eq_of_lt hj, Nat.add_zero]
theorem View.news {w : World} {a : Option Addr} {sz n : Nat} {c : Nat → Nat → Value} (h : View w a sz n c) (hs : 0 < sz) : ∀ ad, a = some ad → ∀ j u, (grid sz n c)[j]? = some u → w.cell? (ad.add j) = some u := by
  intro ad ha j u hu
  obtain ⟨hj, rfl⟩ := grid_get hu
  rcases h with rfl | ⟨g, o, ha', hc⟩
  · omega
  · obtain rfl : ad = ⟨g, o, none⟩ := Option.some.inj (ha.symm.trans ha')
    rw [Addr.add_mid]
    have := hc (j / sz) ((Nat.div_lt_iff_lt_mul hs).2 hj) (j % sz) (Nat.mod_lt _ hs)
    rwa [Nat.div_add_mod'] at this
/-- n things lie at the head of block g, which has room for cap. -/
def Own (w : World) (g : Nat) (T : TypeId) (sz n cap : Nat) (c : Nat → Nat → Value) : Prop :=
  ∃ cur : Array Value, w.heap[g]? = some (.cells cur T (0, 0)) ∧ n ≤ cap ∧ cap ≤ maxLen ∧ cur.size = cap * sz ∧ cur.toList.take (n * sz) = grid sz n c
theorem Own.lt {w : World} {g n cap sz : Nat} {T : TypeId} {c : Nat → Nat → Value} (h : Own w g T sz n cap c) : g < w.heap.size := by
  obtain ⟨cur, hg, _⟩ := h
  exact (Array.getElem?_eq_some_iff.1 hg).1
theorem Own.of_block {w w' : World} {g n cap sz : Nat} {T : TypeId} {c : Nat → Nat → Value} (h : Own w g T sz n cap c) (e : w'.heap[g]? = w.heap[g]?) : Own w' g T sz n cap c := by
  obtain ⟨cur, hg, h1⟩ := h
  exact ⟨cur, e.trans hg, h1⟩
theorem Own.cur {w : World} {g n cap sz : Nat} {T : TypeId} {c : Nat → Nat → Value} (h : Own w g T sz n cap c) : ∃ cur : Array Value, w.heap[g]? = some (.cells cur T (0, 0)) ∧ ∀ k, k < n → ∀ j, j < sz → cur[k * sz + j]? = some (c k j) := by
  obtain ⟨cur, hg, _, _, _, ht⟩ := h
  refine ⟨cur, hg, fun k hk j hj => ?_⟩
  have h1 := grid_at (c := c) hk hj
  rw [← ht, List.getElem?_take] at h1
  split at h1
  · simpa using h1
  · cases h1
theorem Own.view {w : World} {g n cap sz : Nat} {T : TypeId} {c : Nat → Nat → Value} (h : Own w g T sz n cap c) : View w (some ⟨g, 0, none⟩) sz n c := by
  obtain ⟨cur, hg, hc⟩ := h.cur
  exact .inr ⟨g, 0, rfl, fun k hk j hj => by rw [Nat.zero_add]; simpa [World.cell?, hg] using hc k hk j hj⟩
theorem Own.ports {w : World} {g n cap : Nat} {ps : Nat → Rec} (h : Own w g 51 89 n cap fun k j => cellP (ps k) j) : Ports w g n ps := h.cur
/-- 'append([]T{}, xs...)'. -/
theorem wpList_clone {P : Program} {ops : Array Oper} {rest : List Oper} {o : Oper} {a : Act} {w : World} {Q : Exit → Act → World → Prop} (hgd : o.guard = none) (s x : Operand) (t : TypeId)
    (ho : o.op = .call { callee := .builtin .append, args := #[s, x], argTypes := #[t, t] })
    (e : TypeId) (i : TypeInfo) (z : Value) (size bytes : Nat) (ht : P.underlying t = some (.slice e)) (hi : P.info? e = some i) (hz : i.zero = some z)
    (hsize : i.size = size) (hby : i.bytes = bytes) (hzs : z.cells.size = size) (hsz : 0 < size)
    (g : Nat) (hs : a.eval s = .slice (some ⟨g, 0, none⟩) 0 0) (hg : w.heap[g]? = some (.cells #[] e (0, 0)))
    (ao : Option Addr) (m c : Nat) (f : Nat → Nat → Value) (hx : a.eval x = .slice ao m c) (hnil : ao = none → m = 0 ∧ c = 0) (hv : View w ao size m f) (h1 : ∀ u ∈ grid size m f, u.oneCell' = true)
    (h63 : m ≤ maxLen) (hbytes : m * bytes ≤ 140737488355328)
    (h : ∀ g' cap' w', g ≤ g' → Own w' g' e size m cap' f → Only (· = g) w w' → wpList P ops Q rest (a.put o.dst (.slice (some ⟨g', 0, none⟩) m cap')) w') : wpList P ops Q (o :: rest) a w := by
  have hgl : g < w.heap.size := (Array.getElem?_eq_some_iff.1 hg).1
  have hown : w.ownsRow g e size (.slice (some ⟨g, 0, none⟩) 0 0) 0 [] := ⟨by simp, .inr ⟨g, 0, #[], rfl, Nat.le_refl _, hg, Nat.le_refl _, by simp [maxLen], by simp, by simp⟩⟩
  cases ao with
  | none =>
    obtain ⟨rfl, rfl⟩ := hnil rfl
    refine wpList_append_own_none hgd s x t ho g e i size ht hi _ 0 [] hs hown hx ?_
    exact h g 0 w (Nat.le_refl _) ⟨#[], hg, Nat.le_refl _, by simp [maxLen], by simp, by simp [grid]⟩ (Only.refl _ _)
  | some ad =>
    refine wpList_append_own w hgd s x t ho g e i z size bytes ht hi hz hsize hby hzs hsz _ 0 [] hs hown ad m c (grid size m f) hx (grid_length _ _ _) (hv.news hsz ad rfl) h1 (by omega) (by simpa using hbytes) (Nat.le_of_lt hgl) ?_
    intro v' w' hown' hgrow hnn
    obtain ⟨hl, ⟨rfl, _⟩ | ⟨g', cap', cur, rfl, hg', hh, hc1, hc2, hc3, hc4⟩⟩ := hown'
    · exact absurd (hnn.1 rfl).1 (by simp)
    · rw [Nat.zero_add] at hc1 hc4 ⊢
      exact h g' cap' w' hg' ⟨cur, hh, hc1, hc2, hc3, by simpa using hc4⟩ ⟨hgrow.os, hgrow.tape, hgrow.output, hgrow.size, fun k hk hn => hgrow.block k hk (fun e => hn (by simpa [Value.ownBlock] using e))⟩
/-- A message that was sent, as cells. -/
def rowS (r : Rec) : Array Value := #[.int .i64 (r.i 0), .int .i64 (r.i 1), .bool (r.b 2), .bool (r.b 3), .bool (r.b 4), .bool (r.b 5), .bool (r.b 6), .bool (r.b 7), .int .i64 (r.i 8), .int .u64 (r.i 9), .int .u32 (r.i 10), .int .u64 (r.i 11), .int .u16 (r.i 12), .int .u16 (r.i 13), .int .i64 (r.i 14), .int .i64 (r.i 15), .int .i64 (r.i 16), .int .i64 (r.i 17)]
theorem rowS_size (r : Rec) : (rowS r).size = 18 := rfl
theorem rowS_0 (r : Rec) : (rowS r)[0]? = some (.int .i64 (r.i 0)) := rfl
theorem rowS_1 (r : Rec) : (rowS r)[1]? = some (.int .i64 (r.i 1)) := rfl
theorem rowS_2 (r : Rec) : (rowS r)[2]? = some (.bool (r.b 2)) := rfl
theorem rowS_3 (r : Rec) : (rowS r)[3]? = some (.bool (r.b 3)) := rfl
theorem rowS_4 (r : Rec) : (rowS r)[4]? = some (.bool (r.b 4)) := rfl
theorem rowS_5 (r : Rec) : (rowS r)[5]? = some (.bool (r.b 5)) := rfl
theorem rowS_6 (r : Rec) : (rowS r)[6]? = some (.bool (r.b 6)) := rfl
theorem rowS_7 (r : Rec) : (rowS r)[7]? = some (.bool (r.b 7)) := rfl
theorem rowS_8 (r : Rec) : (rowS r)[8]? = some (.int .i64 (r.i 8)) := rfl
theorem rowS_9 (r : Rec) : (rowS r)[9]? = some (.int .u64 (r.i 9)) := rfl
theorem rowS_10 (r : Rec) : (rowS r)[10]? = some (.int .u32 (r.i 10)) := rfl
theorem rowS_11 (r : Rec) : (rowS r)[11]? = some (.int .u64 (r.i 11)) := rfl
theorem rowS_12 (r : Rec) : (rowS r)[12]? = some (.int .u16 (r.i 12)) := rfl
theorem rowS_13 (r : Rec) : (rowS r)[13]? = some (.int .u16 (r.i 13)) := rfl
theorem rowS_14 (r : Rec) : (rowS r)[14]? = some (.int .i64 (r.i 14)) := rfl
theorem rowS_15 (r : Rec) : (rowS r)[15]? = some (.int .i64 (r.i 15)) := rfl
theorem rowS_16 (r : Rec) : (rowS r)[16]? = some (.int .i64 (r.i 16)) := rfl
theorem rowS_17 (r : Rec) : (rowS r)[17]? = some (.int .i64 (r.i 17)) := rfl
/-- A sent message's cell. -/
def cellS (r : Rec) (j : Nat) : Value := (rowS r)[j]?.getD undef
theorem rowS_get {r : Rec} {j : Nat} (h : j < 18) : (rowS r)[j]? = some (cellS r j) := by
  unfold cellS
  have hs : j < (rowS r).size := by rw [rowS_size]; exact h
  rw [Array.getElem?_eq_getElem hs]
  rfl
theorem cellP_one (r : Rec) (j : Nat) (hj : j < 89) : (cellP r j).oneCell' = true := by
  unfold cellP
  by_cases h : j < (rowP r).size
  · rw [Array.getElem?_eq_getElem h]
    exact Array.all_eq_true_iff_forall_mem.1 (rowP_one r) _ (Array.getElem_mem h)
  · exact absurd hj (by rw [rowP_size] at h; exact h)
theorem rowS_one (p : Rec) : (rowS p).all (·.oneCell') = true := by kernel_rfl
theorem cellS_one (r : Rec) (j : Nat) (hj : j < 18) : (cellS r j).oneCell' = true := by
  unfold cellS
  by_cases h : j < (rowS r).size
  · rw [Array.getElem?_eq_getElem h]
    exact Array.all_eq_true_iff_forall_mem.1 (rowS_one r) _ (Array.getElem_mem h)
  · exact absurd hj (by rw [rowS_size] at h; exact h)
theorem grid_one {sz n : Nat} {c : Nat → Nat → Value} (hs : 0 < sz) (h : ∀ k j, j < sz → (c k j).oneCell' = true) : ∀ u ∈ grid sz n c, u.oneCell' = true := by
  intro u hu
  unfold grid at hu
  obtain ⟨x, _, rfl⟩ := List.mem_map.1 hu
  exact h _ _ (Nat.mod_lt _ hs)
/-- A bridge of zeros. -/
def zeroBri : Bri := ⟨zeroR, none, 0, 0, none, 0, 0, none, 0, 0⟩
theorem zeroBr (w : World) : Sem.run Try.prog (zeroValue 33) w = .ok (.agg (rowB zeroBri)) w := by kernel_rfl
theorem rowB_one (b : Bri) : (rowB b).all (·.oneCell') = true := by kernel_rfl
attribute [local go_sem] zeroBr
theorem infoP : (Try.prog.info? 51).map (fun i => (i.zero, i.size, i.bytes)) = some (some (.agg (rowP zeroR)), 89, 416) := by kernel_rfl
theorem infoS : (Try.prog.info? 67).map (fun i => (i.zero, i.size, i.bytes)) = some (some (.agg (rowS zeroR)), 18, 96) := by kernel_rfl
theorem infoI : (Try.prog.info? 3).map (fun i => (i.zero, i.size, i.bytes)) = some (some (.int .i64 0), 1, 8) := by kernel_rfl
/-- All that lies behind a bridge can be read, and is not too much. -/
structure Reads (w : World) (b : Bri) (ps ss : Nat → Rec) (fs : Nat → Int) : Prop where
  p : PortsV w b ps
  s : View w b.ao 18 b.no fun k j => cellS (ss k) j
  f : View w b.af 1 b.nf fun k _ => .int .i64 (fs k)
  pn : b.ap = none → b.n = 0 ∧ b.cp = 0
  sn : b.ao = none → b.no = 0 ∧ b.co = 0
  fn : b.af = none → b.nf = 0 ∧ b.cf = 0
  pb : b.n * 416 ≤ 140737488351232
  sb : b.no * 96 ≤ 140737488351232
  fb : b.nf * 8 ≤ 140737488351232
theorem Reads.below {w w' : World} {b : Bri} {ps ss : Nat → Rec} {fs : Nat → Int} (h : Reads w b ps ss fs) (hb : Below w.heap.size w w') : Reads w' b ps ss fs :=
  ⟨h.p.below hb, h.s.below hb, h.f.below hb, h.pn, h.sn, h.fn, h.pb, h.sb, h.fb⟩
/-- The same bridge, whose slices lie elsewhere. -/
def Bri.at (b : Bri) (gp cp go co gf cf : Nat) : Bri := { b with ap := some ⟨gp, 0, none⟩, cp := cp, ao := some ⟨go, 0, none⟩, co := co, af := some ⟨gf, 0, none⟩, cf := cf }
/-- What is told of a clone. -/
def Cloned (b : Bri) (ps ss : Nat → Rec) (fs : Nat → Int) (w : World) (e : Ending) (w' : World) : Prop :=
  ∃ gp cp go co gf cf, e = .returned (.agg (rowB (b.at gp cp go co gf cf))) ∧ w.heap.size ≤ gp ∧ gp < go ∧ go < gf ∧ Own w' gp 51 89 b.n cp (fun k j => cellP (ps k) j) ∧ Own w' go 67 18 b.no co (fun k j => cellS (ss k) j) ∧
    Own w' gf 3 1 b.nf cf (fun k _ => .int .i64 (fs k)) ∧ Below w.heap.size w w'
set_option maxHeartbeats 4000000 in
theorem clone_any (b : Bri) (ps ss : Nat → Rec) (fs : Nat → Int) (w : World) (h : Reads w b ps ss fs) : Calls Try.prog 13 #[.agg (rowB b)] w (Cloned b ps ss fs w) := by
  obtain ⟨iP, hiP, hzP, hsP, hbP⟩ := info_parts infoP
  obtain ⟨iS, hiS, hzS, hsS, hbS⟩ := info_parts infoS
  obtain ⟨iI, hiI, hzI, hsI, hbI⟩ := info_parts infoI
  have H := Lib.hid h
  have HP := Lib.hid (And.intro hiP (And.intro hzP (And.intro hsP hbP)))
  have HS := Lib.hid (And.intro hiS (And.intro hzS (And.intro hsS hbS)))
  have HI := Lib.hid (And.intro hiI (And.intro hzI (And.intro hsI hbI)))
  clear h hiP hzP hsP hbP hiS hzS hsS hbS hiI hzI hsI hbI
  go_enter Try.func13, Try.ntmps13
  go_wp2_with (first
    | (at_builtin; refine wpList_clone rfl (.tmp 3) (.tmp 5) 29 rfl 51 iP _ 89 416 Try.underlying29 HP.out.1 HP.out.2.1 HP.out.2.2.1 HP.out.2.2.2 rfl (by decide) (w.heap.size + 1 + 1) rfl (at_new (by simp)) b.ap b.n b.cp (fun k j => cellP (ps k) j) rfl H.out.pn (H.out.p.below (more (more (more (Below.refl _ _) _) _) _)) (grid_one (by decide) fun _ _ hj => cellP_one _ _ hj) (by have := H.out.pb; unfold maxLen; omega) (by have := H.out.pb; omega) ?_; intro g1 c1 w1 hg1 ho1 hb1; simp only [Act.put, List.setIfInBounds_toArray, List.set_cons_zero, List.set_cons_succ]; have hB1 : w1.heap[w.heap.size]? = some (.cells (rowB b) 33 (0, 0)) := (by rw [hb1.block _ (by simp <;> omega) (by omega)]; first | done | exact at_old (by simp <;> omega) (at_old (by simp) (at_new rfl))); have hZ1 : w1.heap[w.heap.size + 1]? = some (.cells (rowB zeroBri) 33 (0, 0)) := (by rw [hb1.block _ (by simp <;> omega) (by omega)]; first | done | exact at_old (by simp) (at_new (by simp))); have hW1 : Below w.heap.size w w1 := (more (more (more (Below.refl _ _) _) _) _).trans (hb1.below (by simp <;> omega) (fun k hk => by omega)); have c17 : w1.cell? ⟨w.heap.size, 17, none⟩ = some (.slice b.ap b.n b.cp) := cells_of hB1 17; have c18 : w1.cell? ⟨w.heap.size, 18, none⟩ = some (.slice b.ao b.no b.co) := cells_of hB1 18; have f17 : w1.frozen? ⟨w.heap.size, 17, none⟩ = false := frozen_of_row w1 w.heap.size 17 _ _ hB1; have HB1 := Lib.hid hB1; have HZ1 := Lib.hid hZ1; have HW1 := Lib.hid hW1; have HO1 := Lib.hid ho1; have hs1 := ho1.lt; have hz1 : w.heap.size < w1.heap.size := (by omega); clear hB1 hZ1 hW1 ho1 hb1)
    | (at_builtin; refine wpList_clone rfl (.tmp 8) (.tmp 10) 30 rfl 67 iS _ 18 96 Try.underlying30 HS.out.1 HS.out.2.1 HS.out.2.2.1 HS.out.2.2.2 rfl (by decide) w1.heap.size rfl (at_new (by simp)) b.ao b.no b.co (fun k j => cellS (ss k) j) rfl H.out.sn (H.out.s.below (more (HW1.out.setCell (Nat.le_refl _) _) _)) (grid_one (by decide) fun _ _ hj => cellS_one _ _ hj) (by have := H.out.sb; unfold maxLen; omega) (by have := H.out.sb; omega) ?_; intro g2 c2 w2 hg2 ho2 hb2; simp only [Act.put, List.setIfInBounds_toArray, List.set_cons_zero, List.set_cons_succ]; have hgw : w.heap.size + 1 < w1.heap.size := (by omega); have hB2 : w2.heap[w.heap.size]? = some (.cells (rowB { b with ap := some ⟨g1, 0, none⟩, n := b.n, cp := c1 }) 33 (0, 0)) := (by rw [hb2.block _ (by simp <;> omega) (by omega)]; first | done | exact at_old (by simp <;> omega) (at_set HB1.out (rowB_put_17 _ _ _ _))); have hZ2 : w2.heap[w.heap.size + 1]? = some (.cells (rowB zeroBri) 33 (0, 0)) := (by rw [hb2.block _ (by simp <;> omega) (by omega)]; first | done | exact at_old (by simp <;> omega) (at_far (by simp) HZ1.out)); have hO1 : Own w2 g1 51 89 b.n c1 (fun k j => cellP (ps k) j) := HO1.out.of_block (by (rw [hb2.block _ (by simp <;> omega) (by omega)]; first | done | exact at_old (by simp <;> omega) (at_far (by simp <;> omega) rfl))); have hW2 : Below w.heap.size w w2 := (more (HW1.out.setCell (Nat.le_refl _) _) _).trans (hb2.below (by simp <;> omega) (fun k hk => by omega)); have d18 : w2.cell? ⟨w.heap.size, 18, none⟩ = some (.slice b.ao b.no b.co) := cells_of hB2 18; have d19 : w2.cell? ⟨w.heap.size, 19, none⟩ = some (.slice b.af b.nf b.cf) := cells_of hB2 19; have g18 : w2.frozen? ⟨w.heap.size, 18, none⟩ = false := frozen_of_row w2 w.heap.size 18 _ _ hB2; have HB2 := Lib.hid hB2; have HZ2 := Lib.hid hZ2; have HW2 := Lib.hid hW2; have HO2 := Lib.hid ho2; have HO12 := Lib.hid hO1; have hs2 := ho2.lt; have hz2 : w.heap.size < w2.heap.size := (by omega); clear hB2 hZ2 hW2 ho2 hb2 hO1 c17 c18 f17 HB1 HZ1 HW1 HO1)
    | (at_builtin; refine wpList_clone rfl (.tmp 13) (.tmp 15) 31 rfl 3 iI _ 1 8 Try.underlying31 HI.out.1 HI.out.2.1 HI.out.2.2.1 HI.out.2.2.2 rfl (by decide) w2.heap.size rfl (at_new (by simp)) b.af b.nf b.cf (fun k _ => .int .i64 (fs k)) rfl H.out.fn (H.out.f.below (more (HW2.out.setCell (Nat.le_refl _) _) _)) (grid_one (by decide) fun _ _ hj => rfl) (by have := H.out.fb; unfold maxLen; omega) (by have := H.out.fb; omega) ?_; intro g3 c3 w3 hg3 ho3 hb3; simp only [Act.put, List.setIfInBounds_toArray, List.set_cons_zero, List.set_cons_succ]; have hgw2 : w.heap.size + 1 < w2.heap.size := (by omega); have hB3 : w3.heap[w.heap.size]? = some (.cells (rowB { { b with ap := some ⟨g1, 0, none⟩, n := b.n, cp := c1 } with ao := some ⟨g2, 0, none⟩, no := b.no, co := c2 }) 33 (0, 0)) := (by rw [hb3.block _ (by simp <;> omega) (by omega)]; first | done | exact at_old (by simp <;> omega) (at_set HB2.out (rowB_put_18 _ _ _ _))); have hZ3 : w3.heap[w.heap.size + 1]? = some (.cells (rowB zeroBri) 33 (0, 0)) := (by rw [hb3.block _ (by simp <;> omega) (by omega)]; first | done | exact at_old (by simp <;> omega) (at_far (by simp) HZ2.out)); have hO1 : Own w3 g1 51 89 b.n c1 (fun k j => cellP (ps k) j) := HO12.out.of_block (by (rw [hb3.block _ (by simp <;> omega) (by omega)]; first | done | exact at_old (by simp <;> omega) (at_far (by simp <;> omega) rfl))); have hO2 : Own w3 g2 67 18 b.no c2 (fun k j => cellS (ss k) j) := HO2.out.of_block (by (rw [hb3.block _ (by simp <;> omega) (by omega)]; first | done | exact at_old (by simp <;> omega) (at_far (by simp <;> omega) rfl))); have hW3 : Below w.heap.size w w3 := (more (HW2.out.setCell (Nat.le_refl _) _) _).trans (hb3.below (by simp <;> omega) (fun k hk => by omega)); have e19 : w3.cell? ⟨w.heap.size, 19, none⟩ = some (.slice b.af b.nf b.cf) := cells_of hB3 19; have h19 : w3.frozen? ⟨w.heap.size, 19, none⟩ = false := frozen_of_row w3 w.heap.size 19 _ _ hB3; have HB3 := Lib.hid hB3; have HZ3 := Lib.hid hZ3; have HW3 := Lib.hid hW3; have HO3 := Lib.hid ho3; have HO13 := Lib.hid hO1; have HO23 := Lib.hid hO2; have hs3 := ho3.lt; have hz3 : w.heap.size < w3.heap.size := (by omega); clear hB3 hZ3 hW3 ho3 hb3 hO1 hO2 d18 d19 g18 HB2 HZ2 HW2 HO2 HO12)
    | (refine loadB rfl rfl (.tmp 1) rfl w.heap.size rfl (b.at g1 c1 g2 c2 g3 c3) (at_set HB3.out rfl) ?_; simp only [Act.put, List.setIfInBounds_toArray, List.set_cons_zero, List.set_cons_succ])
    | (refine wpList_store_row rfl 33 (.tmp 2) (.tmp 18) rfl (w.heap.size + 1) (rowB (b.at g1 c1 g2 c2 g3 c3)) rfl rfl 33 (rowB zeroBri) (at_far (by simp) HZ3.out) (sizeB _) rfl (rowB_one _) ?_; simp only [Act.put])
    | fail)
  have keep : ∀ (X : World) (v : Value) (cs : Array Value) (g : Nat), g ≠ w.heap.size → g ≠ w.heap.size + 1 → ((X.setCell ⟨w.heap.size, 19, none⟩ v).setRow (w.heap.size + 1) cs).heap[g]? = X.heap[g]? := fun X v cs g h1 h2 => by
    rw [setRow_other _ _ _ _ h2]
    exact at_far h1 rfl
  refine bodyPost_ret (results_cell_row rfl _ _ (w.heap.size + 1) 33 (rowB (b.at g1 c1 g2 c2 g3 c3)) (0, 0) _ rfl (setRow_heap _ _ (rowB zeroBri) _ _ _ (at_far (by simp) HZ3.out)) Try.underlying33 rfl (sizeB _)) rfl ?_
  refine ⟨g1, c1, g2, c2, g3, c3, rfl, by omega, by omega, by omega, HO13.out.of_block (keep _ _ _ _ (by omega) (by omega)), HO23.out.of_block (keep _ _ _ _ (by omega) (by omega)), HO3.out.of_block (keep _ _ _ _ (by omega) (by omega)), ?_⟩
  have hW4 := HW3.out.setCell (p := ⟨w.heap.size, 19, none⟩) (Nat.le_refl _) (.slice (some ⟨g3, 0, none⟩) b.nf c3)
  exact ⟨hW4.os, hW4.tape, hW4.output, by simpa using hW4.size, fun k hk => by rw [setRow_other _ _ _ _ (by omega)]; exact hW4.block k hk⟩
end Go.Proofs.Ytdangeefecdbaaa.Br
