/- How a bridge that came in reads: its numbers and bools, and what lies behind its three slices. -/
import Derived.Test.YtdangeefecdbaaaSame
import Derived.Deep.Slices
import Derived.ChangeSame
namespace Go.Proofs.Ytdangeefecdbaaa.Br
open Go.RowKit Go.Deep Go.WideShapes Go.ChangeShapes
/-- The kinds of a type's cells, where it is made of numbers, bools, and structs of these. -/
def flatFs (P : Program) (g : TypeId → Option (List (Option IntKind))) : Nat → List Field → Option (List (Option IntKind))
  | _, [] => some []
  | o, f :: r => match g f.type with
    | none => none
    | some ks => match flatFs P g (o + ks.length) r with
      | none => none
      | some ks' => if f.offset = o ∧ P.cellsOf f.type = ks.length then some (ks ++ ks') else none
def flat (P : Program) : Nat → TypeId → Option (List (Option IntKind))
  | 0, _ => none
  | d + 1, t => match P.underlying t with
    | some .bool => some [none]
    | some (.int k) => some [some k]
    | some (.struct fs) => match flatFs P (flat P d) 0 fs.toList with
      | none => none
      | some ks => if ks.length = P.cellsOf t then some ks else none
    | _ => none
/-- One cell of its kind. -/
def Fit1 : Option IntKind → Value → Prop
  | none, v => ∃ b, v = .bool b
  | some k, v => ∃ n, v = .int k n
/-- Cells of their kinds. -/
def Fits (ks : List (Option IntKind)) (cs : List Value) : Prop := ks.length = cs.length ∧ ∀ (j : Nat) (k : Option IntKind), ks[j]? = some k → ∃ v, cs[j]? = some v ∧ Fit1 k v
theorem Fits.append {k1 k2 : List (Option IntKind)} {c1 c2 : List Value} (h1 : Fits k1 c1) (h2 : Fits k2 c2) : Fits (k1 ++ k2) (c1 ++ c2) := by
  refine ⟨by rw [List.length_append, List.length_append, h1.1, h2.1], fun j k hj => ?_⟩
  by_cases hl : j < k1.length
  · rw [List.getElem?_append_left hl] at hj
    obtain ⟨v, hv, hf⟩ := h1.2 j k hj
    exact ⟨v, by rw [List.getElem?_append_left (by rw [← h1.1]; exact hl)]; exact hv, hf⟩
  · rw [List.getElem?_append_right (by omega)] at hj
    obtain ⟨v, hv, hf⟩ := h2.2 _ k hj
    exact ⟨v, by rw [List.getElem?_append_right (by rw [← h1.1]; omega), ← h1.1]; exact hv, hf⟩
section
variable {H : Type} {enc : TypeId × Value → H} {P : Program} {w : World} {base : Nat} {spare : Nat → Bool} {held : Bool}
theorem flatFs_fits {g : TypeId → Option (List (Option IntKind))} {cs : List Value} : ∀ (fs : List Field) (o : Nat) (ks : List (Option IntKind)), flatFs P g o fs = some ks →
    (∀ f ∈ fs, ∀ kf, g f.type = some kf → Fits kf ((cs.drop f.offset).take (P.cellsOf f.type))) → cs.length = o + ks.length → Fits ks (cs.drop o)
  | [], o, ks, h, _, hl => by
    simp only [flatFs, Option.some.injEq] at h
    subst h
    refine ⟨by simp at hl ⊢; omega, fun j k hj => by simp at hj⟩
  | f :: r, o, ks, h, hf, hl => by
    unfold flatFs at h
    split at h
    · cases h
    rename_i kf hkf
    split at h
    · cases h
    rename_i ks' hks
    split at h
    · rename_i hc
      obtain ⟨hc1, hc2⟩ := hc
      simp only [Option.some.injEq] at h
      subst h
      have h1 := hf f (by simp) kf hkf
      rw [hc1, hc2] at h1
      have h2 := flatFs_fits r (o + kf.length) ks' hks (fun f' hf' => hf f' (by simp [hf'])) (by simp at hl ⊢; omega)
      have e : cs.drop o = (cs.drop o).take kf.length ++ cs.drop (o + kf.length) := by
        rw [← List.drop_drop, List.take_append_drop]
      rw [e]
      exact h1.append h2
    · cases h
theorem flat_fits : ∀ (d : Nat) {t : TypeId} {ks : List (Option IntKind)} {fuel : Nat} {cs : List Value} {x : DataW H × List MemPlace}, flat P d t = some ks → DataW.trod enc P w base spare held fuel t cs = some x → Fits ks cs
  | 0, _, _, _, _, _, h, _ => by simp [flat] at h
  | d + 1, t, ks, fuel, cs, x, h, ht => by
    unfold flat at h
    split at h
    · rename_i hu
      simp only [Option.some.injEq] at h
      subst h
      obtain ⟨b, hb, _⟩ := DataW.trod_bool hu ht
      subst hb
      exact ⟨rfl, fun j k hj => by
        match j with
        | 0 => simp at hj; subst hj; exact ⟨_, rfl, _, rfl⟩
        | j + 1 => simp at hj⟩
    · rename_i k hu
      simp only [Option.some.injEq] at h
      subst h
      obtain ⟨n, hn, _⟩ := DataW.trod_int hu ht
      subst hn
      exact ⟨rfl, fun j k hj => by
        match j with
        | 0 => simp at hj; subst hj; exact ⟨_, rfl, _, rfl⟩
        | j + 1 => simp at hj⟩
    · rename_i fs hu
      split at h
      · cases h
      rename_i ks' hks
      split at h
      · rename_i hl
        simp only [Option.some.injEq] at h
        subst h
        obtain ⟨xs, n, _, _, hlen, hxl, hf⟩ := DataW.trod_struct hu ht
        have := flatFs_fits (P := P) (cs := cs) fs.toList 0 ks' hks (fun f hm kf hkf => by
          obtain ⟨i, hi⟩ := List.mem_iff_getElem?.1 hm
          have hi' : fs[i]? = some f := by simpa using hi
          have h3 := hf i f hi'
          have hlt : i < xs.length := by rw [hxl]; exact (Array.getElem?_eq_some_iff.1 hi').1
          rw [List.getElem?_eq_getElem hlt] at h3
          exact flat_fits d hkf h3) (by rw [hlen, hl]; omega)
        simpa using this
      · cases h
    · cases h
end
/-- The record that cells are. -/
def recOf (cs : List Value) : Rec := ⟨fun j => match cs[j]? with | some (.int _ n) => n | _ => 0, fun j => match cs[j]? with | some (.bool b) => b | _ => false⟩
/-- A cell of a kind. -/
def mk1 (k : Option IntKind) (r : Rec) (j : Nat) : Value := match k with | none => .bool (r.b j) | some k => .int k (r.i j)
theorem fits_mk {ks : List (Option IntKind)} {cs : List Value} (h : Fits ks cs) {j : Nat} {k : Option IntKind} (hk : ks[j]? = some k) : cs[j]? = some (mk1 k (recOf cs) j) := by
  obtain ⟨v, hv, hf⟩ := h.2 j k hk
  rw [hv]
  cases k with
  | none =>
    obtain ⟨b, rfl⟩ := hf
    simp [mk1, recOf, hv]
  | some k =>
    obtain ⟨n, rfl⟩ := hf
    simp [mk1, recOf, hv]
def kindsP : List (Option IntKind) := [some .u16, some .u32, none, none, none, none, some .i64, some .i64, some .i64, some .i64, some .i64, some .i64, some .i64, some .i64, some .i64, some .i64, some .i64, some .i64, some .i64, some .i64, some .i64, some .i64, none, none, none, none, none, none, none, none, none, none, none, none, none, none, none, none, none, none, none, none, none, none, none, none, none, none, none, none, none, some .i64, none, none, none, none, none, none, some .i64, some .u64, some .u32, some .u64, some .u16, some .u16, some .i64, some .i64, some .i64, some .i64, some .u64, some .u32, some .u64, some .u16, some .u16, some .u64, some .u32, some .u64, some .u16, some .u16, some .i64, some .i64, some .i64, some .i64, some .i64, some .i64, some .i64, some .i64, some .i64, some .i64, some .i64]
theorem rowP_kind (r : Rec) : ∀ j, j < 89 → ∃ k, kindsP[j]? = some k ∧ (rowP r)[j]? = some (mk1 k r j)
  | 0, _ => ⟨_, rfl, rfl⟩
  | 1, _ => ⟨_, rfl, rfl⟩
  | 2, _ => ⟨_, rfl, rfl⟩
  | 3, _ => ⟨_, rfl, rfl⟩
  | 4, _ => ⟨_, rfl, rfl⟩
  | 5, _ => ⟨_, rfl, rfl⟩
  | 6, _ => ⟨_, rfl, rfl⟩
  | 7, _ => ⟨_, rfl, rfl⟩
  | 8, _ => ⟨_, rfl, rfl⟩
  | 9, _ => ⟨_, rfl, rfl⟩
  | 10, _ => ⟨_, rfl, rfl⟩
  | 11, _ => ⟨_, rfl, rfl⟩
  | 12, _ => ⟨_, rfl, rfl⟩
  | 13, _ => ⟨_, rfl, rfl⟩
  | 14, _ => ⟨_, rfl, rfl⟩
  | 15, _ => ⟨_, rfl, rfl⟩
  | 16, _ => ⟨_, rfl, rfl⟩
  | 17, _ => ⟨_, rfl, rfl⟩
  | 18, _ => ⟨_, rfl, rfl⟩
  | 19, _ => ⟨_, rfl, rfl⟩
  | 20, _ => ⟨_, rfl, rfl⟩
  | 21, _ => ⟨_, rfl, rfl⟩
  | 22, _ => ⟨_, rfl, rfl⟩
  | 23, _ => ⟨_, rfl, rfl⟩
  | 24, _ => ⟨_, rfl, rfl⟩
  | 25, _ => ⟨_, rfl, rfl⟩
  | 26, _ => ⟨_, rfl, rfl⟩
  | 27, _ => ⟨_, rfl, rfl⟩
  | 28, _ => ⟨_, rfl, rfl⟩
  | 29, _ => ⟨_, rfl, rfl⟩
  | 30, _ => ⟨_, rfl, rfl⟩
  | 31, _ => ⟨_, rfl, rfl⟩
  | 32, _ => ⟨_, rfl, rfl⟩
  | 33, _ => ⟨_, rfl, rfl⟩
  | 34, _ => ⟨_, rfl, rfl⟩
  | 35, _ => ⟨_, rfl, rfl⟩
  | 36, _ => ⟨_, rfl, rfl⟩
  | 37, _ => ⟨_, rfl, rfl⟩
  | 38, _ => ⟨_, rfl, rfl⟩
  | 39, _ => ⟨_, rfl, rfl⟩
  | 40, _ => ⟨_, rfl, rfl⟩
  | 41, _ => ⟨_, rfl, rfl⟩
  | 42, _ => ⟨_, rfl, rfl⟩
  | 43, _ => ⟨_, rfl, rfl⟩
  | 44, _ => ⟨_, rfl, rfl⟩
  | 45, _ => ⟨_, rfl, rfl⟩
  | 46, _ => ⟨_, rfl, rfl⟩
  | 47, _ => ⟨_, rfl, rfl⟩
  | 48, _ => ⟨_, rfl, rfl⟩
  | 49, _ => ⟨_, rfl, rfl⟩
  | 50, _ => ⟨_, rfl, rfl⟩
  | 51, _ => ⟨_, rfl, rfl⟩
  | 52, _ => ⟨_, rfl, rfl⟩
  | 53, _ => ⟨_, rfl, rfl⟩
  | 54, _ => ⟨_, rfl, rfl⟩
  | 55, _ => ⟨_, rfl, rfl⟩
  | 56, _ => ⟨_, rfl, rfl⟩
  | 57, _ => ⟨_, rfl, rfl⟩
  | 58, _ => ⟨_, rfl, rfl⟩
  | 59, _ => ⟨_, rfl, rfl⟩
  | 60, _ => ⟨_, rfl, rfl⟩
  | 61, _ => ⟨_, rfl, rfl⟩
  | 62, _ => ⟨_, rfl, rfl⟩
  | 63, _ => ⟨_, rfl, rfl⟩
  | 64, _ => ⟨_, rfl, rfl⟩
  | 65, _ => ⟨_, rfl, rfl⟩
  | 66, _ => ⟨_, rfl, rfl⟩
  | 67, _ => ⟨_, rfl, rfl⟩
  | 68, _ => ⟨_, rfl, rfl⟩
  | 69, _ => ⟨_, rfl, rfl⟩
  | 70, _ => ⟨_, rfl, rfl⟩
  | 71, _ => ⟨_, rfl, rfl⟩
  | 72, _ => ⟨_, rfl, rfl⟩
  | 73, _ => ⟨_, rfl, rfl⟩
  | 74, _ => ⟨_, rfl, rfl⟩
  | 75, _ => ⟨_, rfl, rfl⟩
  | 76, _ => ⟨_, rfl, rfl⟩
  | 77, _ => ⟨_, rfl, rfl⟩
  | 78, _ => ⟨_, rfl, rfl⟩
  | 79, _ => ⟨_, rfl, rfl⟩
  | 80, _ => ⟨_, rfl, rfl⟩
  | 81, _ => ⟨_, rfl, rfl⟩
  | 82, _ => ⟨_, rfl, rfl⟩
  | 83, _ => ⟨_, rfl, rfl⟩
  | 84, _ => ⟨_, rfl, rfl⟩
  | 85, _ => ⟨_, rfl, rfl⟩
  | 86, _ => ⟨_, rfl, rfl⟩
  | 87, _ => ⟨_, rfl, rfl⟩
  | 88, _ => ⟨_, rfl, rfl⟩
  | j + 89, h => absurd h (by omega)
theorem rowP_of {cs : List Value} (h : Fits kindsP cs) : (rowP (recOf cs)).toList = cs := by
  have hl : cs.length = 89 := h.1.symm
  apply List.ext_getElem?
  intro j
  by_cases hj : j < 89
  · obtain ⟨k, hk, hr⟩ := rowP_kind (recOf cs) j hj
    rw [fits_mk h hk, ← hr]
    simp
  · rw [List.getElem?_eq_none (by rw [Array.length_toList, rowP_size]; omega), List.getElem?_eq_none (by rw [hl]; omega)]
def kindsS : List (Option IntKind) := [some .i64, some .i64, none, none, none, none, none, none, some .i64, some .u64, some .u32, some .u64, some .u16, some .u16, some .i64, some .i64, some .i64, some .i64]
theorem rowS_kind (r : Rec) : ∀ j, j < 18 → ∃ k, kindsS[j]? = some k ∧ (rowS r)[j]? = some (mk1 k r j)
  | 0, _ => ⟨_, rfl, rfl⟩
  | 1, _ => ⟨_, rfl, rfl⟩
  | 2, _ => ⟨_, rfl, rfl⟩
  | 3, _ => ⟨_, rfl, rfl⟩
  | 4, _ => ⟨_, rfl, rfl⟩
  | 5, _ => ⟨_, rfl, rfl⟩
  | 6, _ => ⟨_, rfl, rfl⟩
  | 7, _ => ⟨_, rfl, rfl⟩
  | 8, _ => ⟨_, rfl, rfl⟩
  | 9, _ => ⟨_, rfl, rfl⟩
  | 10, _ => ⟨_, rfl, rfl⟩
  | 11, _ => ⟨_, rfl, rfl⟩
  | 12, _ => ⟨_, rfl, rfl⟩
  | 13, _ => ⟨_, rfl, rfl⟩
  | 14, _ => ⟨_, rfl, rfl⟩
  | 15, _ => ⟨_, rfl, rfl⟩
  | 16, _ => ⟨_, rfl, rfl⟩
  | 17, _ => ⟨_, rfl, rfl⟩
  | j + 18, h => absurd h (by omega)
theorem rowS_of {cs : List Value} (h : Fits kindsS cs) : (rowS (recOf cs)).toList = cs := by
  have hl : cs.length = 18 := h.1.symm
  apply List.ext_getElem?
  intro j
  by_cases hj : j < 18
  · obtain ⟨k, hk, hr⟩ := rowS_kind (recOf cs) j hj
    rw [fits_mk h hk, ← hr]
    simp
  · rw [List.getElem?_eq_none (by rw [Array.length_toList, rowS_size]; omega), List.getElem?_eq_none (by rw [hl]; omega)]
theorem flatP : flat Try.prog 5 51 = some kindsP := by kernel_rfl
theorem flatS : flat Try.prog 5 67 = some kindsS := by kernel_rfl
theorem flatI : flat Try.prog 5 3 = some [some .i64] := by kernel_rfl
theorem cellsP : Try.prog.cellsOf 51 = 89 := by kernel_rfl
theorem cellsS : Try.prog.cellsOf 67 = 18 := by kernel_rfl
theorem cellsI : Try.prog.cellsOf 3 = 1 := by kernel_rfl
section
variable {H : Type} {enc : TypeId × Value → H} {w : World} {base : Nat} {spare : Nat → Bool} {held : Bool}
theorem open_rows {t e sz fuel : Nat} {ks : List (Option IntKind)} {cs : List Value} {x : DataW H × List MemPlace} (ht : Try.prog.underlying t = some (.slice e)) (hC : Try.prog.cellsOf e = sz) (hs : 0 < sz) (hflat : flat Try.prog 5 e = some ks)
    (row : Rec → Array Value) (hrow : ∀ cs, Fits ks cs → (row (recOf cs)).toList = cs) (h : DataW.trod enc Try.prog w base spare held fuel t cs = some x) :
    ∃ (a : Option Addr) (n c : Nat) (ps : Nat → Rec), cs = [.slice a n c] ∧ (a = none → n = 0 ∧ c = 0) ∧ View w a sz n fun k j => (row (ps k))[j]?.getD undef := by
  rcases open_slice ht h with ⟨rfl, _⟩ | ⟨a, len, cap, m, n, D, Pl, rfl, hb, hl, hm, hmm, hx, hi⟩
  · exact ⟨none, 0, 0, fun _ => zeroR, rfl, fun _ => ⟨rfl, rfl⟩, .inl rfl⟩
  · have hlm : len ≤ m := by rw [hmm]; split <;> omega
    have hch : ∀ i, i < len → ∃ cs' : List Value, w.cells? base (a.add (i * sz)) sz = some cs' ∧ Fits ks cs' := fun i hil => by
      obtain ⟨cs', h1, h2⟩ := hi i (by omega)
      rw [hC] at h1
      exact ⟨cs', h1, flat_fits 5 hflat h2⟩
    obtain ⟨F, hF⟩ := choose_lt hch
    refine ⟨some a, len, cap, fun i => recOf (F i), rfl, (fun h => nomatch h), ?_⟩
    by_cases hn : len = 0
    · exact .inl hn
    · have hcell : ∀ k, k < len → ∀ j, j < sz → w.cell? ((a.add (k * sz)).add j) = some ((row (recOf (F k)))[j]?.getD undef) := fun k hk j hj => by
        obtain ⟨h1, h2⟩ := hF k hk
        obtain ⟨_, hlen, hat⟩ := World.cells?_some h1
        have hr := hrow _ h2
        rw [hat j hj]
        have : (F k)[j]? = (row (recOf (F k)))[j]? := by rw [← Array.getElem?_toList, hr]
        rw [this]
        cases hq : (row (recOf (F k)))[j]? with
        | some v => rfl
        | none =>
          rw [← this, List.getElem?_eq_none_iff] at hq
          omega
      obtain ⟨g, o, sp⟩ := a
      have h0 := hcell 0 (by omega) 0 hs
      have hsp : sp = none := by
        rw [Nat.zero_mul] at h0
        cases sp with
        | none => rfl
        | some z =>
          simp [Addr.add, World.cell?] at h0
          split at h0 <;> simp at h0
      subst hsp
      exact .inr ⟨g, o, rfl, fun k hk j hj => by
        have := hcell k hk j hj
        rw [Addr.add_mid, Addr.add_mid, Nat.add_assoc] at this
        exact this⟩
/-- All that lies behind a bridge can be read. -/
structure Reads0 (w : World) (b : Bri) (ps ss : Nat → Rec) (fs : Nat → Int) : Prop where
  p : PortsV w b ps
  s : View w b.ao 18 b.no fun k j => cellS (ss k) j
  f : View w b.af 1 b.nf fun k _ => .int .i64 (fs k)
  pn : b.ap = none → b.n = 0 ∧ b.cp = 0
  sn : b.ao = none → b.no = 0 ∧ b.co = 0
  fn : b.af = none → b.nf = 0 ∧ b.cf = 0
theorem Reads0.below {w w' : World} {b : Bri} {ps ss : Nat → Rec} {fs : Nat → Int} (h : Reads0 w b ps ss fs) (hb : Below w.heap.size w w') : Reads0 w' b ps ss fs :=
  ⟨h.p.below hb, h.s.below hb, h.f.below hb, h.pn, h.sn, h.fn⟩
theorem Reads0.looked {w : World} {b : Bri} {ps ss : Nat → Rec} {fs : Nat → Int} (h : Reads0 w b ps ss fs) (hl : Looked b ps) : Reads w b ps ss fs :=
  ⟨h.p, h.s, h.f, h.pn, h.sn, h.fn, by have := hl.2.2.1; omega, by have := hl.2.2.2.1; omega, by have := hl.2.2.2.2; omega⟩
theorem seg {ks : List (Option IntKind)} {cs : List Value} {o n : Nat} (h : Fits ks ((cs.drop o).take n)) (j : Nat) {k : Option IntKind} (hk : ks[j]? = some k) : cs[o + j]? = some (mk1 k (recOf cs) (o + j)) := by
  obtain ⟨v, hv, hf⟩ := h.2 j k hk
  rw [List.getElem?_take] at hv
  split at hv
  · rw [List.getElem?_drop] at hv
    rw [hv]
    cases k with
    | none =>
      obtain ⟨b, rfl⟩ := hf
      simp [mk1, recOf, hv]
    | some k =>
      obtain ⟨n, rfl⟩ := hf
      simp [mk1, recOf, hv]
  · cases hv
theorem seg1 {cs : List Value} {o : Nat} {v : Value} (h : (cs.drop o).take 1 = [v]) : cs[o]? = some v := by
  have h1 : ((cs.drop o).take 1)[0]? = some v := by rw [h]; rfl
  rw [List.getElem?_take, if_pos (by omega), List.getElem?_drop] at h1
  exact h1
theorem open_bri {r : Reach} {b0 : Nat} {v : Value} {d : DataW H} {p : List MemPlace} (hv : Value.okWide Try.prog w r b0 33 v) (h : DataW.Trod enc Try.prog w base spare held 33 v d p) :
    ∃ b ps ss fs, v = .agg (rowB b) ∧ Reads0 w b ps ss fs := by
  obtain ⟨ca, rfl, hsz⟩ := okWide_struct Try.underlying33 hv
  obtain ⟨fuel, hf⟩ := h
  obtain ⟨xs, n, _, _, hlen, hxl, hfl⟩ := DataW.trod_struct Try.underlying33 hf
  have hxl : xs.length = 10 := hxl
  have c20 : Try.prog.cellsOf 33 = 20 := by kernel_rfl
  obtain ⟨cs, rfl⟩ : ∃ cs : List Value, ca = cs.toArray := ⟨ca.toList, by simp⟩
  have hcs : (Value.agg cs.toArray).cells.toList = cs := rfl
  rw [hcs] at hlen hfl
  rw [c20] at hlen
  have get : ∀ i, i < 10 → ∃ y, xs[i]? = some y := fun i hi => ⟨_, List.getElem?_eq_getElem (by omega)⟩
  have flt : ∀ (i t o m : Nat) (ks : List (Option IntKind)) (y : DataW H × List MemPlace), flat Try.prog 5 t = some ks → DataW.trod enc Try.prog w base spare held n t ((cs.drop o).take m) = some y → Fits ks ((cs.drop o).take m) := fun _ _ _ _ _ _ h1 h2 => flat_fits 5 h1 h2
  have u64 : flat Try.prog 5 22 = some [some .u64] := by kernel_rfl
  have bl : flat Try.prog 5 4 = some [none] := by kernel_rfl
  have tm : flat Try.prog 5 24 = some [some .i64, some .i64, some .i64, some .i64] := by kernel_rfl
  have vc : flat Try.prog 5 28 = some [some .u64, some .u32, some .u64, some .u16, some .u16] := by kernel_rfl
  have w1 : Try.prog.cellsOf 22 = 1 := by kernel_rfl
  have w2 : Try.prog.cellsOf 4 = 1 := by kernel_rfl
  have w3 : Try.prog.cellsOf 24 = 4 := by kernel_rfl
  have w4 : Try.prog.cellsOf 28 = 5 := by kernel_rfl
  have w5 : Try.prog.cellsOf 29 = 1 := by kernel_rfl
  have w6 : Try.prog.cellsOf 30 = 1 := by kernel_rfl
  have w7 : Try.prog.cellsOf 31 = 1 := by kernel_rfl
  obtain ⟨y0, e0⟩ := get 0 (by omega)
  obtain ⟨y1, e1⟩ := get 1 (by omega)
  obtain ⟨y2, e2⟩ := get 2 (by omega)
  obtain ⟨y3, e3⟩ := get 3 (by omega)
  obtain ⟨y4, e4⟩ := get 4 (by omega)
  obtain ⟨y5, e5⟩ := get 5 (by omega)
  obtain ⟨y6, e6⟩ := get 6 (by omega)
  obtain ⟨y7, e7⟩ := get 7 (by omega)
  obtain ⟨y8, e8⟩ := get 8 (by omega)
  obtain ⟨y9, e9⟩ := get 9 (by omega)
  have f0 := flat_fits 5 u64 ((hfl 0 _ rfl).trans e0)
  have f1 := flat_fits 5 bl ((hfl 1 _ rfl).trans e1)
  have f2 := flat_fits 5 tm ((hfl 2 _ rfl).trans e2)
  have f3 := flat_fits 5 flatI ((hfl 3 _ rfl).trans e3)
  have f4 := flat_fits 5 vc ((hfl 4 _ rfl).trans e4)
  have f5 := flat_fits 5 flatI ((hfl 5 _ rfl).trans e5)
  have f6 := flat_fits 5 tm ((hfl 6 _ rfl).trans e6)
  obtain ⟨a7, n7, c7, ps, q7, z7, v7⟩ := open_rows Try.underlying29 cellsP (by decide) flatP rowP (fun _ h => rowP_of h) ((hfl 7 _ rfl).trans e7)
  obtain ⟨a8, n8, c8, ss, q8, z8, v8⟩ := open_rows Try.underlying30 cellsS (by decide) flatS rowS (fun _ h => rowS_of h) ((hfl 8 _ rfl).trans e8)
  obtain ⟨a9, n9, c9, is, q9, z9, v9⟩ := open_rows Try.underlying31 cellsI (by decide) flatI (fun r => #[.int .i64 (r.i 0)]) (fun cs h => by
    have hl : cs.length = 1 := h.1.symm
    match cs, hl with
    | [v], _ =>
      have := fits_mk h (j := 0) rfl
      simp only [List.getElem?_cons_zero, Option.some.injEq, mk1] at this
      exact congrArg (fun z => [z]) this.symm) ((hfl 9 _ rfl).trans e9)
  have q7 : (cs.drop 17).take (Try.prog.cellsOf 29) = _ := q7
  have q8 : (cs.drop 18).take (Try.prog.cellsOf 30) = _ := q8
  have q9 : (cs.drop 19).take (Try.prog.cellsOf 31) = _ := q9
  rw [w5] at q7
  rw [w6] at q8
  rw [w7] at q9
  have g7 := seg1 q7
  have g8 := seg1 q8
  have g9 := seg1 q9
  refine ⟨⟨recOf cs, a7, n7, c7, a8, n8, c8, a9, n9, c9⟩, ps, ss, fun k => (is k).i 0, ?_, v7, v8, ?_, z7, z8, z9⟩
  · congr 1
    apply Array.ext_getElem?
    intro j
    by_cases hj : j < 20
    · rw [List.getElem?_toArray]
      match j, hj with
      | 0, _ => exact seg f0 0 rfl
      | 1, _ => exact seg f1 0 rfl
      | 2, _ => exact seg f2 0 rfl
      | 3, _ => exact seg f2 1 rfl
      | 4, _ => exact seg f2 2 rfl
      | 5, _ => exact seg f2 3 rfl
      | 6, _ => exact seg f3 0 rfl
      | 7, _ => exact seg f4 0 rfl
      | 8, _ => exact seg f4 1 rfl
      | 9, _ => exact seg f4 2 rfl
      | 10, _ => exact seg f4 3 rfl
      | 11, _ => exact seg f4 4 rfl
      | 12, _ => exact seg f5 0 rfl
      | 13, _ => exact seg f6 0 rfl
      | 14, _ => exact seg f6 1 rfl
      | 15, _ => exact seg f6 2 rfl
      | 16, _ => exact seg f6 3 rfl
      | 17, _ => exact g7
      | 18, _ => exact g8
      | 19, _ => exact g9
      | j + 20, h => exact absurd h (by omega)
    · rw [Array.getElem?_eq_none (by simp; omega), Array.getElem?_eq_none (by rw [rowB_size]; omega)]
  · rcases v9 with v9 | ⟨g, o, ha, hc⟩
    · exact .inl v9
    · exact .inr ⟨g, o, ha, fun k hk j hj => by
        obtain rfl : j = 0 := by omega
        exact hc k hk 0 hj⟩
end
end Go.Proofs.Ytdangeefecdbaaa.Br
