/- How structs of numbers and bools, and slices of them, that came in read. No condition. -/
import Derived.Test.YtehapoilfmgjgaaMg
import Derived.Deep.Slices
import Derived.ChangeSame
import Derived.OpenShut
namespace Go.Proofs.Ytehapoilfmgjgaa.Oct
open Go.RowKit Go.Deep Go.WideShapes Go.ChangeShapes
/-- A record's cells: numbers and bools, by their places. -/
structure Rec where
  i : Nat → Int
  b : Nat → Bool
/-- The kinds of a type's cells, where it is made of numbers, bools, and structs of these. -/
def flatFs (P : Program) (g : TypeId → Option (List (Option IntKind))) : Nat → List Field → Option (List (Option IntKind))
  | _, [] => some []
  | o, f :: r => match g f.type with
    | none => none
    | some ks => match flatFs P g (o + ks.length) r with
      | none => none
      | some ks' => if f.offset = o ∧ P.cellsOf f.type = ks.length then some (ks ++ ks') else none
def flat (P : Program) : Nat → TypeId → Option (List (Option IntKind))
  | 0, _ => none
  | d + 1, t => match P.underlying t with
    | some .bool => some [none]
    | some (.int k) => some [some k]
    | some (.struct fs) => match flatFs P (flat P d) 0 fs.toList with
      | none => none
      | some ks => if ks.length = P.cellsOf t then some ks else none
    | _ => none
/-- One cell of its kind. -/
def Fit1 : Option IntKind → Value → Prop
  | none, v => ∃ b, v = .bool b
  | some k, v => ∃ n, v = .int k n ∧ (Lit.int k n).wf = true
/-- Cells of their kinds. -/
def Fits (ks : List (Option IntKind)) (cs : List Value) : Prop := ks.length = cs.length ∧ ∀ (j : Nat) (k : Option IntKind), ks[j]? = some k → ∃ v, cs[j]? = some v ∧ Fit1 k v
theorem Fits.append {k1 k2 : List (Option IntKind)} {c1 c2 : List Value} (h1 : Fits k1 c1) (h2 : Fits k2 c2) : Fits (k1 ++ k2) (c1 ++ c2) := by
  refine ⟨by rw [List.length_append, List.length_append, h1.1, h2.1], fun j k hj => ?_⟩
  by_cases hl : j < k1.length
  · rw [List.getElem?_append_left hl] at hj
    obtain ⟨v, hv, hf⟩ := h1.2 j k hj
    exact ⟨v, by rw [List.getElem?_append_left (by rw [← h1.1]; exact hl)]; exact hv, hf⟩
  · rw [List.getElem?_append_right (by omega)] at hj
    obtain ⟨v, hv, hf⟩ := h2.2 _ k hj
    exact ⟨v, by rw [List.getElem?_append_right (by rw [← h1.1]; omega), ← h1.1]; exact hv, hf⟩
section
variable {H : Type} {enc : TypeId × Value → H} {P : Program} {w : World} {base : Nat} {spare : Nat → Bool} {held : Bool}
theorem flatFs_fits {g : TypeId → Option (List (Option IntKind))} {cs : List Value} : ∀ (fs : List Field) (o : Nat) (ks : List (Option IntKind)), flatFs P g o fs = some ks →
    (∀ f ∈ fs, ∀ kf, g f.type = some kf → Fits kf ((cs.drop f.offset).take (P.cellsOf f.type))) → cs.length = o + ks.length → Fits ks (cs.drop o)
  | [], o, ks, h, _, hl => by
    simp only [flatFs, Option.some.injEq] at h
    subst h
    refine ⟨by simp at hl ⊢; omega, fun j k hj => by simp at hj⟩
  | f :: r, o, ks, h, hf, hl => by
    unfold flatFs at h
    split at h
    · cases h
    rename_i kf hkf
    split at h
    · cases h
    rename_i ks' hks
    split at h
    · rename_i hc
      obtain ⟨hc1, hc2⟩ := hc
      simp only [Option.some.injEq] at h
      subst h
      have h1 := hf f (by simp) kf hkf
      rw [hc1, hc2] at h1
      have h2 := flatFs_fits r (o + kf.length) ks' hks (fun f' hf' => hf f' (by simp [hf'])) (by simp at hl ⊢; omega)
      have e : cs.drop o = (cs.drop o).take kf.length ++ cs.drop (o + kf.length) := by
        rw [← List.drop_drop, List.take_append_drop]
      rw [e]
      exact h1.append h2
    · cases h
theorem flat_fits : ∀ (d : Nat) {t : TypeId} {ks : List (Option IntKind)} {fuel : Nat} {cs : List Value} {x : DataW H × List MemPlace}, flat P d t = some ks → DataW.trod enc P w base spare held fuel t cs = some x → Fits ks cs
  | 0, _, _, _, _, _, h, _ => by simp [flat] at h
  | d + 1, t, ks, fuel, cs, x, h, ht => by
    unfold flat at h
    split at h
    · rename_i hu
      simp only [Option.some.injEq] at h
      subst h
      obtain ⟨b, hb, _⟩ := DataW.trod_bool hu ht
      subst hb
      exact ⟨rfl, fun j k hj => by
        match j with
        | 0 => simp at hj; subst hj; exact ⟨_, rfl, _, rfl⟩
        | j + 1 => simp at hj⟩
    · rename_i k hu
      simp only [Option.some.injEq] at h
      subst h
      obtain ⟨n, hn, _, hwf⟩ := DataW.trod_int hu ht
      subst hn
      exact ⟨rfl, fun j k hj => by
        match j with
        | 0 => simp at hj; subst hj; exact ⟨_, rfl, _, rfl, hwf⟩
        | j + 1 => simp at hj⟩
    · rename_i fs hu
      split at h
      · cases h
      rename_i ks' hks
      split at h
      · rename_i hl
        simp only [Option.some.injEq] at h
        subst h
        obtain ⟨xs, n, _, _, hlen, hxl, hf⟩ := DataW.trod_struct hu ht
        have := flatFs_fits (P := P) (cs := cs) fs.toList 0 ks' hks (fun f hm kf hkf => by
          obtain ⟨i, hi⟩ := List.mem_iff_getElem?.1 hm
          have hi' : fs[i]? = some f := by simpa using hi
          have h3 := hf i f hi'
          have hlt : i < xs.length := by rw [hxl]; exact (Array.getElem?_eq_some_iff.1 hi').1
          rw [List.getElem?_eq_getElem hlt] at h3
          exact flat_fits d hkf h3) (by rw [hlen, hl]; omega)
        simpa using this
      · cases h
    · cases h
end
/-- The record that cells are. -/
def recOf (cs : List Value) : Rec := ⟨fun j => match cs[j]? with | some (.int _ n) => n | _ => 0, fun j => match cs[j]? with | some (.bool b) => b | _ => false⟩
/-- A cell of a kind. -/
def mkR1 (k : Option IntKind) (r : Rec) (j : Nat) : Value := match k with | none => .bool (r.b j) | some k => .int k (r.i j)
theorem fits_mk {ks : List (Option IntKind)} {cs : List Value} (h : Fits ks cs) {j : Nat} {k : Option IntKind} (hk : ks[j]? = some k) : cs[j]? = some (mkR1 k (recOf cs) j) := by
  obtain ⟨v, hv, hf⟩ := h.2 j k hk
  rw [hv]
  cases k with
  | none =>
    obtain ⟨b, rfl⟩ := hf
    simp [mkR1, recOf, hv]
  | some k =>
    obtain ⟨n, rfl, _⟩ := hf
    simp [mkR1, recOf, hv]
theorem fits_wf {ks : List (Option IntKind)} {cs : List Value} (h : Fits ks cs) {j : Nat} {k : IntKind} (hk : ks[j]? = some (some k)) : (Lit.int k ((recOf cs).i j)).wf = true := by
  obtain ⟨v, hv, hf⟩ := h.2 j _ hk
  obtain ⟨n, rfl, hw⟩ := hf
  simpa [recOf, hv] using hw
section
variable {H : Type} {enc : TypeId × Value → H} {w : World} {base : Nat} {spare : Nat → Bool} {held : Bool}
theorem open_rows {t e sz fuel : Nat} {ks : List (Option IntKind)} {cs : List Value} {x : DataW H × List MemPlace} (ht : Try.prog.underlying t = some (.slice e)) (hC : Try.prog.cellsOf e = sz) (hs : 0 < sz) (hflat : flat Try.prog 5 e = some ks)
    (row : Rec → Array Value) (hrow : ∀ cs, Fits ks cs → (row (recOf cs)).toList = cs) (h : DataW.trod enc Try.prog w base spare held fuel t cs = some x) :
    ∃ (a : Option Addr) (n c : Nat) (ps : Nat → Rec), cs = [.slice a n c] ∧ (a = none → n = 0 ∧ c = 0) ∧ (∀ k, k < n → ∃ cs', ps k = recOf cs' ∧ Fits ks cs') ∧ n ≤ c ∧ c ≤ maxLen ∧ View w a sz n fun k j => (row (ps k))[j]?.getD undef := by
  rcases open_slice ht h with ⟨rfl, _⟩ | ⟨a, len, cap, m, n, D, Pl, rfl, hb, hl, hm, hmm, hx, hi⟩
  · exact ⟨none, 0, 0, fun _ => ⟨fun _ => 0, fun _ => false⟩, rfl, fun _ => ⟨rfl, rfl⟩, fun k hk => by omega, Nat.le_refl _, Nat.zero_le _, .inl rfl⟩
  · have hlm : len ≤ m := by rw [hmm]; split <;> omega
    have hch : ∀ i, i < len → ∃ cs' : List Value, w.cells? base (a.add (i * sz)) sz = some cs' ∧ Fits ks cs' := fun i hil => by
      obtain ⟨cs', h1, h2⟩ := hi i (by omega)
      rw [hC] at h1
      exact ⟨cs', h1, flat_fits 5 hflat h2⟩
    obtain ⟨F, hF⟩ := choose_lt hch
    refine ⟨some a, len, cap, fun i => recOf (F i), rfl, (fun h => nomatch h), (fun k hk => ⟨F k, rfl, (hF k hk).2⟩), hl, hm, ?_⟩
    by_cases hn : len = 0
    · exact .inl hn
    · have hcell : ∀ k, k < len → ∀ j, j < sz → w.cell? ((a.add (k * sz)).add j) = some ((row (recOf (F k)))[j]?.getD undef) := fun k hk j hj => by
        obtain ⟨h1, h2⟩ := hF k hk
        obtain ⟨_, hlen, hat⟩ := World.cells?_some h1
        have hr := hrow _ h2
        rw [hat j hj]
        have : (F k)[j]? = (row (recOf (F k)))[j]? := by rw [← Array.getElem?_toList, hr]
        rw [this]
        cases hq : (row (recOf (F k)))[j]? with
        | some v => rfl
        | none =>
          rw [← this, List.getElem?_eq_none_iff] at hq
          omega
      obtain ⟨g, o, sp⟩ := a
      have h0 := hcell 0 (by omega) 0 hs
      have hsp : sp = none := by
        rw [Nat.zero_mul] at h0
        cases sp with
        | none => rfl
        | some z =>
          simp [Addr.add, World.cell?] at h0
          split at h0 <;> simp at h0
      subst hsp
      exact .inr ⟨g, o, rfl, fun k hk j hj => by
        have := hcell k hk j hj
        rw [Addr.add_mid, Addr.add_mid, Nat.add_assoc] at this
        exact this⟩
end
theorem flatM : flat Try.prog 5 30 = some [some .i64, none, none, none, none, none, none, some .i64, some .u64, some .u32, some .u64, some .u16, some .u16, some .i64, some .i64, some .i64, some .i64] := by kernel_rfl
theorem cellsM : Try.prog.cellsOf 30 = 17 := by kernel_rfl
/-- The message that a record is. -/
def msgOf (r : Rec) : Msg := ⟨r.i 0, r.b 1, r.b 2, r.b 3, r.b 4, r.b 5, r.b 6, r.i 7, r.i 8, r.i 9, r.i 10, r.i 11, r.i 12, r.i 13, r.i 14, r.i 15, r.i 16⟩
theorem rowM_of {cs : List Value} (h : Fits [some .i64, none, none, none, none, none, none, some .i64, some .u64, some .u32, some .u64, some .u16, some .u16, some .i64, some .i64, some .i64, some .i64] cs) : (rowM (msgOf (recOf cs))).toList = cs ∧ MsgOk (msgOf (recOf cs)) := by
  have hl : cs.length = 17 := h.1.symm
  refine ⟨?_, ⟨?_, ?_, ?_, ?_⟩⟩
  · apply List.ext_getElem?
    intro j
    by_cases hj : j < 17
    · match j, hj with
      | 0, _ => exact (fits_mk h (j := 0) rfl).symm
      | 1, _ => exact (fits_mk h (j := 1) rfl).symm
      | 2, _ => exact (fits_mk h (j := 2) rfl).symm
      | 3, _ => exact (fits_mk h (j := 3) rfl).symm
      | 4, _ => exact (fits_mk h (j := 4) rfl).symm
      | 5, _ => exact (fits_mk h (j := 5) rfl).symm
      | 6, _ => exact (fits_mk h (j := 6) rfl).symm
      | 7, _ => exact (fits_mk h (j := 7) rfl).symm
      | 8, _ => exact (fits_mk h (j := 8) rfl).symm
      | 9, _ => exact (fits_mk h (j := 9) rfl).symm
      | 10, _ => exact (fits_mk h (j := 10) rfl).symm
      | 11, _ => exact (fits_mk h (j := 11) rfl).symm
      | 12, _ => exact (fits_mk h (j := 12) rfl).symm
      | 13, _ => exact (fits_mk h (j := 13) rfl).symm
      | 14, _ => exact (fits_mk h (j := 14) rfl).symm
      | 15, _ => exact (fits_mk h (j := 15) rfl).symm
      | 16, _ => exact (fits_mk h (j := 16) rfl).symm
      | j + 17, hj => omega
    · rw [List.getElem?_eq_none (by simp [rowM]; omega), List.getElem?_eq_none (by rw [hl]; omega)]
  · have hb := bounds_u64 (fits_wf h (j := 8) rfl)
    show 0 ≤ (recOf cs).i 8 ∧ (recOf cs).i 8 < _
    omega
  · have hb := bounds_u32 (fits_wf h (j := 9) rfl)
    show 0 ≤ (recOf cs).i 9 ∧ (recOf cs).i 9 < _
    omega
  · have hb := bounds_u64 (fits_wf h (j := 10) rfl)
    show 0 ≤ (recOf cs).i 10 ∧ (recOf cs).i 10 < _
    omega
  · have hb := bounds_u16 (fits_wf h (j := 11) rfl)
    show 0 ≤ (recOf cs).i 11 ∧ (recOf cs).i 11 < _
    omega
section
variable {H : Type} {enc : TypeId × Value → H} {w : World} {base : Nat} {spare : Nat → Bool} {held : Bool}
theorem open_msg {v : Value} {d : DataW H} {p : List MemPlace} {rr : Reach} {b0 : Nat} (hv : Value.okWide Try.prog w rr b0 30 v) (h : DataW.Trod enc Try.prog w base spare held 30 v d p) :
    ∃ x, v = .agg (rowM x) ∧ MsgOk x := by
  obtain ⟨ca, rfl, hsz⟩ := okWide_struct Try.underlying30 hv
  obtain ⟨fuel, hf⟩ := h
  obtain ⟨cs, rfl⟩ : ∃ cs : List Value, ca = cs.toArray := ⟨ca.toList, by simp⟩
  have hF : Fits _ cs := flat_fits 5 flatM hf
  have hr := rowM_of hF
  exact ⟨_, by rw [show cs.toArray = (rowM (msgOf (recOf cs))).toList.toArray by rw [hr.1]], hr.2⟩
end
end Go.Proofs.Ytehapoilfmgjgaa.Oct
