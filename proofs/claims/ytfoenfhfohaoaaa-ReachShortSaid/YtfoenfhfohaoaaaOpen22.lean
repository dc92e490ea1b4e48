/- How structs of numbers and bools, and slices of them, that came in read. No condition. -/
import Derived.Test.YtfoenfhfohaoaaaBase22
import Derived.Deep.Slices
import Derived.ChangeSame
import Derived.OpenShut
namespace Go.Proofs.Ytfoenfhfohaoaaa.Rea
open Go.RowKit Go.Deep Go.WideShapes Go.ChangeShapes
/-- A record's cells: numbers and bools, by their places. -/
structure Rec where
  i : Nat → Int
  b : Nat → Bool
/-- The kinds of a type's cells, where it is made of numbers, bools, and structs of these. -/
def flatFs (P : Program) (g : TypeId → Option (List (Option IntKind))) : Nat → List Field → Option (List (Option IntKind))
  | _, [] => some []
  | o, f :: r => match g f.type with
    | none => none
    | some ks => match flatFs P g (o + ks.length) r with
      | none => none
      | some ks' => if f.offset = o ∧ P.cellsOf f.type = ks.length then some (ks ++ ks') else none
def flat (P : Program) : Nat → TypeId → Option (List (Option IntKind))
  | 0, _ => none
  | d + 1, t => match P.underlying t with
    | some .bool => some [none]
    | some (.int k) => some [some k]
    | some (.struct fs) => match flatFs P (flat P d) 0 fs.toList with
      | none => none
      | some ks => if ks.length = P.cellsOf t then some ks else none
    | _ => none
/-- One cell of its kind. -/
def Fit1 : Option IntKind → Value → Prop
  | none, v => ∃ b, v = .bool b
  | some k, v => ∃ n, v = .int k n ∧ (Lit.int k n).wf = true
/-- Cells of their kinds. -/
def Fits (ks : List (Option IntKind)) (cs : List Value) : Prop := ks.length = cs.length ∧ ∀ (j : Nat) (k : Option IntKind), ks[j]? = some k → ∃ v, cs[j]? = some v ∧ Fit1 k v
theorem Fits.append {k1 k2 : List (Option IntKind)} {c1 c2 : List Value} (h1 : Fits k1 c1) (h2 : Fits k2 c2) : Fits (k1 ++ k2) (c1 ++ c2) := by
  refine ⟨by rw [List.length_append, List.length_append, h1.1, h2.1], fun j k hj => ?_⟩
  by_cases hl : j < k1.length
  · rw [List.getElem?_append_left hl] at hj
    obtain ⟨v, hv, hf⟩ := h1.2 j k hj
    exact ⟨v, by rw [List.getElem?_append_left (by rw [← h1.1]; exact hl)]; exact hv, hf⟩
  · rw [List.getElem?_append_right (by omega)] at hj
    obtain ⟨v, hv, hf⟩ := h2.2 _ k hj
    exact ⟨v, by rw [List.getElem?_append_right (by rw [← h1.1]; omega), ← h1.1]; exact hv, hf⟩
section
variable {H : Type} {enc : TypeId × Value → H} {P : Program} {w : World} {base : Nat} {spare : Nat → Bool} {held : Bool}
theorem flatFs_fits {g : TypeId → Option (List (Option IntKind))} {cs : List Value} : ∀ (fs : List Field) (o : Nat) (ks : List (Option IntKind)), flatFs P g o fs = some ks →
    (∀ f ∈ fs, ∀ kf, g f.type = some kf → Fits kf ((cs.drop f.offset).take (P.cellsOf f.type))) → cs.length = o + ks.length → Fits ks (cs.drop o)
  | [], o, ks, h, _, hl => by
    simp only [flatFs, Option.some.injEq] at h
    subst h
    refine ⟨by simp at hl ⊢; omega, fun j k hj => by simp at hj⟩
  | f :: r, o, ks, h, hf, hl => by
    unfold flatFs at h
    split at h
    · cases h
    rename_i kf hkf
    split at h
    · cases h
    rename_i ks' hks
    split at h
    · rename_i hc
      obtain ⟨hc1, hc2⟩ := hc
      simp only [Option.some.injEq] at h
      subst h
      have h1 := hf f (by simp) kf hkf
      rw [hc1, hc2] at h1
      have h2 := flatFs_fits r (o + kf.length) ks' hks (fun f' hf' => hf f' (by simp [hf'])) (by simp at hl ⊢; omega)
      have e : cs.drop o = (cs.drop o).take kf.length ++ cs.drop (o + kf.length) := by
        rw [← List.drop_drop, List.take_append_drop]
      rw [e]
      exact h1.append h2
    · cases h
theorem flat_fits : ∀ (d : Nat) {t : TypeId} {ks : List (Option IntKind)} {fuel : Nat} {cs : List Value} {x : DataW H × List MemPlace}, flat P d t = some ks → DataW.trod enc P w base spare held fuel t cs = some x → Fits ks cs
  | 0, _, _, _, _, _, h, _ => by simp [flat] at h
  | d + 1, t, ks, fuel, cs, x, h, ht => by
    unfold flat at h
    split at h
    · rename_i hu
      simp only [Option.some.injEq] at h
      subst h
      obtain ⟨b, hb, _⟩ := DataW.trod_bool hu ht
      subst hb
      exact ⟨rfl, fun j k hj => by
        match j with
        | 0 => simp at hj; subst hj; exact ⟨_, rfl, _, rfl⟩
        | j + 1 => simp at hj⟩
    · rename_i k hu
      simp only [Option.some.injEq] at h
      subst h
      obtain ⟨n, hn, _, hwf⟩ := DataW.trod_int hu ht
      subst hn
      exact ⟨rfl, fun j k hj => by
        match j with
        | 0 => simp at hj; subst hj; exact ⟨_, rfl, _, rfl, hwf⟩
        | j + 1 => simp at hj⟩
    · rename_i fs hu
      split at h
      · cases h
      rename_i ks' hks
      split at h
      · rename_i hl
        simp only [Option.some.injEq] at h
        subst h
        obtain ⟨xs, n, _, _, hlen, hxl, hf⟩ := DataW.trod_struct hu ht
        have := flatFs_fits (P := P) (cs := cs) fs.toList 0 ks' hks (fun f hm kf hkf => by
          obtain ⟨i, hi⟩ := List.mem_iff_getElem?.1 hm
          have hi' : fs[i]? = some f := by simpa using hi
          have h3 := hf i f hi'
          have hlt : i < xs.length := by rw [hxl]; exact (Array.getElem?_eq_some_iff.1 hi').1
          rw [List.getElem?_eq_getElem hlt] at h3
          exact flat_fits d hkf h3) (by rw [hlen, hl]; omega)
        simpa using this
      · cases h
    · cases h
end
/-- The record that cells are. -/
def recOf (cs : List Value) : Rec := ⟨fun j => match cs[j]? with | some (.int _ n) => n | _ => 0, fun j => match cs[j]? with | some (.bool b) => b | _ => false⟩
/-- A cell of a kind. -/
def mk1 (k : Option IntKind) (r : Rec) (j : Nat) : Value := match k with | none => .bool (r.b j) | some k => .int k (r.i j)
theorem fits_mk {ks : List (Option IntKind)} {cs : List Value} (h : Fits ks cs) {j : Nat} {k : Option IntKind} (hk : ks[j]? = some k) : cs[j]? = some (mk1 k (recOf cs) j) := by
  obtain ⟨v, hv, hf⟩ := h.2 j k hk
  rw [hv]
  cases k with
  | none =>
    obtain ⟨b, rfl⟩ := hf
    simp [mk1, recOf, hv]
  | some k =>
    obtain ⟨n, rfl, _⟩ := hf
    simp [mk1, recOf, hv]
theorem fits_wf {ks : List (Option IntKind)} {cs : List Value} (h : Fits ks cs) {j : Nat} {k : IntKind} (hk : ks[j]? = some (some k)) : (Lit.int k ((recOf cs).i j)).wf = true := by
  obtain ⟨v, hv, hf⟩ := h.2 j _ hk
  obtain ⟨n, rfl, hw⟩ := hf
  simpa [recOf, hv] using hw
section
variable {H : Type} {enc : TypeId × Value → H} {w : World} {base : Nat} {spare : Nat → Bool} {held : Bool}
theorem open_rows {t e sz fuel : Nat} {ks : List (Option IntKind)} {cs : List Value} {x : DataW H × List MemPlace} (ht : Try.prog.underlying t = some (.slice e)) (hC : Try.prog.cellsOf e = sz) (hs : 0 < sz) (hflat : flat Try.prog 5 e = some ks)
    (row : Rec → Array Value) (hrow : ∀ cs, Fits ks cs → (row (recOf cs)).toList = cs) (h : DataW.trod enc Try.prog w base spare held fuel t cs = some x) :
    ∃ (a : Option Addr) (n c : Nat) (ps : Nat → Rec), cs = [.slice a n c] ∧ (a = none → n = 0 ∧ c = 0) ∧ (∀ k, k < n → ∃ cs', ps k = recOf cs' ∧ Fits ks cs') ∧ n ≤ c ∧ c ≤ maxLen ∧ View w a sz n fun k j => (row (ps k))[j]?.getD undef := by
  rcases open_slice ht h with ⟨rfl, _⟩ | ⟨a, len, cap, m, n, D, Pl, rfl, hb, hl, hm, hmm, hx, hi⟩
  · exact ⟨none, 0, 0, fun _ => ⟨fun _ => 0, fun _ => false⟩, rfl, fun _ => ⟨rfl, rfl⟩, fun k hk => by omega, Nat.le_refl _, Nat.zero_le _, .inl rfl⟩
  · have hlm : len ≤ m := by rw [hmm]; split <;> omega
    have hch : ∀ i, i < len → ∃ cs' : List Value, w.cells? base (a.add (i * sz)) sz = some cs' ∧ Fits ks cs' := fun i hil => by
      obtain ⟨cs', h1, h2⟩ := hi i (by omega)
      rw [hC] at h1
      exact ⟨cs', h1, flat_fits 5 hflat h2⟩
    obtain ⟨F, hF⟩ := choose_lt hch
    refine ⟨some a, len, cap, fun i => recOf (F i), rfl, (fun h => nomatch h), (fun k hk => ⟨F k, rfl, (hF k hk).2⟩), hl, hm, ?_⟩
    by_cases hn : len = 0
    · exact .inl hn
    · have hcell : ∀ k, k < len → ∀ j, j < sz → w.cell? ((a.add (k * sz)).add j) = some ((row (recOf (F k)))[j]?.getD undef) := fun k hk j hj => by
        obtain ⟨h1, h2⟩ := hF k hk
        obtain ⟨_, hlen, hat⟩ := World.cells?_some h1
        have hr := hrow _ h2
        rw [hat j hj]
        have : (F k)[j]? = (row (recOf (F k)))[j]? := by rw [← Array.getElem?_toList, hr]
        rw [this]
        cases hq : (row (recOf (F k)))[j]? with
        | some v => rfl
        | none =>
          rw [← this, List.getElem?_eq_none_iff] at hq
          omega
      obtain ⟨g, o, sp⟩ := a
      have h0 := hcell 0 (by omega) 0 hs
      have hsp : sp = none := by
        rw [Nat.zero_mul] at h0
        cases sp with
        | none => rfl
        | some z =>
          simp [Addr.add, World.cell?] at h0
          split at h0 <;> simp at h0
      subst hsp
      exact .inr ⟨g, o, rfl, fun k hk j hj => by
        have := hcell k hk j hj
        rw [Addr.add_mid, Addr.add_mid, Nat.add_assoc] at this
        exact this⟩
end
theorem flatH : flat Try.prog 5 45 = some [some .i64, some .i64, some .u32] := by kernel_rfl
theorem cellsH : Try.prog.cellsOf 45 = 3 := by kernel_rfl
theorem flatU : flat Try.prog 5 38 = some [some .u32] := by kernel_rfl
theorem cellsU : Try.prog.cellsOf 38 = 1 := by kernel_rfl
/-- The hop that a record is. -/
def hopOf (r : Rec) : Hop := ⟨r.i 0, r.i 1, (r.i 2).toNat⟩
theorem rowH_of {cs : List Value} (h : Fits [some .i64, some .i64, some .u32] cs) : (rowH (hopOf (recOf cs))).toList = cs ∧ (hopOf (recOf cs)).c ≤ 4294967295 := by
  have hl : cs.length = 3 := h.1.symm
  have h0 := fits_mk h (j := 0) rfl
  have h1 := fits_mk h (j := 1) rfl
  have h2 := fits_mk h (j := 2) rfl
  have hb := bounds_u32 (fits_wf h (j := 2) rfl)
  refine ⟨?_, by show ((recOf cs).i 2).toNat ≤ _; omega⟩
  have e2 : (((recOf cs).i 2).toNat : Int) = (recOf cs).i 2 := by omega
  show [Value.int .i64 ((recOf cs).i 0), Value.int .i64 ((recOf cs).i 1), Value.int .u32 (((recOf cs).i 2).toNat : Int)] = cs
  rw [e2]
  generalize recOf cs = r at h0 h1 h2
  match cs, hl with
  | [a, b, c], _ =>
    simp only [List.getElem?_cons_zero, List.getElem?_cons_succ, Option.some.injEq, mk1] at h0 h1 h2
    rw [h0, h1, h2]
section
variable {H : Type} {enc : TypeId × Value → H} {w : World} {base : Nat} {spare : Nat → Bool} {held : Bool}
theorem open_hops {v : Value} {d : DataW H} {p : List MemPlace} {rr : Reach} {b0 : Nat} (hv : Value.okWide Try.prog w rr b0 22 v) (h : DataW.Trod enc Try.prog w base spare held 22 v d p) :
    ∃ a n c l, v = .slice a n c ∧ HopsV w a n l ∧ ∀ q, (l q).c ≤ 4294967295 := by
  obtain ⟨a1, len, cap, rfl⟩ := okWide_slice Try.underlying22 hv
  obtain ⟨fuel, hf⟩ := h
  obtain ⟨a, n, c, ps, hcs, hnil, hfit, _, _, hview⟩ := open_rows Try.underlying22 cellsH (by decide) flatH (fun r => rowH (hopOf r)) (fun cs h => (rowH_of h).1) hf
  simp [Value.cells] at hcs
  obtain ⟨rfl, rfl, rfl⟩ := hcs
  refine ⟨a1, len, cap, fun q => if q < len then hopOf (ps q) else ⟨0, 0, 0⟩, rfl, ?_, fun q => ?_⟩
  · rcases hview with hz | ⟨g, o, ha, hc⟩
    · exact .inl hz
    · exact .inr ⟨g, o, ha, fun k hk j hj => by
        simp only [if_pos hk]
        exact hc k hk j hj⟩
  · show (if q < len then hopOf (ps q) else (⟨0, 0, 0⟩ : Hop)).c ≤ _
    split
    · rename_i hq
      obtain ⟨cs', e, hF⟩ := hfit q hq
      rw [e]
      exact (rowH_of hF).2
    · simp
theorem open_hop {v : Value} {d : DataW H} {p : List MemPlace} {rr : Reach} {b0 : Nat} (hv : Value.okWide Try.prog w rr b0 45 v) (h : DataW.Trod enc Try.prog w base spare held 45 v d p) :
    ∃ x, v = .agg (rowH x) ∧ x.c ≤ 4294967295 := by
  obtain ⟨ca, rfl, hsz⟩ := okWide_struct Try.underlying45 hv
  obtain ⟨fuel, hf⟩ := h
  obtain ⟨cs, rfl⟩ : ∃ cs : List Value, ca = cs.toArray := ⟨ca.toList, by simp⟩
  have hF : Fits _ cs := flat_fits 5 flatH hf
  have hr := rowH_of hF
  exact ⟨_, by rw [show cs.toArray = (rowH (hopOf (recOf cs))).toList.toArray by rw [hr.1]], hr.2⟩
theorem open_costs {v : Value} {d : DataW H} {p : List MemPlace} {rr : Reach} {b0 : Nat} (hv : Value.okWide Try.prog w rr b0 37 v) (h : DataW.Trod enc Try.prog w base spare held 37 v d p) :
    ∃ (a : Option Addr) (n c : Nat) (f : Nat → Nat), v = .slice a n c ∧ View w a 1 n (fun k _ => .int .u32 (f k)) ∧ (∀ q, f q ≤ 4294967295) ∧ (a = none → n = 0 ∧ c = 0) := by
  obtain ⟨a1, len, cap, rfl⟩ := okWide_slice Try.underlying37 hv
  obtain ⟨fuel, hf⟩ := h
  obtain ⟨a, n, c, ps, hcs, hnil, hfit, _, _, hview⟩ := open_rows Try.underlying37 cellsU (by decide) flatU (fun r => #[.int .u32 (r.i 0)]) (fun cs h => by
    have hl : cs.length = 1 := h.1.symm
    match cs, hl with
    | [v], _ =>
      have := fits_mk h (j := 0) rfl
      simp only [List.getElem?_cons_zero, Option.some.injEq, mk1] at this
      exact congrArg (fun z => [z]) this.symm) hf
  simp [Value.cells] at hcs
  obtain ⟨rfl, rfl, rfl⟩ := hcs
  have hbd : ∀ k, k < len → 0 ≤ (ps k).i 0 ∧ (ps k).i 0 ≤ 4294967295 := fun k hk => by
    obtain ⟨cs', e, hF⟩ := hfit k hk
    rw [e]
    exact bounds_u32 (fits_wf hF (j := 0) rfl)
  refine ⟨a1, len, cap, fun q => if q < len then ((ps q).i 0).toNat else 0, rfl, ?_, fun q => ?_, hnil⟩
  · rcases hview with hz | ⟨g, o, ha, hc⟩
    · exact .inl hz
    · exact .inr ⟨g, o, ha, fun k hk j hj => by
        obtain rfl : j = 0 := by omega
        have hb := hbd k hk
        have h1 := hc k hk 0 (by omega)
        simp only [if_pos hk]
        rw [show (((ps k).i 0).toNat : Int) = (ps k).i 0 by omega]
        exact h1⟩
  · show (if q < len then ((ps q).i 0).toNat else 0) ≤ _
    split
    · rename_i hq
      have hb := hbd q hq
      omega
    · simp
end
end Go.Proofs.Ytfoenfhfohaoaaa.Rea
