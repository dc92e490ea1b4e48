/- Law ReachShort of chapter 22: the walk joined with the plain law. -/
import Derived.Test.YtfoenfhfohaoaaaAwake22
import Derived.Deep.CutRange
set_option linter.unusedSimpArgs false
namespace Go.Proofs.Ytfoenfhfohaoaaa.Rea
open Go.RowKit
theorem sizeH' (h : Hop) : (Try.prog.info? 45).map (·.size) = some (rowH h).size := by rw [rowH_size]; kernel_rfl
theorem zeroH'_run (w : World) : Sem.run Try.prog (zeroValue 45) w = .ok (.agg (rowH zeroH)) w := by kernel_rfl
theorem infoBo : (Try.prog.info? 4).map (fun i => (i.zero, i.size, i.bytes)) = some (some (.bool false), 1, 1) := by kernel_rfl
theorem mkU1 (c : Nat) (w : World) : Sem.run Try.prog (Instr.buildSlice 37 1 #[(0, .int .u32 c)]) w = .ok (.slice (some ⟨w.heap.size, 0, none⟩) 1 1) (w.alloc (.cells #[.int .u32 c] 38)) := by kernel_rfl
theorem not_lt {a b : Nat × Nat} (h : Le b a) : lt a b = false := by
  cases e : lt a b with
  | false => rfl
  | true =>
    rw [lt_iff] at e
    exact absurd h e
/-- Whether points are reached, in block g. -/
def Bools (w : World) (g k : Nat) (bf : Nat → Bool) : Prop := w.rowIs g 4 k (fun v => .bool (bf v))
theorem Bools.below {w w' : World} {g n : Nat} {o : Nat → Bool} (h : Bools w g n o) (hb : Below w.heap.size w w') : Bools w' g n o := h.of_block (hb.block g h.lt)
def setT (bf : Nat → Bool) (v : Nat) : Nat → Bool := fun u => if u = v then true else bf u
theorem Bools.put {w : World} {g n : Nat} {bf : Nat → Bool} (h : Bools w g n bf) (v : Nat) : Bools (w.setCell ⟨g, v, none⟩ (.bool true)) g n (setT bf v) :=
  (World.rowIs.set h v (.bool true)).congr fun i _ => by
    unfold setT
    split <;> rfl
/-- The first q hops have been looked at. -/
def Seen (k : Nat) (l : Nat → Hop) (o : Nat → Way) (q : Nat) (bf : Nat → Bool) : Prop := ∀ p, p < q → ok k (l p) → ∀ u, o (l p).f.toNat = some u → o (l p).t.toNat = some (on u (l p)) → bf (l p).t.toNat = true
theorem Seen.skip {k q : Nat} {l : Nat → Hop} {o : Nat → Way} {bf : Nat → Bool} (h : Seen k l o q bf) (hn : ok k (l q) → ∀ u, o (l q).f.toNat = some u → o (l q).t.toNat = some (on u (l q)) → False) : Seen k l o (q + 1) bf := fun p hp hk u h1 h2 => by
  by_cases e : p = q
  · subst e
    exact (hn hk u h1 h2).elim
  · exact h p (by omega) hk u h1 h2
theorem Seen.put {k q : Nat} {l : Nat → Hop} {o : Nat → Way} {bf : Nat → Bool} (h : Seen k l o q bf) : Seen k l o (q + 1) (setT bf (l q).t.toNat) := fun p hp hk u h1 h2 => by
  unfold setT
  split
  · rfl
  · rename_i hne
    by_cases e : p = q
    · subst e
      exact absurd rfl hne
    · exact h p (by omega) hk u h1 h2
theorem Seen.done {k m s v : Nat} {l : Nat → Hop} {o : Nat → Way} {bf : Nat → Bool} (h : Seen k l o m bf) (hs : bf s = true) (hopt : Opt k l m s o) (hv : bf v = false) : o v = none := by
  cases e : o v with
  | none => rfl
  | some w =>
    by_cases hvs : v = s
    · subst hvs
      rw [hs] at hv
      cases hv
    · obtain ⟨q, u, hq, hk, h1, h2, h3⟩ := opt_by hopt e hvs
      have := h q hq hk u h1 (by rw [h2, e, h3])
      rw [h2, hv] at this
      cases this
attribute [local go_sem] zeroH'_run rowH_0 rowH_1 rowH_2 mkU1
set_option maxRecDepth 100000 in
set_option maxHeartbeats 8000000 in
theorem shortlaw_any (w : World) (i0 : Nat) (hi0 : i0 ≤ 255) (la : Option Addr) (m lc : Nat) (l : Nat → Hop) (hv : HopsV w la m l) (hb : ∀ q, (l q).c ≤ 4294967295) (i3 : Nat) (hi3 : i3 ≤ 255) :
    Calls Try.prog 5 #[.int .u8 i0, .slice la m lc, .int .u8 i3] w fun e w' => e = .returned (.bool true) ∧ Below w.heap.size w w' := by
  have HV := Lib.hid hv
  have HB := Lib.hid hb
  clear hv hb
  obtain ⟨k, hk⟩ : ∃ k : Nat, k = i0 % 20 + 1 := ⟨_, rfl⟩
  have hkk : 1 + (i0 : Int) % 20 = (k : Int) := by omega
  have hk1 : 1 ≤ k := by omega
  have hk20 : k ≤ 20 := by omega
  obtain ⟨st, hst⟩ : ∃ st : Nat, st = i3 % k := ⟨_, rfl⟩
  have hss : (i3 : Int) % (k : Int) = (st : Int) := by rw [hst]; omega
  have hsk : st < k := by rw [hst]; exact Nat.mod_lt _ (by omega)
  clear hk hst
  by_cases h0 : 60 < m
  · have d0 : decide ((60 : Int) < m) = true := decide_eq_true (by omega)
    clear h0
    go_enter Try.func5, Try.ntmps5
    go_wp2_with fail
    refine (awake_any _).mono ?_
    rintro e w1 ⟨rfl, hb1⟩
    have HB1 := Lib.hid hb1
    clear hb1
    go_wp2_with fail
    go_ret
    exact ⟨rfl, HB1.out⟩
  have d0 : decide ((60 : Int) < m) = false := decide_eq_false (by omega)
  have hm : m ≤ 60 := by omega
  have hmk := fun w => run_make_row' (P := Try.prog) 43 4 (.bool false) 1 Try.underlying43 infoBo rfl .i64 .i64 k (by omega) (by omega) w
  have hs0 : (0 : Int) ≤ st := by omega
  have hs1 : (st : Int) < k := by omega
  clear h0
  go_enter Try.func5, Try.ntmps5
  go_wp2_with fail
  refine (awake_any _).mono ?_
  rintro e w1 ⟨rfl, hb1⟩
  have HB1 := Lib.hid hb1
  clear hb1
  go_wp2_with fail
  refine (hops_any w1 m (by omega) l la lc (HV.out.below HB1.out)).mono ?_
  rintro e w2 ⟨v, rfl, ho2, hb2⟩
  obtain ⟨a, c, rfl, hv2⟩ := ho2.view
  have HB2 := Lib.hid (andthen HB1.out hb2)
  have HV2 := Lib.hid hv2
  clear hb2 ho2 hv2
  go_wp2_with fail
  refine (far_any w2 k m st ⟨hk1, hk20⟩ hsk (by omega) l a c HV2.out HB.out).mono ?_
  rintro e w3 ⟨ga, o, rfl, hg, hO, hopt, hbd, hb3⟩
  have HO3 := Lib.hid hO
  have HB3 := Lib.hid (andthen HB2.out hb3)
  have Hopt := Lib.hid hopt
  have Hbd := Lib.hid hbd
  clear hb3 hO hopt hbd
  go_upto_region 10 with (fail)
  have h4 := World.rowIs_made w3 (.bool false) k 4
  obtain ⟨w4, hw4⟩ : ∃ x, x = w3.alloc (.cells (madeCells #[.bool false] k) 4) := ⟨_, rfl⟩
  obtain ⟨gb, hgb⟩ : ∃ x, x = w3.heap.size := ⟨_, rfl⟩
  rw [← hw4, ← hgb] at h4
  rw [← hw4, ← hgb]
  have HBo4 := Lib.hid (show Bools w4 gb k (fun _ => false) from h4)
  have hb4 : Below w3.heap.size w3 w4 := by rw [hw4]; exact more (Below.refl _ _) _
  have HO4 := Lib.hid (HO3.out.below hb4)
  have HB4 := Lib.hid (andthen HB3.out hb4)
  have hgbw : w.heap.size ≤ gb := by rw [hgb]; exact HB3.out.size
  have hgne : ga ≠ gb := by have := HO3.out.lt; omega
  have c4 : w4.cell? ⟨gb, st, none⟩ = some (.bool false) := HBo4.out.cell hsk
  have f4 := HBo4.out.frozen st
  clear h4 hw4 hgb hb4 HO3 HB3 hmk
  go_wp2_with fail
  obtain ⟨w5, hw5⟩ : ∃ x, x = w4.setCell ⟨gb, st, none⟩ (.bool true) := ⟨_, rfl⟩
  rw [← hw5]
  have HBo5 := Lib.hid (show Bools w5 gb k (setT (fun _ => false) st) by rw [hw5]; exact HBo4.out.put st)
  have HO5 := Lib.hid (show Outs w5 ga k o by rw [hw5]; exact World.rowIs.setOther HO4.out hgne _)
  have HB5 := Lib.hid (show Below w.heap.size w w5 by rw [hw5]; exact HB4.out.setCell hgbw _)
  clear hw5 c4 f4 HBo4 HO4 HB4 hs0 hs1
  go_loopw [12] (fun i wr => ∃ (q : Nat) (bf : Nat → Bool), q ≤ m ∧ i = .int .i64 q ∧ Hid (Outs wr ga k o) ∧ Hid (Bools wr gb k bf) ∧ Hid (bf st = true) ∧ Hid (Seen k l o q bf) ∧ Hid (Below w.heap.size w wr)) (fun i _ => m - (intOf i).toNat)
  case atStart => exact ⟨0, _, by omega, rfl, HO5, HBo5, Lib.hid (if_pos rfl), Lib.hid (fun p hp => by omega), HB5⟩
  case round =>
    clear HO5 HBo5 HB5
    obtain ⟨q, bf, hq, rfl, hO, hBo, hbs, hS, hB⟩ := hrel
    by_cases hlt : q < m
    · have hgl := hO.out.lt
      have hgbl := hBo.out.lt
      rcases HV.out with h0 | ⟨lg, lo, rfl, hlc⟩
      · omega
      have hr := (HopsV.range hlc hlt)
      have hlg : lg < w.heap.size := cell_lt (hlc q hlt 0 (by omega))
      clear hlc
      replace hr : wr.rangeAt lg (lo + q * 3) (rowH (l q)).toList := fun j v hj => (hB.out.cell (p := ⟨lg, _, none⟩) hlg).trans (hr j v hj)
      by_cases hk : ok k (l q)
      · obtain ⟨u, v, c, hl⟩ : ∃ u v c : Nat, l q = ⟨u, v, c⟩ := by
          obtain ⟨h1, h2, h3, h4⟩ := hk
          refine ⟨(l q).f.toNat, (l q).t.toNat, (l q).c, ?_⟩
          cases hx : l q with
          | mk f t c =>
            rw [hx] at h1 h3
            simp only [Hop.mk.injEq]
            simp only at h1 h3
            exact ⟨by omega, by omega, trivial⟩
        have hcb := HB.out q
        have hfix := opt_fix Hopt.out hlt hk
        rw [hl] at hk hr hcb hfix
        have Hl := Lib.hid hl
        clear hl
        have Hk := Lib.hid hk
        have huq : u < k := by have := Hk.out.2.1; simpa using this
        have hvq : v < k := by have := Hk.out.2.2.2; simpa using this
        have d2 : decide (k ≤ u) = false := decide_eq_false (by omega)
        have d4 : decide (k ≤ v) = false := decide_eq_false (by omega)
        have huq' : (u : Int) < k := by omega
        have hvq' : (v : Int) < k := by omega
        have hu0 : (0 : Int) ≤ u := by omega
        have hv0 : (0 : Int) ≤ v := by omega
        have cu := hO.out.cell huq
        have cvv := hO.out.cell hvq
        have Hfix := Lib.hid hfix
        clear hk hfix
        simp only at hcb
        cases eu : o u with
        | none =>
          rw [eu] at cu
          have hS' := Lib.hid (hS.out.skip (fun _ u' h1 _ => by rw [Hl.out] at h1; rw [show (⟨u, v, c⟩ : Hop).f.toNat = u from rfl, eu] at h1; cases h1))
          clear eu cvv
          go_wp2_with (first | (refine wpList_row rfl 45 _ rfl lg (lo + q * 3) rfl _ _ hr Try.underlying45 rfl (sizeH' _) ?_; simp only [Act.put, List.setIfInBounds_toArray, List.set_cons_zero, List.set_cons_succ]) | (refine wpList_store_new rfl 45 _ _ rfl wr (rowH zeroH) 45 _ rfl rfl rfl (sizeH' _) rfl (rowH_one _) ?_; simp only [Act.put]) | (go_at_call 12; refine (none_any none trivial _).mono ?_; rintro e w' ⟨rfl, rfl⟩) | fail)
          go_roundw
          case rel => exact ⟨q + 1, bf, by omega, by go_num, Lib.hid (World.rowIs.alloc hO.out _), Lib.hid (World.rowIs.alloc hBo.out _), hbs, hS', Lib.hid (more hB.out _)⟩
          case measure => simp [intOf]; omega
        | some a =>
          obtain ⟨a1, a2⟩ := a
          obtain ⟨y, ey, hle⟩ := Hfix.out (a1, a2) eu
          obtain ⟨y1, y2⟩ := y
          have hsa : Short2 (a1, a2) := by have h := Hbd.out.short (by omega) u; rw [eu] at h; exact h
          have ey' : o v = some (y1, y2) := ey
          have hsy : Short2 (y1, y2) := by have h := Hbd.out.short (by omega) v; rw [ey'] at h; exact h
          have hba : a2 ≤ 2000 ∧ a1 ≤ a2 * 4294967295 := Hbd.out u (a1, a2) eu
          have hba2 : a2 * 4294967295 ≤ 2000 * 4294967295 := Nat.mul_le_mul_right _ hba.1
          have hsn : a1 + c < 2 ^ 53 := by omega
          have hsn2 : a2 + 1 < 2 ^ 53 := by omega
          have hson : Short2 (on (a1, a2) ⟨u, v, c⟩) := ⟨hsn, hsn2⟩
          have hnl := not_lt hle
          rw [eu] at cu
          rw [ey'] at cvv
          replace cu : wr.cell? ⟨ga, u, none⟩ = some (.complex .f64 (flt a1) (flt a2)) := cu
          have Eu := Lib.hid eu
          have Ey := Lib.hid ey'
          have CV := Lib.hid cvv
          have Hless := Lib.hid (fun w => show Calls Try.prog 14 #[cv (some (on (a1, a2) ⟨u, v, c⟩)), cv (some (y1, y2))] w fun e w' => e = .returned (.bool false) ∧ w' = w by have h := less_any (on (a1, a2) ⟨u, v, c⟩) (y1, y2) hson hsy w; rw [hnl] at h; exact h)
          clear eu ey ey' hba hba2 cvv hle hnl
          go_upto_region 17 with (first | (refine wpList_row rfl 45 _ rfl lg (lo + q * 3) rfl _ _ hr Try.underlying45 rfl (sizeH' _) ?_; simp only [Act.put, List.setIfInBounds_toArray, List.set_cons_zero, List.set_cons_succ]) | (refine wpList_store_new rfl 45 _ _ rfl wr (rowH zeroH) 45 _ rfl rfl rfl (sizeH' _) rfl (rowH_one _) ?_; simp only [Act.put]) | (go_at_call 12; refine (none_any (some (a1, a2)) hsa _).mono ?_; rintro e w' ⟨rfl, rfl⟩) | fail)
          obtain ⟨W, hW⟩ : ∃ x, x = wr.alloc (.cells (rowH ⟨u, v, c⟩) 45) := ⟨_, rfl⟩
          obtain ⟨hb, hhb⟩ : ∃ x, x = wr.heap.size := ⟨_, rfl⟩
          rw [← hW, ← hhb]
          have hHW : W.heap[hb]? = some (.cells (rowH ⟨u, v, c⟩) 45 (0, 0)) := by rw [hW, hhb]; exact heap_alloc_new _ _
          have k0 : W.cell? ⟨hb, 0, none⟩ = some (.int .i64 u) := cells_of hHW 0
          have k2 : W.cell? ⟨hb, 2, none⟩ = some (.int .u32 c) := cells_of hHW 2
          have hOW := Lib.hid (show Outs W ga k o by rw [hW]; exact World.rowIs.alloc hO.out _)
          have hBoW := Lib.hid (show Bools W gb k bf by rw [hW]; exact World.rowIs.alloc hBo.out _)
          have hBW := Lib.hid (show Below w.heap.size w W by rw [hW]; exact more hB.out _)
          replace cu : W.cell? ⟨ga, u, none⟩ = some (.complex .f64 (flt a1) (flt a2)) := by have h := hOW.out.cell huq; rw [Eu.out] at h; exact h
          have hgl' := hOW.out.lt
          have hhl : hb < W.heap.size := (Array.getElem?_eq_some_iff.1 hHW).1
          clear hW hhb hr CV hO hB hBo hgl hgbl
          have hadd := fun w => add_cv (stands a1 hsa.1) (stands a2 hsa.2) hsn hsn2 30 w
          refine wp_region_held_drew (S := fun w' => Below W.heap.size W w') (by kernel_rfl) (Below.refl _ _).drew (fun hH => ?_)
          refine wpAnyH_take (i := 0) (v := .slice (some ⟨ga, 0, none⟩) k k) rfl (by kernel_rfl) (by kernel_rfl) (by kernel_rfl) (fun _ _ _ h => h) (Or.inl ⟨by rfl, fun z _ => rfl⟩) hH ?_
          simp only [List.getElem_toArray, List.getElem_cons_succ, List.getElem_cons_zero, Act.put, List.setIfInBounds_toArray, List.set_cons_zero, List.set_cons_succ]
          refine wpAnyH_take (i := 1) (v := .pointer (some ⟨hb, 0, none⟩)) rfl (by kernel_rfl) (by kernel_rfl) (by kernel_rfl) (fun _ _ _ h => h) (Or.inl ⟨by rfl, fun z _ => by simp [go_sem, execOp]⟩) hH ?_
          simp only [List.getElem_toArray, List.getElem_cons_succ, List.getElem_cons_zero, Act.put, List.setIfInBounds_toArray, List.set_cons_zero, List.set_cons_succ]
          refine wpAnyH_take (i := 2) (v := .int .i64 u) rfl (by kernel_rfl) (by kernel_rfl) (by kernel_rfl) (fun _ _ _ h => h) (Or.inl ⟨by rfl, fun z hz => by simp [go_sem, execOp, (show z.cell? ⟨hb, 0, none⟩ = some (.int .i64 u) from (hz.cell (p := ⟨hb, 0, none⟩) hhl).trans k0)]⟩) hH ?_
          simp only [List.getElem_toArray, List.getElem_cons_succ, List.getElem_cons_zero, Act.put, List.setIfInBounds_toArray, List.set_cons_zero, List.set_cons_succ]
          refine wpAnyH_take (i := 3) (v := .pointer (some ⟨ga, u, none⟩)) rfl (by kernel_rfl) (by kernel_rfl) (by kernel_rfl) (fun _ _ _ h => h) (Or.inl ⟨by rfl, fun z _ => by simp [go_sem, execOp, huq', hu0]⟩) hH ?_
          simp only [List.getElem_toArray, List.getElem_cons_succ, List.getElem_cons_zero, Act.put, List.setIfInBounds_toArray, List.set_cons_zero, List.set_cons_succ]
          refine wpAnyH_take (i := 4) (v := .complex .f64 (flt a1) (flt a2)) rfl (by kernel_rfl) (by kernel_rfl) (by kernel_rfl) (fun _ _ _ h => h) (Or.inl ⟨by rfl, fun z hz => by simp [go_sem, execOp, (show z.cell? ⟨ga, u, none⟩ = some (.complex .f64 (flt a1) (flt a2)) from (hz.cell (p := ⟨ga, u, none⟩) hgl').trans cu)]⟩) hH ?_
          simp only [List.getElem_toArray, List.getElem_cons_succ, List.getElem_cons_zero, Act.put, List.setIfInBounds_toArray, List.set_cons_zero, List.set_cons_succ]
          refine wpAnyH_take (i := 5) (v := .pointer (some ⟨hb, 2, none⟩)) rfl (by kernel_rfl) (by kernel_rfl) (by kernel_rfl) (fun _ _ _ h => h) (Or.inl ⟨by rfl, fun z _ => by simp [go_sem, execOp]⟩) hH ?_
          simp only [List.getElem_toArray, List.getElem_cons_succ, List.getElem_cons_zero, Act.put, List.setIfInBounds_toArray, List.set_cons_zero, List.set_cons_succ]
          refine wpAnyH_take (i := 6) (v := .int .u32 c) rfl (by kernel_rfl) (by kernel_rfl) (by kernel_rfl) (fun _ _ _ h => h) (Or.inl ⟨by rfl, fun z hz => by simp [go_sem, execOp, (show z.cell? ⟨hb, 2, none⟩ = some (.int .u32 c) from (hz.cell (p := ⟨hb, 2, none⟩) hhl).trans k2)]⟩) hH ?_
          simp only [List.getElem_toArray, List.getElem_cons_succ, List.getElem_cons_zero, Act.put, List.setIfInBounds_toArray, List.set_cons_zero, List.set_cons_succ]
          refine wpAnyH_ready (rs := [7]) (by kernel_rfl) (by simp) (AllReadyH.cons rfl (fun K hK => ?_) AllReadyH.nil)
          rw [if_pos (by rfl)]
          refine wp_buildSlice 37 1 _ rfl _ _ (mkU1 c W.drew) (by kernel_rfl) ?_
          obtain ⟨W2, hW2⟩ : ∃ x, x = W.drew.alloc (.cells #[.int .u32 c] 38) := ⟨_, rfl⟩
          obtain ⟨gs, hgs⟩ : ∃ x, x = W.drew.heap.size := ⟨_, rfl⟩
          have h02 : Below W.heap.size W W2 := by rw [hW2]; exact more ((Below.refl W.heap.size W).drew) _
          have hgs2 : W2.heap[gs]? = some (.cells #[.int .u32 c] 38 (0, 0)) := by rw [hW2, hgs]; exact heap_alloc_new _ _
          rw [← hW2, ← hgs]
          have Hgs := Lib.hid hgs2
          have HHb := Lib.hid ((h02.block hb hhl).trans hHW)
          have hO2 := Lib.hid (hOW.out.below h02)
          have hBo2 := Lib.hid (hBoW.out.below h02)
          have hB2 := Lib.hid (andthen hBW.out h02)
          refine hK.out _ _ h02 (fun hH2 => ?_)
          simp only [List.getElem_toArray, List.getElem_cons_succ, List.getElem_cons_zero, Act.put, List.setIfInBounds_toArray, List.set_cons_zero, List.set_cons_succ]
          clear hK K hW2 hgs hgs2 k0 k2 cu hOW hBoW hBW hgl' hHW hhl hH
          refine wpAnyH_ready (rs := [8]) (by kernel_rfl) (by simp) (AllReadyH.cons rfl (fun K hK => ?_) AllReadyH.nil)
          go_simp
          refine (length_any W2 (some ⟨gs, 0, none⟩) 1 1 (fun _ => c) (.inr ⟨gs, 0, rfl, fun x hx j hj => by
            obtain rfl : j = 0 := by omega
            obtain rfl : x = 0 := by omega
            exact cells_of Hgs.out 0⟩) (fun _ => hcb) (by omega)).mono ?_
          rintro e w' ⟨rfl, rfl⟩
          rw [show sumc (fun _ => c) 1 = c by show 0 + c = c; omega]
          refine hK.out _ _ h02 (fun hH3 => ?_)
          clear hK K hH2
          refine wpAnyH_take (i := 9) (v := .complex .f64 (flt (a1 + c)) (flt (a2 + 1))) rfl (by kernel_rfl) (by kernel_rfl) (by kernel_rfl) (fun _ _ _ h => h) (Or.inl ⟨by rfl, fun z _ => by simp [go_sem, execOp, hadd]⟩) hH3 ?_
          simp only [List.getElem_toArray, List.getElem_cons_succ, List.getElem_cons_zero, Act.put, List.setIfInBounds_toArray, List.set_cons_zero, List.set_cons_succ]
          refine wpAnyH_take (i := 10) (v := .complex .f64 (flt (a1 + c)) (flt (a2 + 1))) rfl (by kernel_rfl) (by kernel_rfl) (by kernel_rfl) (fun _ _ _ h => h) (Or.inl ⟨by rfl, fun z _ => rfl⟩) hH3 ?_
          simp only [List.getElem_toArray, List.getElem_cons_succ, List.getElem_cons_zero, Act.put, List.setIfInBounds_toArray, List.set_cons_zero, List.set_cons_succ]
          refine wpAnyH_done (by kernel_rfl) ?_ _
          clear hH3 hadd h02
          have k1 : w'.cell? ⟨hb, 1, none⟩ = some (.int .i64 v) := cells_of HHb.out 1
          have cvv := hO2.out.cell hvq
          rw [Ey.out] at cvv
          replace cvv : w'.cell? ⟨ga, v, none⟩ = some (.complex .f64 (flt y1) (flt y2)) := cvv
          have hbv : w'.cell? ⟨gb, v, none⟩ = some (.bool (bf v)) := hBo2.out.cell hvq
          have fbv := hBo2.out.frozen v
          have e1 : (FloatKind.f64.format.order (flt (a1 + c)) (flt y1) == some .eq) = decide (a1 + c = y1) := by rw [fmt64, order_flt (stands _ hsn) (stands _ hsy.1), cmp_eq]
          have e2 : (FloatKind.f64.format.order (flt (a2 + 1)) (flt y2) == some .eq) = decide (a2 + 1 = y2) := by rw [fmt64, order_flt (stands _ hsn2) (stands _ hsy.2), cmp_eq]
          by_cases he : on (a1, a2) ⟨u, v, c⟩ = (y1, y2)
          · have he' : a1 + c = y1 ∧ a2 + 1 = y2 := by
              have h := he
              unfold on at h
              simp only [Prod.mk.injEq] at h
              exact h
            rw [decide_eq_true he'.1] at e1
            rw [decide_eq_true he'.2] at e2
            have hS' := Lib.hid (show Seen k l o (q + 1) (setT bf v) by have h := hS.out.put; rw [Hl.out] at h; exact h)
            clear he he'
            go_wp2_with (first | (go_at_call 12; refine (none_any (some (y1, y2)) hsy _).mono ?_; rintro e w'' ⟨rfl, rfl⟩) | (go_at_call 14; refine (Hless.out _).mono ?_; rintro e w'' ⟨rfl, rfl⟩) | fail)
            go_roundw
            case rel => exact ⟨q + 1, setT bf v, by omega, by go_num, Lib.hid (World.rowIs.setOther hO2.out hgne _), Lib.hid (hBo2.out.put v), Lib.hid (by show (if st = v then true else bf st) = true; split; rfl; exact hbs.out), hS', Lib.hid (hB2.out.setCell hgbw _)⟩
            case measure => simp [intOf]; omega
          · have hS' := Lib.hid (hS.out.skip (fun _ u' h1 h2 => by
              rw [Hl.out] at h1 h2
              rw [show (⟨u, v, c⟩ : Hop).f.toNat = u from rfl, Eu.out] at h1
              rw [show (⟨u, v, c⟩ : Hop).t.toNat = v from rfl, Ey.out] at h2
              cases h1
              exact he (Option.some.inj h2).symm))
            have he2 : ¬ (a1 + c = y1) ∨ (a1 + c = y1 ∧ ¬ (a2 + 1 = y2)) := by
              by_cases h1 : a1 + c = y1
              · exact .inr ⟨h1, fun h2 => he (Prod.ext h1 h2)⟩
              · exact .inl h1
            clear he
            rcases he2 with he1 | ⟨he1, he2⟩
            · rw [decide_eq_false he1] at e1
              clear he1 e2
              go_wp2_with (first | (go_at_call 12; refine (none_any (some (y1, y2)) hsy _).mono ?_; rintro e w'' ⟨rfl, rfl⟩) | (go_at_call 14; refine (Hless.out _).mono ?_; rintro e w'' ⟨rfl, rfl⟩) | fail)
              go_roundw
              case rel => exact ⟨q + 1, bf, by omega, by go_num, hO2, hBo2, hbs, hS', hB2⟩
              case measure => simp [intOf]; omega
            · rw [decide_eq_true he1] at e1
              rw [decide_eq_false he2] at e2
              clear he1 he2
              go_wp2_with (first | (go_at_call 12; refine (none_any (some (y1, y2)) hsy _).mono ?_; rintro e w'' ⟨rfl, rfl⟩) | (go_at_call 14; refine (Hless.out _).mono ?_; rintro e w'' ⟨rfl, rfl⟩) | fail)
              go_roundw
              case rel => exact ⟨q + 1, bf, by omega, by go_num, hO2, hBo2, hbs, hS', hB2⟩
              case measure => simp [intOf]; omega
      · have hS' := Lib.hid (hS.out.skip (fun h => absurd h hk))
        have hc4 : (l q).f < 0 ∨ (0 ≤ (l q).f ∧ (k : Int) ≤ (l q).f) ∨ (0 ≤ (l q).f ∧ (l q).f < k ∧ (l q).t < 0) ∨ (0 ≤ (l q).f ∧ (l q).f < k ∧ 0 ≤ (l q).t ∧ (k : Int) ≤ (l q).t) := by
          unfold ok at hk
          omega
        clear hk
        rcases hc4 with hc | ⟨hc1, hc⟩ | ⟨hc1, hc2, hc⟩ | ⟨hc1, hc2, hc3, hc⟩
        · have e1 : decide ((l q).f < 0) = true := decide_eq_true hc
          clear hc
          go_wp2_with (first | (refine wpList_row rfl 45 _ rfl lg (lo + q * 3) rfl _ _ hr Try.underlying45 rfl (sizeH' _) ?_; simp only [Act.put, List.setIfInBounds_toArray, List.set_cons_zero, List.set_cons_succ]) | (refine wpList_store_new rfl 45 _ _ rfl wr (rowH zeroH) 45 _ rfl rfl rfl (sizeH' _) rfl (rowH_one _) ?_; simp only [Act.put]) | fail)
          go_roundw
          case rel => exact ⟨q + 1, bf, by omega, by go_num, Lib.hid (World.rowIs.alloc hO.out _), Lib.hid (World.rowIs.alloc hBo.out _), hbs, hS', Lib.hid (more hB.out _)⟩
          case measure => simp [intOf]; omega
        · have e1 : decide ((l q).f < 0) = false := decide_eq_false (by omega)
          have e2 : decide ((k : Int) ≤ (l q).f) = true := decide_eq_true hc
          clear hc hc1
          go_wp2_with (first | (refine wpList_row rfl 45 _ rfl lg (lo + q * 3) rfl _ _ hr Try.underlying45 rfl (sizeH' _) ?_; simp only [Act.put, List.setIfInBounds_toArray, List.set_cons_zero, List.set_cons_succ]) | (refine wpList_store_new rfl 45 _ _ rfl wr (rowH zeroH) 45 _ rfl rfl rfl (sizeH' _) rfl (rowH_one _) ?_; simp only [Act.put]) | fail)
          go_roundw
          case rel => exact ⟨q + 1, bf, by omega, by go_num, Lib.hid (World.rowIs.alloc hO.out _), Lib.hid (World.rowIs.alloc hBo.out _), hbs, hS', Lib.hid (more hB.out _)⟩
          case measure => simp [intOf]; omega
        · have e1 : decide ((l q).f < 0) = false := decide_eq_false (by omega)
          have e2 : decide ((k : Int) ≤ (l q).f) = false := decide_eq_false (by omega)
          have e3 : decide ((l q).t < 0) = true := decide_eq_true hc
          clear hc hc1 hc2
          go_wp2_with (first | (refine wpList_row rfl 45 _ rfl lg (lo + q * 3) rfl _ _ hr Try.underlying45 rfl (sizeH' _) ?_; simp only [Act.put, List.setIfInBounds_toArray, List.set_cons_zero, List.set_cons_succ]) | (refine wpList_store_new rfl 45 _ _ rfl wr (rowH zeroH) 45 _ rfl rfl rfl (sizeH' _) rfl (rowH_one _) ?_; simp only [Act.put]) | fail)
          go_roundw
          case rel => exact ⟨q + 1, bf, by omega, by go_num, Lib.hid (World.rowIs.alloc hO.out _), Lib.hid (World.rowIs.alloc hBo.out _), hbs, hS', Lib.hid (more hB.out _)⟩
          case measure => simp [intOf]; omega
        · have e1 : decide ((l q).f < 0) = false := decide_eq_false (by omega)
          have e2 : decide ((k : Int) ≤ (l q).f) = false := decide_eq_false (by omega)
          have e3 : decide ((l q).t < 0) = false := decide_eq_false (by omega)
          have e4 : decide ((k : Int) ≤ (l q).t) = true := decide_eq_true hc
          clear hc hc1 hc2 hc3
          go_wp2_with (first | (refine wpList_row rfl 45 _ rfl lg (lo + q * 3) rfl _ _ hr Try.underlying45 rfl (sizeH' _) ?_; simp only [Act.put, List.setIfInBounds_toArray, List.set_cons_zero, List.set_cons_succ]) | (refine wpList_store_new rfl 45 _ _ rfl wr (rowH zeroH) 45 _ rfl rfl rfl (sizeH' _) rfl (rowH_one _) ?_; simp only [Act.put]) | fail)
          go_roundw
          case rel => exact ⟨q + 1, bf, by omega, by go_num, Lib.hid (World.rowIs.alloc hO.out _), Lib.hid (World.rowIs.alloc hBo.out _), hbs, hS', Lib.hid (more hB.out _)⟩
          case measure => simp [intOf]; omega
    · obtain rfl : q = m := by omega
      have Hno := Lib.hid (fun v => Seen.done (v := v) hS.out hbs.out Hopt.out)
      go_wp2_with fail
      go_loopw [15] (fun i wr => ∃ p : Nat, p ≤ k ∧ i = .int .i64 p ∧ Hid (Outs wr ga k o) ∧ Hid (Bools wr gb k bf) ∧ Hid (Below w.heap.size w wr)) (fun i _ => k - (intOf i).toNat)
      case atStart => exact ⟨0, by omega, rfl, hO, hBo, hB⟩
      case round =>
        clear hO hBo hB
        obtain ⟨p, hp, rfl, hO, hBo, hB⟩ := hrel
        by_cases hlt : p < k
        · have hp0 : (0 : Int) ≤ p := by omega
          have hp1 : (p : Int) < k := by omega
          have cb := hBo.out.cell hlt
          cases eb : bf p with
          | true =>
            rw [eb] at cb
            clear eb
            go_wp2_with fail
            go_roundw
            case rel => exact ⟨p + 1, by omega, by go_num, hO, hBo, hB⟩
            case measure => simp [intOf]; omega
          | false =>
            rw [eb] at cb
            have ca := hO.out.cell hlt
            rw [Hno.out p eb] at ca
            clear eb
            go_wp2_with (first | (go_at_call 12; refine (none_any none trivial _).mono ?_; rintro e w' ⟨rfl, rfl⟩) | fail)
            go_roundw
            case rel => exact ⟨p + 1, by omega, by go_num, hO, hBo, hB⟩
            case measure => simp [intOf]; omega
        · obtain rfl : p = k := by omega
          have cs := hO.out.cell hsk
          rw [opt_start Hopt.out, cv_00] at cs
          have hs0 : (0 : Int) ≤ st := by omega
          have hs1 : (st : Int) < p := by omega
          have f0 := ord_self 0 (by decide)
          rw [flt_0] at f0
          go_wp2_with fail
          go_ret
          exact ⟨rfl, hB.out⟩
end Go.Proofs.Ytfoenfhfohaoaaa.Rea
