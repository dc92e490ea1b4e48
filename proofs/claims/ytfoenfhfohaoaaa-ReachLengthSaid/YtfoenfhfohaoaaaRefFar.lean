/- What the document's shortest ways come to (ford/fordref22.Far): the least way to each point. Conditions: from one to twenty points, up to 61 hops. -/
import Derived.Test.YtfoenfhfohaoaaaRows3
import Derived.Test.YtfoenfhfohaoaaaFar
import Derived.StillTailTactics
set_option linter.unusedSimpArgs false
namespace Go.Proofs.Ytfoenfhfohaoaaa.Rea
open Go.RowKit
theorem sizeH' (h : Hop) : (Try.prog.info? 45).map (·.size) = some (rowH h).size := by rw [rowH_size]; kernel_rfl
theorem sizeW (x : Way) : (Try.prog.info? 34).map (·.size) = some (rowW x).size := by rw [rowW_size]; kernel_rfl
theorem zeroH'_run (w : World) : Sem.run Try.prog (zeroValue 45) w = .ok (.agg (rowH zeroH)) w := by kernel_rfl
theorem zeroW_run (w : World) : Sem.run Try.prog (zeroValue 34) w = .ok (.agg (rowW none)) w := by kernel_rfl
theorem infoW : (Try.prog.info? 34).map (fun i => (i.zero, i.size, i.bytes)) = some (some (.agg (rowW none)), 3, 24) := by kernel_rfl
theorem info_parts {t : TypeId} {z : Value} {s b : Nat} (h : (Try.prog.info? t).map (fun i => (i.zero, i.size, i.bytes)) = some (some z, s, b)) : ∃ i, Try.prog.info? t = some i ∧ i.zero = some z ∧ i.size = s ∧ i.bytes = b := by
  cases hi : Try.prog.info? t with
  | none => rw [hi] at h; simp at h
  | some i =>
    rw [hi] at h
    simp at h
    exact ⟨i, rfl, h.1, h.2.1, h.2.2⟩
theorem make_run (w : World) (n : Nat) (hn : n ≤ 20) : (Instr.makeSlice 28 (.int .i64 (n : Int)) (.int .i64 (n : Int))).run Try.prog w = .ok (.slice (some ⟨w.heap.size, 0, none⟩) n n) (w.alloc (.cells (madeCells (rowW none) (n * 3)) 34)) := by
  obtain ⟨i, hi, hz, hs, hb⟩ := info_parts infoW
  have hr := run_make (P := Try.prog) w 28 34 i _ Try.underlying28 hi hz .i64 .i64 n n (by omega) (Int.le_refl _) (by rw [hb]; omega) (by omega)
  rw [hs, show (Value.agg (rowW none)).cells = rowW none from rfl, Int.toNat_natCast] at hr
  exact hr
theorem rpass_same {n q : Nat} {l : Nat → Hop} {o : Nat → Way} (h : (relax n (l q) o (rpass n l o q)).1 = rpass n l o q) : rpass n l o (q + 1) = rpass n l o q := h
theorem rrelax_no {n : Nat} {h : Hop} {o p : Nat → Way} (hk : ¬ ok n h) : (relax n h o p).1 = p := by
  unfold relax cand
  rw [if_neg hk]
theorem rrelax_none {n : Nat} {h : Hop} {o p : Nat → Way} (e : o h.f.toNat = none) : (relax n h o p).1 = p := by
  unfold relax cand
  split
  · rfl
  · rename_i x hx
    split at hx
    · rw [e] at hx
      cases hx
    · cases hx
theorem rrelax_some {n : Nat} {h : Hop} {o p : Nat → Way} {w : Nat × Nat} (hk : ok n h) (e : o h.f.toNat = some w) : (relax n h o p).1 = if better (on w h) (p h.t.toNat) = true then put p h.t.toNat (on w h) else p := by
  unfold relax
  rw [cand_of hk e]
  simp only
  split <;> rfl
theorem row_held {W : World} {g B : Nat} {C : Array Value} {T : TypeId} {fr : Nat × Nat} (h : W.heap[g]? = some (.cells C T fr)) (hB : g < B) : ∀ w, Below B W w → w.rangeAt g 0 C.toList := fun w hw j v hv => by
  rw [Nat.zero_add, cells_of ((hw.block g hB).trans h) j]
  simpa using hv
theorem rless_way (x : Nat × Nat) (y : Way) (w : World) : Calls Try.prog 15 #[.agg (rowW (some x)), .agg (rowW y)] w fun e w' => e = .returned (.bool (lt x (y.getD (0, 0)))) ∧ Below w.heap.size w w' := by
  obtain ⟨c, h⟩ := x
  cases y with
  | none => exact rless_any c h 0 0 true false w
  | some b => exact rless_any c h b.1 b.2 true true w
attribute [local go_sem] zeroH'_run zeroW_run rowH_0 rowH_1 rowH_2
/-- What is told of the document's Far. -/
def RefTells (n m s : Nat) (l : Nat → Hop) (w : World) (e : Ending) (w' : World) : Prop :=
  ∃ g c o, e = .returned (.slice (some ⟨g, 0, none⟩) n c) ∧ w.heap.size ≤ g ∧ Rows3 w' g n o ∧ Opt n l m s o ∧ Bd 2000 o ∧ Below w.heap.size w w'
set_option maxRecDepth 100000 in
set_option maxHeartbeats 4000000 in
theorem reffar_any (w : World) (n m s : Nat) (hn : 1 ≤ n ∧ n ≤ 20) (hs : s < n) (hm : m ≤ 61) (l : Nat → Hop) (la : Option Addr) (lc : Nat) (hv : HopsV w la m l) (hb : ∀ q, (l q).c ≤ 4294967295) :
    Calls Try.prog 10 #[.int .i64 n, .slice la m lc, .int .i64 s] w (RefTells n m s l w) := by
  have hmk := fun w => make_run w n hn.2
  obtain ⟨iW, hiW, hzW, hsW, hbW⟩ := info_parts infoW
  have HW := Lib.hid (And.intro hiW (And.intro hzW (And.intro hsW hbW)))
  have HV := Lib.hid hv
  have HB := Lib.hid hb
  have hn1 := hn.1
  have hn2 := hn.2
  have d0 : decide ((n : Int) < 1) = false := decide_eq_false (by omega)
  have d1 : decide ((1000 : Int) < n) = false := decide_eq_false (by omega)
  have d2 : decide ((s : Int) < 0) = false := decide_eq_false (by omega)
  have d3 : decide (n ≤ s) = false := decide_eq_false (by omega)
  have hs0 : (0 : Int) ≤ s := by omega
  have hs1 : (s : Int) < n := by omega
  clear hv hb hn hiW hzW hsW hbW
  go_enter Try.func10, Try.ntmps10
  go_upto_region 4 with (fail)
  have h0 := Rows3.made w n
  obtain ⟨w1, hw1⟩ : ∃ x, x = w.alloc (.cells (madeCells (rowW none) (n * 3)) 34) := ⟨_, rfl⟩
  obtain ⟨g, hg⟩ : ∃ x, x = w.heap.size := ⟨_, rfl⟩
  rw [← hw1, ← hg] at h0
  rw [← hw1]
  have hB1 : Below w.heap.size w w1 := by rw [hw1]; exact more (Below.refl _ _) _
  rw [← hg]
  have H0 := Lib.hid h0
  have HB1 := Lib.hid hB1
  have Hg := Lib.hid hg
  have c1 := h0.cell hs (j := 2) (by omega)
  have f1 := h0.free (s * 3 + 2)
  clear hw1 h0 hB1 hmk d0 d1 d2 d3 hg
  go_wp2_with fail
  obtain ⟨w2, hw2⟩ : ∃ x, x = w1.setCell ⟨g, s * 3 + 2, none⟩ (.bool true) := ⟨_, rfl⟩
  rw [← hw2]
  have HO := Lib.hid (show Rows3 w2 g n (refn n l m s 0) by rw [hw2]; exact H0.out.begin_ hs)
  have HB2 := Lib.hid (show Below w.heap.size w w2 by rw [hw2]; exact HB1.out.setCell (by rw [Hg.out]; exact Nat.le_refl _) _)
  clear hw2 c1 f1 H0 HB1 hs0 hs1
  go_loopw [7, 8] (fun v i wr => ∃ j g c, v = .slice (some ⟨g, 0, none⟩) n c ∧ j ≤ n ∧ i = .int .i64 (j : Nat) ∧ Hid (w.heap.size ≤ g) ∧ Hid (Rows3 wr g n (refn n l m s j)) ∧ Hid (Below w.heap.size w wr)) (fun _ i _ => n - (intOf i).toNat)
  case atStart => exact ⟨0, g, n, rfl, by omega, rfl, Lib.hid (by rw [Hg.out]; exact Nat.le_refl _), HO, HB2⟩
  case round =>
    clear HO HB2 Hg
    obtain ⟨j, gn, cn, rfl, hj, rfl, hG, hO, hB⟩ := hrel
    have hbd := refn_bd n m s l HB.out j
    by_cases hlj : j < n
    · have hgl := hO.out.lt
      obtain ⟨o, ho⟩ : ∃ o, o = refn n l m s j := ⟨_, rfl⟩
      have Hp := Lib.hid (show refn n l m s (j + 1) = rpass n l o m by rw [ho]; rfl)
      rw [← ho] at hO hbd
      have Hbd := Lib.hid hbd
      have Hrb := Lib.hid (fun i => rpass_bd (n := n) HB.out hbd i)
      have hv := hO.out.view
      have HVw := Lib.hid (hv.below (more (Below.refl _ _) (.cells #[] 34)))
      have hmk0 : Sem.run Try.prog (Instr.buildSlice 28 0 #[]) wr = .ok (.slice (some ⟨wr.heap.size, 0, none⟩) 0 0) (wr.alloc (.cells #[] 34)) := by kernel_rfl
      clear ho hbd hv
      go_wp2_with (first
        | (at_builtin; refine wpList_clone rfl (.tmp 40) (.tmp 41) 28 rfl 34 iW _ 3 24 Try.underlying28 HW.out.1 HW.out.2.1 HW.out.2.2.1 HW.out.2.2.2 rfl (by decide) wr.heap.size rfl (at_new rfl) (some ⟨gn, 0, none⟩) n cn (fun k j => cellW (o k) j) rfl (fun h => by cases h) HVw.out (grid_one (by decide) fun _ _ hj => cellW_one _ _ hj) (by unfold maxLen; omega) (by omega) ?_; intro g1 cx w3 hg1 ho1 hb1; simp only [Act.put, List.setIfInBounds_toArray, List.set_cons_zero, List.set_cons_succ]; clear hmk0)
        | fail)
      have hB3 : Below wr.heap.size wr w3 := (more (Below.refl _ _) _).trans (hb1.below (by simp) (fun k hk => by omega))
      have HO3 := Lib.hid (hO.out.below hB3 hgl)
      have HX3 := Lib.hid (show Rows3 w3 g1 n (rpass n l o 0) from Rows3.own ho1)
      have HB3 := Lib.hid (andthen hB.out hB3)
      have hne : gn ≠ g1 := by omega
      have hge1 : w.heap.size ≤ g1 := by have := hB.out.size; omega
      clear hb1 ho1 hB3 hO hgl HVw
      go_loopw [10] (fun i wr => ∃ p : Nat, p ≤ m ∧ i = .int .i64 p ∧ Hid (Rows3 wr gn n o) ∧ Hid (Rows3 wr g1 n (rpass n l o p)) ∧ Hid (Below w.heap.size w wr)) (fun i _ => m - (intOf i).toNat)
      case atStart => exact ⟨0, by omega, rfl, HO3, HX3, HB3⟩
      case round =>
        clear HO3 HX3 HB3 hB
        obtain ⟨p, hp, rfl, hO, hX, hB⟩ := hrel
        by_cases hlt : p < m
        · obtain ⟨ps, hps⟩ : ∃ x, x = rpass n l o p := ⟨_, rfl⟩
          have HS := Lib.hid (fun h => rpass_same (n := n) (q := p) (l := l) (o := o) h)
          have Hstep := Lib.hid (show rpass n l o (p + 1) = (relax n (l p) o (rpass n l o p)).1 from rfl)
          rw [← hps] at hX HS Hstep
          have Hpe := Lib.hid hps
          clear hps
          have hgl := hO.out.lt
          have hgx := hX.out.lt
          rcases HV.out with h0 | ⟨lg, lo, rfl, hlc⟩
          · omega
          have hr := (HopsV.range hlc hlt)
          have hlg : lg < w.heap.size := cell_lt (hlc p hlt 0 (by omega))
          clear hlc
          replace hr : wr.rangeAt lg (lo + p * 3) (rowH (l p)).toList := fun j v hj => (hB.out.cell (p := ⟨lg, _, none⟩) hlg).trans (hr j v hj)
          by_cases hk : ok n (l p)
          · obtain ⟨u, v, c, hl⟩ : ∃ u v c : Nat, l p = ⟨u, v, c⟩ := by
              obtain ⟨h1, h2, h3, h4⟩ := hk
              refine ⟨(l p).f.toNat, (l p).t.toNat, (l p).c, ?_⟩
              cases hx : l p with
              | mk f t c =>
                rw [hx] at h1 h3
                simp only [Hop.mk.injEq]
                simp only at h1 h3
                exact ⟨by omega, by omega, trivial⟩
            have hcb := HB.out p
            rw [hl] at hk hr hcb
            have Hl := Lib.hid hl
            clear hl
            have Hk := Lib.hid hk
            have huq : u < n := by have := Hk.out.2.1; simpa using this
            have hvq : v < n := by have := Hk.out.2.2.2; simpa using this
            have d2 : decide (n ≤ u) = false := decide_eq_false (by omega)
            have d4 : decide (n ≤ v) = false := decide_eq_false (by omega)
            have huq' : (u : Int) < n := by omega
            have hvq' : (v : Int) < n := by omega
            have hu0 : (0 : Int) ≤ u := by omega
            have hv0 : (0 : Int) ≤ v := by omega
            clear hk
            simp only at hcb
            have cu2 := hO.out.cell huq (j := 2) (by omega)
            cases eu : o u with
            | none =>
              replace cu2 : wr.cell? ⟨gn, u * 3 + 2, none⟩ = some (.bool false) := by rw [eu] at cu2; exact cu2
              have HQ := Lib.hid (HS.out (by rw [Hl.out]; exact rrelax_none (h := ⟨u, v, c⟩) (p := ps) eu))
              clear eu
              go_wp2_with (first | (refine wpList_row rfl 45 _ rfl lg (lo + p * 3) rfl _ _ hr Try.underlying45 rfl (sizeH' _) ?_; simp only [Act.put, List.setIfInBounds_toArray, List.set_cons_zero, List.set_cons_succ]) | (refine wpList_store_new rfl 45 _ _ rfl wr (rowH zeroH) 45 _ rfl rfl rfl (sizeH' _) rfl (rowH_one _) ?_; simp only [Act.put]) | fail)
              go_roundw
              case rel =>
                refine ⟨p + 1, by omega, by go_num, Lib.hid (hO.out.alloc _), ?_, Lib.hid (more hB.out _)⟩
                rw [HQ.out]
                exact Lib.hid (hX.out.alloc _)
              case measure => simp [intOf]; omega
            | some a =>
              obtain ⟨a1, a2⟩ := a
              replace cu2 : wr.cell? ⟨gn, u * 3 + 2, none⟩ = some (.bool true) := by rw [eu] at cu2; exact cu2
              have cu0 : wr.cell? ⟨gn, u * 3, none⟩ = some (.int .u64 a1) := by have h := hO.out.cell huq (j := 0) (by omega); rw [eu] at h; exact h
              have cu1 : wr.cell? ⟨gn, u * 3 + 1, none⟩ = some (.int .u64 a2) := by have h := hO.out.cell huq (j := 1) (by omega); rw [eu] at h; exact h
              have hba := Hbd.out u (a1, a2) eu
              simp only at hba
              have Eu := Lib.hid eu
              have hba2 : a2 * 4294967295 ≤ 20 * 4294967295 := Nat.mul_le_mul_right _ (by omega)
              obtain ⟨x1, hx1⟩ : ∃ x, x = a1 + c := ⟨_, rfl⟩
              obtain ⟨x2, hx2⟩ : ∃ x, x = a2 + 1 := ⟨_, rfl⟩
              have hw1 : IntKind.u64.wrap ((a1 : Int) + c) = x1 := by unfold IntKind.wrap; simp [IntKind.signed, IntKind.bits]; omega
              have hw2 : IntKind.u64.wrap ((a2 : Int) + 1) = x2 := by unfold IntKind.wrap; simp [IntKind.signed, IntKind.bits]; omega
              have hwc : IntKind.u64.wrap (c : Int) = c := by unfold IntKind.wrap; simp [IntKind.signed, IntKind.bits]; omega
              have HX1 := Lib.hid hx1
              have HX2 := Lib.hid hx2
              have Hba := Lib.hid hba
              clear eu hba hba2 hx1 hx2
              go_upto_region 15 with (first | (refine wpList_row rfl 45 _ rfl lg (lo + p * 3) rfl _ _ hr Try.underlying45 rfl (sizeH' _) ?_; simp only [Act.put, List.setIfInBounds_toArray, List.set_cons_zero, List.set_cons_succ]) | (refine wpList_store_new rfl 45 _ _ rfl wr (rowH zeroH) 45 _ rfl rfl rfl (sizeH' _) rfl (rowH_one _) ?_; simp only [Act.put]) | fail)
              obtain ⟨W, hW⟩ : ∃ x, x = wr.alloc (.cells (rowH ⟨u, v, c⟩) 45) := ⟨_, rfl⟩
              obtain ⟨hb, hhb⟩ : ∃ x, x = wr.heap.size := ⟨_, rfl⟩
              rw [← hW, ← hhb]
              have hHW : W.heap[hb]? = some (.cells (rowH ⟨u, v, c⟩) 45 (0, 0)) := by rw [hW, hhb]; exact heap_alloc_new _ _
              have k0 : W.cell? ⟨hb, 0, none⟩ = some (.int .i64 u) := cells_of hHW 0
              have k1 : W.cell? ⟨hb, 1, none⟩ = some (.int .i64 v) := cells_of hHW 1
              have k2 : W.cell? ⟨hb, 2, none⟩ = some (.int .u32 c) := cells_of hHW 2
              have hOW := Lib.hid (show Rows3 W gn n o by rw [hW]; exact hO.out.alloc _)
              have hXW := Lib.hid (show Rows3 W g1 n ps by rw [hW]; exact hX.out.alloc _)
              have hBW := Lib.hid (show Below w.heap.size w W by rw [hW]; exact more hB.out _)
              replace cu0 : W.cell? ⟨gn, u * 3, none⟩ = some (.int .u64 a1) := by have h := hOW.out.cell huq (j := 0) (by omega); rw [Eu.out] at h; exact h
              replace cu1 : W.cell? ⟨gn, u * 3 + 1, none⟩ = some (.int .u64 a2) := by have h := hOW.out.cell huq (j := 1) (by omega); rw [Eu.out] at h; exact h
              have hhl : hb < W.heap.size := (Array.getElem?_eq_some_iff.1 hHW).1
              clear hW hhb hr hO hB hX cu2 hgl hgx
              have hgw := hOW.out.lt
              have hxw := hXW.out.lt
              refine wp_region_held_drew (S := fun w' => Below W.heap.size W w') (by kernel_rfl) (Below.refl _ _).drew (fun hH => ?_)
              refine wpAnyH_take (i := 0) rfl (by kernel_rfl) (by kernel_rfl) (by kernel_rfl) (fun _ _ _ h => h) (Or.inl ⟨by rfl, fun z _ => rfl⟩) hH ?_
              simp only [List.getElem_toArray, List.getElem_cons_succ, List.getElem_cons_zero, Act.put, List.setIfInBounds_toArray, List.set_cons_zero, List.set_cons_succ]
              refine wpAnyH_take (i := 1) (v := .pointer (some ⟨hb, 0, none⟩)) rfl (by kernel_rfl) (by kernel_rfl) (by kernel_rfl) (fun _ _ _ h => h) (Or.inl ⟨by rfl, fun z _ => by simp [go_sem, execOp]⟩) hH ?_
              simp only [List.getElem_toArray, List.getElem_cons_succ, List.getElem_cons_zero, Act.put, List.setIfInBounds_toArray, List.set_cons_zero, List.set_cons_succ]
              refine wpAnyH_take (i := 2) (v := .int .i64 u) rfl (by kernel_rfl) (by kernel_rfl) (by kernel_rfl) (fun _ _ _ h => h) (Or.inl ⟨by rfl, fun z hz => by simp [go_sem, execOp, (show z.cell? ⟨hb, 0, none⟩ = some (.int .i64 u) from (hz.cell (p := ⟨hb, 0, none⟩) hhl).trans k0)]⟩) hH ?_
              simp only [List.getElem_toArray, List.getElem_cons_succ, List.getElem_cons_zero, Act.put, List.setIfInBounds_toArray, List.set_cons_zero, List.set_cons_succ]
              refine wpAnyH_take (i := 3) (v := .pointer (some ⟨gn, u * 3, none⟩)) rfl (by kernel_rfl) (by kernel_rfl) (by kernel_rfl) (fun _ _ _ h => h) (Or.inl ⟨by rfl, fun z _ => by simp [go_sem, execOp, huq', hu0]⟩) hH ?_
              simp only [List.getElem_toArray, List.getElem_cons_succ, List.getElem_cons_zero, Act.put, List.setIfInBounds_toArray, List.set_cons_zero, List.set_cons_succ]
              refine wpAnyH_take (i := 4) (v := .pointer (some ⟨gn, u * 3, none⟩)) rfl (by kernel_rfl) (by kernel_rfl) (by kernel_rfl) (fun _ _ _ h => h) (Or.inl ⟨by rfl, fun z _ => by simp [go_sem, execOp]⟩) hH ?_
              simp only [List.getElem_toArray, List.getElem_cons_succ, List.getElem_cons_zero, Act.put, List.setIfInBounds_toArray, List.set_cons_zero, List.set_cons_succ]
              refine wpAnyH_take (i := 5) (v := .int .u64 a1) rfl (by kernel_rfl) (by kernel_rfl) (by kernel_rfl) (fun _ _ _ h => h) (Or.inl ⟨by rfl, fun z hz => by simp [go_sem, execOp, (show z.cell? ⟨gn, u * 3, none⟩ = some (.int .u64 a1) from (hz.cell (p := ⟨gn, u * 3, none⟩) hgw).trans cu0)]⟩) hH ?_
              simp only [List.getElem_toArray, List.getElem_cons_succ, List.getElem_cons_zero, Act.put, List.setIfInBounds_toArray, List.set_cons_zero, List.set_cons_succ]
              refine wpAnyH_take (i := 6) (v := .pointer (some ⟨hb, 2, none⟩)) rfl (by kernel_rfl) (by kernel_rfl) (by kernel_rfl) (fun _ _ _ h => h) (Or.inl ⟨by rfl, fun z _ => by simp [go_sem, execOp]⟩) hH ?_
              simp only [List.getElem_toArray, List.getElem_cons_succ, List.getElem_cons_zero, Act.put, List.setIfInBounds_toArray, List.set_cons_zero, List.set_cons_succ]
              refine wpAnyH_take (i := 7) (v := .int .u32 c) rfl (by kernel_rfl) (by kernel_rfl) (by kernel_rfl) (fun _ _ _ h => h) (Or.inl ⟨by rfl, fun z hz => by simp [go_sem, execOp, (show z.cell? ⟨hb, 2, none⟩ = some (.int .u32 c) from (hz.cell (p := ⟨hb, 2, none⟩) hhl).trans k2)]⟩) hH ?_
              simp only [List.getElem_toArray, List.getElem_cons_succ, List.getElem_cons_zero, Act.put, List.setIfInBounds_toArray, List.set_cons_zero, List.set_cons_succ]
              refine wpAnyH_take (i := 8) (v := .int .u64 c) rfl (by kernel_rfl) (by kernel_rfl) (by kernel_rfl) (fun _ _ _ h => h) (Or.inl ⟨by rfl, fun z _ => by simp [go_sem, execOp, hwc]⟩) hH ?_
              simp only [List.getElem_toArray, List.getElem_cons_succ, List.getElem_cons_zero, Act.put, List.setIfInBounds_toArray, List.set_cons_zero, List.set_cons_succ]
              refine wpAnyH_take (i := 9) (v := .int .u64 x1) rfl (by kernel_rfl) (by kernel_rfl) (by kernel_rfl) (fun _ _ _ h => h) (Or.inl ⟨by rfl, fun z _ => by simp [go_sem, execOp, hw1]⟩) hH ?_
              simp only [List.getElem_toArray, List.getElem_cons_succ, List.getElem_cons_zero, Act.put, List.setIfInBounds_toArray, List.set_cons_zero, List.set_cons_succ]
              refine wpAnyH_take (i := 10) rfl (by kernel_rfl) (by kernel_rfl) (by kernel_rfl) (fun _ _ _ h => h) (Or.inl ⟨by rfl, fun z _ => rfl⟩) hH ?_
              simp only [List.getElem_toArray, List.getElem_cons_succ, List.getElem_cons_zero, Act.put, List.setIfInBounds_toArray, List.set_cons_zero, List.set_cons_succ]
              refine wpAnyH_take (i := 11) (v := .pointer (some ⟨hb, 0, none⟩)) rfl (by kernel_rfl) (by kernel_rfl) (by kernel_rfl) (fun _ _ _ h => h) (Or.inl ⟨by rfl, fun z _ => by simp [go_sem, execOp]⟩) hH ?_
              simp only [List.getElem_toArray, List.getElem_cons_succ, List.getElem_cons_zero, Act.put, List.setIfInBounds_toArray, List.set_cons_zero, List.set_cons_succ]
              refine wpAnyH_take (i := 12) (v := .int .i64 u) rfl (by kernel_rfl) (by kernel_rfl) (by kernel_rfl) (fun _ _ _ h => h) (Or.inl ⟨by rfl, fun z hz => by simp [go_sem, execOp, (show z.cell? ⟨hb, 0, none⟩ = some (.int .i64 u) from (hz.cell (p := ⟨hb, 0, none⟩) hhl).trans k0)]⟩) hH ?_
              simp only [List.getElem_toArray, List.getElem_cons_succ, List.getElem_cons_zero, Act.put, List.setIfInBounds_toArray, List.set_cons_zero, List.set_cons_succ]
              refine wpAnyH_take (i := 13) (v := .pointer (some ⟨gn, u * 3, none⟩)) rfl (by kernel_rfl) (by kernel_rfl) (by kernel_rfl) (fun _ _ _ h => h) (Or.inl ⟨by rfl, fun z _ => by simp [go_sem, execOp, huq', hu0]⟩) hH ?_
              simp only [List.getElem_toArray, List.getElem_cons_succ, List.getElem_cons_zero, Act.put, List.setIfInBounds_toArray, List.set_cons_zero, List.set_cons_succ]
              refine wpAnyH_take (i := 14) (v := .pointer (some ⟨gn, u * 3 + 1, none⟩)) rfl (by kernel_rfl) (by kernel_rfl) (by kernel_rfl) (fun _ _ _ h => h) (Or.inl ⟨by rfl, fun z _ => by simp [go_sem, execOp]⟩) hH ?_
              simp only [List.getElem_toArray, List.getElem_cons_succ, List.getElem_cons_zero, Act.put, List.setIfInBounds_toArray, List.set_cons_zero, List.set_cons_succ]
              refine wpAnyH_take (i := 15) (v := .int .u64 a2) rfl (by kernel_rfl) (by kernel_rfl) (by kernel_rfl) (fun _ _ _ h => h) (Or.inl ⟨by rfl, fun z hz => by simp [go_sem, execOp, (show z.cell? ⟨gn, u * 3 + 1, none⟩ = some (.int .u64 a2) from (hz.cell (p := ⟨gn, u * 3 + 1, none⟩) hgw).trans cu1)]⟩) hH ?_
              simp only [List.getElem_toArray, List.getElem_cons_succ, List.getElem_cons_zero, Act.put, List.setIfInBounds_toArray, List.set_cons_zero, List.set_cons_succ]
              refine wpAnyH_take (i := 16) (v := .int .u64 x2) rfl (by kernel_rfl) (by kernel_rfl) (by kernel_rfl) (fun _ _ _ h => h) (Or.inl ⟨by rfl, fun z _ => by simp [go_sem, execOp, hw2]⟩) hH ?_
              simp only [List.getElem_toArray, List.getElem_cons_succ, List.getElem_cons_zero, Act.put, List.setIfInBounds_toArray, List.set_cons_zero, List.set_cons_succ]
              refine wpAnyH_take (i := 17) (v := .agg (rowW (some (x1, x2)))) rfl (by kernel_rfl) (by kernel_rfl) (by kernel_rfl) (fun _ _ _ h => h) (Or.inl ⟨by rfl, fun z _ => by kernel_rfl⟩) hH ?_
              simp only [List.getElem_toArray, List.getElem_cons_succ, List.getElem_cons_zero, Act.put, List.setIfInBounds_toArray, List.set_cons_zero, List.set_cons_succ]
              clear cu0 cu1 hw1 hw2 hwc
              refine wpAnyH_ready (rs := [18]) (by kernel_rfl) (by simp) (AllReadyH.cons rfl (fun K hK => ?_) AllReadyH.nil)
              go_simp
              refine hK.out _ _ (more ((Below.refl W.heap.size W).drew) _) (fun hH2 => ?_)
              clear hK K
              refine wpAnyH_ready (rs := [19]) (by kernel_rfl) (by simp) (AllReadyH.cons rfl (fun K hK => ?_) AllReadyH.nil)
              rw [if_pos (by rfl)]
              refine wp_store_row 34 _ _ rfl W.heap.size (rowW (some (x1, x2))) rfl rfl 34 (rowW none) (heap_alloc_new _ _) (sizeW _) rfl (rowW_one _) ?_
              have hsr : (W.alloc (.cells #[.int .u64 0, .int .u64 0, .bool false] 34)).drew.setRow W.heap.size (rowW (some (x1, x2))) = W.drew.alloc (.cells (rowW (some (x1, x2))) 34) := setRow_alloc W.drew (rowW none) (rowW (some (x1, x2))) 34
              rw [hsr]
              refine hK.out _ _ (more ((Below.refl W.heap.size W).drew) _) (fun hH3 => ?_)
              clear hK K hsr hH hH2
              simp only [List.getElem_toArray, List.getElem_cons_succ, List.getElem_cons_zero, Act.put, List.setIfInBounds_toArray, List.set_cons_zero, List.set_cons_succ]
              refine wpAnyH_done (by kernel_rfl) ?_ _
              obtain ⟨W2, hW2⟩ : ∃ x, x = W.drew.alloc (.cells (rowW (some (x1, x2))) 34) := ⟨_, rfl⟩
              obtain ⟨hw, hhw⟩ : ∃ x, x = W.heap.size := ⟨_, rfl⟩
              have hHW2 : W2.heap[hw]? = some (.cells (rowW (some (x1, x2))) 34 (0, 0)) := by rw [hW2, hhw]; exact heap_alloc_new _ _
              have h02 : Below W.heap.size W W2 := by rw [hW2]; exact more ((Below.refl W.heap.size W).drew) _
              rw [← hW2, ← hhw]
              have hHb := (h02.block hb hhl).trans hHW
              have k1 : W2.cell? ⟨hb, 1, none⟩ = some (.int .i64 v) := cells_of hHb 1
              have hX2 := Lib.hid (hXW.out.below h02 hxw)
              have hO2 := Lib.hid (hOW.out.below h02 hgw)
              have hB2 := Lib.hid (andthen hBW.out h02)
              have hhl2 : hb < W2.heap.size := (Array.getElem?_eq_some_iff.1 hHb).1
              have hwl2 : hw < W2.heap.size := (Array.getElem?_eq_some_iff.1 hHW2).1
              have HHb := Lib.hid hHb
              have HHW2 := Lib.hid hHW2
              clear hW2 hhw hHW2 h02 hHb hHW k0 k2 hXW hOW hBW hgw hxw hhl hH3
              have hon : on (a1, a2) ⟨u, v, c⟩ = (x1, x2) := by rw [HX1.out, HX2.out]; rfl
              have HR := Lib.hid (show rpass n l o (p + 1) = if better (x1, x2) (ps v) = true then put ps v (x1, x2) else ps by rw [Hstep.out, Hl.out, rrelax_some (h := ⟨u, v, c⟩) Hk.out Eu.out, hon]; rfl)
              clear hon
              have hxl := hX2.out.lt
              go_wp2_with fail
              refine wp_region_held_drew (S := fun w' => Below W2.heap.size W2 w') (by kernel_rfl) (Below.refl _ _).drew (fun hH => ?_)
              refine wpAnyH_take (i := 0) rfl (by kernel_rfl) (by kernel_rfl) (by kernel_rfl) (fun _ _ _ h => h) (yieldsIf_load_mid (by rfl) 34 _ rfl hw 0 rfl (rowW (some (x1, x2))).toList _ (row_held HHW2.out hwl2) Try.underlying34 rfl (sizeW _)) hH ?_
              simp only [List.getElem_toArray, List.getElem_cons_succ, List.getElem_cons_zero, Act.put, List.setIfInBounds_toArray, List.set_cons_zero, List.set_cons_succ]
              refine wpAnyH_take (i := 1) rfl (by kernel_rfl) (by kernel_rfl) (by kernel_rfl) (fun _ _ _ h => h) (Or.inl ⟨by rfl, fun z _ => rfl⟩) hH ?_
              simp only [List.getElem_toArray, List.getElem_cons_succ, List.getElem_cons_zero, Act.put, List.setIfInBounds_toArray, List.set_cons_zero, List.set_cons_succ]
              refine wpAnyH_take (i := 2) (v := .pointer (some ⟨hb, 1, none⟩)) rfl (by kernel_rfl) (by kernel_rfl) (by kernel_rfl) (fun _ _ _ h => h) (Or.inl ⟨by rfl, fun z _ => by simp [go_sem, execOp]⟩) hH ?_
              simp only [List.getElem_toArray, List.getElem_cons_succ, List.getElem_cons_zero, Act.put, List.setIfInBounds_toArray, List.set_cons_zero, List.set_cons_succ]
              refine wpAnyH_take (i := 3) (v := .int .i64 v) rfl (by kernel_rfl) (by kernel_rfl) (by kernel_rfl) (fun _ _ _ h => h) (Or.inl ⟨by rfl, fun z hz => by simp [go_sem, execOp, (show z.cell? ⟨hb, 1, none⟩ = some (.int .i64 v) from (hz.cell (p := ⟨hb, 1, none⟩) hhl2).trans k1)]⟩) hH ?_
              simp only [List.getElem_toArray, List.getElem_cons_succ, List.getElem_cons_zero, Act.put, List.setIfInBounds_toArray, List.set_cons_zero, List.set_cons_succ]
              refine wpAnyH_take (i := 4) (v := .pointer (some ⟨g1, v * 3, none⟩)) rfl (by kernel_rfl) (by kernel_rfl) (by kernel_rfl) (fun _ _ _ h => h) (Or.inl ⟨by rfl, fun z _ => by simp [go_sem, execOp, hvq', hv0]⟩) hH ?_
              simp only [List.getElem_toArray, List.getElem_cons_succ, List.getElem_cons_zero, Act.put, List.setIfInBounds_toArray, List.set_cons_zero, List.set_cons_succ]
              refine wpAnyH_take (i := 5) rfl (by kernel_rfl) (by kernel_rfl) (by kernel_rfl) (fun _ _ _ h => h) (yieldsIf_load_mid (by rfl) 34 _ rfl g1 (v * 3) rfl (rowW (ps v)).toList _ (fun z hz => (hX2.out.below hz hxl).range hvq) Try.underlying34 rfl (sizeW _)) hH ?_
              simp only [List.getElem_toArray, List.getElem_cons_succ, List.getElem_cons_zero, Act.put, List.setIfInBounds_toArray, List.set_cons_zero, List.set_cons_succ]
              refine wpAnyH_ready (rs := [6]) (by kernel_rfl) (by simp) (AllReadyH.cons rfl (fun K hK => ?_) AllReadyH.nil)
              go_simp
              refine (rless_way (x1, x2) (ps v) W2.drew).mono ?_
              rintro e W3 ⟨rfl, hb23'⟩
              have hb23 : Below W2.heap.size W2 W3 := (Below.refl W2.heap.size W2).drew.trans hb23'
              refine hK.out _ _ hb23 (fun hH3 => ?_)
              clear hK K hb23' hH
              refine wpAnyH_take (i := 7) rfl (by kernel_rfl) (by kernel_rfl) (by kernel_rfl) (fun _ _ _ h => h) (Or.inl ⟨by rfl, fun z _ => rfl⟩) hH3 ?_
              simp only [List.getElem_toArray, List.getElem_cons_succ, List.getElem_cons_zero, Act.put, List.setIfInBounds_toArray, List.set_cons_zero, List.set_cons_succ]
              refine wpAnyH_done (by kernel_rfl) ?_ _
              have k1' : W3.cell? ⟨hb, 1, none⟩ = some (.int .i64 v) := (hb23.cell (p := ⟨hb, 1, none⟩) hhl2).trans k1
              have hX3 := Lib.hid (hX2.out.below hb23 hxl)
              have hO3 := Lib.hid (hO2.out.below hb23 hO2.out.lt)
              have hB3 := Lib.hid (andthen hB2.out hb23)
              have hrw : W3.rangeAt hw 0 (rowW (some (x1, x2))).toList := row_held HHW2.out hwl2 W3 hb23
              have cv2 := hX3.out.cell hvq (j := 2) (by omega)
              clear k1 hX2 hO2 hB2 hH3 hb23 hxl HHb HHW2
              cases ev : ps v with
              | none =>
                rw [ev] at cv2
                replace cv2 : W3.cell? ⟨g1, v * 3 + 2, none⟩ = some (.bool false) := cv2
                have HP := Lib.hid (show rpass n l o (p + 1) = put ps v (x1, x2) by rw [HR.out, ev]; exact if_pos rfl)
                clear ev HR
                go_wp2_with (first | (refine wpList_row rfl 34 _ rfl hw 0 rfl _ _ hrw Try.underlying34 rfl (sizeW _) ?_; simp only [Act.put, List.setIfInBounds_toArray, List.set_cons_zero, List.set_cons_succ]) | (refine wpList_store_mid rfl 34 _ _ rfl g1 (v * 3) (rowW (some (x1, x2))) rfl rfl (hX3.out.room hvq _) (sizeW _) (rowW_one _) ?_; simp only [Act.put]) | fail)
                go_roundw
                case rel =>
                  have hset := Only.setCells (S := (· = g1)) rfl (rowW (some (x1, x2))).toList (v * 3) W3
                  refine ⟨p + 1, by omega, by go_num, Lib.hid (hO3.out.only hset hne), ?_, Lib.hid (hB3.out.trans (hset.below hB3.out.size (fun x hx => by omega)))⟩
                  rw [HP.out]
                  exact Lib.hid (hX3.out.row hvq (some (x1, x2)))
                case measure => simp [intOf]; omega
              | some b =>
                rw [ev] at cv2
                replace cv2 : W3.cell? ⟨g1, v * 3 + 2, none⟩ = some (.bool true) := cv2
                simp only [Option.getD_some]
                cases hlb : lt (x1, x2) b with
                | true =>
                  have HP := Lib.hid (show rpass n l o (p + 1) = put ps v (x1, x2) by rw [HR.out, ev]; exact if_pos hlb)
                  clear ev HR hlb
                  go_wp2_with (first | (refine wpList_row rfl 34 _ rfl hw 0 rfl _ _ hrw Try.underlying34 rfl (sizeW _) ?_; simp only [Act.put, List.setIfInBounds_toArray, List.set_cons_zero, List.set_cons_succ]) | (refine wpList_store_mid rfl 34 _ _ rfl g1 (v * 3) (rowW (some (x1, x2))) rfl rfl (hX3.out.room hvq _) (sizeW _) (rowW_one _) ?_; simp only [Act.put]) | fail)
                  go_roundw
                  case rel =>
                    have hset := Only.setCells (S := (· = g1)) rfl (rowW (some (x1, x2))).toList (v * 3) W3
                    refine ⟨p + 1, by omega, by go_num, Lib.hid (hO3.out.only hset hne), ?_, Lib.hid (hB3.out.trans (hset.below hB3.out.size (fun x hx => by omega)))⟩
                    rw [HP.out]
                    exact Lib.hid (hX3.out.row hvq (some (x1, x2)))
                  case measure => simp [intOf]; omega
                | false =>
                  have HP := Lib.hid (show rpass n l o (p + 1) = ps by rw [HR.out, ev]; exact if_neg (by show ¬ lt (x1, x2) b = true; rw [hlb]; simp))
                  clear ev HR hlb
                  go_wp2_with fail
                  go_roundw
                  case rel =>
                    refine ⟨p + 1, by omega, by go_num, hO3, ?_, hB3⟩
                    rw [HP.out]
                    exact hX3
                  case measure => simp [intOf]; omega
          · have HQ := Lib.hid (HS.out (rrelax_no hk))
            have hc4 : (l p).f < 0 ∨ (0 ≤ (l p).f ∧ (n : Int) ≤ (l p).f) ∨ (0 ≤ (l p).f ∧ (l p).f < n ∧ (l p).t < 0) ∨ (0 ≤ (l p).f ∧ (l p).f < n ∧ 0 ≤ (l p).t ∧ (n : Int) ≤ (l p).t) := by
              unfold ok at hk
              omega
            clear hk
            rcases hc4 with hc | ⟨hc1, hc⟩ | ⟨hc1, hc2, hc⟩ | ⟨hc1, hc2, hc3, hc⟩
            · have e1 : decide ((l p).f < 0) = true := decide_eq_true hc
              clear hc
              go_wp2_with (first | (refine wpList_row rfl 45 _ rfl lg (lo + p * 3) rfl _ _ hr Try.underlying45 rfl (sizeH' _) ?_; simp only [Act.put, List.setIfInBounds_toArray, List.set_cons_zero, List.set_cons_succ]) | (refine wpList_store_new rfl 45 _ _ rfl wr (rowH zeroH) 45 _ rfl rfl rfl (sizeH' _) rfl (rowH_one _) ?_; simp only [Act.put]) | fail)
              go_roundw
              case rel =>
                refine ⟨p + 1, by omega, by go_num, Lib.hid (hO.out.alloc _), ?_, Lib.hid (more hB.out _)⟩
                rw [HQ.out]
                exact Lib.hid (hX.out.alloc _)
              case measure => simp [intOf]; omega
            · have e1 : decide ((l p).f < 0) = false := decide_eq_false (by omega)
              have e2 : decide ((n : Int) ≤ (l p).f) = true := decide_eq_true hc
              clear hc hc1
              go_wp2_with (first | (refine wpList_row rfl 45 _ rfl lg (lo + p * 3) rfl _ _ hr Try.underlying45 rfl (sizeH' _) ?_; simp only [Act.put, List.setIfInBounds_toArray, List.set_cons_zero, List.set_cons_succ]) | (refine wpList_store_new rfl 45 _ _ rfl wr (rowH zeroH) 45 _ rfl rfl rfl (sizeH' _) rfl (rowH_one _) ?_; simp only [Act.put]) | fail)
              go_roundw
              case rel =>
                refine ⟨p + 1, by omega, by go_num, Lib.hid (hO.out.alloc _), ?_, Lib.hid (more hB.out _)⟩
                rw [HQ.out]
                exact Lib.hid (hX.out.alloc _)
              case measure => simp [intOf]; omega
            · have e1 : decide ((l p).f < 0) = false := decide_eq_false (by omega)
              have e2 : decide ((n : Int) ≤ (l p).f) = false := decide_eq_false (by omega)
              have e3 : decide ((l p).t < 0) = true := decide_eq_true hc
              clear hc hc1 hc2
              go_wp2_with (first | (refine wpList_row rfl 45 _ rfl lg (lo + p * 3) rfl _ _ hr Try.underlying45 rfl (sizeH' _) ?_; simp only [Act.put, List.setIfInBounds_toArray, List.set_cons_zero, List.set_cons_succ]) | (refine wpList_store_new rfl 45 _ _ rfl wr (rowH zeroH) 45 _ rfl rfl rfl (sizeH' _) rfl (rowH_one _) ?_; simp only [Act.put]) | fail)
              go_roundw
              case rel =>
                refine ⟨p + 1, by omega, by go_num, Lib.hid (hO.out.alloc _), ?_, Lib.hid (more hB.out _)⟩
                rw [HQ.out]
                exact Lib.hid (hX.out.alloc _)
              case measure => simp [intOf]; omega
            · have e1 : decide ((l p).f < 0) = false := decide_eq_false (by omega)
              have e2 : decide ((n : Int) ≤ (l p).f) = false := decide_eq_false (by omega)
              have e3 : decide ((l p).t < 0) = false := decide_eq_false (by omega)
              have e4 : decide ((n : Int) ≤ (l p).t) = true := decide_eq_true hc
              clear hc hc1 hc2 hc3
              go_wp2_with (first | (refine wpList_row rfl 45 _ rfl lg (lo + p * 3) rfl _ _ hr Try.underlying45 rfl (sizeH' _) ?_; simp only [Act.put, List.setIfInBounds_toArray, List.set_cons_zero, List.set_cons_succ]) | (refine wpList_store_new rfl 45 _ _ rfl wr (rowH zeroH) 45 _ rfl rfl rfl (sizeH' _) rfl (rowH_one _) ?_; simp only [Act.put]) | fail)
              go_roundw
              case rel =>
                refine ⟨p + 1, by omega, by go_num, Lib.hid (hO.out.alloc _), ?_, Lib.hid (more hB.out _)⟩
                rw [HQ.out]
                exact Lib.hid (hX.out.alloc _)
              case measure => simp [intOf]; omega
        · obtain rfl : p = m := by omega
          go_wp2_with fail
          go_roundw
          case rel =>
            refine ⟨j + 1, g1, cx, rfl, by omega, by go_num, Lib.hid hge1, ?_, hB⟩
            rw [Hp.out]
            exact hX
          case measure => simp [intOf]; omega
    · obtain rfl : j = n := by omega
      have hopt := refn_opt j m s l hs
      have Hopt := Lib.hid hopt
      have Hbd := Lib.hid (hbd.mono (show j ≤ 2000 by omega))
      clear hopt hbd
      go_wp2_with fail
      go_ret
      exact ⟨gn, cn, _, rfl, hG.out, hO.out, Hopt.out, Hbd.out, hB.out⟩
end Go.Proofs.Ytfoenfhfohaoaaa.Rea
