/- What the program's shortest ways come to (ford/reach.Far): the least way to each point. Conditions: from one to twenty points, up to 61 hops. -/
import Derived.Test.YtfoenfhfohaoaaaFun2
import Derived.Deep.OwnRows
import Derived.Deep.LoopGhost
import Derived.Deep.RegionHeld
import Derived.Deep.CutRange
set_option linter.unusedSimpArgs false
namespace Go.Proofs.Ytfoenfhfohaoaaa.Rea
open Go.RowKit
theorem pass_same {n q : Nat} {l : Nat → Hop} {o : Nat → Way} (h : relax n (l q) (pass n l o q).1 (pass n l o q).1 = ((pass n l o q).1, false)) : pass n l o (q + 1) = pass n l o q := by
  show ((relax n (l q) (pass n l o q).1 (pass n l o q).1).1, (pass n l o q).2 || (relax n (l q) (pass n l o q).1 (pass n l o q).1).2) = _
  rw [h, Bool.or_false]
theorem relax_no {n : Nat} {h : Hop} {p : Nat → Way} (hk : ¬ ok n h) : relax n h p p = (p, false) := by
  unfold relax cand
  rw [if_neg hk]
theorem relax_none {n : Nat} {h : Hop} {p : Nat → Way} (e : p h.f.toNat = none) : relax n h p p = (p, false) := by
  unfold relax cand
  split
  · rfl
  · rename_i x hx
    split at hx
    · rw [e] at hx
      cases hx
    · cases hx
theorem relax_worse {n : Nat} {h : Hop} {p : Nat → Way} {w y : Nat × Nat} (e : p h.f.toNat = some w) (ey : p h.t.toNat = some y) (hl : lt (on w h) y = false) : relax n h p p = (p, false) := by
  by_cases hk : ok n h
  · unfold relax
    rw [cand_of hk e]
    simp only
    rw [ey, if_neg]
    show ¬ lt (on w h) y = true
    rw [hl]
    simp
  · exact relax_no hk
theorem relax_yes {n : Nat} {h : Hop} {p : Nat → Way} {w : Nat × Nat} (hk : ok n h) (e : p h.f.toNat = some w) (hb : better (on w h) (p h.t.toNat) = true) : relax n h p p = (put p h.t.toNat (on w h), true) := by
  unfold relax
  rw [cand_of hk e]
  simp only
  rw [if_pos hb]
theorem pass_put {n q : Nat} {l : Nat → Hop} {o : Nat → Way} {x : Nat × Nat} {v : Nat} (h : relax n (l q) (pass n l o q).1 (pass n l o q).1 = (put (pass n l o q).1 v x, true)) : pass n l o (q + 1) = (put (pass n l o q).1 v x, true) := by
  show ((relax n (l q) (pass n l o q).1 (pass n l o q).1).1, (pass n l o q).2 || (relax n (l q) (pass n l o q).1 (pass n l o q).1).2) = _
  rw [h, Bool.or_true]
theorem Bd.short {B : Nat} {o : Nat → Way} (h : Bd B o) (hB : B ≤ 2000) (v : Nat) : Short (o v) := by
  cases e : o v with
  | none => trivial
  | some x =>
    obtain ⟨c, k⟩ := x
    have := h v _ e
    simp only at this
    have h1 : k * 4294967295 ≤ 2000 * 4294967295 := Nat.mul_le_mul_right _ (by omega)
    exact ⟨by omega, by omega⟩
theorem sizeH (h : Hop) : (Try.prog.info? 47).map (·.size) = some (rowH h).size := by rw [rowH_size]; kernel_rfl
def zeroH : Hop := ⟨0, 0, 0⟩
theorem zeroH_run (w : World) : Sem.run Try.prog (zeroValue 47) w = .ok (.agg (rowH zeroH)) w := by kernel_rfl
theorem infoC : (Try.prog.info? 30).map (fun i => (i.zero, i.size, i.bytes)) = some (some (.complex .f64 0 0), 1, 16) := by kernel_rfl
/-- The ways lie in block g. -/
def Outs (w : World) (g n : Nat) (o : Nat → Way) : Prop := w.rowIs g 30 n (fun v => cv (o v))
theorem Outs.below {w w' : World} {g n : Nat} {o : Nat → Way} (h : Outs w g n o) (hb : Below w.heap.size w w') : Outs w' g n o := h.of_block (hb.block g h.lt)
theorem Outs.put {w : World} {g n : Nat} {o : Nat → Way} (h : Outs w g n o) (v : Nat) (x : Nat × Nat) : Outs (w.setCell ⟨g, v, none⟩ (cv (some x))) g n (put o v x) :=
  (World.rowIs.set h v (cv (some x))).congr fun i _ => by
    unfold Rea.put
    split <;> rfl
theorem run_store_complex (P : Program) (w : World) (a : Addr) (m : Mode) (k : FloatKind) (x y : Nat) : (store a (.complex k x y) m).run P w = stored P w a (.complex k x y) m := run_store P w a _ m rfl
attribute [local go_sem] run_store_complex zeroH_run rowH_0 rowH_1 rowH_2
theorem cv_00 : cv (some (0, 0)) = .complex .f64 0 0 := by
  show Value.complex _ (flt 0) (flt 0) = _
  rw [flt_0]
/-- What is told of Far. -/
def FarTells (n m s : Nat) (l : Nat → Hop) (w : World) (e : Ending) (w' : World) : Prop :=
  ∃ g o, e = .returned (.slice (some ⟨g, 0, none⟩) n n) ∧ w.heap.size ≤ g ∧ Outs w' g n o ∧ Opt n l m s o ∧ Bd 2000 o ∧ Below w.heap.size w w'
set_option maxRecDepth 100000 in
set_option maxHeartbeats 4000000 in
theorem far_any (w : World) (n m s : Nat) (hn : 1 ≤ n ∧ n ≤ 20) (hs : s < n) (hm : m ≤ 61) (l : Nat → Hop) (la : Option Addr) (lc : Nat) (hv : HopsV w la m l) (hb : ∀ q, (l q).c ≤ 4294967295) :
    Calls Try.prog 8 #[.int .i64 n, .slice la m lc, .int .i64 s] w (FarTells n m s l w) := by
  have hmk := fun w => run_make_row' (P := Try.prog) 24 30 (.complex .f64 0 0) 16 Try.underlying24 infoC rfl .i64 .i64 n (by omega) (by omega) w
  have HV := Lib.hid hv
  have HB := Lib.hid hb
  have hn1 := hn.1
  have hn2 := hn.2
  have d0 : decide ((n : Int) < 1) = false := decide_eq_false (by omega)
  have d1 : decide ((1000 : Int) < n) = false := decide_eq_false (by omega)
  have d2 : decide ((s : Int) < 0) = false := decide_eq_false (by omega)
  have d3 : decide (n ≤ s) = false := decide_eq_false (by omega)
  clear hv hb hn
  go_enter Try.func8, Try.ntmps8
  go_wp2_with fail
  have h0 := World.rowIs_made w (.complex .f64 0 0) n 30
  obtain ⟨w1, hw1⟩ : ∃ x, x = w.alloc (.cells (madeCells #[.complex .f64 0 0] n) 30) := ⟨_, rfl⟩
  obtain ⟨g, hg⟩ : ∃ x, x = w.heap.size := ⟨_, rfl⟩
  rw [← hw1, ← hg] at h0
  rw [← hw1]
  have hB1 : Below w.heap.size w w1 := by rw [hw1]; exact more (Below.refl _ _) _
  rw [← hg]
  have H0 := Lib.hid h0
  have HB1 := Lib.hid hB1
  have Hg := Lib.hid hg
  clear hw1 h0 hB1 hmk d0 d1 d2 d3 hg
  go_loopw [32] (fun i wr => ∃ q : Nat, q ≤ n ∧ i = .int .i64 q ∧ Hid (wr.rowIs g 30 n (fun v => if v < q then cv none else .complex .f64 0 0)) ∧ Hid (Below w.heap.size w wr)) (fun i _ => n - (intOf i).toNat)
  case atStart => exact ⟨0, by omega, rfl, Lib.hid (H0.out.congr fun i _ => by simp), HB1⟩
  case round =>
    clear H0 HB1
    obtain ⟨q, hq, rfl, hR, hB⟩ := hrel
    by_cases hlt : q < n
    · have c1 := hR.out.cell hlt
      have f1 := hR.out.frozen q
      go_wp2_with fail
      go_roundw
      case rel =>
        refine ⟨q + 1, by omega, by go_num, Lib.hid ((World.rowIs.set hR.out q (cv none)).congr fun i _ => ?_), Lib.hid (hB.out.setCell (by rw [Hg.out]; exact Nat.le_refl _) _)⟩
        by_cases e : i = q
        · rw [if_pos e, if_pos (by omega)]
        · rw [if_neg e]
          by_cases e2 : i < q
          · rw [if_pos e2, if_pos (by omega)]
          · rw [if_neg e2, if_neg (by omega)]
      case measure => simp [intOf]; omega
    · obtain rfl : q = n := by omega
      have c1 : wr.cell? ⟨g, s, none⟩ = some (cv none) := by rw [hR.out.cell hs, if_pos hs]
      have f1 := hR.out.frozen s
      have hs0 : (0 : Int) ≤ s := by omega
      have hs1 : (s : Int) < q := by omega
      go_wp2_with fail
      have hO := (World.rowIs.set hR.out s (cv (some (0, 0)))).congr (g := fun v => cv (start s v)) (fun i hi => by
        unfold start
        by_cases e : i = s
        · rw [if_pos e, if_pos e]
        · rw [if_neg e, if_neg e, if_pos hi])
      rw [cv_00] at hO
      obtain ⟨w2, hw2⟩ : ∃ x, x = wr.setCell ⟨g, s, none⟩ (.complex .f64 0 0) := ⟨_, rfl⟩
      rw [← hw2] at hO ⊢
      have HO := Lib.hid (show Outs w2 g q (prog q l m s 0).1 from hO)
      have HB2 := Lib.hid (show Below w.heap.size w w2 by rw [hw2]; exact hB.out.setCell (by rw [Hg.out]; exact Nat.le_refl _) _)
      clear hw2 hO hR hB c1 f1 hlt hq
      go_loopg [9] (q + 1) (fun k ch wr => ∃ j, k + j = q + 1 ∧ ch = .bool (prog q l m s j).2 ∧ Hid (Outs wr g q (prog q l m s j).1) ∧ Hid (Below w.heap.size w wr))
      case atStart => exact ⟨0, by omega, rfl, HO, HB2⟩
      case round =>
        clear HO HB2
        obtain ⟨j, hj, rfl, hO, hB⟩ := hrel
        have hend := prog_ends (n := q) (m := m) (s := s) (l := l) hs j
        have hopt := prog_opt q m s l j
        have hbd := prog_bd q m s l HB.out j
        cases hc : (prog q l m s j).2 with
        | false =>
          have Hopt := Lib.hid (hopt hc)
          have hjn : j ≤ 21 := by omega
          have hjm : j * m ≤ 21 * 61 := Nat.mul_le_mul hjn hm
          have Hbd := Lib.hid (hbd.mono (show j * m ≤ 2000 by omega))
          clear hend hopt hbd hc hjm
          go_wp2_with fail
          go_ret
          exact ⟨g, _, rfl, by rw [Hg.out]; exact Nat.le_refl _, hO.out, Hopt.out, Hbd.out, hB.out⟩
        | true =>
          have hjn := hend hc
          have hjm : j * m ≤ 19 * 61 := Nat.mul_le_mul (by omega) hm
          obtain ⟨o, ho⟩ : ∃ o, o = (prog q l m s j).1 := ⟨_, rfl⟩
          have Hp := Lib.hid (show prog q l m s (j + 1) = pass q l o m by rw [ho]; rfl)
          rw [← ho] at hO hbd
          have Hbd := Lib.hid (fun i => pass_bd (n := q) HB.out hbd i)
          clear hend hopt hc ho hbd
          go_wp2_with fail
          go_loopw [9, 45] (fun ch i wr => ∃ p : Nat, p ≤ m ∧ i = .int .i64 p ∧ ch = .bool (pass q l o p).2 ∧ Hid (Outs wr g q (pass q l o p).1) ∧ Hid (Below w.heap.size w wr)) (fun _ i _ => m - (intOf i).toNat)
          case atStart => exact ⟨0, by omega, rfl, rfl, hO, hB⟩
          case round =>
            clear hO hB
            obtain ⟨p, hp, rfl, rfl, hO, hB⟩ := hrel
            by_cases hlt : p < m
            · have Hps := Lib.hid (Hbd.out p).short
              have hpm : p ≤ 61 := by omega
              obtain ⟨ps, hps⟩ : ∃ x, x = (pass q l o p).1 := ⟨_, rfl⟩
              have HS := Lib.hid (fun h => pass_same (n := q) (q := p) (l := l) (o := o) h)
              have HPut := Lib.hid (fun v x h => pass_put (n := q) (q := p) (l := l) (o := o) (v := v) (x := x) h)
              rw [← hps] at Hps hO HS HPut
              have Hpe := Lib.hid hps
              clear hps
              have hgl := hO.out.lt
              rcases HV.out with h0 | ⟨lg, lo, rfl, hlc⟩
              · omega
              have hr := (HopsV.range hlc hlt)
              have hlg : lg < w.heap.size := cell_lt (hlc p hlt 0 (by omega))
              clear hlc
              have hr : wr.rangeAt lg (lo + p * 3) (rowH (l p)).toList := fun j v hj => (hB.out.cell (p := ⟨lg, _, none⟩) hlg).trans (hr j v hj)
              by_cases hk : ok q (l p)
              · obtain ⟨u, v, c, hl⟩ : ∃ u v c : Nat, l p = ⟨u, v, c⟩ := by
                  obtain ⟨h1, h2, h3, h4⟩ := hk
                  refine ⟨(l p).f.toNat, (l p).t.toNat, (l p).c, ?_⟩
                  cases hx : l p with
                  | mk f t c =>
                    rw [hx] at h1 h3
                    simp only [Hop.mk.injEq]
                    simp only at h1 h3
                    exact ⟨by omega, by omega, trivial⟩
                have hcb := HB.out p
                rw [hl] at hk hr hcb
                have Hl := Lib.hid hl
                clear hl
                have Hk := Lib.hid hk
                have huq : u < q := by have := Hk.out.2.1; simpa using this
                have hvq : v < q := by have := Hk.out.2.2.2; simpa using this
                have d2 : decide (q ≤ u) = false := decide_eq_false (by omega)
                have d4 : decide (q ≤ v) = false := decide_eq_false (by omega)
                have huq' : (u : Int) < q := by omega
                have hvq' : (v : Int) < q := by omega
                have cu := hO.out.cell huq
                have cvv := hO.out.cell hvq
                clear hk
                simp only at hcb
                cases eu : ps u with
                | none =>
                  rw [eu] at cu
                  have Eu := Lib.hid eu
                  clear eu cvv
                  go_wp2_with (first | (refine wpList_row rfl 47 _ rfl lg (lo + p * 3) rfl _ _ hr Try.underlying47 rfl (sizeH _) ?_; simp only [Act.put, List.setIfInBounds_toArray, List.set_cons_zero, List.set_cons_succ]) | (refine wpList_store_new rfl 47 _ _ rfl wr (rowH zeroH) 47 _ rfl rfl rfl (sizeH _) rfl (rowH_one _) ?_; simp only [Act.put]) | (go_at_call 12; refine (none_any none trivial _).mono ?_; rintro e w' ⟨rfl, rfl⟩) | fail)
                  go_roundw
                  case rel =>
                    refine ⟨p + 1, by omega, by go_num, ?_, ?_, Lib.hid (more hB.out _)⟩
                    all_goals rw [HS.out (by rw [Hl.out, relax_none (h := ⟨u, v, c⟩) (p := ps) Eu.out])]
                    exact Lib.hid (by rw [← Hpe.out]; exact World.rowIs.alloc hO.out _)
                  case measure => simp [intOf]; omega
                | some a =>
                  obtain ⟨a1, a2⟩ := a
                  have hsa : Short2 (a1, a2) := by have h := Hps.out (by omega) u; rw [eu] at h; exact h
                  have hba : a2 ≤ 1300 ∧ a1 ≤ a2 * 4294967295 := by
                    have h := Hbd.out p u (a1, a2) (by rw [← Hpe.out]; exact eu)
                    exact ⟨by have := h.1; simp only at this; omega, h.2⟩
                  have hba2 : a2 * 4294967295 ≤ 1300 * 4294967295 := Nat.mul_le_mul_right _ hba.1
                  have hsn : a1 + c < 2 ^ 53 := by omega
                  have hsn2 : a2 + 1 < 2 ^ 53 := by omega
                  rw [eu] at cu
                  have Eu := Lib.hid eu
                  have cu : wr.cell? ⟨g, u, none⟩ = some (.complex .f64 (flt a1) (flt a2)) := cu
                  have CV := Lib.hid cvv
                  have Hhb := Lib.hid hba
                  clear eu hba hba2 cvv
                  go_upto_region 17 with (first | (refine wpList_row rfl 47 _ rfl lg (lo + p * 3) rfl _ _ hr Try.underlying47 rfl (sizeH _) ?_; simp only [Act.put, List.setIfInBounds_toArray, List.set_cons_zero, List.set_cons_succ]) | (refine wpList_store_new rfl 47 _ _ rfl wr (rowH zeroH) 47 _ rfl rfl rfl (sizeH _) rfl (rowH_one _) ?_; simp only [Act.put]) | (go_at_call 12; refine (none_any (some (a1, a2)) hsa _).mono ?_; rintro e w' ⟨rfl, rfl⟩) | fail)
                  obtain ⟨W, hW⟩ : ∃ x, x = wr.alloc (.cells (rowH ⟨u, v, c⟩) 47) := ⟨_, rfl⟩
                  obtain ⟨hb, hhb⟩ : ∃ x, x = wr.heap.size := ⟨_, rfl⟩
                  rw [← hW, ← hhb]
                  have hHW : W.heap[hb]? = some (.cells (rowH ⟨u, v, c⟩) 47 (0, 0)) := by rw [hW, hhb]; exact heap_alloc_new _ _
                  have k0 : W.cell? ⟨hb, 0, none⟩ = some (.int .i64 u) := cells_of hHW 0
                  have k1 : W.cell? ⟨hb, 1, none⟩ = some (.int .i64 v) := cells_of hHW 1
                  have k2 : W.cell? ⟨hb, 2, none⟩ = some (.int .u32 c) := cells_of hHW 2
                  have hOW := Lib.hid (show Outs W g q ps by rw [hW]; exact World.rowIs.alloc hO.out _)
                  have hBW := Lib.hid (show Below w.heap.size w W by rw [hW]; exact more hB.out _)
                  have cu : W.cell? ⟨g, u, none⟩ = some (.complex .f64 (flt a1) (flt a2)) := by have h := hOW.out.cell huq; rw [Eu.out] at h; exact h
                  have hgl := hOW.out.lt
                  have hu0 : (0 : Int) ≤ u := by omega
                  have hv0 : (0 : Int) ≤ v := by omega
                  clear hW hhb hHW hr CV hO hB
                  have hadd := fun w => add_cv (stands a1 hsa.1) (stands a2 hsa.2) hsn hsn2 30 w
                  refine wp_region_held_drew (S := fun w' => w'.cell? ⟨hb, 0, none⟩ = some (.int .i64 u) ∧ w'.cell? ⟨hb, 2, none⟩ = some (.int .u32 c) ∧ w'.cell? ⟨g, u, none⟩ = some (.complex .f64 (flt a1) (flt a2))) (by kernel_rfl) ⟨k0, k2, cu⟩ (fun hH => ?_)
                  refine wpAnyH_take (i := 0) rfl (by kernel_rfl) (by kernel_rfl) (by kernel_rfl) (fun _ _ _ h => h) (Or.inl ⟨by rfl, fun z _ => rfl⟩) hH ?_
                  simp only [List.getElem_toArray, List.getElem_cons_succ, List.getElem_cons_zero, Act.put, List.setIfInBounds_toArray, List.set_cons_zero, List.set_cons_succ]
                  refine wpAnyH_take (i := 1) (v := .pointer (some ⟨hb, 0, none⟩)) rfl (by kernel_rfl) (by kernel_rfl) (by kernel_rfl) (fun _ _ _ h => h) (Or.inl ⟨by rfl, fun z _ => by simp [go_sem, execOp]⟩) hH ?_
                  simp only [List.getElem_toArray, List.getElem_cons_succ, List.getElem_cons_zero, Act.put, List.setIfInBounds_toArray, List.set_cons_zero, List.set_cons_succ]
                  refine wpAnyH_take (i := 2) (v := .int .i64 u) rfl (by kernel_rfl) (by kernel_rfl) (by kernel_rfl) (fun _ _ _ h => h) (Or.inl ⟨by rfl, fun z hz => by simp [go_sem, execOp, show z.cell? ⟨hb, 0, none⟩ = some (.int .i64 u) from hz.1]⟩) hH ?_
                  simp only [List.getElem_toArray, List.getElem_cons_succ, List.getElem_cons_zero, Act.put, List.setIfInBounds_toArray, List.set_cons_zero, List.set_cons_succ]
                  refine wpAnyH_take (i := 3) (v := .pointer (some ⟨g, u, none⟩)) rfl (by kernel_rfl) (by kernel_rfl) (by kernel_rfl) (fun _ _ _ h => h) (Or.inl ⟨by rfl, fun z _ => by simp [go_sem, execOp, huq', hu0]⟩) hH ?_
                  simp only [List.getElem_toArray, List.getElem_cons_succ, List.getElem_cons_zero, Act.put, List.setIfInBounds_toArray, List.set_cons_zero, List.set_cons_succ]
                  refine wpAnyH_take (i := 4) (v := .complex .f64 (flt a1) (flt a2)) rfl (by kernel_rfl) (by kernel_rfl) (by kernel_rfl) (fun _ _ _ h => h) (Or.inl ⟨by rfl, fun z hz => by simp [go_sem, execOp, show z.cell? ⟨g, u, none⟩ = some (.complex .f64 (flt a1) (flt a2)) from hz.2.2]⟩) hH ?_
                  simp only [List.getElem_toArray, List.getElem_cons_succ, List.getElem_cons_zero, Act.put, List.setIfInBounds_toArray, List.set_cons_zero, List.set_cons_succ]
                  refine wpAnyH_take (i := 5) (v := .pointer (some ⟨hb, 2, none⟩)) rfl (by kernel_rfl) (by kernel_rfl) (by kernel_rfl) (fun _ _ _ h => h) (Or.inl ⟨by rfl, fun z _ => by simp [go_sem, execOp]⟩) hH ?_
                  simp only [List.getElem_toArray, List.getElem_cons_succ, List.getElem_cons_zero, Act.put, List.setIfInBounds_toArray, List.set_cons_zero, List.set_cons_succ]
                  refine wpAnyH_take (i := 6) (v := .int .u32 c) rfl (by kernel_rfl) (by kernel_rfl) (by kernel_rfl) (fun _ _ _ h => h) (Or.inl ⟨by rfl, fun z hz => by simp [go_sem, execOp, show z.cell? ⟨hb, 2, none⟩ = some (.int .u32 c) from hz.2.1]⟩) hH ?_
                  simp only [List.getElem_toArray, List.getElem_cons_succ, List.getElem_cons_zero, Act.put, List.setIfInBounds_toArray, List.set_cons_zero, List.set_cons_succ]
                  refine wpAnyH_ready (rs := [7]) (by kernel_rfl) (by simp) (AllReadyH.cons rfl (fun K hK => ?_) AllReadyH.nil)
                  go_simp
                  refine (hop_any c W.drew).mono ?_
                  rintro e w' ⟨rfl, rfl⟩
                  refine hK.out _ _ ⟨k0, k2, cu⟩ (fun hH7 => ?_)
                  clear hK K
                  refine wpAnyH_take (i := 8) (v := .complex .f64 (flt (a1 + c)) (flt (a2 + 1))) rfl (by kernel_rfl) (by kernel_rfl) (by kernel_rfl) (fun _ _ _ h => h) (Or.inl ⟨by rfl, fun z _ => by simp [go_sem, execOp, hadd]⟩) hH ?_
                  simp only [List.getElem_toArray, List.getElem_cons_succ, List.getElem_cons_zero, Act.put, List.setIfInBounds_toArray, List.set_cons_zero, List.set_cons_succ]
                  refine wpAnyH_take (i := 9) (v := .complex .f64 (flt (a1 + c)) (flt (a2 + 1))) rfl (by kernel_rfl) (by kernel_rfl) (by kernel_rfl) (fun _ _ _ h => h) (Or.inl ⟨by rfl, fun z _ => rfl⟩) hH ?_
                  simp only [List.getElem_toArray, List.getElem_cons_succ, List.getElem_cons_zero, Act.put, List.setIfInBounds_toArray, List.set_cons_zero, List.set_cons_succ]
                  refine wpAnyH_done (by kernel_rfl) ?_ _
                  clear hH hadd
                  obtain ⟨W2, hW2⟩ : ∃ x, x = W.drew := ⟨_, rfl⟩
                  have k1' : W2.cell? ⟨hb, 1, none⟩ = some (.int .i64 v) := by rw [hW2]; exact k1
                  have hO2 := Lib.hid (show Outs W2 g q ps by rw [hW2]; exact World.rowIs.drew hOW.out)
                  have hB2 := Lib.hid (show Below w.heap.size w W2 by rw [hW2]; exact hBW.out.drew)
                  rw [← hW2]
                  clear hW2 hH7 k0 k1 k2 cu hOW hBW hgl
                  have cvv := hO2.out.cell hvq
                  have fvv := hO2.out.frozen v
                  have hson : Short2 (on (a1, a2) ⟨u, v, c⟩) := ⟨hsn, hsn2⟩
                  have hge : w.heap.size ≤ g := by rw [Hg.out]; exact Nat.le_refl _
                  cases ev : ps v with
                  | none =>
                    rw [ev] at cvv
                    have HP := Lib.hid (HPut.out _ _ (by rw [Hl.out]; exact relax_yes (h := ⟨u, v, c⟩) (p := ps) Hk.out Eu.out (by show better _ (ps v) = true; rw [ev]; rfl)))
                    clear ev
                    go_wp2_with (first | (go_at_call 12; refine (none_any none trivial _).mono ?_; rintro e w' ⟨rfl, rfl⟩) | fail)
                    go_roundw
                    case rel =>
                      refine ⟨p + 1, by omega, by go_num, ?_, ?_, Lib.hid (hB2.out.setCell hge _)⟩
                      all_goals rw [HP.out]
                      exact Lib.hid (hO2.out.put v (on (a1, a2) ⟨u, v, c⟩))
                    case measure => simp [intOf]; omega
                  | some b =>
                    obtain ⟨b1, b2⟩ := b
                    have hsb : Short2 (b1, b2) := by have h := Hps.out (by omega) v; rw [ev] at h; exact h
                    rw [ev] at cvv
                    have cvv : W2.cell? ⟨g, v, none⟩ = some (.complex .f64 (flt b1) (flt b2)) := cvv
                    have Ev := Lib.hid ev
                    clear ev
                    have hla := less_any (on (a1, a2) ⟨u, v, c⟩) (b1, b2) hson hsb
                    cases hlt' : lt (on (a1, a2) ⟨u, v, c⟩) (b1, b2) with
                    | true =>
                      rw [hlt'] at hla
                      have Hla := Lib.hid hla
                      have HP := Lib.hid (HPut.out _ _ (by rw [Hl.out]; exact relax_yes (h := ⟨u, v, c⟩) (p := ps) Hk.out Eu.out (by show better _ (ps v) = true; rw [Ev.out]; exact hlt')))
                      clear hla hlt'
                      go_wp2_with (first | (go_at_call 12; refine (none_any (some (b1, b2)) hsb _).mono ?_; rintro e w' ⟨rfl, rfl⟩) | (go_at_call 14; refine (Hla.out _).mono ?_; rintro e w' ⟨rfl, rfl⟩) | fail)
                      go_roundw
                      case rel =>
                        refine ⟨p + 1, by omega, by go_num, ?_, ?_, Lib.hid (hB2.out.setCell hge _)⟩
                        all_goals rw [HP.out]
                        exact Lib.hid (hO2.out.put v (on (a1, a2) ⟨u, v, c⟩))
                      case measure => simp [intOf]; omega
                    | false =>
                      rw [hlt'] at hla
                      have Hla := Lib.hid hla
                      have HQ := Lib.hid (HS.out (by rw [Hl.out]; exact relax_worse (h := ⟨u, v, c⟩) (p := ps) Eu.out Ev.out hlt'))
                      clear hla hlt'
                      go_wp2_with (first | (go_at_call 12; refine (none_any (some (b1, b2)) hsb _).mono ?_; rintro e w' ⟨rfl, rfl⟩) | (go_at_call 14; refine (Hla.out _).mono ?_; rintro e w' ⟨rfl, rfl⟩) | fail)
                      go_roundw
                      case rel =>
                        refine ⟨p + 1, by omega, by go_num, ?_, ?_, hB2⟩
                        all_goals rw [HQ.out]
                        exact Lib.hid (by rw [← Hpe.out]; exact hO2.out)
                      case measure => simp [intOf]; omega
              · have HQ := Lib.hid (HS.out (relax_no hk))
                have hc4 : (l p).f < 0 ∨ (0 ≤ (l p).f ∧ (q : Int) ≤ (l p).f) ∨ (0 ≤ (l p).f ∧ (l p).f < q ∧ (l p).t < 0) ∨ (0 ≤ (l p).f ∧ (l p).f < q ∧ 0 ≤ (l p).t ∧ (q : Int) ≤ (l p).t) := by
                  unfold ok at hk
                  omega
                clear hk
                rcases hc4 with hc | ⟨hc1, hc⟩ | ⟨hc1, hc2, hc⟩ | ⟨hc1, hc2, hc3, hc⟩
                · have e1 : decide ((l p).f < 0) = true := decide_eq_true hc
                  clear hc
                  go_wp2_with (first | (refine wpList_row rfl 47 _ rfl lg (lo + p * 3) rfl _ _ hr Try.underlying47 rfl (sizeH _) ?_; simp only [Act.put, List.setIfInBounds_toArray, List.set_cons_zero, List.set_cons_succ]) | (refine wpList_store_new rfl 47 _ _ rfl wr (rowH zeroH) 47 _ rfl rfl rfl (sizeH _) rfl (rowH_one _) ?_; simp only [Act.put]) | fail)
                  go_roundw
                  case rel =>
                    refine ⟨p + 1, by omega, by go_num, ?_, ?_, Lib.hid (more hB.out _)⟩
                    all_goals rw [HQ.out]
                    exact Lib.hid (by rw [← Hpe.out]; exact World.rowIs.alloc hO.out _)
                  case measure => simp [intOf]; omega
                · have e1 : decide ((l p).f < 0) = false := decide_eq_false (by omega)
                  have e2 : decide ((q : Int) ≤ (l p).f) = true := decide_eq_true hc
                  clear hc hc1
                  go_wp2_with (first | (refine wpList_row rfl 47 _ rfl lg (lo + p * 3) rfl _ _ hr Try.underlying47 rfl (sizeH _) ?_; simp only [Act.put, List.setIfInBounds_toArray, List.set_cons_zero, List.set_cons_succ]) | (refine wpList_store_new rfl 47 _ _ rfl wr (rowH zeroH) 47 _ rfl rfl rfl (sizeH _) rfl (rowH_one _) ?_; simp only [Act.put]) | fail)
                  go_roundw
                  case rel =>
                    refine ⟨p + 1, by omega, by go_num, ?_, ?_, Lib.hid (more hB.out _)⟩
                    all_goals rw [HQ.out]
                    exact Lib.hid (by rw [← Hpe.out]; exact World.rowIs.alloc hO.out _)
                  case measure => simp [intOf]; omega
                · have e1 : decide ((l p).f < 0) = false := decide_eq_false (by omega)
                  have e2 : decide ((q : Int) ≤ (l p).f) = false := decide_eq_false (by omega)
                  have e3 : decide ((l p).t < 0) = true := decide_eq_true hc
                  clear hc hc1 hc2
                  go_wp2_with (first | (refine wpList_row rfl 47 _ rfl lg (lo + p * 3) rfl _ _ hr Try.underlying47 rfl (sizeH _) ?_; simp only [Act.put, List.setIfInBounds_toArray, List.set_cons_zero, List.set_cons_succ]) | (refine wpList_store_new rfl 47 _ _ rfl wr (rowH zeroH) 47 _ rfl rfl rfl (sizeH _) rfl (rowH_one _) ?_; simp only [Act.put]) | fail)
                  go_roundw
                  case rel =>
                    refine ⟨p + 1, by omega, by go_num, ?_, ?_, Lib.hid (more hB.out _)⟩
                    all_goals rw [HQ.out]
                    exact Lib.hid (by rw [← Hpe.out]; exact World.rowIs.alloc hO.out _)
                  case measure => simp [intOf]; omega
                · have e1 : decide ((l p).f < 0) = false := decide_eq_false (by omega)
                  have e2 : decide ((q : Int) ≤ (l p).f) = false := decide_eq_false (by omega)
                  have e3 : decide ((l p).t < 0) = false := decide_eq_false (by omega)
                  have e4 : decide ((q : Int) ≤ (l p).t) = true := decide_eq_true hc
                  clear hc hc1 hc2 hc3
                  go_wp2_with (first | (refine wpList_row rfl 47 _ rfl lg (lo + p * 3) rfl _ _ hr Try.underlying47 rfl (sizeH _) ?_; simp only [Act.put, List.setIfInBounds_toArray, List.set_cons_zero, List.set_cons_succ]) | (refine wpList_store_new rfl 47 _ _ rfl wr (rowH zeroH) 47 _ rfl rfl rfl (sizeH _) rfl (rowH_one _) ?_; simp only [Act.put]) | fail)
                  go_roundw
                  case rel =>
                    refine ⟨p + 1, by omega, by go_num, ?_, ?_, Lib.hid (more hB.out _)⟩
                    all_goals rw [HQ.out]
                    exact Lib.hid (by rw [← Hpe.out]; exact World.rowIs.alloc hO.out _)
                  case measure => simp [intOf]; omega
            · obtain rfl : p = m := by omega
              go_wp2_with fail
              go_roundg (q - j)
              case measure => omega
              case rel =>
                refine ⟨j + 1, by omega, by rw [Hp.out], ?_, hB⟩
                rw [Hp.out]
                exact hO
theorem far_no (w : World) (n s : Int) (la : Option Addr) (m lc : Nat) (h : n < 1 ∨ 1000 < n ∨ s < 0 ∨ n ≤ s) : Calls Try.prog 8 #[.int .i64 n, .slice la m lc, .int .i64 s] w fun e w' => e = .returned (.slice none 0 0) ∧ w' = w := by
  by_cases h1 : n < 1
  · have d0 : decide (n < 1) = true := decide_eq_true h1
    clear h h1
    go_enter Try.func8, Try.ntmps8
    go_wp2_with fail
    go_ret
    exact ⟨rfl, rfl⟩
  · have d0 : decide (n < 1) = false := decide_eq_false h1
    by_cases h2 : 1000 < n
    · have d1 : decide (1000 < n) = true := decide_eq_true h2
      clear h h1 h2
      go_enter Try.func8, Try.ntmps8
      go_wp2_with fail
      go_ret
      exact ⟨rfl, rfl⟩
    · have d1 : decide (1000 < n) = false := decide_eq_false h2
      by_cases h3 : s < 0
      · have d2 : decide (s < 0) = true := decide_eq_true h3
        clear h h1 h2 h3
        go_enter Try.func8, Try.ntmps8
        go_wp2_with fail
        go_ret
        exact ⟨rfl, rfl⟩
      · have d2 : decide (s < 0) = false := decide_eq_false h3
        have d3 : decide (n ≤ s) = true := decide_eq_true (by omega)
        clear h h1 h2 h3
        go_enter Try.func8, Try.ntmps8
        go_wp2_with fail
        go_ret
        exact ⟨rfl, rfl⟩
end Go.Proofs.Ytfoenfhfohaoaaa.Rea
