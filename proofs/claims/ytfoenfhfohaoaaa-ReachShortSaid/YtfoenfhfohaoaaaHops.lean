/- The program's hops out of the document's (ford/fordlaw22.hops). -/
import Derived.Test.YtfoenfhfohaoaaaFar
set_option linter.unusedSimpArgs false
namespace Go.Proofs.Ytfoenfhfohaoaaa.Rea
open Go.RowKit
theorem grid_succ (k : Nat) (c : Nat → Nat → Value) : grid 3 (k + 1) c = grid 3 k c ++ [c k 0, c k 1, c k 2] := by
  unfold grid
  rw [show (k + 1) * 3 = k * 3 + 1 + 1 + 1 by omega, List.range_succ, List.range_succ, List.range_succ]
  simp only [List.map_append, List.map_cons, List.map_nil, List.append_assoc, List.cons_append, List.nil_append]
  rw [show k * 3 / 3 = k by omega, show k * 3 % 3 = 0 by omega, show (k * 3 + 1) / 3 = k by omega, show (k * 3 + 1) % 3 = 1 by omega, show (k * 3 + 1 + 1) / 3 = k by omega, show (k * 3 + 1 + 1) % 3 = 2 by omega]
/-- Hops that lie in a block of the call's own. -/
def OwnH (w : World) (base : Nat) (v : Value) (m : Nat) (l : Nat → Hop) : Prop := w.ownsRow base 47 3 v m (grid 3 m fun k j => cellH (l k) j)
theorem OwnH.below {w w' : World} {base m : Nat} {v : Value} {l : Nat → Hop} (h : OwnH w base v m l) (hb : Below w.heap.size w w') : OwnH w' base v m l := by
  obtain ⟨h1, h2 | ⟨g, c, cur, hv, hg, hh, h3⟩⟩ := h
  · exact ⟨h1, .inl h2⟩
  · exact ⟨h1, .inr ⟨g, c, cur, hv, hg, (hb.block g (Array.getElem?_eq_some_iff.1 hh).1).trans hh, h3⟩⟩
theorem OwnH.view {w : World} {base m : Nat} {v : Value} {l : Nat → Hop} (h : OwnH w base v m l) : ∃ a c, v = .slice a m c ∧ HopsV w a m l := by
  obtain ⟨h1, ⟨rfl, h2⟩ | ⟨g, c, cur, rfl, hg, hh, h3, h4, h5, h6⟩⟩ := h
  · exact ⟨none, 0, by rw [h2], .inl h2⟩
  · refine ⟨_, _, rfl, .inr ⟨g, 0, rfl, fun k hk j hj => ?_⟩⟩
    rw [Nat.zero_add, cells_of hh]
    have h7 : (cur.toList.take (m * 3))[k * 3 + j]? = (grid 3 m fun k j => cellH (l k) j)[k * 3 + j]? := by rw [h6]
    rw [List.getElem?_take, if_pos (by omega), grid_at hk hj] at h7
    simpa using h7
theorem infoH : (Try.prog.info? 47).map (fun i => (i.zero, i.size, i.bytes)) = some (some (.agg (rowH zeroH)), 3, 24) := by kernel_rfl
theorem info_parts' {t : TypeId} {z : Value} {s b : Nat} (h : (Try.prog.info? t).map (fun i => (i.zero, i.size, i.bytes)) = some (some z, s, b)) : ∃ i, Try.prog.info? t = some i ∧ i.zero = some z ∧ i.size = s ∧ i.bytes = b := by
  cases hi : Try.prog.info? t with
  | none => rw [hi] at h; simp at h
  | some i =>
    rw [hi] at h
    simp at h
    exact ⟨i, rfl, h.1, h.2.1, h.2.2⟩
theorem mkH (h : Hop) (w : World) : Sem.run Try.prog (Instr.buildSlice 26 1 #[(0, .agg (rowH h))]) w = .ok (.slice (some ⟨w.heap.size, 0, none⟩) 1 1) (w.alloc (.cells (rowH h) 47)) := by kernel_rfl
theorem wp_buildSlice {P : Program} {o : Oper} {a : Act} {w w' : World} {K : Act → World → Prop} {Q : Exit → Act → World → Prop} (t : TypeId) (n : Nat) (parts : Array (Nat × Operand)) (ho : o.op = .buildSlice t n parts)
    (vs : Array (Nat × Value)) (v : Value) (h : (Instr.buildSlice t n vs).run P w = .ok v w') (hv : (parts.map fun p => (p.1, a.eval p.2)) = vs) (hK : K (a.put o.dst v) w') : o.wp P a w K Q := by
  unfold Oper.wp execOp
  simp only [ho]
  rw [show (parts.map fun x => match x with | (i, x) => (i, a.eval x)) = vs from hv]
  simp only [Sem.run_bind, h, Result.andThen_ok, Sem.run_pure]
  exact hK
theorem OwnH.grown {w w' : World} {B base m : Nat} {v : Value} {l : Nat → Hop} (h : OwnH w base v m l) (hB : B ≤ base) (hw : B ≤ w.heap.size) (hg : w.grownBy w' v.ownBlock) : Below B w w' := by
  refine ⟨hg.os, hg.tape, hg.output, hg.size, fun x hx => hg.block x (by omega) (fun e => ?_)⟩
  obtain ⟨_, ⟨rfl, _⟩ | ⟨g, c, cur, rfl, hg, _⟩⟩ := h
  · cases e
  · simp only [Value.ownBlock, Option.some.injEq] at e
    omega
set_option maxHeartbeats 4000000 in
theorem hops_any (w : World) (m : Nat) (hm : m ≤ 100) (l : Nat → Hop) (la : Option Addr) (lc : Nat) (hv : HopsV w la m l) :
    Calls Try.prog 9 #[.slice la m lc] w fun e w' => ∃ v, e = .returned v ∧ OwnH w' w.heap.size v m l ∧ Below w.heap.size w w' := by
  obtain ⟨iH, hiH, hzH, hsH, hbH⟩ := info_parts' infoH
  have HI := Lib.hid (And.intro hiH (And.intro hzH (And.intro hsH hbH)))
  have HV := Lib.hid hv
  clear hv hiH hzH hsH hbH
  go_enter Try.func9, Try.ntmps9
  go_wp2_with fail
  go_loopw [3, 4] (fun v i wr => ∃ (k : Nat) (v0 : Value), v0 = v ∧ k ≤ m ∧ i = .int .i64 k ∧ Hid (OwnH wr w.heap.size v k l) ∧ Hid (Below w.heap.size w wr)) (fun _ i _ => m - (intOf i).toNat)
  case atStart => exact ⟨0, _, rfl, by omega, rfl, Lib.hid ⟨by simp [grid], .inl ⟨rfl, rfl⟩⟩, Lib.hid (Below.refl _ _)⟩
  case round =>
    obtain ⟨k, v0, rfl, hk, rfl, hO, hB⟩ := hrel
    by_cases hlt : k < m
    · have hk0 : (0 : Int) ≤ k := by omega
      have hk1 : (k : Int) < m := by omega
      rcases HV.out with h0 | ⟨lg, lo, rfl, hlc⟩
      · omega
      have hlg : lg < w.heap.size := cell_lt (hlc k hlt 0 (by omega))
      have cc : ∀ j, j < 3 → wr.cell? ⟨lg, lo + (k * 3 + j), none⟩ = some (cellH (l k) j) := fun j hj => (hB.out.cell (p := ⟨lg, _, none⟩) hlg).trans (hlc k hlt j hj)
      have c0 : wr.cell? ⟨lg, lo + k * 3, none⟩ = some (.int .i64 (l k).f) := cc 0 (by omega)
      have c1 : wr.cell? ⟨lg, lo + k * 3 + 1, none⟩ = some (.int .i64 (l k).t) := cc 1 (by omega)
      have c2 : wr.cell? ⟨lg, lo + k * 3 + 2, none⟩ = some (.int .u32 (l k).c) := cc 2 (by omega)
      have hlw : lg < wr.heap.size := cell_lt c0
      clear cc hlc
      go_wp2_with fail
      refine wp_region_held_drew (S := fun w' => w'.cell? ⟨lg, lo + k * 3, none⟩ = some (.int .i64 (l k).f) ∧ w'.cell? ⟨lg, lo + k * 3 + 1, none⟩ = some (.int .i64 (l k).t) ∧ w'.cell? ⟨lg, lo + k * 3 + 2, none⟩ = some (.int .u32 (l k).c)) (by kernel_rfl) ⟨c0, c1, c2⟩ (fun hH => ?_)
      refine wpAnyH_take (i := 0) rfl (by kernel_rfl) (by kernel_rfl) (by kernel_rfl) (fun _ _ _ h => h) (Or.inl ⟨by rfl, fun z _ => rfl⟩) hH ?_
      simp only [List.getElem_toArray, List.getElem_cons_succ, List.getElem_cons_zero, Act.put, List.setIfInBounds_toArray, List.set_cons_zero, List.set_cons_succ]
      refine wpAnyH_take (i := 1) rfl (by kernel_rfl) (by kernel_rfl) (by kernel_rfl) (fun _ _ _ h => h) (Or.inl ⟨by rfl, fun z _ => rfl⟩) hH ?_
      simp only [List.getElem_toArray, List.getElem_cons_succ, List.getElem_cons_zero, Act.put, List.setIfInBounds_toArray, List.set_cons_zero, List.set_cons_succ]
      refine wpAnyH_take (i := 2) rfl (by kernel_rfl) (by kernel_rfl) (by kernel_rfl) (fun _ _ _ h => h) (Or.inl ⟨by rfl, fun z _ => rfl⟩) hH ?_
      simp only [List.getElem_toArray, List.getElem_cons_succ, List.getElem_cons_zero, Act.put, List.setIfInBounds_toArray, List.set_cons_zero, List.set_cons_succ]
      refine wpAnyH_take (i := 3) (v := .pointer (some ⟨lg, lo + k * 3, none⟩)) rfl (by kernel_rfl) (by kernel_rfl) (by kernel_rfl) (fun _ _ _ h => h) (Or.inl ⟨by rfl, fun z _ => by simp [go_sem, execOp, hk0, hk1]⟩) hH ?_
      simp only [List.getElem_toArray, List.getElem_cons_succ, List.getElem_cons_zero, Act.put, List.setIfInBounds_toArray, List.set_cons_zero, List.set_cons_succ]
      refine wpAnyH_take (i := 4) (v := .pointer (some ⟨lg, lo + k * 3, none⟩)) rfl (by kernel_rfl) (by kernel_rfl) (by kernel_rfl) (fun _ _ _ h => h) (Or.inl ⟨by rfl, fun z _ => by simp [go_sem, execOp]⟩) hH ?_
      simp only [List.getElem_toArray, List.getElem_cons_succ, List.getElem_cons_zero, Act.put, List.setIfInBounds_toArray, List.set_cons_zero, List.set_cons_succ]
      refine wpAnyH_take (i := 5) (v := .int .i64 (l k).f) rfl (by kernel_rfl) (by kernel_rfl) (by kernel_rfl) (fun _ _ _ h => h) (Or.inl ⟨by rfl, fun z hz => by simp [go_sem, execOp, (show z.cell? ⟨lg, lo + k * 3, none⟩ = some (.int .i64 (l k).f) from hz.1)]⟩) hH ?_
      simp only [List.getElem_toArray, List.getElem_cons_succ, List.getElem_cons_zero, Act.put, List.setIfInBounds_toArray, List.set_cons_zero, List.set_cons_succ]
      refine wpAnyH_take (i := 6) rfl (by kernel_rfl) (by kernel_rfl) (by kernel_rfl) (fun _ _ _ h => h) (Or.inl ⟨by rfl, fun z _ => rfl⟩) hH ?_
      simp only [List.getElem_toArray, List.getElem_cons_succ, List.getElem_cons_zero, Act.put, List.setIfInBounds_toArray, List.set_cons_zero, List.set_cons_succ]
      refine wpAnyH_take (i := 7) rfl (by kernel_rfl) (by kernel_rfl) (by kernel_rfl) (fun _ _ _ h => h) (Or.inl ⟨by rfl, fun z _ => rfl⟩) hH ?_
      simp only [List.getElem_toArray, List.getElem_cons_succ, List.getElem_cons_zero, Act.put, List.setIfInBounds_toArray, List.set_cons_zero, List.set_cons_succ]
      refine wpAnyH_take (i := 8) (v := .pointer (some ⟨lg, lo + k * 3, none⟩)) rfl (by kernel_rfl) (by kernel_rfl) (by kernel_rfl) (fun _ _ _ h => h) (Or.inl ⟨by rfl, fun z _ => by simp [go_sem, execOp, hk0, hk1]⟩) hH ?_
      simp only [List.getElem_toArray, List.getElem_cons_succ, List.getElem_cons_zero, Act.put, List.setIfInBounds_toArray, List.set_cons_zero, List.set_cons_succ]
      refine wpAnyH_take (i := 9) (v := .pointer (some ⟨lg, lo + k * 3 + 1, none⟩)) rfl (by kernel_rfl) (by kernel_rfl) (by kernel_rfl) (fun _ _ _ h => h) (Or.inl ⟨by rfl, fun z _ => by simp [go_sem, execOp]⟩) hH ?_
      simp only [List.getElem_toArray, List.getElem_cons_succ, List.getElem_cons_zero, Act.put, List.setIfInBounds_toArray, List.set_cons_zero, List.set_cons_succ]
      refine wpAnyH_take (i := 10) (v := .int .i64 (l k).t) rfl (by kernel_rfl) (by kernel_rfl) (by kernel_rfl) (fun _ _ _ h => h) (Or.inl ⟨by rfl, fun z hz => by simp [go_sem, execOp, (show z.cell? ⟨lg, lo + k * 3 + 1, none⟩ = some (.int .i64 (l k).t) from hz.2.1)]⟩) hH ?_
      simp only [List.getElem_toArray, List.getElem_cons_succ, List.getElem_cons_zero, Act.put, List.setIfInBounds_toArray, List.set_cons_zero, List.set_cons_succ]
      refine wpAnyH_take (i := 11) rfl (by kernel_rfl) (by kernel_rfl) (by kernel_rfl) (fun _ _ _ h => h) (Or.inl ⟨by rfl, fun z _ => rfl⟩) hH ?_
      simp only [List.getElem_toArray, List.getElem_cons_succ, List.getElem_cons_zero, Act.put, List.setIfInBounds_toArray, List.set_cons_zero, List.set_cons_succ]
      refine wpAnyH_take (i := 12) rfl (by kernel_rfl) (by kernel_rfl) (by kernel_rfl) (fun _ _ _ h => h) (Or.inl ⟨by rfl, fun z _ => rfl⟩) hH ?_
      simp only [List.getElem_toArray, List.getElem_cons_succ, List.getElem_cons_zero, Act.put, List.setIfInBounds_toArray, List.set_cons_zero, List.set_cons_succ]
      refine wpAnyH_take (i := 13) (v := .pointer (some ⟨lg, lo + k * 3, none⟩)) rfl (by kernel_rfl) (by kernel_rfl) (by kernel_rfl) (fun _ _ _ h => h) (Or.inl ⟨by rfl, fun z _ => by simp [go_sem, execOp, hk0, hk1]⟩) hH ?_
      simp only [List.getElem_toArray, List.getElem_cons_succ, List.getElem_cons_zero, Act.put, List.setIfInBounds_toArray, List.set_cons_zero, List.set_cons_succ]
      refine wpAnyH_take (i := 14) (v := .pointer (some ⟨lg, lo + k * 3 + 2, none⟩)) rfl (by kernel_rfl) (by kernel_rfl) (by kernel_rfl) (fun _ _ _ h => h) (Or.inl ⟨by rfl, fun z _ => by simp [go_sem, execOp]⟩) hH ?_
      simp only [List.getElem_toArray, List.getElem_cons_succ, List.getElem_cons_zero, Act.put, List.setIfInBounds_toArray, List.set_cons_zero, List.set_cons_succ]
      refine wpAnyH_take (i := 15) (v := .int .u32 (l k).c) rfl (by kernel_rfl) (by kernel_rfl) (by kernel_rfl) (fun _ _ _ h => h) (Or.inl ⟨by rfl, fun z hz => by simp [go_sem, execOp, (show z.cell? ⟨lg, lo + k * 3 + 2, none⟩ = some (.int .u32 (l k).c) from hz.2.2)]⟩) hH ?_
      simp only [List.getElem_toArray, List.getElem_cons_succ, List.getElem_cons_zero, Act.put, List.setIfInBounds_toArray, List.set_cons_zero, List.set_cons_succ]
      refine wpAnyH_take (i := 16) (v := .agg (rowH (l k))) rfl (by kernel_rfl) (by kernel_rfl) (by kernel_rfl) (fun _ _ _ h => h) (Or.inl ⟨by rfl, fun z _ => by kernel_rfl⟩) hH ?_
      simp only [List.getElem_toArray, List.getElem_cons_succ, List.getElem_cons_zero, Act.put, List.setIfInBounds_toArray, List.set_cons_zero, List.set_cons_succ]
      refine wpAnyH_ready (rs := [17]) (by kernel_rfl) (by simp) (AllReadyH.cons rfl (fun K hK => ?_) AllReadyH.nil)
      rw [if_pos (by rfl)]
      refine wp_buildSlice 26 1 _ rfl _ _ (mkH (l k) wr.drew) (by kernel_rfl) ?_
      have hb6 : Below wr.heap.size wr (wr.drew.alloc (.cells (rowH (l k)) 47)) := more ((Below.refl wr.heap.size wr).drew) _
      have hg6 : (wr.drew.alloc (.cells (rowH (l k)) 47)).heap[wr.heap.size]? = some (.cells (rowH (l k)) 47 (0, 0)) := heap_alloc_new _ _
      obtain ⟨w6, hw6⟩ : ∃ x, x = wr.drew.alloc (.cells (rowH (l k)) 47) := ⟨_, rfl⟩
      rw [← hw6] at hb6 hg6 ⊢
      rw [show wr.drew.heap.size = wr.heap.size from rfl]
      have HO6 := Lib.hid (hO.out.below hb6)
      have HB6 := Lib.hid (andthen hB.out hb6)
      have HG6 := Lib.hid hg6
      have hs6 : w.heap.size ≤ w6.heap.size := HB6.out.size
      have d0 := (hb6.cell (p := ⟨lg, lo + k * 3, none⟩) hlw).trans c0
      have d1 := (hb6.cell (p := ⟨lg, lo + k * 3 + 1, none⟩) hlw).trans c1
      have d2 := (hb6.cell (p := ⟨lg, lo + k * 3 + 2, none⟩) hlw).trans c2
      refine hK.out _ _ ⟨d0, d1, d2⟩ (fun hH6 => ?_)
      simp only [List.getElem_toArray, List.getElem_cons_succ, List.getElem_cons_zero, Act.put, List.setIfInBounds_toArray, List.set_cons_zero, List.set_cons_succ]
      clear hK K hw6 hb6 hg6 c0 c1 c2
      refine wpAnyH_ready (rs := [18]) (by kernel_rfl) (by simp) (AllReadyH.cons rfl (fun K hK => ?_) AllReadyH.nil)
      rw [if_pos (by rfl)]
      refine wp_append_own w6 (.tmp 11) (.tmp 28) 26 rfl w.heap.size 47 iH _ 3 24 Try.underlying26 HI.out.1 HI.out.2.1 HI.out.2.2.1 HI.out.2.2.2 rfl (by decide) v0 _ _ rfl HO6.out ⟨wr.heap.size, 0, none⟩ 1 1 [cellH (l k) 0, cellH (l k) 1, cellH (l k) 2] rfl rfl (fun j x hj => by
            rw [Addr.add_mid, Nat.zero_add, cells_of HG6.out]
            match j, hj with
            | 0, hj => exact hj
            | 1, hj => exact hj
            | 2, hj => exact hj) (by intro x hx; simp only [List.mem_cons, List.mem_nil_iff, or_false] at hx; rcases hx with rfl | rfl | rfl <;> exact cellH_one _ _ (by omega)) (by unfold maxLen; omega) (by omega) hs6 ?_
      intro v' w7 hown7 hgrow hnil
      have hb7 : Below w.heap.size w6 w7 := OwnH.grown HO6.out (Nat.le_refl _) hs6 hgrow
      have HB7 := Lib.hid (HB6.out.trans hb7)
      have HO7 := Lib.hid (show OwnH w7 w.heap.size v' (k + 1) l by unfold OwnH; rw [grid_succ]; exact hown7)
      refine hK.out _ _ ⟨(hb7.cell (p := ⟨lg, lo + k * 3, none⟩) hlg).trans d0, (hb7.cell (p := ⟨lg, lo + k * 3 + 1, none⟩) hlg).trans d1, (hb7.cell (p := ⟨lg, lo + k * 3 + 2, none⟩) hlg).trans d2⟩ (fun hH7 => ?_)
      simp only [List.getElem_toArray, List.getElem_cons_succ, List.getElem_cons_zero, Act.put, List.setIfInBounds_toArray, List.set_cons_zero, List.set_cons_succ]
      clear hK K hown7 hgrow hnil hb7 d0 d1 d2
      refine wpAnyH_take (i := 19) rfl (by kernel_rfl) (by kernel_rfl) (by kernel_rfl) (fun _ _ _ h => h) (Or.inl ⟨by rfl, fun z _ => rfl⟩) hH7 ?_
      simp only [List.getElem_toArray, List.getElem_cons_succ, List.getElem_cons_zero, Act.put, List.setIfInBounds_toArray, List.set_cons_zero, List.set_cons_succ]
      refine wpAnyH_done (by kernel_rfl) ?_ _
      clear hH hH6 hH7
      go_wp2_with fail
      go_roundw
      case rel => exact ⟨k + 1, v', rfl, by omega, by go_num, HO7, HB7⟩
      case measure => simp [intOf]; omega
    · obtain rfl : k = m := by omega
      go_wp2_with fail
      go_ret
      exact ⟨v0, rfl, hO.out, hB.out⟩
end Go.Proofs.Ytfoenfhfohaoaaa.Rea
