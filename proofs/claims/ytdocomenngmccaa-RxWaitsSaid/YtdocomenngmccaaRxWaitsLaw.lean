/- Law RxWaits of the receiving machine: the walk joined with the plain law. -/
import Derived.Test.YtdocomenngmccaaAwake09
import Derived.Test.YtdocomenngmccaaOpen
import Derived.Test.YtdocomenngmccaaWhole
import Derived.Deep.CutRange
set_option linter.unusedSimpArgs false
namespace Go.Proofs.Ytdocomenngmccaa.Br
open Go.RowKit
theorem at_17 (b : Bri) (gp cp go co gf cf : Nat) : (rowB (b.at gp cp go co gf cf))[17]? = some (.slice (some ⟨gp, 0, none⟩) b.n cp) := rfl
attribute [local go_sem] zeroP zeroBr at_17
theorem View.only {S : Nat → Prop} {w w' : World} {a : Option Addr} {sz n : Nat} {c : Nat → Nat → Value} (h : View w a sz n c) (hb : Only S w w') (hn : ∀ g o, a = some ⟨g, o, none⟩ → ¬ S g) : View w' a sz n c := by
  rcases h with h | ⟨g, o, ha, hc⟩
  · exact .inl h
  · exact .inr ⟨g, o, ha, fun k hk j hj => by rw [hb.cell (p := ⟨g, _, none⟩) (cell_lt (hc k hk j hj)) (hn g o ha)]; exact hc k hk j hj⟩
theorem Reads.at {w w' : World} {b : Bri} {ps qs ss : Nat → Rec} {fs : Nat → Int} {gp cp go co gf cf : Nat} (hr : Reads w b ps ss fs) (hp : Ports w' gp b.n qs) (hs : View w' (some ⟨go, 0, none⟩) 18 b.no fun k j => cellS (ss k) j)
    (hf : View w' (some ⟨gf, 0, none⟩) 1 b.nf fun k _ => .int .i64 (fs k)) : Reads w' (b.at gp cp go co gf cf) qs ss fs :=
  ⟨.inr ⟨gp, 0, rfl, fun k hk j hj => by rw [Nat.zero_add]; exact hp.cell hk hj⟩, hs, hf, (fun h => by cases h), (fun h => by cases h), (fun h => by cases h), hr.pb, hr.sb, hr.fb⟩
theorem loadBg {P : Program} {ops : Array Oper} {rest : List Oper} {o : Oper} {a : Act} {w : World} {Q : Exit → Act → World → Prop} (hP : P = Try.prog) (hw : Region.wanted o (yielded ops a.tmps) = true) (x : Operand) (ho : o.op = .load 33 x) (g : Nat) (hx : a.eval x = .pointer (some ⟨g, 0, none⟩)) (b : Bri)
    (hg : w.heap[g]? = some (.cells (rowB b) 33 (0, 0))) (h : wpList P ops Q rest (a.put o.dst (.agg (rowB b))) w) : wpList P ops Q (o :: rest) a w := by
  subst hP
  exact wpList_step fun _ hK => by
    rw [if_pos hw]
    exact wp_load_row 33 x ho g hx 33 (rowB b) (0, 0) _ hg Try.underlying33 rfl (sizeB b) (hK _ _ h)
theorem waits_law (p : Rec) (h2 : p.b 2 = true) (h15 : p.i 15 = 1) (h36 : p.b 36 = true) : rxF p = (p, false) := by
  simp [rxF, c1, c2, c3, h2, h15, h36]
set_option maxRecDepth 100000 in
set_option maxHeartbeats 8000000 in
theorem waits_any (b : Bri) (ps ss : Nat → Rec) (fs : Nat → Int) (w : World) (i : Nat) (hi : i ≤ 255) (h : Reads0 w b ps ss fs) :
    Calls Try.prog 5 #[.agg (rowB b), .int .u8 i] w fun e w' => e = .returned (.bool true) ∧ Below w.heap.size w w' := by
  have HR := Lib.hid h
  clear h
  go_enter Try.func5, Try.ntmps5
  go_wp2_with fail
  refine (awake_any _).mono ?_
  rintro e w1 ⟨rfl, hb1⟩
  have HB : Hid (w1.heap[w.heap.size]? = some (.cells (rowB b) 33 (0, 0))) := (hb1.block _ (by simp)).trans (at_new rfl)
  have HW1 := Lib.hid (andthen (more (Below.refl w.heap.size w) _) hb1)
  clear hb1
  go_wp2_with (first | (refine loadB rfl rfl _ rfl w.heap.size rfl b HB.out ?_; simp only [Act.put, List.setIfInBounds_toArray, List.set_cons_zero, List.set_cons_succ]) | fail)
  refine (few_any b ps _ (HR.out.below HW1.out).p).mono ?_
  rintro e w2 ⟨r, rfl, hr, hb2⟩
  have HB' : Hid (w2.heap[w.heap.size]? = some (.cells (rowB b) 33 (0, 0))) := (hb2.block _ (Array.getElem?_eq_some_iff.1 HB.out).1).trans HB.out
  have HW2 := Lib.hid (andthen HW1.out hb2)
  have Hr := Lib.hid hr
  clear hb2 hr HB HW1
  cases r
  · go_wp2_with fail
    go_ret
    exact ⟨rfl, HW2.out⟩
  have HL := Lib.hid (Hr.out rfl)
  clear Hr
  have HB := HB'
  clear HB'
  have hn1 : 0 < b.n := HL.out.2.1
  have hn8 : b.n ≤ 8 := HL.out.2.2.1
  go_wp2_with (first | (refine loadB rfl rfl _ rfl w.heap.size rfl b HB.out ?_; simp only [Act.put, List.setIfInBounds_toArray, List.set_cons_zero, List.set_cons_succ]) | fail)
  refine (at_any b i _ hi hn1 hn8).mono ?_
  rintro e w3 ⟨rfl, hb3⟩
  have HB' : Hid (w3.heap[w.heap.size]? = some (.cells (rowB b) 33 (0, 0))) := (hb3.block _ (Array.getElem?_eq_some_iff.1 HB.out).1).trans HB.out
  have HW3 := Lib.hid (andthen HW2.out hb3)
  clear hb3 HB HW2
  have HB := HB'
  clear HB'
  obtain ⟨k, hk⟩ : ∃ k, k = i % b.n := ⟨_, rfl⟩
  have hkn : k < b.n := by rw [hk]; exact Nat.mod_lt _ hn1
  rw [← hk]
  have Hk := Lib.hid hk
  clear hk
  go_wp2_with (first | (refine loadB rfl rfl _ rfl w.heap.size rfl b HB.out ?_; simp only [Act.put, List.setIfInBounds_toArray, List.set_cons_zero, List.set_cons_succ]) | fail)
  refine (clone_any b ps ss fs _ ((HR.out.below HW3.out).looked HL.out)).mono ?_
  rintro e w4 ⟨gp, cp, go, co, gf, cf, rfl, hp1, hp2, hp3, op, os, of, hb⟩
  have HP := Lib.hid op.ports
  have hgl := op.lt
  have hgo := os.lt
  have hgf := of.lt
  have HW4 := Lib.hid (andthen HW3.out hb)
  have hge : w3.heap.size ≤ gp := hp1
  have hlt : w.heap.size < w4.heap.size := (Array.getElem?_eq_some_iff.1 ((hb.block _ (Array.getElem?_eq_some_iff.1 HB.out).1).trans HB.out)).1
  have hlt3 : w.heap.size < w3.heap.size := (Array.getElem?_eq_some_iff.1 HB.out).1
  have Hs := Lib.hid os.view
  have Hf := Lib.hid of.view
  have c2 : w4.cell? ⟨gp, k * 89 + 2, none⟩ = some (.bool ((ps k).b 2)) := HP.out.cell hkn (j := 2) (by omega)
  have f2 := HP.out.free (k * 89 + 2)
  have c15 : w4.cell? ⟨gp, k * 89 + 15 + 0, none⟩ = some (.int .i64 ((ps k).i 15)) := HP.out.cell hkn (j := 15) (by omega)
  have f15 := HP.out.free (k * 89 + 15 + 0)
  have c36 : w4.cell? ⟨gp, k * 89 + 22 + 14, none⟩ = some (.bool ((ps k).b 36)) := HP.out.cell hkn (j := 36) (by omega)
  have f36 := HP.out.free (k * 89 + 22 + 14)
  clear op os of hb HB
  go_upto_region 10 with (first | (refine wpList_store_at rfl 33 _ _ rfl _ (rowB zeroBri) 33 (rowB (b.at gp cp go co gf cf)) _ rfl rfl rfl rfl (sizeB _) rfl (rowB_one _) ?_; simp only [Act.put]) | fail)
  obtain ⟨w5, hw5⟩ : ∃ x, x = ((((w4.setCell ⟨gp, k * 89 + 2, none⟩ (.bool true)).setCell ⟨gp, k * 89 + 15, none⟩ (.int .i64 1)).setCell ⟨gp, k * 89 + 22 + 14, none⟩ (.bool true)).alloc (.cells (rowB (b.at gp cp go co gf cf)) 33)) := ⟨_, rfl⟩
  rw [← hw5]
  have HX5 := Lib.hid (show w5.heap[w4.heap.size]? = some (.cells (rowB (b.at gp cp go co gf cf)) 33 (0, 0)) by rw [hw5]; exact at_new (by simp))
  have HP5 := Lib.hid (show Ports w5 gp b.n (upd ps k ((((ps k).setB 2 true).setI 15 1).setB 36 true)) by
    rw [hw5]
    exact ((((HP.out.start k).step (j := 2) (by omega) (rowP_put_2 _ _)).step (j := 15) (by omega) (rowP_put_15 _ _)).step (j := 36) (by omega) (rowP_put_36 _ _)).alloc _)
  have HA5 := Lib.hid (show Only (· = gp) w4 w5 by
    rw [hw5]
    exact ((((Only.refl (· = gp) w4).setCell (Or.inl rfl) _).setCell (Or.inl rfl) _).setCell (Or.inl rfl) _).alloc _)
  have d5 : w4.heap.size < w5.heap.size := (Array.getElem?_eq_some_iff.1 HX5.out).1
  clear hw5 c2 f2 c15 f15 c36 f36
  have hR4 := (HR.out.below HW4.out).looked HL.out
  have hRd : Reads w5 (b.at gp cp go co gf cf) (upd ps k ((((ps k).setB 2 true).setI 15 1).setB 36 true)) ss fs := Reads.at hR4 HP5.out (Hs.out.only HA5.out (by intro g o h; cases h; show ¬ go = gp; omega)) (Hf.out.only HA5.out (by intro g o h; cases h; show ¬ gf = gp; omega))
  have HRd := Lib.hid hRd
  have HR4 := Lib.hid hR4
  clear hRd hR4
  go_wp2_with (first | (refine loadBg rfl (by rfl) _ rfl w4.heap.size rfl _ HX5.out ?_; simp only [Act.put, List.setIfInBounds_toArray, List.set_cons_zero, List.set_cons_succ]) | fail)
  refine (clone_any (b.at gp cp go co gf cf) (upd ps k ((((ps k).setB 2 true).setI 15 1).setB 36 true)) ss fs _ HRd.out).mono ?_
  rintro e w6 ⟨gp6, cp6, go6, co6, gf6, cf6, rfl, q1, q2, q3, op6, os6, of6, hb6⟩
  have s6 := hb6.size
  have HX6 := Lib.hid ((hb6.block w4.heap.size d5).trans HX5.out)
  have HP6 := Lib.hid (HP5.out.below hb6 HP5.out.lt)
  have HQ6 := Lib.hid op6.ports
  have hgl6 := op6.lt
  have hgo6 := os6.lt
  have hgf6 := of6.lt
  have Hs6 := Lib.hid os6.view
  have Hf6 := Lib.hid of6.view
  have HB6 := Lib.hid hb6
  clear op6 os6 of6 hb6
  go_wp2_with (first | (refine wpList_store_at rfl 33 _ _ rfl _ (rowB zeroBri) 33 (rowB ((b.at gp cp go co gf cf).at gp6 cp6 go6 co6 gf6 cf6)) _ rfl rfl rfl rfl (sizeB _) rfl (rowB_one _) ?_; simp only [Act.put]) | fail)
  have b17 : (w6.alloc (.cells (rowB ((b.at gp cp go co gf cf).at gp6 cp6 go6 co6 gf6 cf6)) 33)).cell? ⟨w4.heap.size, 17, none⟩ = some (.slice (some ⟨gp, 0, none⟩) b.n cp) := cells_of ((Below.heap_alloc _ _ _ (by omega)).trans HX6.out) 17
  refine (step_on _ _ gp b.n cp k ps ((((ps k).setB 2 true).setI 15 1).setB 36 true) hkn (by simp; omega) (by omega) b17 (HP6.out.alloc _)).mono ?_
  rintro e w7 ⟨rfl, hp7, ho7, hb7⟩
  have s7 : w6.heap.size < w7.heap.size := by have := ho7.size; simp at this; omega
  rw [waits_law ((((ps k).setB 2 true).setI 15 1).setB 36 true) rfl rfl rfl] at hp7 ⊢
  have HX7 := Lib.hid ((ho7.block w4.heap.size (by simp; omega) (by omega)).trans ((Below.heap_alloc _ _ _ (by omega)).trans HX6.out))
  have HY7 := Lib.hid ((ho7.block w6.heap.size (by simp) (by omega)).trans (heap_alloc_new w6 (.cells (rowB ((b.at gp cp go co gf cf).at gp6 cp6 go6 co6 gf6 cf6)) 33)))
  have hA : Only (· = gp) w5 w7 := ((Only.of_below HB6.out).alloc _).trans ho7
  have hA6 : Only (· = gp) w6 w7 := ((Only.refl (· = gp) w6).alloc _).trans ho7
  have hr1 : Reads w7 (b.at gp cp go co gf cf) (upd ps k ((((ps k).setB 2 true).setI 15 1).setB 36 true)) ss fs := Reads.at HR4.out hp7 (Hs.out.only (HA5.out.trans hA) (by intro g o h; cases h; show ¬ go = gp; omega)) (Hf.out.only (HA5.out.trans hA) (by intro g o h; cases h; show ¬ gf = gp; omega))
  have hr2 : Reads w7 ((b.at gp cp go co gf cf).at gp6 cp6 go6 co6 gf6 cf6) (upd ps k ((((ps k).setB 2 true).setI 15 1).setB 36 true)) ss fs := Reads.at (b := (b.at gp cp go co gf cf)) HRd.out (HQ6.out.only hA6 (by omega)) (Hs6.out.only hA6 (by intro g o h; cases h; show ¬ go6 = gp; omega)) (Hf6.out.only hA6 (by intro g o h; cases h; show ¬ gf6 = gp; omega))
  have Hr1 := Lib.hid hr1
  have Hr2 := Lib.hid hr2
  have HA := Lib.hid (HA5.out.trans hA)
  clear hr1 hr2 hA hA6 b17 hp7 ho7 hb7
  go_wp2_with (first | (refine loadBg rfl (by rfl) _ rfl w4.heap.size rfl _ HX7.out ?_; simp only [Act.put, List.setIfInBounds_toArray, List.set_cons_zero, List.set_cons_succ]) | (refine loadBg rfl (by rfl) _ rfl w6.heap.size rfl _ HY7.out ?_; simp only [Act.put, List.setIfInBounds_toArray, List.set_cons_zero, List.set_cons_succ]) | fail)
  refine (same_any (b.at gp cp go co gf cf) (some ⟨gp6, 0, none⟩) cp6 (some ⟨go6, 0, none⟩) co6 (some ⟨gf6, 0, none⟩) cf6 _ ss fs _ Hr1.out Hr2.out).mono ?_
  rintro e w8 ⟨rfl, hb8⟩
  go_wp2_with fail
  go_ret
  exact ⟨rfl, HW4.out.trans ((HA.out.below (B := w.heap.size) HW4.out.size (fun x hx => by omega)).trans (hb8.mono (Nat.le_trans HW4.out.size HA.out.size)))⟩
end Go.Proofs.Ytdocomenngmccaa.Br
