/- Law RxTakes of the receiving machine: the walk joined with the plain law. -/
import Derived.Test.YtdocomenngmccaaAwake09
import Derived.Test.YtdocomenngmccaaTakeR09
import Derived.Test.YtdocomenngmccaaOpen
import Derived.Test.YtdocomenngmccaaWhole
import Derived.Deep.CutRange
set_option linter.unusedSimpArgs false
namespace Go.Proofs.Ytdocomenngmccaa.Br
open Go.RowKit
theorem at_17 (b : Bri) (gp cp go co gf cf : Nat) : (rowB (b.at gp cp go co gf cf))[17]? = some (.slice (some ⟨gp, 0, none⟩) b.n cp) := rfl
attribute [local go_sem] zeroP zeroBr at_17
theorem View.only {S : Nat → Prop} {w w' : World} {a : Option Addr} {sz n : Nat} {c : Nat → Nat → Value} (h : View w a sz n c) (hb : Only S w w') (hn : ∀ g o, a = some ⟨g, o, none⟩ → ¬ S g) : View w' a sz n c := by
  rcases h with h | ⟨g, o, ha, hc⟩
  · exact .inl h
  · exact .inr ⟨g, o, ha, fun k hk j hj => by rw [hb.cell (p := ⟨g, _, none⟩) (cell_lt (hc k hk j hj)) (hn g o ha)]; exact hc k hk j hj⟩
theorem Reads.at {w w' : World} {b : Bri} {ps qs ss : Nat → Rec} {fs : Nat → Int} {gp cp go co gf cf : Nat} (hr : Reads w b ps ss fs) (hp : Ports w' gp b.n qs) (hs : View w' (some ⟨go, 0, none⟩) 18 b.no fun k j => cellS (ss k) j)
    (hf : View w' (some ⟨gf, 0, none⟩) 1 b.nf fun k _ => .int .i64 (fs k)) : Reads w' (b.at gp cp go co gf cf) qs ss fs :=
  ⟨.inr ⟨gp, 0, rfl, fun k hk j hj => by rw [Nat.zero_add]; exact hp.cell hk hj⟩, hs, hf, (fun h => by cases h), (fun h => by cases h), (fun h => by cases h), hr.pb, hr.sb, hr.fb⟩
theorem loadBg {P : Program} {ops : Array Oper} {rest : List Oper} {o : Oper} {a : Act} {w : World} {Q : Exit → Act → World → Prop} (hP : P = Try.prog) (hw : Region.wanted o (yielded ops a.tmps) = true) (x : Operand) (ho : o.op = .load 33 x) (g : Nat) (hx : a.eval x = .pointer (some ⟨g, 0, none⟩)) (b : Bri)
    (hg : w.heap[g]? = some (.cells (rowB b) 33 (0, 0))) (h : wpList P ops Q rest (a.put o.dst (.agg (rowB b))) w) : wpList P ops Q (o :: rest) a w := by
  subst hP
  exact wpList_step fun _ hK => by
    rw [if_pos hw]
    exact wp_load_row 33 x ho g hx 33 (rowB b) (0, 0) _ hg Try.underlying33 rfl (sizeB b) (hK _ _ h)
theorem loadMg {P : Program} {ops : Array Oper} {rest : List Oper} {o : Oper} {a : Act} {w : World} {Q : Exit → Act → World → Prop} (hP : P = Try.prog) (hw : Region.wanted o (yielded ops a.tmps) = true) (x : Operand) (ho : o.op = .load 35 x) (g : Nat) (hx : a.eval x = .pointer (some ⟨g, 0, none⟩)) (m : Rec)
    (hg : w.heap[g]? = some (.cells (rowM m) 35 (0, 0))) (h : wpList P ops Q rest (a.put o.dst (.agg (rowM m))) w) : wpList P ops Q (o :: rest) a w := by
  subst hP
  exact wpList_step fun _ hK => by
    rw [if_pos hw]
    exact wp_load_row 35 x ho g hx 35 (rowM m) (0, 0) _ hg Try.underlying35 rfl (sizeM m) (hK _ _ h)
/-- What both calls do to the ports, and what they answer. -/
def both (rst : Bool) (m : Rec) (n : Nat) (ps : Nat → Rec) (i : Int) (r : Bool) (qs : Nat → Rec) : Prop :=
  (∃ k : Nat, k < n ∧ i = k ∧ r = (takeF rst m (ps k)).2 ∧ qs = upd ps k (takeF rst m (ps k)).1) ∨ ((i < 0 ∨ (n : Int) ≤ i) ∧ r = false ∧ qs = ps)
theorem both_ex (rst : Bool) (m : Rec) (n : Nat) (ps : Nat → Rec) (i : Int) : ∃ r qs, both rst m n ps i r qs := by
  by_cases h : i < 0 ∨ (n : Int) ≤ i
  · exact ⟨false, ps, .inr ⟨h, rfl, rfl⟩⟩
  · obtain ⟨k, hk⟩ : ∃ k : Nat, i = k := Int.eq_ofNat_of_zero_le (by omega)
    exact ⟨_, _, .inl ⟨k, by omega, hk, rfl, rfl⟩⟩
theorem take_both (w : World) (bx g n cap : Nat) (ps qs : Nat → Rec) (rst r : Bool) (m : Rec) (i : Int) (hbo : both rst m n ps i r qs)
    (hb : w.cell? ⟨bx, 17, none⟩ = some (.slice (some ⟨g, 0, none⟩) n cap)) (hb1 : w.cell? ⟨bx, 1, none⟩ = some (.bool rst)) (hp : Ports w g n ps) :
    Calls Try.prog 9 #[.pointer (some ⟨bx, 0, none⟩), .int .i64 i, .agg (rowM m)] w fun e w' => e = .returned (.bool r) ∧ Ports w' g n qs ∧ Only (· = g) w w' := by
  rcases hbo with ⟨k, hk, rfl, rfl, rfl⟩ | ⟨hi, rfl, rfl⟩
  · exact take_in w bx g n cap k ps rst m hk hb hb1 hp
  · exact (take_out w bx g n cap i m hi hb).mono fun _ _ ⟨he, hb⟩ => ⟨he, hp.below hb hp.lt, Only.of_below hb⟩
theorem takeR_both (w : World) (bx g n cap : Nat) (ps qs : Nat → Rec) (rst r : Bool) (m : Rec) (i : Int) (hbo : both rst m n ps i r qs) (hbg : bx ≠ g)
    (hb : w.cell? ⟨bx, 17, none⟩ = some (.slice (some ⟨g, 0, none⟩) n cap)) (hb1 : w.cell? ⟨bx, 1, none⟩ = some (.bool rst)) (hp : Ports w g n ps) :
    Calls Try.prog 10 #[.pointer (some ⟨bx, 0, none⟩), .int .i64 i, .agg (rowM m)] w fun e w' => e = .returned (.bool r) ∧ Ports w' g n qs ∧ Only (· = g) w w' := by
  rcases hbo with ⟨k, hk, rfl, rfl, rfl⟩ | ⟨hi, rfl, rfl⟩
  · exact takeR_in w bx g n cap k ps rst m hk hb hb1 hp hbg
  · exact (takeR_out w bx g n cap i m hi hb).mono fun _ _ ⟨he, hb⟩ => ⟨he, hp.below hb hp.lt, Only.of_below hb⟩
set_option maxRecDepth 100000 in
set_option maxHeartbeats 8000000 in
theorem takes_any (b : Bri) (ps ss : Nat → Rec) (fs : Nat → Int) (w : World) (i : Int) (m : Rec) (h : Reads0 w b ps ss fs) :
    Calls Try.prog 3 #[.agg (rowB b), .int .i64 i, .agg (rowM m)] w fun e w' => e = .returned (.bool true) ∧ Below w.heap.size w w' := by
  have HR := Lib.hid h
  clear h
  go_enter Try.func3, Try.ntmps3
  go_wp2_with fail
  refine (awake_any _).mono ?_
  rintro e w1 ⟨rfl, hb1⟩
  have HB : Hid (w1.heap[w.heap.size]? = some (.cells (rowB b) 33 (0, 0))) := (hb1.block _ (by simp; omega)).trans (at_old (by simp) (at_new rfl))
  have HM : Hid (w1.heap[w.heap.size + 1]? = some (.cells (rowM m) 35 (0, 0))) := (hb1.block _ (by simp)).trans (at_new (by simp))
  have HW1 := Lib.hid (andthen (more (more (Below.refl w.heap.size w) _) _) hb1)
  clear hb1
  go_wp2_with (first | (refine loadB rfl rfl _ rfl w.heap.size rfl b HB.out ?_; simp only [Act.put, List.setIfInBounds_toArray, List.set_cons_zero, List.set_cons_succ]) | fail)
  refine (few_any b ps _ (HR.out.below HW1.out).p).mono ?_
  rintro e w2 ⟨r, rfl, hr, hb2⟩
  have HB2 : Hid (w2.heap[w.heap.size]? = some (.cells (rowB b) 33 (0, 0))) := (hb2.block _ (Array.getElem?_eq_some_iff.1 HB.out).1).trans HB.out
  have HM2 : Hid (w2.heap[w.heap.size + 1]? = some (.cells (rowM m) 35 (0, 0))) := (hb2.block _ (Array.getElem?_eq_some_iff.1 HM.out).1).trans HM.out
  have HW2 := Lib.hid (andthen HW1.out hb2)
  have Hr := Lib.hid hr
  clear hb2 hr HB HM HW1
  cases r
  · go_wp2_with fail
    go_ret
    exact ⟨rfl, HW2.out⟩
  have HL := Lib.hid (Hr.out rfl)
  clear Hr
  have HB := HB2
  clear HB2
  have hn1 : 0 < b.n := HL.out.2.1
  have hn8 : b.n ≤ 8 := HL.out.2.2.1
  go_wp2_with (first | (refine loadB rfl rfl _ rfl w.heap.size rfl b HB.out ?_; simp only [Act.put, List.setIfInBounds_toArray, List.set_cons_zero, List.set_cons_succ]) | fail)
  refine (clone_any b ps ss fs _ ((HR.out.below HW2.out).looked HL.out)).mono ?_
  rintro e w4 ⟨gp, cp, go, co, gf, cf, rfl, hp1, hp2, hp3, op, os, of, hb⟩
  have HP := Lib.hid op.ports
  have hgl := op.lt
  have HW4 := Lib.hid (andthen HW2.out hb)
  have hlt3 : w.heap.size + 1 < w2.heap.size := (Array.getElem?_eq_some_iff.1 HM2.out).1
  have hge : w2.heap.size ≤ gp := hp1
  have HB' : Hid (w4.heap[w.heap.size]? = some (.cells (rowB b) 33 (0, 0))) := (hb.block _ (by omega)).trans HB.out
  have HM4 := Lib.hid ((hb.block _ (by omega)).trans HM2.out)
  have hlt : w.heap.size + 1 < w4.heap.size := (Array.getElem?_eq_some_iff.1 HM4.out).1
  have Hs := Lib.hid os.view
  have Hf := Lib.hid of.view
  have HBx : Hid ((w4.alloc (.cells (rowB (b.at gp cp go co gf cf)) 33)).heap[w.heap.size]? = some (.cells (rowB b) 33 (0, 0))) := (Below.heap_alloc _ _ _ (by omega)).trans HB'.out
  have hgo := os.lt
  have hgf := of.lt
  clear op os of hb HB HB' HM2
  have HB := HBx
  clear HBx
  go_wp2_with (first | (refine wpList_store_at rfl 33 _ _ rfl _ (rowB zeroBri) 33 (rowB (b.at gp cp go co gf cf)) _ rfl rfl rfl rfl (sizeB _) rfl (rowB_one _) ?_; simp only [Act.put]) | (refine loadB rfl rfl _ rfl w.heap.size rfl b HB.out ?_; simp only [Act.put, List.setIfInBounds_toArray, List.set_cons_zero, List.set_cons_succ]) | fail)
  have hRd := ((HR.out.below HW4.out).looked HL.out).below (more (Below.refl w4.heap.size w4) (.cells (rowB (b.at gp cp go co gf cf)) 33))
  refine (clone_any b ps ss fs _ hRd).mono ?_
  rintro e w5 ⟨gp5, cp5, go5, co5, gf5, cf5, rfl, q1, q2, q3, op5, os5, of5, hb5⟩
  have h45 : Below w4.heap.size w4 w5 := (more (Below.refl w4.heap.size w4) _).trans (hb5.mono (by simp))
  have hs5 : w4.heap.size < w5.heap.size := by have := hb5.size; simp at this; omega
  have q1' : w4.heap.size < gp5 := by simp at q1; omega
  have hgl5 := op5.lt
  have HX := Lib.hid ((hb5.block w4.heap.size (by simp)).trans (heap_alloc_new w4 (.cells (rowB (b.at gp cp go co gf cf)) 33)))
  have HP5 := Lib.hid op5.ports
  have HP' := Lib.hid (HP.out.below h45 hgl)
  have Hs' := Lib.hid (Hs.out.below h45)
  have Hf' := Lib.hid (Hf.out.below h45)
  have Hs5 := Lib.hid os5.view
  have Hf5 := Lib.hid of5.view
  have HRd := Lib.hid hRd
  have H45 := Lib.hid h45
  have HM5 := Lib.hid (show (w5.alloc (.cells (rowB (b.at gp5 cp5 go5 co5 gf5 cf5)) 33)).heap[w.heap.size + 1]? = some (.cells (rowM m) 35 (0, 0)) from (Below.heap_alloc _ _ _ (by omega)).trans ((h45.block _ hlt).trans HM4.out))
  clear op5 os5 of5 hb5 h45 hRd HB HP Hs Hf HM4
  obtain ⟨rr, qs, hbo⟩ := both_ex (b.r.b 1) m b.n ps i
  have HBo := Lib.hid hbo
  clear hbo
  go_wp2_with (first | (refine wpList_store_at rfl 33 _ _ rfl _ (rowB zeroBri) 33 (rowB (b.at gp5 cp5 go5 co5 gf5 cf5)) _ rfl rfl rfl rfl (sizeB _) rfl (rowB_one _) ?_; simp only [Act.put]) | (refine loadMg rfl (by rfl) _ rfl (w.heap.size + 1) rfl _ HM5.out ?_; simp only [Act.put, List.setIfInBounds_toArray, List.set_cons_zero, List.set_cons_succ]) | fail)
  have b17 : (w5.alloc (.cells (rowB (b.at gp5 cp5 go5 co5 gf5 cf5)) 33)).cell? ⟨w4.heap.size, 17, none⟩ = some (.slice (some ⟨gp, 0, none⟩) b.n cp) := cells_of ((Below.heap_alloc _ _ _ hs5).trans HX.out) 17
  have b1 : (w5.alloc (.cells (rowB (b.at gp5 cp5 go5 co5 gf5 cf5)) 33)).cell? ⟨w4.heap.size, 1, none⟩ = some (.bool (b.r.b 1)) := cells_of ((Below.heap_alloc _ _ _ hs5).trans HX.out) 1
  refine (take_both _ _ gp b.n cp ps qs _ rr m i HBo.out b17 b1 (HP'.out.alloc _)).mono ?_
  rintro e w6 ⟨rfl, hp6, ho6⟩
  have hs6 : w5.heap.size < w6.heap.size := by have := ho6.size; simp at this; omega
  have HY6 := Lib.hid ((ho6.block w5.heap.size (by simp) (by omega)).trans (heap_alloc_new w5 (.cells (rowB (b.at gp5 cp5 go5 co5 gf5 cf5)) 33)))
  have HX6 := Lib.hid ((ho6.block w4.heap.size (by simp; omega) (by omega)).trans ((Below.heap_alloc _ _ _ hs5).trans HX.out))
  have HM6 := Lib.hid ((ho6.block (w.heap.size + 1) (by simp; omega) (by omega)).trans HM5.out)
  have HP6 := Lib.hid ((HP5.out.alloc (.cells (rowB (b.at gp5 cp5 go5 co5 gf5 cf5)) 33)).only ho6 (by omega))
  clear b17 b1 HX HM5
  go_wp2_with (first | (refine loadMg rfl (by rfl) _ rfl (w.heap.size + 1) rfl _ HM6.out ?_; simp only [Act.put, List.setIfInBounds_toArray, List.set_cons_zero, List.set_cons_succ]) | fail)
  refine (takeR_both _ w5.heap.size gp5 b.n cp5 ps qs _ rr m i HBo.out (by omega) (cells_of HY6.out 17) (cells_of HY6.out 1) HP6.out).mono ?_
  rintro e w7 ⟨rfl, hp7, ho7⟩
  have HX7 := Lib.hid ((ho7.block w4.heap.size (by omega) (by omega)).trans HX6.out)
  have HY7 := Lib.hid ((ho7.block w5.heap.size hs6 (by omega)).trans HY6.out)
  have HP7 := Lib.hid (hp6.only ho7 (by omega))
  clear HX6 HY6 HP6 HM6
  have hA : Only (fun x => x = gp ∨ x = gp5) w5 w7 := (((Only.refl (fun x => x = gp ∨ x = gp5) w5).alloc _).trans (ho6.mono fun _ h => .inl h)).trans (ho7.mono fun _ h => .inr h)
  have hr1 : Reads w7 (b.at gp cp go co gf cf) qs ss fs := Reads.at HRd.out HP7.out (Hs'.out.only hA (by intro g o h; cases h; rintro (h | h) <;> omega)) (Hf'.out.only hA (by intro g o h; cases h; rintro (h | h) <;> omega))
  have hr2 : Reads w7 (b.at gp5 cp5 go5 co5 gf5 cf5) qs ss fs := Reads.at HRd.out hp7 (Hs5.out.only hA (by intro g o h; cases h; rintro (h | h) <;> omega)) (Hf5.out.only hA (by intro g o h; cases h; rintro (h | h) <;> omega))
  have Hr1 := Lib.hid hr1
  have Hr2 := Lib.hid hr2
  have HA := Lib.hid hA
  clear hr1 hr2 hA
  go_wp2_with (first | (refine loadBg rfl (by rfl) _ rfl w4.heap.size rfl _ HX7.out ?_; simp only [Act.put, List.setIfInBounds_toArray, List.set_cons_zero, List.set_cons_succ]) | (refine loadBg rfl (by rfl) _ rfl w5.heap.size rfl _ HY7.out ?_; simp only [Act.put, List.setIfInBounds_toArray, List.set_cons_zero, List.set_cons_succ]) | fail)
  refine (same_any (b.at gp cp go co gf cf) (some ⟨gp5, 0, none⟩) cp5 (some ⟨go5, 0, none⟩) co5 (some ⟨gf5, 0, none⟩) cf5 _ ss fs _ Hr1.out Hr2.out).mono ?_
  rintro e w8 ⟨rfl, hb8⟩
  go_wp2_with fail
  go_ret
  exact ⟨rfl, HW4.out.trans ((H45.out.mono HW4.out.size).trans ((HA.out.below (B := w.heap.size) (Nat.le_trans HW4.out.size (by omega)) (fun x hx => by rcases hx with hx | hx <;> omega)).trans (hb8.mono (Nat.le_trans HW4.out.size (by have := HA.out.size; omega)))))⟩
end Go.Proofs.Ytdocomenngmccaa.Br
