/- Law EdgeOthers of the bridge detection machine: the walk joined with the plain law. -/
import Derived.Test.YtgemeaahecnkjaaLaws
import Derived.StillTailTactics
import Derived.Deep.RegionHeld
namespace Go.Proofs.Ytgemeaahecnkjaa.Br
open Go.RowKit
attribute [local go_sem] zeroP zeroBr at_17 rowB_17

theorem row_held {W : World} {g B : Nat} {C : Array Value} {T : TypeId} {fr : Nat × Nat} (h : W.heap[g]? = some (.cells C T fr)) (hB : g < B) : ∀ w, Below B W w → w.rangeAt g 0 C.toList := fun w hw j v hv => by
  rw [Nat.zero_add, cells_of ((hw.block g hB).trans h) j]
  simpa using hv
theorem View.only {S : Nat → Prop} {w w' : World} {a : Option Addr} {sz n : Nat} {c : Nat → Nat → Value} (h : View w a sz n c) (hb : Only S w w') (hn : ∀ g o, a = some ⟨g, o, none⟩ → ¬ S g) : View w' a sz n c := by
  rcases h with h | ⟨g, o, ha, hc⟩
  · exact .inl h
  · exact .inr ⟨g, o, ha, fun k hk j hj => by rw [hb.cell (p := ⟨g, _, none⟩) (cell_lt (hc k hk j hj)) (hn g o ha)]; exact hc k hk j hj⟩
theorem Reads.at {w w' : World} {b : Bri} {ps qs ss : Nat → Rec} {fs : Nat → Int} {gp cp go co gf cf : Nat} (hr : Reads w b ps ss fs) (hp : Ports w' gp b.n qs) (hs : View w' (some ⟨go, 0, none⟩) 18 b.no fun k j => cellS (ss k) j)
    (hf : View w' (some ⟨gf, 0, none⟩) 1 b.nf fun k _ => .int .i64 (fs k)) : Reads w' (b.at gp cp go co gf cf) qs ss fs :=
  ⟨.inr ⟨gp, 0, rfl, fun k hk j hj => by rw [Nat.zero_add]; exact hp.cell hk hj⟩, hs, hf, (fun h => by cases h), (fun h => by cases h), (fun h => by cases h), hr.pb, hr.sb, hr.fb⟩
theorem put_back (p : Rec) (x : Int) (y : Bool) : ((((p.setI 17 x).setB 32 y).setB 32 (p.b 32)).setI 17 (p.i 17)) = p := by
  obtain ⟨pi, pb⟩ := p
  simp only [Rec.setI, Rec.setB, Rec.mk.injEq]
  exact ⟨by funext j; by_cases h : j = 17 <;> simp [h], by funext j; by_cases h : j = 32 <;> simp [h]⟩
theorem edge_back (p : Rec) : ((edgeF p).1.setB 32 (p.b 32)).setI 17 (p.i 17) = p := by
  have hi : (edgeF p).1 = p ∨ ∃ x y, (edgeF p).1 = (p.setI 17 x).setB 32 y := by
    unfold edgeF
    split
    · split
      · exact .inr ⟨_, _, rfl⟩
      · exact .inl rfl
    · split
      · split
        · exact .inr ⟨_, _, rfl⟩
        · exact .inl rfl
      · exact .inl rfl
  rcases hi with h | ⟨x, y, h⟩
  · rw [h]
    have h := put_back p (p.i 17) (p.b 32)
    have e : (p.setI 17 (p.i 17)).setB 32 (p.b 32) = p := by
      obtain ⟨pi, pb⟩ := p
      simp only [Rec.setI, Rec.setB, Rec.mk.injEq]
      exact ⟨by funext j; by_cases h : j = 17 <;> simp [h], by funext j; by_cases h : j = 32 <;> simp [h]⟩
    rw [e] at h
    exact h
  · rw [h]
    exact put_back p x y
set_option maxRecDepth 100000 in
set_option maxHeartbeats 8000000 in
theorem others_any (b : Bri) (ps ss : Nat → Rec) (fs : Nat → Int) (w : World) (i : Nat) (hi : i ≤ 255) (h : Reads0 w b ps ss fs) :
    Calls Try.prog 7 #[.agg (rowB b), .int .u8 i] w fun e w' => e = .returned (.bool true) ∧ Below w.heap.size w w' := by
  have HR := Lib.hid h
  clear h
  go_enter Try.func7, Try.ntmps7
  go_wp2_with fail
  refine (awake_any _).mono ?_
  rintro e w1 ⟨rfl, hb1⟩
  have HB : Hid (w1.heap[w.heap.size]? = some (.cells (rowB b) 33 (0, 0))) := (hb1.block _ (by simp)).trans (at_new rfl)
  have HW1 := Lib.hid (andthen (more (Below.refl w.heap.size w) _) hb1)
  clear hb1
  go_wp2_with (first | (refine loadB rfl rfl _ rfl w.heap.size rfl b HB.out ?_; simp only [Act.put, List.setIfInBounds_toArray, List.set_cons_zero, List.set_cons_succ]) | fail)
  refine (few_any b ps _ (HR.out.below HW1.out).p).mono ?_
  rintro e w2 ⟨r, rfl, hr, hb2⟩
  have HB' : Hid (w2.heap[w.heap.size]? = some (.cells (rowB b) 33 (0, 0))) := (hb2.block _ (Array.getElem?_eq_some_iff.1 HB.out).1).trans HB.out
  have HW2 := Lib.hid (andthen HW1.out hb2)
  have Hr := Lib.hid hr
  clear hb2 hr HB HW1
  cases r
  · go_wp2_with fail
    go_ret
    exact ⟨rfl, HW2.out⟩
  have HL := Lib.hid (Hr.out rfl)
  clear Hr
  have HB := HB'
  clear HB'
  have hn1 : 0 < b.n := HL.out.2.1
  have hn8 : b.n ≤ 8 := HL.out.2.2.1
  go_wp2_with (first | (refine loadB rfl rfl _ rfl w.heap.size rfl b HB.out ?_; simp only [Act.put, List.setIfInBounds_toArray, List.set_cons_zero, List.set_cons_succ]) | fail)
  refine (at_any b i _ hi hn1 hn8).mono ?_
  rintro e w3 ⟨rfl, hb3⟩
  have HB' : Hid (w3.heap[w.heap.size]? = some (.cells (rowB b) 33 (0, 0))) := (hb3.block _ (Array.getElem?_eq_some_iff.1 HB.out).1).trans HB.out
  have HW3 := Lib.hid (andthen HW2.out hb3)
  clear hb3 HB HW2
  have HB := HB'
  clear HB'
  obtain ⟨k, hk⟩ : ∃ k, k = i % b.n := ⟨_, rfl⟩
  have hkn : k < b.n := by rw [hk]; exact Nat.mod_lt _ hn1
  rw [← hk]
  have Hk := Lib.hid hk
  clear hk
  go_wp2_with (first | (refine loadB rfl rfl _ rfl w.heap.size rfl b HB.out ?_; simp only [Act.put, List.setIfInBounds_toArray, List.set_cons_zero, List.set_cons_succ]) | fail)
  refine (clone_any b ps ss fs _ ((HR.out.below HW3.out).looked HL.out)).mono ?_
  rintro e w4 ⟨gp, cp, go, co, gf, cf, rfl, hp1, hp2, hp3, op, os, of, hb⟩
  have HP := Lib.hid op.ports
  have hgl := op.lt
  have HW4 := Lib.hid (andthen HW3.out hb)
  have hge : w.heap.size ≤ gp := Nat.le_trans HW3.out.size hp1
  have HB' : Hid (w4.heap[w.heap.size]? = some (.cells (rowB b) 33 (0, 0))) := (hb.block _ (Array.getElem?_eq_some_iff.1 HB.out).1).trans HB.out
  have hlt : w.heap.size < w4.heap.size := (Array.getElem?_eq_some_iff.1 HB'.out).1
  have Hs := Lib.hid os.view
  have Hf := Lib.hid of.view
  have hlt3 : w.heap.size < w3.heap.size := (Array.getElem?_eq_some_iff.1 HB.out).1
  clear op os of hb HB
  have HB := HB'
  clear HB'
  rcases HR.out.p with h0 | ⟨g0, o0, hap, hc⟩
  · omega
  have HC := Lib.hid hc
  clear hc
  have Hap := Lib.hid hap
  clear hap
  go_wp2_with (first | (refine wpList_store_at rfl 33 _ _ rfl _ (rowB zeroBri) 33 (rowB (b.at gp cp go co gf cf)) _ rfl rfl rfl rfl (sizeB _) rfl (rowB_one _) ?_; simp only [Act.put]) | fail)
  refine (step_on _ _ gp b.n cp k ps (ps k) hkn (by simp) (by simp; omega) ?hb ((HP.out.start k).alloc _)).mono ?_
  case hb => simp [go_sem]; exact ⟨rfl, rfl, rfl⟩
  rintro e w5 ⟨rfl, hp5, ho5, hb5⟩
  have hA5 := (Only.refl (· = gp) w4).alloc _ |>.trans ho5
  have d5 : w4.heap.size < w5.heap.size := by have := ho5.size; simp at this; omega
  have hX5 : w5.heap[w4.heap.size]? = some (.cells (rowB (b.at gp cp go co gf cf)) 33 (0, 0)) := (ho5.block _ (by simp) (by omega)).trans (heap_alloc_new _ _)
  have HX5 := Lib.hid hX5
  clear hX5
  have e17 : w5.cell? ⟨w.heap.size, 17, none⟩ = some (.slice (some ⟨g0, o0, none⟩) b.n b.cp) := by
    rw [← Hap.out, hA5.cell hlt (by show ¬ w.heap.size = gp; omega)]
    exact cells_of HB.out 17
  have hg0 : g0 < w.heap.size := cell_lt (HC.out k hkn 0 (by omega))
  have hc32 : w5.cell? ⟨g0, o0 + k * 89 + 22 + 10, none⟩ = some (.bool ((ps k).b 32)) := by
    rw [hA5.cell (by show g0 < w4.heap.size; omega) (by show ¬ g0 = gp; omega), HW4.out.cell hg0]
    exact HC.out k hkn 32 (by omega)
  have hc17 : w5.cell? ⟨g0, o0 + k * 89 + 15 + 2, none⟩ = some (.int .i64 ((ps k).i 17)) := by
    rw [hA5.cell (by show g0 < w4.heap.size; omega) (by show ¬ g0 = gp; omega), HW4.out.cell hg0]
    exact HC.out k hkn 17 (by omega)
  have hk0 : (0 : Int) ≤ k := by omega
  have hk1 : (k : Int) < b.n := by omega
  go_wp2_with fail
  have n1 : ¬ gp = w4.heap.size := by omega
  have n2 : ¬ gp = w.heap.size := by omega
  have n3 : ¬ gp = g0 := by omega
  have n4 : ¬ w4.heap.size = gp := by omega
  have n5 : ¬ w.heap.size = gp := by omega
  have n6 : ¬ g0 = gp := by omega
  have f32 := hp5.free (k * 89 + 22 + 10)
  have f17 := hp5.free (k * 89 + 15 + 2)
  have c32 := hp5.cell hkn (j := 32) (by omega)
  have c17 := hp5.cell hkn (j := 17) (by omega)
  go_still_tail 13, (by kernel_rfl)
  change wpList _ _ _ _ _ w5.drew
  go_wp2_with fail
  obtain ⟨w6, hw6⟩ : ∃ w6, w6 = (w5.setCell ⟨gp, k * 89 + 22 + 10, none⟩ (.bool ((ps k).b 32))).drew := ⟨_, rfl⟩
  rw [← hw6]
  have hO : Only (· = gp) w5 w6 := by
    rw [hw6]
    exact ((Only.refl (· = gp) w5).setCell (Or.inl rfl) _).drew
  have hp6 : Ports w6 gp b.n (upd ps k ((edgeF (ps k)).1.setB 32 ((ps k).b 32))) := by
    rw [hw6]
    exact (hp5.step (j := 32) (by omega) (rowP_put_32 _ _)).drew
  have d6 : w4.heap.size < w6.heap.size := by have := hO.size; omega
  have hA6 := hA5.trans hO
  have HX6 := Lib.hid ((hO.block _ d5 n4).trans HX5.out)
  clear HX5
  have hb6 := (hO.cell (p := ⟨w4.heap.size, 17, none⟩) d5 n4).trans hb5
  have e17' := (hO.cell (p := ⟨w.heap.size, 17, none⟩) (by show w.heap.size < _; omega) n5).trans e17
  have hc17' := (hO.cell (p := ⟨g0, o0 + k * 89 + 15 + 2, none⟩) (by show g0 < _; omega) n6).trans hc17
  have f17' := hp6.free (k * 89 + 15 + 2)
  have c17' := hp6.cell hkn (j := 17) (by omega)
  clear hw6 hb5 e17 hc17 hc32 f17 f32 c32 c17 hp5 hA5 d5 ho5 hO
  go_still_tail 13, (by kernel_rfl)
  change wpList _ _ _ _ _ (World.drew _)
  go_wp2_with fail
  obtain ⟨w7, hw7⟩ : ∃ w7, w7 = (w6.setCell ⟨gp, k * 89 + 15 + 2, none⟩ (.int .i64 ((ps k).i 17))).drew := ⟨_, rfl⟩
  rw [← hw7]
  have hO7 : Only (· = gp) w6 w7 := by
    rw [hw7]
    exact ((Only.refl (· = gp) w6).setCell (Or.inl rfl) _).drew
  have hp7 : Ports w7 gp b.n ps := by
    rw [hw7]
    have h := (hp6.step (j := 17) (by omega) (rowP_put_17 _ ((ps k).i 17))).drew
    rw [edge_back, upd_self] at h
    exact h
  have hA7 := hA6.trans hO7
  have hX : w7.heap[w4.heap.size]? = some (.cells (rowB (b.at gp cp go co gf cf)) 33 (0, 0)) := (hO7.block _ d6 n4).trans HX6.out
  have hB7 : w7.heap[w.heap.size]? = some (.cells (rowB b) 33 (0, 0)) := (hA7.block _ hlt n5).trans HB.out
  have d7 : w4.heap.size < w7.heap.size := (Array.getElem?_eq_some_iff.1 hX).1
  have d7' : w.heap.size < w7.heap.size := (Array.getElem?_eq_some_iff.1 hB7).1
  have HX := Lib.hid hX
  have HB7 := Lib.hid hB7
  have HP7 := Lib.hid hp7
  have HA7 := Lib.hid hA7
  clear hw7 hX hB7 hp7 hA7 hO7 hp6 hA6 hb6 e17' hc17' f17' c17' d6
  refine wp_region_held_drew (S := fun w' => Below w7.heap.size w7 w') (by kernel_rfl) (Below.refl _ _).drew (fun hH => ?_)
  refine wpAnyH_take (i := 0) rfl (by kernel_rfl) (by kernel_rfl) (by kernel_rfl) (fun _ _ _ h => h) (Or.inl ⟨by rfl, fun w _ => rfl⟩) hH ?_
  simp only [Act.put, List.setIfInBounds_toArray]
  refine wpAnyH_take (i := 1) rfl (by kernel_rfl) (by kernel_rfl) (by kernel_rfl) (fun _ _ _ h => h) (Or.inl ⟨by rfl, fun w _ => rfl⟩) hH ?_
  simp only [Act.put]
  refine wpAnyH_take (i := 2) rfl (by kernel_rfl) (by kernel_rfl) (by kernel_rfl) (fun _ _ _ h => h) (yieldsIf_load_mid (by rfl) 33 _ rfl w4.heap.size 0 rfl (rowB (b.at gp cp go co gf cf)).toList _ (row_held HX.out d7) Try.underlying33 rfl (sizeB _)) hH ?_
  simp only [Act.put]
  refine wpAnyH_take (i := 3) rfl (by kernel_rfl) (by kernel_rfl) (by kernel_rfl) (fun _ _ _ h => h) (yieldsIf_load_mid (by rfl) 33 _ rfl w.heap.size 0 rfl (rowB b).toList _ (row_held HB7.out d7') Try.underlying33 rfl (sizeB _)) hH ?_
  simp only [Act.put]
  refine wpAnyH_ready (rs := [4]) (by kernel_rfl) (by simp) (AllReadyH.cons rfl (fun K hK => ?_) AllReadyH.nil)
  go_simp
  have hR0 := HR.out
  have hRd := ((hR0.below (HW4.out.trans (HA7.out.below HW4.out.size (fun k hk => by omega)))).looked HL.out).below ((Below.refl w7.heap.size w7).drew)
  refine (clone_any b ps ss fs _ hRd).mono ?_
  rintro e w8 ⟨gp8, cp8, go8, co8, gf8, cf8, rfl, q1, q2, q3, op8, os8, of8, hb8⟩
  have hb78 : Below w7.heap.size w7 w8 := (Below.refl w7.heap.size w7).drew.trans hb8
  have HB78 := Lib.hid hb78
  refine hK.out _ _ hb78 (fun hH8 => ?_)
  clear hK K
  have s1 : w4.heap.size ≤ w7.heap.size := HA7.out.size
  have hr1 : Reads w8 (b.at gp cp go co gf cf) ps ss fs := Reads.at hRd (HP7.out.below hb78 (by omega)) (((Hs.out.only HA7.out (by intro g o h; cases h; show ¬ go = gp; omega)).below hb78)) (((Hf.out.only HA7.out (by intro g o h; cases h; show ¬ gf = gp; omega)).below hb78))
  have hr2 : Reads w8 (b.at gp8 cp8 go8 co8 gf8 cf8) ps ss fs := Reads.at hRd op8.ports os8.view of8.view
  refine wpAnyH_ready (rs := [5]) (by kernel_rfl) (by simp) (AllReadyH.cons rfl (fun K hK => ?_) AllReadyH.nil)
  go_simp
  refine (same_any (b.at gp cp go co gf cf) (some ⟨gp8, 0, none⟩) cp8 (some ⟨go8, 0, none⟩) co8 (some ⟨gf8, 0, none⟩) cf8 ps ss fs _ hr1 hr2).mono ?_
  rintro e w9 ⟨rfl, hb9⟩
  have hb79 : Below w7.heap.size w7 w9 := hb78.trans (hb9.mono hb78.size)
  refine hK.out _ _ hb79 (fun hH9 => ?_)
  clear hK K
  refine wpAnyH_ready (rs := [6]) (by kernel_rfl) (by simp) (AllReadyH.cons rfl (fun K hK => ?_) AllReadyH.nil)
  go_simp
  refine hK.out _ _ hb79 (fun _ => ?_)
  clear hK K
  refine wpAnyH_ready (rs := [7]) (by kernel_rfl) (by simp) (AllReadyH.cons rfl (fun K hK => ?_) AllReadyH.nil)
  go_simp
  refine hK.out _ _ hb79 (fun _ => ?_)
  clear hK K
  refine wpAnyH_done (by kernel_rfl) ?_ _
  go_wp2_with fail
  go_ret
  exact ⟨rfl, HW4.out.trans ((HA7.out.below HW4.out.size (fun k hk => by omega)).trans (hb79.mono (Nat.le_trans HW4.out.size s1)))⟩
end Go.Proofs.Ytgemeaahecnkjaa.Br
