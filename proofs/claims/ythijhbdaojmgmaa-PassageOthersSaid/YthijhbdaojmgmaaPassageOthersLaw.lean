/- Law PassageOthers of the passage machine: the walk joined with the plain law. -/
import Derived.Test.YthijhbdaojmgmaaAwake16
import Derived.Test.YthijhbdaojmgmaaOpen
import Derived.Test.YthijhbdaojmgmaaWhole
import Derived.StillTailTactics
import Derived.Deep.RegionHeld
namespace Go.Proofs.Ythijhbdaojmgmaa.Br
set_option linter.unusedSimpArgs false
open Go.RowKit
theorem at_17 (b : Bri) (gp cp go co gf cf : Nat) : (rowB (b.at gp cp go co gf cf))[17]? = some (.slice (some ⟨gp, 0, none⟩) b.n cp) := rfl
attribute [local go_sem] zeroBr at_17 rowB_17
theorem Rec.ext' (p q : Rec) (hi : ∀ j, p.i j = q.i j) (hb : ∀ j, p.b j = q.b j) : p = q := by
  obtain ⟨pi, pb⟩ := p
  obtain ⟨qi, qb⟩ := q
  simp only [Rec.mk.injEq]
  exact ⟨funext hi, funext hb⟩
theorem back_law (p : Rec) : (((passF p).1.setI 20 (p.i 20)).setB 29 (p.b 29)).setB 27 (p.b 27) = p := by
  apply Rec.ext'
  · intro j
    unfold passF
    by_cases h : j = 20
    · subst h; rfl
    · repeat' split
      all_goals simp [Rec.setI_i, Rec.setB_i, h]
  · intro j
    unfold passF
    by_cases h : j = 29
    · subst h; rfl
    · by_cases h2 : j = 27
      · subst h2; rfl
      · repeat' split
        all_goals simp [Rec.setI_b, Rec.setB_b, h, h2]
theorem row_held {W : World} {g B : Nat} {C : Array Value} {T : TypeId} {fr : Nat × Nat} (h : W.heap[g]? = some (.cells C T fr)) (hB : g < B) : ∀ w, Below B W w → w.rangeAt g 0 C.toList := fun w hw j v hv => by
  rw [Nat.zero_add, cells_of ((hw.block g hB).trans h) j]
  simpa using hv
theorem View.only {S : Nat → Prop} {w w' : World} {a : Option Addr} {sz n : Nat} {c : Nat → Nat → Value} (h : View w a sz n c) (hb : Only S w w') (hn : ∀ g o, a = some ⟨g, o, none⟩ → ¬ S g) : View w' a sz n c := by
  rcases h with h | ⟨g, o, ha, hc⟩
  · exact .inl h
  · exact .inr ⟨g, o, ha, fun k hk j hj => by rw [hb.cell (p := ⟨g, _, none⟩) (cell_lt (hc k hk j hj)) (hn g o ha)]; exact hc k hk j hj⟩
theorem Reads.at {w w' : World} {b : Bri} {ps qs ss : Nat → Rec} {fs : Nat → Int} {gp cp go co gf cf : Nat} (hr : Reads w b ps ss fs) (hp : Ports w' gp b.n qs) (hs : View w' (some ⟨go, 0, none⟩) 18 b.no fun k j => cellS (ss k) j)
    (hf : View w' (some ⟨gf, 0, none⟩) 1 b.nf fun k _ => .int .i64 (fs k)) : Reads w' (b.at gp cp go co gf cf) qs ss fs :=
  ⟨.inr ⟨gp, 0, rfl, fun k hk j hj => by rw [Nat.zero_add]; exact hp.cell hk hj⟩, hs, hf, (fun h => by cases h), (fun h => by cases h), (fun h => by cases h), hr.pb, hr.sb, hr.fb⟩
set_option maxRecDepth 100000 in
set_option maxHeartbeats 8000000 in
theorem others_any (b : Bri) (ps ss : Nat → Rec) (fs : Nat → Int) (w : World) (i : Nat) (hi : i ≤ 255) (h : Reads0 w b ps ss fs) :
    Calls Try.prog 6 #[.agg (rowB b), .int .u8 i] w fun e w' => e = .returned (.bool true) ∧ Below w.heap.size w w' := by
  have HR := Lib.hid h
  clear h
  go_enter Try.func6, Try.ntmps6
  go_wp2_with fail
  refine (awake_any _).mono ?_
  rintro e w1 ⟨rfl, hb1⟩
  have HB : Hid (w1.heap[w.heap.size]? = some (.cells (rowB b) 33 (0, 0))) := (hb1.block _ (by simp)).trans (at_new rfl)
  have HW1 := Lib.hid (andthen (more (Below.refl w.heap.size w) _) hb1)
  clear hb1
  go_wp2_with (first | (refine loadB rfl rfl _ rfl w.heap.size rfl b HB.out ?_; simp only [Act.put, List.setIfInBounds_toArray, List.set_cons_zero, List.set_cons_succ]) | fail)
  refine (few_any b ps _ (HR.out.below HW1.out).p).mono ?_
  rintro e w2 ⟨r, rfl, hr, hb2⟩
  have HB' : Hid (w2.heap[w.heap.size]? = some (.cells (rowB b) 33 (0, 0))) := (hb2.block _ (Array.getElem?_eq_some_iff.1 HB.out).1).trans HB.out
  have HW2 := Lib.hid (andthen HW1.out hb2)
  have Hr := Lib.hid hr
  clear hb2 hr HB HW1
  cases r
  · go_wp2_with fail
    go_ret
    exact ⟨rfl, HW2.out⟩
  have HL := Lib.hid (Hr.out rfl)
  clear Hr
  have HB := HB'
  clear HB'
  have hn1 : 0 < b.n := HL.out.2.1
  have hn8 : b.n ≤ 8 := HL.out.2.2.1
  go_wp2_with (first | (refine loadB rfl rfl _ rfl w.heap.size rfl b HB.out ?_; simp only [Act.put, List.setIfInBounds_toArray, List.set_cons_zero, List.set_cons_succ]) | fail)
  refine (at_any b i _ hi hn1 hn8).mono ?_
  rintro e w3 ⟨rfl, hb3⟩
  have HB' : Hid (w3.heap[w.heap.size]? = some (.cells (rowB b) 33 (0, 0))) := (hb3.block _ (Array.getElem?_eq_some_iff.1 HB.out).1).trans HB.out
  have HW3 := Lib.hid (andthen HW2.out hb3)
  clear hb3 HB HW2
  have HB := HB'
  clear HB'
  obtain ⟨k, hk⟩ : ∃ k, k = i % b.n := ⟨_, rfl⟩
  have hkn : k < b.n := by rw [hk]; exact Nat.mod_lt _ hn1
  rw [← hk]
  have Hk := Lib.hid hk
  clear hk
  go_wp2_with (first | (refine loadB rfl rfl _ rfl w.heap.size rfl b HB.out ?_; simp only [Act.put, List.setIfInBounds_toArray, List.set_cons_zero, List.set_cons_succ]) | fail)
  refine (clone_any b ps ss fs _ ((HR.out.below HW3.out).looked HL.out)).mono ?_
  rintro e w4 ⟨gp, cp, go, co, gf, cf, rfl, hp1, hp2, hp3, op, os, of, hb⟩
  have HP := Lib.hid op.ports
  have hgl := op.lt
  have HW4 := Lib.hid (andthen HW3.out hb)
  have hge : w.heap.size ≤ gp := Nat.le_trans HW3.out.size hp1
  have HB' : Hid (w4.heap[w.heap.size]? = some (.cells (rowB b) 33 (0, 0))) := (hb.block _ (Array.getElem?_eq_some_iff.1 HB.out).1).trans HB.out
  have hlt : w.heap.size < w4.heap.size := (Array.getElem?_eq_some_iff.1 HB'.out).1
  have Hs := Lib.hid os.view
  have Hf := Lib.hid of.view
  have hlt3 : w.heap.size < w3.heap.size := (Array.getElem?_eq_some_iff.1 HB.out).1
  clear op os of hb HB
  have HB := HB'
  clear HB'
  rcases HR.out.p with h0 | ⟨g0, o0, hap, hc⟩
  · omega
  have HC := Lib.hid hc
  clear hc
  have Hap := Lib.hid hap
  clear hap
  go_wp2_with (first | (refine wpList_store_at rfl 33 _ _ rfl _ (rowB zeroBri) 33 (rowB (b.at gp cp go co gf cf)) _ rfl rfl rfl rfl (sizeB _) rfl (rowB_one _) ?_; simp only [Act.put]) | fail)
  refine (step_on _ _ gp b.n cp k ps (ps k) hkn (by simp) (by simp; omega) ?hb ((HP.out.start k).alloc _)).mono ?_
  case hb => simp [go_sem]; exact ⟨rfl, rfl, rfl⟩
  rintro e w5 ⟨rfl, hp5, ho5, hb5⟩
  have hA5 := (Only.refl (· = gp) w4).alloc _ |>.trans ho5
  have d5 : w4.heap.size < w5.heap.size := by have := ho5.size; simp at this; omega
  have hX5 : w5.heap[w4.heap.size]? = some (.cells (rowB (b.at gp cp go co gf cf)) 33 (0, 0)) := (ho5.block _ (by simp) (by omega)).trans (heap_alloc_new _ _)
  have HX5 := Lib.hid hX5
  clear hX5
  have e17 : w5.cell? ⟨w.heap.size, 17, none⟩ = some (.slice (some ⟨g0, o0, none⟩) b.n b.cp) := by
    rw [← Hap.out, hA5.cell hlt (by show ¬ w.heap.size = gp; omega)]
    exact cells_of HB.out 17
  have hg0 : g0 < w.heap.size := cell_lt (HC.out k hkn 0 (by omega))
  have hc20 : w5.cell? ⟨g0, o0 + k * 89 + 15 + 5, none⟩ = some (.int .i64 ((ps k).i 20)) := by
    rw [hA5.cell (by show g0 < w4.heap.size; omega) (by show ¬ g0 = gp; omega), HW4.out.cell hg0]
    exact HC.out k hkn 20 (by omega)
  have hc29 : w5.cell? ⟨g0, o0 + k * 89 + 22 + 7, none⟩ = some (.bool ((ps k).b 29)) := by
    rw [hA5.cell (by show g0 < w4.heap.size; omega) (by show ¬ g0 = gp; omega), HW4.out.cell hg0]
    exact HC.out k hkn 29 (by omega)
  have hc27 : w5.cell? ⟨g0, o0 + k * 89 + 22 + 5, none⟩ = some (.bool ((ps k).b 27)) := by
    rw [hA5.cell (by show g0 < w4.heap.size; omega) (by show ¬ g0 = gp; omega), HW4.out.cell hg0]
    exact HC.out k hkn 27 (by omega)
  have hk0 : (0 : Int) ≤ k := by omega
  have hk1 : (k : Int) < b.n := by omega
  go_wp2_with fail
  have n1 : ¬ gp = w4.heap.size := by omega
  have n2 : ¬ gp = w.heap.size := by omega
  have n3 : ¬ gp = g0 := by omega
  have n4 : ¬ w4.heap.size = gp := by omega
  have n5 : ¬ w.heap.size = gp := by omega
  have n6 : ¬ g0 = gp := by omega
  have hX5' := HX5.out
  have HXa5 := Lib.hid hX5'
  clear hX5' HX5
  have f20 := hp5.free (k * 89 + 15 + 5)
  have c20 := hp5.cell hkn (j := 20) (by omega)
  go_still_tail 13, (by kernel_rfl)
  change wpList _ _ _ _ _ (World.drew _)
  go_wp2_with fail
  obtain ⟨w6, hww6⟩ : ∃ x, x = (w5.setCell ⟨gp, k * 89 + 15 + 5, none⟩ (.int .i64 ((ps k).i 20))).drew := ⟨_, rfl⟩
  rw [← hww6]
  have hO5 : Only (· = gp) w5 w6 := by
    rw [hww6]
    exact ((Only.refl (· = gp) w5).setCell (Or.inl rfl) _).drew
  have hp6 : Ports w6 gp b.n (upd ps k ((passF (ps k)).1.setI 20 ((ps k).i 20))) := by
    rw [hww6]
    exact (hp5.step (j := 20) (by omega) (rowP_put_20 _ _)).drew
  have d6 : w4.heap.size < w6.heap.size := by have := hO5.size; omega
  have hA6 := hA5.trans hO5
  have HXa6 := Lib.hid ((hO5.block _ d5 n4).trans HXa5.out)
  have hb6 := (hO5.cell (p := ⟨w4.heap.size, 17, none⟩) d5 n4).trans hb5
  have e17w6 := (hO5.cell (p := ⟨w.heap.size, 17, none⟩) (by show w.heap.size < _; omega) n5).trans e17
  have hx29 := (hO5.cell (p := ⟨g0, o0 + k * 89 + 22 + 7, none⟩) (by show g0 < _; omega) n6).trans hc29
  have hx27 := (hO5.cell (p := ⟨g0, o0 + k * 89 + 22 + 5, none⟩) (by show g0 < _; omega) n6).trans hc27
  clear hww6 hb5 e17 f20 c20 hp5 hA5 hO5 HXa5 d5 hc20 hc29 hc27
  have hc29 := hx29
  clear hx29
  have hc27 := hx27
  clear hx27
  have f29 := hp6.free (k * 89 + 22 + 7)
  have c29 := hp6.cell hkn (j := 29) (by omega)
  go_still_tail 13, (by kernel_rfl)
  change wpList _ _ _ _ _ (World.drew _)
  go_wp2_with fail
  obtain ⟨w7, hww7⟩ : ∃ x, x = (w6.setCell ⟨gp, k * 89 + 22 + 7, none⟩ (.bool ((ps k).b 29))).drew := ⟨_, rfl⟩
  rw [← hww7]
  have hO6 : Only (· = gp) w6 w7 := by
    rw [hww7]
    exact ((Only.refl (· = gp) w6).setCell (Or.inl rfl) _).drew
  have hp7 : Ports w7 gp b.n (upd ps k (((passF (ps k)).1.setI 20 ((ps k).i 20)).setB 29 ((ps k).b 29))) := by
    rw [hww7]
    exact (hp6.step (j := 29) (by omega) (rowP_put_29 _ _)).drew
  have d7 : w4.heap.size < w7.heap.size := by have := hO6.size; omega
  have hA7 := hA6.trans hO6
  have HXa7 := Lib.hid ((hO6.block _ d6 n4).trans HXa6.out)
  have hb7 := (hO6.cell (p := ⟨w4.heap.size, 17, none⟩) d6 n4).trans hb6
  have e17w7 := (hO6.cell (p := ⟨w.heap.size, 17, none⟩) (by show w.heap.size < _; omega) n5).trans e17w6
  have hx27 := (hO6.cell (p := ⟨g0, o0 + k * 89 + 22 + 5, none⟩) (by show g0 < _; omega) n6).trans hc27
  clear hww7 hb6 e17w6 f29 c29 hp6 hA6 hO6 HXa6 d6 hc29 hc27
  have hc27 := hx27
  clear hx27
  have f27 := hp7.free (k * 89 + 22 + 5)
  have c27 := hp7.cell hkn (j := 27) (by omega)
  go_still_tail 13, (by kernel_rfl)
  change wpList _ _ _ _ _ (World.drew _)
  go_wp2_with fail
  obtain ⟨w8, hww8⟩ : ∃ x, x = (w7.setCell ⟨gp, k * 89 + 22 + 5, none⟩ (.bool ((ps k).b 27))).drew := ⟨_, rfl⟩
  rw [← hww8]
  have hO7 : Only (· = gp) w7 w8 := by
    rw [hww8]
    exact ((Only.refl (· = gp) w7).setCell (Or.inl rfl) _).drew
  have hp8 : Ports w8 gp b.n (upd ps k ((((passF (ps k)).1.setI 20 ((ps k).i 20)).setB 29 ((ps k).b 29)).setB 27 ((ps k).b 27))) := by
    rw [hww8]
    exact (hp7.step (j := 27) (by omega) (rowP_put_27 _ _)).drew
  have d8 : w4.heap.size < w8.heap.size := by have := hO7.size; omega
  have hA8 := hA7.trans hO7
  have HXa8 := Lib.hid ((hO7.block _ d7 n4).trans HXa7.out)
  have hb8 := (hO7.cell (p := ⟨w4.heap.size, 17, none⟩) d7 n4).trans hb7
  have e17w8 := (hO7.cell (p := ⟨w.heap.size, 17, none⟩) (by show w.heap.size < _; omega) n5).trans e17w7
  clear hww8 hb7 e17w7 f27 c27 hp7 hA7 hO7 HXa7 d7 hc27
  obtain ⟨wz, hwz⟩ : ∃ x, x = w8 := ⟨_, rfl⟩
  have hpz : Ports wz gp b.n ps := by
    rw [hwz]
    have h := hp8
    rw [back_law, upd_self] at h
    exact h
  have hAz : Only (· = gp) w4 wz := by rw [hwz]; exact hA8
  have hX : wz.heap[w4.heap.size]? = some (.cells (rowB (b.at gp cp go co gf cf)) 33 (0, 0)) := by rw [hwz]; exact HXa8.out
  rw [← hwz]
  clear hwz hp8 hA8 HXa8 hb8 e17w8 d8
  have hB7 : wz.heap[w.heap.size]? = some (.cells (rowB b) 33 (0, 0)) := (hAz.block _ hlt n5).trans HB.out
  have d7 : w4.heap.size < wz.heap.size := (Array.getElem?_eq_some_iff.1 hX).1
  have d7' : w.heap.size < wz.heap.size := (Array.getElem?_eq_some_iff.1 hB7).1
  have HX := Lib.hid hX
  have HB7 := Lib.hid hB7
  have HP7 := Lib.hid hpz
  have HA7 := Lib.hid hAz
  clear hX hB7 hpz hAz
  refine wp_region_held_drew (S := fun w' => Below wz.heap.size wz w') (by kernel_rfl) (Below.refl _ _).drew (fun hH => ?_)
  refine wpAnyH_take (i := 0) rfl (by kernel_rfl) (by kernel_rfl) (by kernel_rfl) (fun _ _ _ h => h) (Or.inl ⟨by rfl, fun w _ => rfl⟩) hH ?_
  simp only [Act.put, List.setIfInBounds_toArray]
  refine wpAnyH_take (i := 1) rfl (by kernel_rfl) (by kernel_rfl) (by kernel_rfl) (fun _ _ _ h => h) (Or.inl ⟨by rfl, fun w _ => rfl⟩) hH ?_
  simp only [Act.put]
  refine wpAnyH_take (i := 2) rfl (by kernel_rfl) (by kernel_rfl) (by kernel_rfl) (fun _ _ _ h => h) (yieldsIf_load_mid (by rfl) 33 _ rfl w4.heap.size 0 rfl (rowB (b.at gp cp go co gf cf)).toList _ (row_held HX.out d7) Try.underlying33 rfl (sizeB _)) hH ?_
  simp only [Act.put]
  refine wpAnyH_take (i := 3) rfl (by kernel_rfl) (by kernel_rfl) (by kernel_rfl) (fun _ _ _ h => h) (yieldsIf_load_mid (by rfl) 33 _ rfl w.heap.size 0 rfl (rowB b).toList _ (row_held HB7.out d7') Try.underlying33 rfl (sizeB _)) hH ?_
  simp only [Act.put]
  refine wpAnyH_ready (rs := [4]) (by kernel_rfl) (by simp) (AllReadyH.cons rfl (fun K hK => ?_) AllReadyH.nil)
  go_simp
  have hR0 := HR.out
  have hRd := ((hR0.below (HW4.out.trans (HA7.out.below HW4.out.size (fun k hk => by omega)))).looked HL.out).below ((Below.refl wz.heap.size wz).drew)
  refine (clone_any b ps ss fs _ hRd).mono ?_
  rintro e w8 ⟨gp8, cp8, go8, co8, gf8, cf8, rfl, q1, q2, q3, op8, os8, of8, hb8⟩
  have hb78 : Below wz.heap.size wz w8 := (Below.refl wz.heap.size wz).drew.trans hb8
  have HB78 := Lib.hid hb78
  refine hK.out _ _ hb78 (fun hH8 => ?_)
  clear hK K
  have s1 : w4.heap.size ≤ wz.heap.size := HA7.out.size
  have hr1 : Reads w8 (b.at gp cp go co gf cf) ps ss fs := Reads.at hRd (HP7.out.below hb78 (by omega)) (((Hs.out.only HA7.out (by intro g o h; cases h; show ¬ go = gp; omega)).below hb78)) (((Hf.out.only HA7.out (by intro g o h; cases h; show ¬ gf = gp; omega)).below hb78))
  have hr2 : Reads w8 (b.at gp8 cp8 go8 co8 gf8 cf8) ps ss fs := Reads.at hRd op8.ports os8.view of8.view
  refine wpAnyH_ready (rs := [5]) (by kernel_rfl) (by simp) (AllReadyH.cons rfl (fun K hK => ?_) AllReadyH.nil)
  go_simp
  refine (same_any (b.at gp cp go co gf cf) (some ⟨gp8, 0, none⟩) cp8 (some ⟨go8, 0, none⟩) co8 (some ⟨gf8, 0, none⟩) cf8 ps ss fs _ hr1 hr2).mono ?_
  rintro e w9 ⟨rfl, hb9⟩
  have hb79 : Below wz.heap.size wz w9 := hb78.trans (hb9.mono hb78.size)
  refine hK.out _ _ hb79 (fun hH9 => ?_)
  clear hK K
  refine wpAnyH_ready (rs := [6]) (by kernel_rfl) (by simp) (AllReadyH.cons rfl (fun K hK => ?_) AllReadyH.nil)
  go_simp
  refine hK.out _ _ hb79 (fun _ => ?_)
  clear hK K
  refine wpAnyH_ready (rs := [7]) (by kernel_rfl) (by simp) (AllReadyH.cons rfl (fun K hK => ?_) AllReadyH.nil)
  go_simp
  refine hK.out _ _ hb79 (fun _ => ?_)
  clear hK K
  refine wpAnyH_done (by kernel_rfl) ?_ _
  go_wp2_with fail
  go_ret
  exact ⟨rfl, HW4.out.trans ((HA7.out.below HW4.out.size (fun k hk => by omega)).trans (hb79.mono (Nat.le_trans HW4.out.size s1)))⟩
end Go.Proofs.Ythijhbdaojmgmaa.Br
