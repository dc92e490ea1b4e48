-- PRINTED BY print.sh 35421559b90ae4d0a3588c463048766b98c2df88dd9212a6774a882060cdf62d: not written by this session
import Derived.Test.YtjkjlaliahpbaaaPTimesAgesx0
import Derived.Test.YtjkjlaliahpbaaaPTimesAgesx2
namespace Go.Proofs.Ytjkjlaliahpbaaa.PTimesAges
open Go.RowKit Go.Proofs.YtjkjlaliahpbaaaW.PrintWords Go.Proofs.YtjkjlaliahpbaaaW.PrintLast Go.Proofs.YtjkjlaliahpbaaaW.PrintMore
attribute [local go_sem] max2_int min2_int max_two min_two max_three min_three max_four min_four   -- for this text's walks alone
set_option linter.unusedVariables false
set_option linter.unusedSimpArgs false

/-! ### fordlaw04_TimesAges: function 6 -/
def fordlaw04_TimesAges.l0 : Nat → Int → Int → Int → Int → Bool → Int → Int → Int → Int → Int → Int → Option (Bool)
  | 0, _, _, _, _, _, _, _, _, _, _, _ => none
  | k + 1, x0, x1, x2, x3, x9, x11, x12, x124000, x124001, x124002, x124003 => if x12 < (wrap64 (x3)) then ((times_Older.f x124000 x124001 x124002 x124003).bind fun bt125 => (fordlaw04_TimesAges.l0 k x0 x1 x2 x3 x9 x11 (wrap64 (x12 + 1)) bt125.1 bt125.2.1 bt125.2.2.1 bt125.2.2.2)) else ((times_Waits.f x124000 x124001 x124002 x124003).bind fun t129 => (if x9 = true then (if x124000 = (wrap64 ((wrap64 (x0)) + (wrap64 (x3)))) then (if t129 = x11 then (if x2 > 0 then (some ((decide (t129 > 0)) == (decide ((wrap64 ((wrap64 (x0)) + (wrap64 (x3)))) < (wrap64 (x1)))))) else (some ((decide (t129 > 0)) == false))) else (if t129 = 0 then (if x2 > 0 then (some ((decide (t129 > 0)) == (decide ((wrap64 ((wrap64 (x0)) + (wrap64 (x3)))) < (wrap64 (x1)))))) else (some ((decide (t129 > 0)) == false))) else (some false))) else (some false)) else (some false)))
def fordlaw04_TimesAges.f (k : Nat) (a0 : Int) (a1 : Int) (a2 : Int) (a3 : Int) : Option (Bool) := (fordlaw04_awake.f).bind fun t122 => ((times_Waits.f (wrap64 (a0)) (wrap64 (a1)) (wrap64 (a2)) 15).bind fun t124 => (fordlaw04_TimesAges.l0 k a0 a1 a2 a3 t122 t124 0 (wrap64 (a0)) (wrap64 (a1)) (wrap64 (a2)) 15))
theorem fordlaw04_TimesAges.mono_l : ∀ k, (∀ y0 y1 y2 y3 y4 y5 y6 y7 y8 y9 y10, LeO (fordlaw04_TimesAges.l0 k y0 y1 y2 y3 y4 y5 y6 y7 y8 y9 y10) (fordlaw04_TimesAges.l0 (k + 1) y0 y1 y2 y3 y4 y5 y6 y7 y8 y9 y10))
  | 0 => fun _ _ _ _ _ _ _ _ _ _ _ r h => by simp [fordlaw04_TimesAges.l0] at h
  | k + 1 => by
    have ih0 := fordlaw04_TimesAges.mono_l k
    · intro y0 y1 y2 y3 y4 y5 y6 y7 y8 y9 y10
      unfold fordlaw04_TimesAges.l0
      repeat' first
      | (with_reducible exact ih0 _ _ _ _ _ _ _ _ _ _ _)
      | (with_reducible exact LeO.refl _)
      | (with_reducible exact LeO.none _)
      | (with_reducible refine LeO.ite ?_ ?_)
      | (with_reducible refine LeO.bind ?_ (fun _ => ?_))
      | exact ih0 _ _ _ _ _ _ _ _ _ _ _
      | exact LeO.none _
      | refine LeO.ite ?_ ?_
      | refine LeO.bind ?_ (fun _ => ?_)
theorem fordlaw04_TimesAges.mono : ∀ a0 a1 a2 a3 k, LeO (fordlaw04_TimesAges.f k a0 a1 a2 a3) (fordlaw04_TimesAges.f (k + 1) a0 a1 a2 a3) := by
  intro a0 a1 a2 a3 k
  have ih0 := fordlaw04_TimesAges.mono_l k
  unfold fordlaw04_TimesAges.f
  repeat' first
      | (with_reducible exact ih0 _ _ _ _ _ _ _ _ _ _ _)
      | (with_reducible exact LeO.refl _)
      | (with_reducible exact LeO.none _)
      | (with_reducible refine LeO.ite ?_ ?_)
      | (with_reducible refine LeO.bind ?_ (fun _ => ?_))
      | exact ih0 _ _ _ _ _ _ _ _ _ _ _
      | exact LeO.none _
      | refine LeO.ite ?_ ?_
      | refine LeO.bind ?_ (fun _ => ?_)
set_option maxHeartbeats 8000000 in
set_option maxRecDepth 100000 in
theorem fordlaw04_TimesAges.calls (k : Nat) (a0 : Int) (a1 : Int) (a2 : Int) (a3 : Int) (r : Bool) (w : World) (h : fordlaw04_TimesAges.f k a0 a1 a2 a3 = some r) :
    Calls Try.prog 6 #[.int .u8 a0, .int .u8 a1, .int .u8 a2, .int .u8 a3] w fun e w' => e = .returned (.bool r) ∧ Below w.heap.size w w' := by
  have hu23 := Try.underlying23
  have HB := Aside0.mk (Below.refl w.heap.size w)
  have H : ((fordlaw04_awake.f).bind fun t122 => ((times_Waits.f (wrap64 (a0)) (wrap64 (a1)) (wrap64 (a2)) 15).bind fun t124 => (fordlaw04_TimesAges.l0 k a0 a1 a2 a3 t122 t124 0 (wrap64 (a0)) (wrap64 (a1)) (wrap64 (a2)) 15))) = some r := h
  clear h
  replace H := Option.bind_eq_some_iff.mp H
  obtain ⟨t122, A50, H⟩ := H
  replace H : ((times_Waits.f (wrap64 (a0)) (wrap64 (a1)) (wrap64 (a2)) 15).bind fun t124 => (fordlaw04_TimesAges.l0 k a0 a1 a2 a3 t122 t124 0 (wrap64 (a0)) (wrap64 (a1)) (wrap64 (a2)) 15)) = some r := H
  have A5 := Aside0.mk A50
  clear A50
  replace H := Option.bind_eq_some_iff.mp H
  obtain ⟨t124, A60, H⟩ := H
  replace H : (fordlaw04_TimesAges.l0 k a0 a1 a2 a3 t122 t124 0 (wrap64 (a0)) (wrap64 (a1)) (wrap64 (a2)) 15) = some r := H
  have A6 := Aside0.mk A60
  clear A60
  have H' := Aside0.mk H
  clear H
  go_enter Try.func6, Try.ntmps6
  go_wp2_with (first | ((with_reducible refine gate_callee (f := 8) rfl ?_); refine goesL_ (some 14) rfl rfl Try.func8 (by kernel_rfl) rfl #[] rfl (by (try simp only [List.map_toArray, List.map_cons, List.map_nil]); first | done | rfl | (simp only [List.length_drop, List.length_take]; rfl)) ?_; (with_reducible refine (fordlaw04_awake.calls  t122 _ A5.out).mono ?_); rintro e w7 ⟨rfl, hb⟩; refine ⟨_, rfl, ?_⟩; have n0_ := Aside0.mk (below_step (by repeat (first | (with_reducible first | exact HB.out | apply below_alloc | apply pw_below_drewN | apply below_drew1) | exact HB.out)) hb); clear HB; have HB := n0_; clear n0_; (try clear hb); (try clear hb2); (try clear hk); (try clear hi)) | ((with_reducible refine gate_dst (N := 10) rfl ?_); refine box_event ?hg (N := 10) ?hd (cs := #[.int .i64 0, .int .i64 0, .int .i64 0, .int .i64 0]) (t := 23) ?hr ?_; (case hd => rfl); (case hg => rfl); (case hr => first | (go_simp; done) | (go_simp; rfl)); intro gb123 hg w8 hbox hb; have n0_ := Aside0.mk (below_step (by repeat (first | (with_reducible first | exact HB.out | apply below_alloc | apply pw_below_drewN | apply below_drew1) | exact HB.out)) hb); have n1_ := Aside0.mk (hbox); have n2_ := Aside0.mk ((by rw [hg]; exact (below_size (by repeat (first | (with_reducible first | exact HB.out | apply below_alloc | apply pw_below_drewN | apply below_drew1) | exact HB.out))) : w.heap.size ≤ gb123)); have n3_ := Aside0.mk ((by rw [hg]; exact (below_size (by repeat (first | (with_reducible first | exact HB.out | apply below_alloc | apply pw_below_drewN | apply below_drew1) | exact HB.out))) : w.heap.size ≤ gb123)); clear HB; have HB := n0_; have BK123 := n1_; have GW123 := n2_; have GE123 := n3_; clear n0_ n1_ n2_ n3_; clear hb hbox hg; have hcz9_0 : w8.cell? ⟨gb123, 0, none⟩ = some (.int .i64 0) := (blk_cell BK123.out 0).trans rfl; have hcz9_1 : w8.cell? ⟨gb123, 1, none⟩ = some (.int .i64 0) := (blk_cell BK123.out 1).trans rfl; have hcz9_2 : w8.cell? ⟨gb123, 2, none⟩ = some (.int .i64 0) := (blk_cell BK123.out 2).trans rfl; have hcz9_3 : w8.cell? ⟨gb123, 3, none⟩ = some (.int .i64 0) := (blk_cell BK123.out 3).trans rfl; have hfz9_0 := blk_frozen BK123.out 0; have hfz9_1 := blk_frozen BK123.out 1; have hfz9_2 := blk_frozen BK123.out 2; have hfz9_3 := blk_frozen BK123.out 3) | ((with_reducible refine gate_callee (f := 12) rfl ?_); refine goesL_ (some 23) rfl rfl Try.func12 (by kernel_rfl) rfl #[.agg #[.int .i64 (wrap64 (a0)), .int .i64 (wrap64 (a1)), .int .i64 (wrap64 (a2)), .int .i64 15]] rfl (by (try simp only [List.map_toArray, List.map_cons, List.map_nil]); first | done | rfl | (simp only [List.length_drop, List.length_take]; rfl)) ?_; (with_reducible refine (times_Waits.calls (wrap64 (a0)) (wrap64 (a1)) (wrap64 (a2)) 15 t124 _ A6.out).mono ?_); rintro e w10 ⟨rfl, hb⟩; refine ⟨_, rfl, ?_⟩; have n0_ := Aside0.mk (blk_below (g := gb123) (o := .cells #[.int .i64 (wrap64 (a0)), .int .i64 (wrap64 (a1)), .int .i64 (wrap64 (a2)), .int .i64 15] 23 (0, 0)) (by (with_reducible repeat (first | refine blk_drewN ?_ _ | refine blk_drew ?_ | refine blk_alloc ?_ _)); refine blk_put (cs := #[.int .i64 (wrap64 (a0)), .int .i64 (wrap64 (a1)), .int .i64 (wrap64 (a2)), .int .i64 0]) ?_ 3 _ rfl; (with_reducible repeat (first | refine blk_drewN ?_ _ | refine blk_drew ?_ | refine blk_alloc ?_ _)); refine blk_put (cs := #[.int .i64 (wrap64 (a0)), .int .i64 (wrap64 (a1)), .int .i64 0, .int .i64 0]) ?_ 2 _ rfl; (with_reducible repeat (first | refine blk_drewN ?_ _ | refine blk_drew ?_ | refine blk_alloc ?_ _)); refine blk_put (cs := #[.int .i64 (wrap64 (a0)), .int .i64 0, .int .i64 0, .int .i64 0]) ?_ 1 _ rfl; (with_reducible repeat (first | refine blk_drewN ?_ _ | refine blk_drew ?_ | refine blk_alloc ?_ _)); refine blk_put (cs := #[.int .i64 0, .int .i64 0, .int .i64 0, .int .i64 0]) ?_ 0 _ rfl; (with_reducible repeat (first | refine blk_drewN ?_ _ | refine blk_drew ?_ | refine blk_alloc ?_ _)); exact BK123.out) hb); have n1_ := Aside0.mk (below_step (by repeat (first | (with_reducible first | exact HB.out | apply below_alloc | apply pw_below_drewN | apply below_drew1 | refine below_set ?_ GE123.out) | exact HB.out)) hb); clear BK123; clear HB; have BK123 := n0_; have HB := n1_; clear n0_ n1_; (try clear hb); (try clear hb2); (try clear hk); (try clear hi)))
  go_loopg [12] k (fun kq v12 w' => ∃ (x12_1 : Int) (x124000_1 : Int) (x124001_1 : Int) (x124002_1 : Int) (x124003_1 : Int), v12 = .int .i64 x12_1 ∧ Aside0 (fordlaw04_TimesAges.l0 kq a0 a1 a2 a3 t122 t124 x12_1 x124000_1 x124001_1 x124002_1 x124003_1 = some r) ∧ Aside0 (kq ≤ k) ∧ Aside0 (w'.heap[gb123]? = some (.cells #[.int .i64 x124000_1, .int .i64 x124001_1, .int .i64 x124002_1, .int .i64 x124003_1] 23 (0, 0))) ∧ Aside0 (Below w.heap.size w w'))
  case atStart => exact ⟨(0), (wrap64 (a0)), (wrap64 (a1)), (wrap64 (a2)), (15), (by first | rfl | (simp; done) | (simp [*]; done)), H', ⟨Nat.le_refl _⟩, ⟨by (with_reducible repeat (first | refine blk_drewN ?_ _ | refine blk_drew ?_ | refine blk_alloc ?_ _)); exact BK123.out⟩, ⟨by repeat (first | (with_reducible first | exact HB.out | apply below_alloc | apply pw_below_drewN | apply below_drew1 | refine below_set ?_ GE123.out) | exact HB.out)⟩⟩
  case round =>
    clear H'
    try clear c1
    try clear p2
    try clear c6
    try clear p6
    try clear c8
    try clear hcz9_0
    try clear hcz9_1
    try clear hcz9_2
    try clear hcz9_3
    try clear hfz9_0
    try clear hfz9_1
    try clear hfz9_2
    try clear hfz9_3
    obtain ⟨x12_1, x124000_1, x124001_1, x124002_1, x124003_1, rfl, HA, HK1, BK123, HB⟩ := hrel
    cases gk with
    | zero => exact absurd HA.out (by simp [fordlaw04_TimesAges.l0])
    | succ k1 =>
      have H := HA.out
      clear HA
      simp only [fordlaw04_TimesAges.l0] at H
      by_cases c11 : x12_1 < (wrap64 (a3))
      · rw [if_pos c11] at H
        have c11b0 : decide (x12_1 < (wrap64 (a3))) = true := decide_eq_true c11
        clear c11
        replace H := Option.bind_eq_some_iff.mp H
        obtain ⟨⟨t125, t126, t127, t128⟩, A120, H⟩ := H
        replace H : (fordlaw04_TimesAges.l0 k1 a0 a1 a2 a3 t122 t124 (wrap64 (x12_1 + 1)) t125 t126 t127 t128) = some r := H
        have A12 := Aside0.mk A120
        clear A120
        have H' := Aside0.mk H
        clear H
        have hcz13_0 : wr.cell? ⟨gb123, 0, none⟩ = some (.int .i64 x124000_1) := (blk_cell BK123.out 0).trans rfl
        have hcz13_1 : wr.cell? ⟨gb123, 1, none⟩ = some (.int .i64 x124001_1) := (blk_cell BK123.out 1).trans rfl
        have hcz13_2 : wr.cell? ⟨gb123, 2, none⟩ = some (.int .i64 x124002_1) := (blk_cell BK123.out 2).trans rfl
        have hcz13_3 : wr.cell? ⟨gb123, 3, none⟩ = some (.int .i64 x124003_1) := (blk_cell BK123.out 3).trans rfl
        have hfz13_0 := blk_frozen BK123.out 0
        have hfz13_1 := blk_frozen BK123.out 1
        have hfz13_2 := blk_frozen BK123.out 2
        have hfz13_3 := blk_frozen BK123.out 3
        go_wp2_with (first | ((with_reducible refine gate_callee (f := 14) rfl ?_); refine goesL_ (some 31) rfl rfl Try.func14 (by kernel_rfl) rfl #[.agg #[.int .i64 x124000_1, .int .i64 x124001_1, .int .i64 x124002_1, .int .i64 x124003_1]] rfl (by (try simp only [List.map_toArray, List.map_cons, List.map_nil]); first | done | rfl | (simp only [List.length_drop, List.length_take]; rfl)) ?_; (with_reducible refine (times_Older.calls x124000_1 x124001_1 x124002_1 x124003_1 t125 t126 t127 t128 _ A12.out).mono ?_); rintro e w14 ⟨rfl, hb⟩; refine ⟨_, rfl, ?_⟩; have n0_ := Aside0.mk (blk_below (g := gb123) (o := .cells #[.int .i64 x124000_1, .int .i64 x124001_1, .int .i64 x124002_1, .int .i64 x124003_1] 23 (0, 0)) (by (with_reducible repeat (first | refine blk_drewN ?_ _ | refine blk_drew ?_ | refine blk_alloc ?_ _)); exact BK123.out) hb); have n1_ := Aside0.mk (below_step (by repeat (first | (with_reducible first | exact HB.out | apply below_alloc | apply pw_below_drewN | apply below_drew1 | refine below_set ?_ GE123.out) | exact HB.out)) hb); clear BK123; clear HB; have BK123 := n0_; have HB := n1_; clear n0_ n1_; (try clear hb); (try clear hb2); (try clear hk); (try clear hi); have hcz15_0 : w14.cell? ⟨gb123, 0, none⟩ = some (.int .i64 x124000_1) := (blk_cell BK123.out 0).trans rfl; have hcz15_1 : w14.cell? ⟨gb123, 1, none⟩ = some (.int .i64 x124001_1) := (blk_cell BK123.out 1).trans rfl; have hcz15_2 : w14.cell? ⟨gb123, 2, none⟩ = some (.int .i64 x124002_1) := (blk_cell BK123.out 2).trans rfl; have hcz15_3 : w14.cell? ⟨gb123, 3, none⟩ = some (.int .i64 x124003_1) := (blk_cell BK123.out 3).trans rfl; have hfz15_0 := blk_frozen BK123.out 0; have hfz15_1 := blk_frozen BK123.out 1; have hfz15_2 := blk_frozen BK123.out 2; have hfz15_3 := blk_frozen BK123.out 3))
        go_roundg k1
        case measure => have := HK1.out; omega
        case rel => exact ⟨(wrap64 (x12_1 + 1)), (t125), (t126), (t127), (t128), (by first | rfl | (simp; done) | (simp [*]; done)), H', ⟨by have := HK1.out; omega⟩, ⟨by (with_reducible repeat (first | refine blk_drewN ?_ _ | refine blk_drew ?_ | refine blk_alloc ?_ _)); refine blk_put (cs := #[.int .i64 t125, .int .i64 t126, .int .i64 t127, .int .i64 x124003_1]) ?_ 3 _ rfl; (with_reducible repeat (first | refine blk_drewN ?_ _ | refine blk_drew ?_ | refine blk_alloc ?_ _)); refine blk_put (cs := #[.int .i64 t125, .int .i64 t126, .int .i64 x124002_1, .int .i64 x124003_1]) ?_ 2 _ rfl; (with_reducible repeat (first | refine blk_drewN ?_ _ | refine blk_drew ?_ | refine blk_alloc ?_ _)); refine blk_put (cs := #[.int .i64 t125, .int .i64 x124001_1, .int .i64 x124002_1, .int .i64 x124003_1]) ?_ 1 _ rfl; (with_reducible repeat (first | refine blk_drewN ?_ _ | refine blk_drew ?_ | refine blk_alloc ?_ _)); refine blk_put (cs := #[.int .i64 x124000_1, .int .i64 x124001_1, .int .i64 x124002_1, .int .i64 x124003_1]) ?_ 0 _ rfl; (with_reducible repeat (first | refine blk_drewN ?_ _ | refine blk_drew ?_ | refine blk_alloc ?_ _)); exact BK123.out⟩, ⟨by repeat (first | (with_reducible first | exact HB.out | apply below_alloc | apply pw_below_drewN | apply below_drew1 | refine below_set ?_ GE123.out) | exact HB.out)⟩⟩
      · rw [if_neg c11] at H
        have c11b0 : decide (x12_1 < (wrap64 (a3))) = false := decide_eq_false c11
        clear c11
        replace H := Option.bind_eq_some_iff.mp H
        obtain ⟨t129, A160, H⟩ := H
        replace H : (if t122 = true then (if x124000_1 = (wrap64 ((wrap64 (a0)) + (wrap64 (a3)))) then (if t129 = t124 then (if a2 > 0 then (some ((decide (t129 > 0)) == (decide ((wrap64 ((wrap64 (a0)) + (wrap64 (a3)))) < (wrap64 (a1)))))) else (some ((decide (t129 > 0)) == false))) else (if t129 = 0 then (if a2 > 0 then (some ((decide (t129 > 0)) == (decide ((wrap64 ((wrap64 (a0)) + (wrap64 (a3)))) < (wrap64 (a1)))))) else (some ((decide (t129 > 0)) == false))) else (some false))) else (some false)) else (some false)) = some r := H
        have A16 := Aside0.mk A160
        clear A160
        by_cases c17 : t122 = true
        · subst c17
          have H1 : (if x124000_1 = (wrap64 ((wrap64 (a0)) + (wrap64 (a3)))) then (if t129 = t124 then (if a2 > 0 then (some ((decide (t129 > 0)) == (decide ((wrap64 ((wrap64 (a0)) + (wrap64 (a3)))) < (wrap64 (a1)))))) else (some ((decide (t129 > 0)) == false))) else (if t129 = 0 then (if a2 > 0 then (some ((decide (t129 > 0)) == (decide ((wrap64 ((wrap64 (a0)) + (wrap64 (a3)))) < (wrap64 (a1)))))) else (some ((decide (t129 > 0)) == false))) else (some false))) else (some false)) = some r := by rw [if_pos rfl] at H; exact H
          clear H
          have H := H1
          clear H1
          by_cases c18 : x124000_1 = (wrap64 ((wrap64 (a0)) + (wrap64 (a3))))
          · rw [if_pos c18] at H
            have c18b0 : (x124000_1 == (wrap64 ((wrap64 (a0)) + (wrap64 (a3))))) = true := beq_iff_eq.mpr c18
            have c18b1 : (x124000_1 != (wrap64 ((wrap64 (a0)) + (wrap64 (a3))))) = false := bne_eq_false_iff_eq.mpr c18
            clear c18
            by_cases c19 : t129 = t124
            · rw [if_pos c19] at H
              have c19b0 : (t129 == t124) = true := beq_iff_eq.mpr c19
              have c19b1 : (t129 != t124) = false := bne_eq_false_iff_eq.mpr c19
              clear c19
              by_cases c20 : a2 > 0
              · rw [if_pos c20] at H
                have c20b0 : decide (0 < a2) = true := decide_eq_true c20
                clear c20
                obtain rfl := Option.some.inj H
                have hcz21_0 : wr.cell? ⟨gb123, 0, none⟩ = some (.int .i64 x124000_1) := (blk_cell BK123.out 0).trans rfl
                have hcz21_1 : wr.cell? ⟨gb123, 1, none⟩ = some (.int .i64 x124001_1) := (blk_cell BK123.out 1).trans rfl
                have hcz21_2 : wr.cell? ⟨gb123, 2, none⟩ = some (.int .i64 x124002_1) := (blk_cell BK123.out 2).trans rfl
                have hcz21_3 : wr.cell? ⟨gb123, 3, none⟩ = some (.int .i64 x124003_1) := (blk_cell BK123.out 3).trans rfl
                have hfz21_0 := blk_frozen BK123.out 0
                have hfz21_1 := blk_frozen BK123.out 1
                have hfz21_2 := blk_frozen BK123.out 2
                have hfz21_3 := blk_frozen BK123.out 3
                go_wp2_with (first | ((with_reducible refine gate_callee (f := 12) rfl ?_); refine goesL_ (some 33) rfl rfl Try.func12 (by kernel_rfl) rfl #[.agg #[.int .i64 x124000_1, .int .i64 x124001_1, .int .i64 x124002_1, .int .i64 x124003_1]] rfl (by (try simp only [List.map_toArray, List.map_cons, List.map_nil]); first | done | rfl | (simp only [List.length_drop, List.length_take]; rfl)) ?_; (with_reducible refine (times_Waits.calls x124000_1 x124001_1 x124002_1 x124003_1 t129 _ A16.out).mono ?_); rintro e w22 ⟨rfl, hb⟩; refine ⟨_, rfl, ?_⟩; have n0_ := Aside0.mk (blk_below (g := gb123) (o := .cells #[.int .i64 x124000_1, .int .i64 x124001_1, .int .i64 x124002_1, .int .i64 x124003_1] 23 (0, 0)) (by (with_reducible repeat (first | refine blk_drewN ?_ _ | refine blk_drew ?_ | refine blk_alloc ?_ _)); exact BK123.out) hb); have n1_ := Aside0.mk (below_step (by repeat (first | (with_reducible first | exact HB.out | apply below_alloc | apply pw_below_drewN | apply below_drew1 | refine below_set ?_ GE123.out) | exact HB.out)) hb); clear BK123; clear HB; have BK123 := n0_; have HB := n1_; clear n0_ n1_; (try clear hb); (try clear hb2); (try clear hk); (try clear hi); have hcz23_0 : w22.cell? ⟨gb123, 0, none⟩ = some (.int .i64 x124000_1) := (blk_cell BK123.out 0).trans rfl; have hcz23_1 : w22.cell? ⟨gb123, 1, none⟩ = some (.int .i64 x124001_1) := (blk_cell BK123.out 1).trans rfl; have hcz23_2 : w22.cell? ⟨gb123, 2, none⟩ = some (.int .i64 x124002_1) := (blk_cell BK123.out 2).trans rfl; have hcz23_3 : w22.cell? ⟨gb123, 3, none⟩ = some (.int .i64 x124003_1) := (blk_cell BK123.out 3).trans rfl; have hfz23_0 := blk_frozen BK123.out 0; have hfz23_1 := blk_frozen BK123.out 1; have hfz23_2 := blk_frozen BK123.out 2; have hfz23_3 := blk_frozen BK123.out 3))
                go_ret
                exact ⟨by first | rfl | (simp [errW_none, errW_some] <;> rfl) | (simp [*, errW_none, errW_some] <;> rfl), by repeat (first | (with_reducible first | exact HB.out | apply below_alloc | apply pw_below_drewN | apply below_drew1 | refine below_set ?_ GE123.out) | exact HB.out)⟩
              · rw [if_neg c20] at H
                have c20b0 : decide (0 < a2) = false := decide_eq_false c20
                clear c20
                obtain rfl := Option.some.inj H
                have hcz24_0 : wr.cell? ⟨gb123, 0, none⟩ = some (.int .i64 x124000_1) := (blk_cell BK123.out 0).trans rfl
                have hcz24_1 : wr.cell? ⟨gb123, 1, none⟩ = some (.int .i64 x124001_1) := (blk_cell BK123.out 1).trans rfl
                have hcz24_2 : wr.cell? ⟨gb123, 2, none⟩ = some (.int .i64 x124002_1) := (blk_cell BK123.out 2).trans rfl
                have hcz24_3 : wr.cell? ⟨gb123, 3, none⟩ = some (.int .i64 x124003_1) := (blk_cell BK123.out 3).trans rfl
                have hfz24_0 := blk_frozen BK123.out 0
                have hfz24_1 := blk_frozen BK123.out 1
                have hfz24_2 := blk_frozen BK123.out 2
                have hfz24_3 := blk_frozen BK123.out 3
                go_wp2_with (first | ((with_reducible refine gate_callee (f := 12) rfl ?_); refine goesL_ (some 33) rfl rfl Try.func12 (by kernel_rfl) rfl #[.agg #[.int .i64 x124000_1, .int .i64 x124001_1, .int .i64 x124002_1, .int .i64 x124003_1]] rfl (by (try simp only [List.map_toArray, List.map_cons, List.map_nil]); first | done | rfl | (simp only [List.length_drop, List.length_take]; rfl)) ?_; (with_reducible refine (times_Waits.calls x124000_1 x124001_1 x124002_1 x124003_1 t129 _ A16.out).mono ?_); rintro e w25 ⟨rfl, hb⟩; refine ⟨_, rfl, ?_⟩; have n0_ := Aside0.mk (blk_below (g := gb123) (o := .cells #[.int .i64 x124000_1, .int .i64 x124001_1, .int .i64 x124002_1, .int .i64 x124003_1] 23 (0, 0)) (by (with_reducible repeat (first | refine blk_drewN ?_ _ | refine blk_drew ?_ | refine blk_alloc ?_ _)); exact BK123.out) hb); have n1_ := Aside0.mk (below_step (by repeat (first | (with_reducible first | exact HB.out | apply below_alloc | apply pw_below_drewN | apply below_drew1 | refine below_set ?_ GE123.out) | exact HB.out)) hb); clear BK123; clear HB; have BK123 := n0_; have HB := n1_; clear n0_ n1_; (try clear hb); (try clear hb2); (try clear hk); (try clear hi); have hcz26_0 : w25.cell? ⟨gb123, 0, none⟩ = some (.int .i64 x124000_1) := (blk_cell BK123.out 0).trans rfl; have hcz26_1 : w25.cell? ⟨gb123, 1, none⟩ = some (.int .i64 x124001_1) := (blk_cell BK123.out 1).trans rfl; have hcz26_2 : w25.cell? ⟨gb123, 2, none⟩ = some (.int .i64 x124002_1) := (blk_cell BK123.out 2).trans rfl; have hcz26_3 : w25.cell? ⟨gb123, 3, none⟩ = some (.int .i64 x124003_1) := (blk_cell BK123.out 3).trans rfl; have hfz26_0 := blk_frozen BK123.out 0; have hfz26_1 := blk_frozen BK123.out 1; have hfz26_2 := blk_frozen BK123.out 2; have hfz26_3 := blk_frozen BK123.out 3))
                go_ret
                exact ⟨by first | rfl | (simp [errW_none, errW_some] <;> rfl) | (simp [*, errW_none, errW_some] <;> rfl), by repeat (first | (with_reducible first | exact HB.out | apply below_alloc | apply pw_below_drewN | apply below_drew1 | refine below_set ?_ GE123.out) | exact HB.out)⟩
            · rw [if_neg c19] at H
              have c19b0 : (t129 == t124) = false := beq_eq_false_iff_ne.mpr c19
              have c19b1 : (t129 != t124) = true := bne_iff_ne.mpr c19
              by_cases c27 : t129 = 0
              · rw [if_pos c27] at H
                have c27b0 : (t129 == 0) = true := beq_iff_eq.mpr c27
                have c27b1 : (t129 != 0) = false := bne_eq_false_iff_eq.mpr c27
                clear c27
                by_cases c28 : a2 > 0
                · rw [if_pos c28] at H
                  have c28b0 : decide (0 < a2) = true := decide_eq_true c28
                  clear c28
                  obtain rfl := Option.some.inj H
                  have hcz29_0 : wr.cell? ⟨gb123, 0, none⟩ = some (.int .i64 x124000_1) := (blk_cell BK123.out 0).trans rfl
                  have hcz29_1 : wr.cell? ⟨gb123, 1, none⟩ = some (.int .i64 x124001_1) := (blk_cell BK123.out 1).trans rfl
                  have hcz29_2 : wr.cell? ⟨gb123, 2, none⟩ = some (.int .i64 x124002_1) := (blk_cell BK123.out 2).trans rfl
                  have hcz29_3 : wr.cell? ⟨gb123, 3, none⟩ = some (.int .i64 x124003_1) := (blk_cell BK123.out 3).trans rfl
                  have hfz29_0 := blk_frozen BK123.out 0
                  have hfz29_1 := blk_frozen BK123.out 1
                  have hfz29_2 := blk_frozen BK123.out 2
                  have hfz29_3 := blk_frozen BK123.out 3
                  go_wp2_with (first | ((with_reducible refine gate_callee (f := 12) rfl ?_); refine goesL_ (some 33) rfl rfl Try.func12 (by kernel_rfl) rfl #[.agg #[.int .i64 x124000_1, .int .i64 x124001_1, .int .i64 x124002_1, .int .i64 x124003_1]] rfl (by (try simp only [List.map_toArray, List.map_cons, List.map_nil]); first | done | rfl | (simp only [List.length_drop, List.length_take]; rfl)) ?_; (with_reducible refine (times_Waits.calls x124000_1 x124001_1 x124002_1 x124003_1 t129 _ A16.out).mono ?_); rintro e w30 ⟨rfl, hb⟩; refine ⟨_, rfl, ?_⟩; have n0_ := Aside0.mk (blk_below (g := gb123) (o := .cells #[.int .i64 x124000_1, .int .i64 x124001_1, .int .i64 x124002_1, .int .i64 x124003_1] 23 (0, 0)) (by (with_reducible repeat (first | refine blk_drewN ?_ _ | refine blk_drew ?_ | refine blk_alloc ?_ _)); exact BK123.out) hb); have n1_ := Aside0.mk (below_step (by repeat (first | (with_reducible first | exact HB.out | apply below_alloc | apply pw_below_drewN | apply below_drew1 | refine below_set ?_ GE123.out) | exact HB.out)) hb); clear BK123; clear HB; have BK123 := n0_; have HB := n1_; clear n0_ n1_; (try clear hb); (try clear hb2); (try clear hk); (try clear hi); have hcz31_0 : w30.cell? ⟨gb123, 0, none⟩ = some (.int .i64 x124000_1) := (blk_cell BK123.out 0).trans rfl; have hcz31_1 : w30.cell? ⟨gb123, 1, none⟩ = some (.int .i64 x124001_1) := (blk_cell BK123.out 1).trans rfl; have hcz31_2 : w30.cell? ⟨gb123, 2, none⟩ = some (.int .i64 x124002_1) := (blk_cell BK123.out 2).trans rfl; have hcz31_3 : w30.cell? ⟨gb123, 3, none⟩ = some (.int .i64 x124003_1) := (blk_cell BK123.out 3).trans rfl; have hfz31_0 := blk_frozen BK123.out 0; have hfz31_1 := blk_frozen BK123.out 1; have hfz31_2 := blk_frozen BK123.out 2; have hfz31_3 := blk_frozen BK123.out 3))
                  go_ret
                  exact ⟨by first | rfl | (simp [errW_none, errW_some] <;> rfl) | (simp [*, errW_none, errW_some] <;> rfl), by repeat (first | (with_reducible first | exact HB.out | apply below_alloc | apply pw_below_drewN | apply below_drew1 | refine below_set ?_ GE123.out) | exact HB.out)⟩
                · rw [if_neg c28] at H
                  have c28b0 : decide (0 < a2) = false := decide_eq_false c28
                  clear c28
                  obtain rfl := Option.some.inj H
                  have hcz32_0 : wr.cell? ⟨gb123, 0, none⟩ = some (.int .i64 x124000_1) := (blk_cell BK123.out 0).trans rfl
                  have hcz32_1 : wr.cell? ⟨gb123, 1, none⟩ = some (.int .i64 x124001_1) := (blk_cell BK123.out 1).trans rfl
                  have hcz32_2 : wr.cell? ⟨gb123, 2, none⟩ = some (.int .i64 x124002_1) := (blk_cell BK123.out 2).trans rfl
                  have hcz32_3 : wr.cell? ⟨gb123, 3, none⟩ = some (.int .i64 x124003_1) := (blk_cell BK123.out 3).trans rfl
                  have hfz32_0 := blk_frozen BK123.out 0
                  have hfz32_1 := blk_frozen BK123.out 1
                  have hfz32_2 := blk_frozen BK123.out 2
                  have hfz32_3 := blk_frozen BK123.out 3
                  go_wp2_with (first | ((with_reducible refine gate_callee (f := 12) rfl ?_); refine goesL_ (some 33) rfl rfl Try.func12 (by kernel_rfl) rfl #[.agg #[.int .i64 x124000_1, .int .i64 x124001_1, .int .i64 x124002_1, .int .i64 x124003_1]] rfl (by (try simp only [List.map_toArray, List.map_cons, List.map_nil]); first | done | rfl | (simp only [List.length_drop, List.length_take]; rfl)) ?_; (with_reducible refine (times_Waits.calls x124000_1 x124001_1 x124002_1 x124003_1 t129 _ A16.out).mono ?_); rintro e w33 ⟨rfl, hb⟩; refine ⟨_, rfl, ?_⟩; have n0_ := Aside0.mk (blk_below (g := gb123) (o := .cells #[.int .i64 x124000_1, .int .i64 x124001_1, .int .i64 x124002_1, .int .i64 x124003_1] 23 (0, 0)) (by (with_reducible repeat (first | refine blk_drewN ?_ _ | refine blk_drew ?_ | refine blk_alloc ?_ _)); exact BK123.out) hb); have n1_ := Aside0.mk (below_step (by repeat (first | (with_reducible first | exact HB.out | apply below_alloc | apply pw_below_drewN | apply below_drew1 | refine below_set ?_ GE123.out) | exact HB.out)) hb); clear BK123; clear HB; have BK123 := n0_; have HB := n1_; clear n0_ n1_; (try clear hb); (try clear hb2); (try clear hk); (try clear hi); have hcz34_0 : w33.cell? ⟨gb123, 0, none⟩ = some (.int .i64 x124000_1) := (blk_cell BK123.out 0).trans rfl; have hcz34_1 : w33.cell? ⟨gb123, 1, none⟩ = some (.int .i64 x124001_1) := (blk_cell BK123.out 1).trans rfl; have hcz34_2 : w33.cell? ⟨gb123, 2, none⟩ = some (.int .i64 x124002_1) := (blk_cell BK123.out 2).trans rfl; have hcz34_3 : w33.cell? ⟨gb123, 3, none⟩ = some (.int .i64 x124003_1) := (blk_cell BK123.out 3).trans rfl; have hfz34_0 := blk_frozen BK123.out 0; have hfz34_1 := blk_frozen BK123.out 1; have hfz34_2 := blk_frozen BK123.out 2; have hfz34_3 := blk_frozen BK123.out 3))
                  go_ret
                  exact ⟨by first | rfl | (simp [errW_none, errW_some] <;> rfl) | (simp [*, errW_none, errW_some] <;> rfl), by repeat (first | (with_reducible first | exact HB.out | apply below_alloc | apply pw_below_drewN | apply below_drew1 | refine below_set ?_ GE123.out) | exact HB.out)⟩
              · rw [if_neg c27] at H
                have c27b0 : (t129 == 0) = false := beq_eq_false_iff_ne.mpr c27
                have c27b1 : (t129 != 0) = true := bne_iff_ne.mpr c27
                obtain rfl := Option.some.inj H
                have hcz35_0 : wr.cell? ⟨gb123, 0, none⟩ = some (.int .i64 x124000_1) := (blk_cell BK123.out 0).trans rfl
                have hcz35_1 : wr.cell? ⟨gb123, 1, none⟩ = some (.int .i64 x124001_1) := (blk_cell BK123.out 1).trans rfl
                have hcz35_2 : wr.cell? ⟨gb123, 2, none⟩ = some (.int .i64 x124002_1) := (blk_cell BK123.out 2).trans rfl
                have hcz35_3 : wr.cell? ⟨gb123, 3, none⟩ = some (.int .i64 x124003_1) := (blk_cell BK123.out 3).trans rfl
                have hfz35_0 := blk_frozen BK123.out 0
                have hfz35_1 := blk_frozen BK123.out 1
                have hfz35_2 := blk_frozen BK123.out 2
                have hfz35_3 := blk_frozen BK123.out 3
                go_wp2_with (first | ((with_reducible refine gate_callee (f := 12) rfl ?_); refine goesL_ (some 33) rfl rfl Try.func12 (by kernel_rfl) rfl #[.agg #[.int .i64 x124000_1, .int .i64 x124001_1, .int .i64 x124002_1, .int .i64 x124003_1]] rfl (by (try simp only [List.map_toArray, List.map_cons, List.map_nil]); first | done | rfl | (simp only [List.length_drop, List.length_take]; rfl)) ?_; (with_reducible refine (times_Waits.calls x124000_1 x124001_1 x124002_1 x124003_1 t129 _ A16.out).mono ?_); rintro e w36 ⟨rfl, hb⟩; refine ⟨_, rfl, ?_⟩; have n0_ := Aside0.mk (blk_below (g := gb123) (o := .cells #[.int .i64 x124000_1, .int .i64 x124001_1, .int .i64 x124002_1, .int .i64 x124003_1] 23 (0, 0)) (by (with_reducible repeat (first | refine blk_drewN ?_ _ | refine blk_drew ?_ | refine blk_alloc ?_ _)); exact BK123.out) hb); have n1_ := Aside0.mk (below_step (by repeat (first | (with_reducible first | exact HB.out | apply below_alloc | apply pw_below_drewN | apply below_drew1 | refine below_set ?_ GE123.out) | exact HB.out)) hb); clear BK123; clear HB; have BK123 := n0_; have HB := n1_; clear n0_ n1_; (try clear hb); (try clear hb2); (try clear hk); (try clear hi); have hcz37_0 : w36.cell? ⟨gb123, 0, none⟩ = some (.int .i64 x124000_1) := (blk_cell BK123.out 0).trans rfl; have hcz37_1 : w36.cell? ⟨gb123, 1, none⟩ = some (.int .i64 x124001_1) := (blk_cell BK123.out 1).trans rfl; have hcz37_2 : w36.cell? ⟨gb123, 2, none⟩ = some (.int .i64 x124002_1) := (blk_cell BK123.out 2).trans rfl; have hcz37_3 : w36.cell? ⟨gb123, 3, none⟩ = some (.int .i64 x124003_1) := (blk_cell BK123.out 3).trans rfl; have hfz37_0 := blk_frozen BK123.out 0; have hfz37_1 := blk_frozen BK123.out 1; have hfz37_2 := blk_frozen BK123.out 2; have hfz37_3 := blk_frozen BK123.out 3))
                go_ret
                exact ⟨by first | rfl | (simp [errW_none, errW_some] <;> rfl) | (simp [*, errW_none, errW_some] <;> rfl), by repeat (first | (with_reducible first | exact HB.out | apply below_alloc | apply pw_below_drewN | apply below_drew1 | refine below_set ?_ GE123.out) | exact HB.out)⟩
          · rw [if_neg c18] at H
            have c18b0 : (x124000_1 == (wrap64 ((wrap64 (a0)) + (wrap64 (a3))))) = false := beq_eq_false_iff_ne.mpr c18
            have c18b1 : (x124000_1 != (wrap64 ((wrap64 (a0)) + (wrap64 (a3))))) = true := bne_iff_ne.mpr c18
            obtain rfl := Option.some.inj H
            have hcz38_0 : wr.cell? ⟨gb123, 0, none⟩ = some (.int .i64 x124000_1) := (blk_cell BK123.out 0).trans rfl
            have hcz38_1 : wr.cell? ⟨gb123, 1, none⟩ = some (.int .i64 x124001_1) := (blk_cell BK123.out 1).trans rfl
            have hcz38_2 : wr.cell? ⟨gb123, 2, none⟩ = some (.int .i64 x124002_1) := (blk_cell BK123.out 2).trans rfl
            have hcz38_3 : wr.cell? ⟨gb123, 3, none⟩ = some (.int .i64 x124003_1) := (blk_cell BK123.out 3).trans rfl
            have hfz38_0 := blk_frozen BK123.out 0
            have hfz38_1 := blk_frozen BK123.out 1
            have hfz38_2 := blk_frozen BK123.out 2
            have hfz38_3 := blk_frozen BK123.out 3
            go_wp2_with (first | ((with_reducible refine gate_callee (f := 12) rfl ?_); refine goesL_ (some 33) rfl rfl Try.func12 (by kernel_rfl) rfl #[.agg #[.int .i64 x124000_1, .int .i64 x124001_1, .int .i64 x124002_1, .int .i64 x124003_1]] rfl (by (try simp only [List.map_toArray, List.map_cons, List.map_nil]); first | done | rfl | (simp only [List.length_drop, List.length_take]; rfl)) ?_; (with_reducible refine (times_Waits.calls x124000_1 x124001_1 x124002_1 x124003_1 t129 _ A16.out).mono ?_); rintro e w39 ⟨rfl, hb⟩; refine ⟨_, rfl, ?_⟩; have n0_ := Aside0.mk (blk_below (g := gb123) (o := .cells #[.int .i64 x124000_1, .int .i64 x124001_1, .int .i64 x124002_1, .int .i64 x124003_1] 23 (0, 0)) (by (with_reducible repeat (first | refine blk_drewN ?_ _ | refine blk_drew ?_ | refine blk_alloc ?_ _)); exact BK123.out) hb); have n1_ := Aside0.mk (below_step (by repeat (first | (with_reducible first | exact HB.out | apply below_alloc | apply pw_below_drewN | apply below_drew1 | refine below_set ?_ GE123.out) | exact HB.out)) hb); clear BK123; clear HB; have BK123 := n0_; have HB := n1_; clear n0_ n1_; (try clear hb); (try clear hb2); (try clear hk); (try clear hi); have hcz40_0 : w39.cell? ⟨gb123, 0, none⟩ = some (.int .i64 x124000_1) := (blk_cell BK123.out 0).trans rfl; have hcz40_1 : w39.cell? ⟨gb123, 1, none⟩ = some (.int .i64 x124001_1) := (blk_cell BK123.out 1).trans rfl; have hcz40_2 : w39.cell? ⟨gb123, 2, none⟩ = some (.int .i64 x124002_1) := (blk_cell BK123.out 2).trans rfl; have hcz40_3 : w39.cell? ⟨gb123, 3, none⟩ = some (.int .i64 x124003_1) := (blk_cell BK123.out 3).trans rfl; have hfz40_0 := blk_frozen BK123.out 0; have hfz40_1 := blk_frozen BK123.out 1; have hfz40_2 := blk_frozen BK123.out 2; have hfz40_3 := blk_frozen BK123.out 3))
            go_ret
            exact ⟨by first | rfl | (simp [errW_none, errW_some] <;> rfl) | (simp [*, errW_none, errW_some] <;> rfl), by repeat (first | (with_reducible first | exact HB.out | apply below_alloc | apply pw_below_drewN | apply below_drew1 | refine below_set ?_ GE123.out) | exact HB.out)⟩
        · replace c17 := Bool.eq_false_iff.mpr c17
          subst c17
          have H1 : (some false) = some r := by rw [if_neg (show ¬ (false = true) by decide)] at H; exact H
          clear H
          have H := H1
          clear H1
          obtain rfl := Option.some.inj H
          have hcz41_0 : wr.cell? ⟨gb123, 0, none⟩ = some (.int .i64 x124000_1) := (blk_cell BK123.out 0).trans rfl
          have hcz41_1 : wr.cell? ⟨gb123, 1, none⟩ = some (.int .i64 x124001_1) := (blk_cell BK123.out 1).trans rfl
          have hcz41_2 : wr.cell? ⟨gb123, 2, none⟩ = some (.int .i64 x124002_1) := (blk_cell BK123.out 2).trans rfl
          have hcz41_3 : wr.cell? ⟨gb123, 3, none⟩ = some (.int .i64 x124003_1) := (blk_cell BK123.out 3).trans rfl
          have hfz41_0 := blk_frozen BK123.out 0
          have hfz41_1 := blk_frozen BK123.out 1
          have hfz41_2 := blk_frozen BK123.out 2
          have hfz41_3 := blk_frozen BK123.out 3
          go_wp2_with (first | ((with_reducible refine gate_callee (f := 12) rfl ?_); refine goesL_ (some 33) rfl rfl Try.func12 (by kernel_rfl) rfl #[.agg #[.int .i64 x124000_1, .int .i64 x124001_1, .int .i64 x124002_1, .int .i64 x124003_1]] rfl (by (try simp only [List.map_toArray, List.map_cons, List.map_nil]); first | done | rfl | (simp only [List.length_drop, List.length_take]; rfl)) ?_; (with_reducible refine (times_Waits.calls x124000_1 x124001_1 x124002_1 x124003_1 t129 _ A16.out).mono ?_); rintro e w42 ⟨rfl, hb⟩; refine ⟨_, rfl, ?_⟩; have n0_ := Aside0.mk (blk_below (g := gb123) (o := .cells #[.int .i64 x124000_1, .int .i64 x124001_1, .int .i64 x124002_1, .int .i64 x124003_1] 23 (0, 0)) (by (with_reducible repeat (first | refine blk_drewN ?_ _ | refine blk_drew ?_ | refine blk_alloc ?_ _)); exact BK123.out) hb); have n1_ := Aside0.mk (below_step (by repeat (first | (with_reducible first | exact HB.out | apply below_alloc | apply pw_below_drewN | apply below_drew1 | refine below_set ?_ GE123.out) | exact HB.out)) hb); clear BK123; clear HB; have BK123 := n0_; have HB := n1_; clear n0_ n1_; (try clear hb); (try clear hb2); (try clear hk); (try clear hi)))
          go_ret
          exact ⟨by first | rfl | (simp [errW_none, errW_some] <;> rfl) | (simp [*, errW_none, errW_some] <;> rfl), by repeat (first | (with_reducible first | exact HB.out | apply below_alloc | apply pw_below_drewN | apply below_drew1 | refine below_set ?_ GE123.out) | exact HB.out)⟩

/-- THE ONE PURE STATEMENT of fordlaw04_TimesAges: yours. -/
def fordlaw04_TimesAges.Pure : Prop := ∀ (a0 : Int) (a1 : Int) (a2 : Int) (a3 : Int), (Lit.int .u8 a0).wf = true → (Lit.int .u8 a1).wf = true → (Lit.int .u8 a2).wf = true → (Lit.int .u8 a3).wf = true → ∃ k, fordlaw04_TimesAges.f k a0 a1 a2 a3 = some true
theorem fordlaw04_TimesAges.walk (P : fordlaw04_TimesAges.Pure) (a0 : Int) (a1 : Int) (a2 : Int) (a3 : Int) (w : World) (w0 : (Lit.int .u8 a0).wf = true) (w1 : (Lit.int .u8 a1).wf = true) (w2 : (Lit.int .u8 a2).wf = true) (w3 : (Lit.int .u8 a3).wf = true) :
    Calls Try.prog 6 #[.int .u8 a0, .int .u8 a1, .int .u8 a2, .int .u8 a3] w fun e w' => e = .returned (.bool true) ∧ Below w.heap.size w w' := by
  obtain ⟨k, h⟩ := P a0 a1 a2 a3 w0 w1 w2 w3
  refine (fordlaw04_TimesAges.calls k a0 a1 a2 a3 true w h).mono ?_
  rintro e w' ⟨rfl, hd⟩
  exact ⟨rfl, hd⟩

end Go.Proofs.Ytjkjlaliahpbaaa.PTimesAges
