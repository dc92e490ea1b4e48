/- Chapter 5: a message's flags as a byte (ford/bpdu.flags). No condition. -/
import Derived.Test.YtehapoilfmgjgaaEn1
import Derived.Laws.BitsAllLaws
import Derived.Deep.CutRange
set_option linter.unusedSimpArgs false
set_option linter.unusedVariables false
namespace Go.Proofs.Ytehapoilfmgjgaa.Oct
open Go.RowKit
theorem flags_or0 (m : Msg) : bits BinOp.or IntKind.i64 (bitN m.change 1) (bitN m.ack 128) = bitN m.change 1 + bitN m.ack 128 + 0 := by
  cases m.change <;> cases m.ack <;> rfl
theorem flags_or : ∀ (c a p l f g : Bool) (t : Fin 4), bits BinOp.or IntKind.i64 (bits BinOp.or IntKind.i64 (bits BinOp.or IntKind.i64 (bits BinOp.or IntKind.i64 (bits BinOp.or IntKind.i64 (bits BinOp.or IntKind.i64 (bitN c 1) (bitN a 128)) (bitN p 2)) ((t.val : Int) * 4)) (bitN l 16)) (bitN f 32)) (bitN g 64) = bitN c 1 + bitN a 128 + (bitN p 2 + 4 * (t.val : Int) + bitN l 16 + bitN f 32 + bitN g 64) := by decide +kernel

set_option maxRecDepth 100000 in
set_option maxHeartbeats 8000000 in
theorem flags_any (m : Msg) (w : World) : Calls Try.prog 23 #[.agg (rowM m)] w fun e w' => e = .returned (.int .i64 (flagsN m)) ∧ Below w.heap.size w w' := by
  obtain ⟨vv, hvv⟩ : ∃ x, x = flagsN m := ⟨_, rfl⟩
  rw [← hvv]
  have HV := Lib.hid hvv
  clear hvv
  go_enter Try.func23, Try.ntmps23
  go_upto_region 1 with (fail)
  refine ((?_ : ∀ x, x = w.alloc (.cells (rowM m) 30) → Code.wp _ _ _ _ x) _ rfl)
  intro w1 hw1
  obtain ⟨gm, hgm⟩ : ∃ x, x = w.heap.size := ⟨_, rfl⟩
  have hM : w1.heap[gm]? = some (.cells (rowM m) 30 (0, 0)) := by rw [hw1, hgm]; exact heap_alloc_new _ _
  have HB1 := Lib.hid (show Below w.heap.size w w1 by rw [hw1]; exact more (Below.refl _ _) _)
  rw [← hgm]
  have hl := (Array.getElem?_eq_some_iff.1 hM).1
  have HM := Lib.hid hM
  clear hw1 hgm hM
  have zc : ∀ (y : Old w1.heap.size w1) (j : Nat), y.w.cell? ⟨gm, j, none⟩ = (rowM m)[j]? := fun y j => (y.h.cell (p := ⟨gm, j, none⟩) hl).trans (cells_of HM.out j)
  have ZC := Lib.hid zc
  clear zc
  have z1 : ∀ y : Old w1.heap.size w1, y.w.cell? ⟨gm, 1, none⟩ = some (.bool m.change) := fun y => ZC.out y 1
  have z2 : ∀ y : Old w1.heap.size w1, y.w.cell? ⟨gm, 2, none⟩ = some (.bool m.ack) := fun y => ZC.out y 2
  have C := Lib.hid (fun (b : Bool) (n : Int) (y : Old w1.heap.size w1) => bit_any b n y.w)
  have hne := Old.some w1.heap.size w1
  go_wp2_with fail
  refine wp_region_old w1.heap.size (by kernel_rfl) (by kernel_rfl) ?_
  repeat (first | go_big_quiet_skip | (go_big_quiet_want; go_big_quiet_op; first | go_big_quiet_on | go_big_quiet_call ((go_at_call 28; exact Calls.old (by simp) (C.out _ _ _)))))
  refine wpQuiet_nil ?_
  rintro _ ⟨y, rfl⟩
  have hy := y.h
  obtain ⟨w2, hw2⟩ := y
  simp only [] at hy ⊢
  have hl2 : gm < w2.heap.size := by have := hy.size; omega
  have HM2 := Lib.hid ((hy.block gm hl).trans HM.out)
  have HB2 := Lib.hid (HB1.out.trans (hy.mono HB1.out.size))
  clear hy hw2 hne z1 z2 ZC C HM HB1
  have k0 : w2.cell? ⟨gm, 0, none⟩ = some (.int .i64 m.kind) := cells_of HM2.out 0
  cases hk : (m.kind == 0) with
  | true =>
    have h0 : m.kind = 0 := by simpa using hk
    have HE := Lib.hid (show vv = bitN m.change 1 + bitN m.ack 128 + 0 by rw [HV.out]; unfold flagsN; rw [if_pos h0])
    clear h0 HV
    go_wp2_with fail
    go_ret
    exact ⟨by rw [HE.out, ← flags_or0]; rfl, HB2.out⟩
  | false =>
    have h0 : ¬ m.kind = 0 := by simpa using hk
    have HE := Lib.hid (show vv = bitN m.change 1 + bitN m.ack 128 + (bitN m.prop 2 + 4 * toldN m.role + bitN m.lrn 16 + bitN m.fwd 32 + bitN m.agr 64) by rw [HV.out]; unfold flagsN; rw [if_neg h0])
    clear h0 HV
    have zc : ∀ (y : Old w2.heap.size w2) (j : Nat), y.w.cell? ⟨gm, j, none⟩ = (rowM m)[j]? := fun y j => (y.h.cell (p := ⟨gm, j, none⟩) hl2).trans (cells_of HM2.out j)
    have ZC := Lib.hid zc
    clear zc
    have z3 : ∀ y : Old w2.heap.size w2, y.w.cell? ⟨gm, 3, none⟩ = some (.bool m.prop) := fun y => ZC.out y 3
    have z4 : ∀ y : Old w2.heap.size w2, y.w.cell? ⟨gm, 4, none⟩ = some (.bool m.agr) := fun y => ZC.out y 4
    have z5 : ∀ y : Old w2.heap.size w2, y.w.cell? ⟨gm, 5, none⟩ = some (.bool m.lrn) := fun y => ZC.out y 5
    have z6 : ∀ y : Old w2.heap.size w2, y.w.cell? ⟨gm, 6, none⟩ = some (.bool m.fwd) := fun y => ZC.out y 6
    have z7 : ∀ y : Old w2.heap.size w2, y.w.cell? ⟨gm, 7, none⟩ = some (.int .i64 m.role) := fun y => ZC.out y 7
    have C := Lib.hid (fun (b : Bool) (n : Int) (y : Old w2.heap.size w2) => bit_any b n y.w)
    have C2 := Lib.hid (fun (y : Old w2.heap.size w2) => told_any m.role y.w)
    have hne := Old.some w2.heap.size w2
    have ht := toldN_in m.role
    obtain ⟨tt, htt⟩ : ∃ x, x = toldN m.role := ⟨_, rfl⟩
    rw [← htt] at ht C2
    have HTT := Lib.hid htt
    have h0t : 0 ≤ tt := by omega
    have h3t : tt ≤ 3 := by omega
    have HT := Lib.hid ht
    clear ht htt
    go_wp2_with fail
    refine wp_region_old w2.heap.size (by kernel_rfl) (by kernel_rfl) ?_
    repeat (first | go_big_quiet_skip | (go_big_quiet_want; go_big_quiet_op; first | go_big_quiet_on | go_big_quiet_call ((go_at_call 28; exact Calls.old (by simp) (C.out _ _ _))) | go_big_quiet_call ((go_at_call 29; exact Calls.old (by simp) (C2.out _)))))
    refine wpQuiet_nil ?_
    rintro _ ⟨y, rfl⟩
    have hy := y.h
    obtain ⟨w3, hw3⟩ := y
    simp only [] at hy ⊢
    have HB3 := Lib.hid (HB2.out.trans (hy.mono HB2.out.size))
    clear hy hw3 hne z3 z4 z5 z6 z7 ZC C C2
    go_wp2_with fail
    go_ret
    refine ⟨?_, HB3.out⟩
    rw [HE.out, ← HTT.out]
    obtain ⟨n, hn⟩ : ∃ n : Fin 4, tt = (n.val : Int) := by
      rcases HT.out with h | h | h | h
      · exact ⟨0, h⟩
      · exact ⟨1, h⟩
      · exact ⟨2, h⟩
      · exact ⟨3, h⟩
    rw [hn, ← flags_or m.change m.ack m.prop m.lrn m.fwd m.agr n]
    rfl
end Go.Proofs.Ytehapoilfmgjgaa.Oct
