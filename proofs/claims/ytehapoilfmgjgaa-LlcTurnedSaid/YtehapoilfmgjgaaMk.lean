/- Chapter 6: zero bytes, appended to bytes of the call's own ('append(out, make([]byte, n)...)'). Conditions: there are bytes, there is something to append, there aren't very many. -/
import Derived.Test.YtehapoilfmgjgaaAv
set_option linter.unusedSimpArgs false
set_option linter.unusedVariables false
namespace Go.Proofs.Ytehapoilfmgjgaa.Oct
open Go.RowKit
theorem zero_cells (i8 : TypeInfo) (hz : i8.zero = some (.int .u8 0)) (n : Nat) : (Builtin.zeroCells (Value.cells (.int .u8 0)) n).toList = List.replicate n (Value.int .u8 0) := by
  apply List.ext_getElem?
  intro j
  by_cases hj : j < n
  · have h1 : j % 1 = 0 := by omega
    simp [Builtin.zeroCells, Value.cells, hj, h1]
  · rw [List.getElem?_eq_none (by simp [Builtin.zeroCells, Value.cells]; omega), List.getElem?_eq_none (by simp; omega)]
theorem run_append_make (w : World) (base : Nat) (v : Value) (l : List Int) (hO : OwnB w base v l) (hne : l ≠ []) (m : Nat) (hm : 0 < m) (hb : l.length + m ≤ 100000) (hbase : base ≤ w.heap.size) (ty : TypeId) :
    ∃ v' w', (Builtin.append_ #[33, 3] ty #[v, .int .i64 m]).run Try.prog w = .ok v' w' ∧ OwnB w' base v' (l ++ List.replicate m 0) ∧ w.grownBy w' v.ownBlock := by
  obtain ⟨i8, hi8, hz8, hs8, hb8⟩ := info_parts info8
  have hzc : (Builtin.zeroCells (Value.cells (.int .u8 0)) m) = (List.replicate m (Value.int .u8 0)).toArray := by
    apply Array.ext'
    rw [zero_cells i8 hz8]
  have hwm : IntKind.i64.wrap (m : Int) = m := by unfold IntKind.wrap; simp [IntKind.signed, IntKind.bits]; omega
  have hm1 : ¬ m = 0 := by omega
  have hai : (asInt (.int .i64 (m : Int))).run Try.prog w = .ok (m : Int) w := rfl
  have hneg : ¬ ((m : Int) < 0) := by omega
  have hbig : ¬ (281474976710656 < (m : Int)) := by omega
  obtain ⟨h1, ⟨rfl, h2⟩ | ⟨g, cap, cur, rfl, hbg, hg, hnc, hcm, hcs, htake⟩⟩ := hO
  · exact absurd (List.eq_nil_of_length_eq_zero h2) hne
  have hui := Try.underlying3
  have hux := Try.underlying33
  have hlen : (l.map (Value.int .u8) ++ List.replicate m (Value.int .u8 0)).length = (l.length + m) * 1 := by simp
  by_cases hroom : l.length + m ≤ cap
  · have hst := run_storeCells_at Try.prog g (l.length * 1) 5 (List.replicate m (Value.int .u8 0)) 0 cur w hg (by simp; omega) (by intro u hu; rw [List.eq_of_mem_replicate hu]; rfl)
    simp only [Nat.add_zero] at hst
    have hml : ((List.replicate m (Value.int .u8 0)).length) = m := by simp
    refine ⟨.slice (some ⟨g, 0, none⟩) (l.length + m) cap, w.setRow g (cur.toList.take (l.length * 1) ++ List.replicate m (Value.int .u8 0) ++ cur.toList.drop (l.length * 1 + (List.replicate m (Value.int .u8 0)).length)).toArray, ?_, ?_, ?_⟩
    · simp only [Nat.mul_one] at hst
      simp [Builtin.append_, hai, run_underlying hux, run_underlying hui, sizeOf, typeInfo, zeroValue, hi8, hz8, hs8, hb8, hwm, hneg, hbig, hm1, hroom, hzc, Addr.add_lit, hst]
    · refine ⟨by simp, .inr ⟨g, cap, _, by simp, hbg, setRow_heap w g cur _ _ _ hg, by simpa using hroom, hcm, ?_, ?_⟩⟩
      · simp only [List.size_toArray, List.length_append, List.length_take, List.length_drop, Array.length_toList, List.length_replicate]
        omega
      · have e : (l ++ List.replicate m (0 : Int)).map (Value.int .u8) = cur.toList.take (l.length * 1) ++ List.replicate m (Value.int .u8 0) := by rw [htake, List.map_append]; simp
        rw [e]
        have e2 : (l ++ List.replicate m (0 : Int)).length * 1 = (cur.toList.take (l.length * 1) ++ List.replicate m (Value.int .u8 0)).length := by rw [htake]; simp
        rw [e2]
        exact List.take_left
    · exact ⟨rfl, rfl, rfl, by simp, fun k _ hk => setRow_other w g k _ (fun e => hk (by simp [Value.ownBlock, e]))⟩
  · have h63 : ¬ ((9223372036854775807 : Int) < ((l.length : Int) + (m : Int))) := by omega
    have hfit := growslice_fits (need := l.length + m) (old := cap) (bytes := 1) (by omega) (by omega)
    have h48 : ¬ (281474976710656 < Builtin.nextslicecap (l.length + m) cap) := by omega
    have holds : ∀ j u, (l.map (Value.int .u8))[j]? = some u → w.drew.cell? ((⟨g, 0, none⟩ : Addr).add j) = some u := fun j u hj => by
      rw [← htake, List.getElem?_take] at hj
      split at hj
      · rw [Addr.add_mid, Nat.zero_add]
        show w.cell? _ = _
        rw [cells_of hg]
        simpa using hj
      · cases hj
    have hfo := run_firstCells_some (P := Try.prog) w.drew 1 l.length ⟨g, 0, none⟩ l.length cap (l.map (Value.int .u8)) (by simp) holds
    refine ⟨.slice (some ⟨w.heap.size, 0, none⟩) (l.length + m) (grownCap w (l.length + m) cap 5), w.drew.alloc (.cells ((l.map (Value.int .u8)).toArray ++ (List.replicate m (Value.int .u8 0)).toArray ++ Builtin.zeroCells (Value.cells (.int .u8 0)) (grownCap w (l.length + m) cap 5 - (l.length + m))) 5), ?_, ?_, ?_⟩
    · simp [Builtin.append_, hai, run_underlying hux, run_underlying hui, sizeOf, typeInfo, zeroValue, hi8, hz8, hs8, hb8, hwm, hneg, hbig, hm1, hroom, hzc, Addr.add_lit, h63, h48, Question.forced, hfo, newRow, grownCap]
    · have hge := grownCap_ge w (l.length + m) cap 5
      have hcm' : grownCap w (l.length + m) cap 5 ≤ maxLen := grownCap_le_maxLen w (l.length + m) cap 5 (by unfold maxLen; omega)
      refine ⟨by simp, .inr ⟨w.heap.size, _, _, by simp, hbase, heap_alloc_new w.drew _, by simpa using hge, hcm', ?_, ?_⟩⟩
      · simp only [Array.size_append, List.size_toArray, size_zeroCells, List.length_map, List.length_replicate]
        simp [Value.cells]
        omega
      · have e : (l ++ List.replicate m (0 : Int)).map (Value.int .u8) = l.map (Value.int .u8) ++ List.replicate m (Value.int .u8 0) := by rw [List.map_append]; simp
        have e2 : (l ++ List.replicate m (0 : Int)).length * 1 = (l.map (Value.int .u8) ++ List.replicate m (Value.int .u8 0)).length := by simp
        rw [e, e2]
        simp only [Array.toList_append]
        exact List.take_left
    · exact ⟨rfl, rfl, rfl, by simp, fun k hk _ => by rw [World.alloc]; simp only [Array.getElem?_push]; rw [if_neg (Nat.ne_of_lt (show k < w.drew.heap.size from hk))]; rfl⟩
theorem wpList_appMake {ops : Array Oper} {rest : List Oper} {o : Oper} {a : Act} {w : World} {Q : Exit → Act → World → Prop} (hgd : o.guard = none) (s x : Operand) (ho : o.op = .call { callee := .builtin .append, args := #[s, x], argTypes := #[33, 3] })
    (base : Nat) (v : Value) (l : List Int) (hs : a.eval s = v) (hO : OwnB w base v l) (hne : l ≠ []) (hbase : base ≤ w.heap.size) (m : Nat) (hx : a.eval x = .int .i64 m) (hm : 0 < m) (hb : l.length + m ≤ 100000)
    (h : ∀ v' w', OwnB w' base v' (l ++ List.replicate m 0) → Below base w w' → (∀ (k : Nat) (C : Array Value) (T : TypeId) (fr : Nat × Nat), w.heap[k]? = some (.cells C T fr) → T ≠ 5 → w'.heap[k]? = w.heap[k]?) → wpList Try.prog ops Q rest (a.put o.dst v') w') : wpList Try.prog ops Q (o :: rest) a w :=
  wpList_plain hgd fun _ hK => by
    obtain ⟨v', w', hr, h2, hgrow⟩ := run_append_make w base v l hO hne m hm hb hbase o.type
    unfold Oper.wp execOp
    simp only [ho, resolve, invoke, builtin, Sem.run_bind, Sem.run_pure, Result.andThen_ok, List.map_toArray, List.map_cons, List.map_nil, hs, hx, hr]
    refine hK _ _ (h v' w' h2 ⟨hgrow.os, hgrow.tape, hgrow.output, hgrow.size, fun k hk => hgrow.block k (by omega) (fun e => ?_)⟩ (fun k C T fr hk hT => hgrow.block k (Array.getElem?_eq_some_iff.1 hk).1 (fun e => ?_)))
    · obtain ⟨_, ⟨rfl, _⟩ | ⟨g, cc, cur, rfl, hg, _⟩⟩ := hO
      · cases e
      · simp only [Value.ownBlock, Option.some.injEq] at e
        omega
    · obtain ⟨_, ⟨rfl, _⟩ | ⟨g, cc, cur, rfl, hg, hh, _⟩⟩ := hO
      · cases e
      · simp only [Value.ownBlock, Option.some.injEq] at e
        rw [e, hh] at hk
        cases hk
        exact hT rfl
end Go.Proofs.Ytehapoilfmgjgaa.Oct
