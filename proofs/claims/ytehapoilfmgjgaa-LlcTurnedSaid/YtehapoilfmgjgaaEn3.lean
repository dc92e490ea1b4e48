/- Chapter 5: appends onto bytes of the call's own; what the map of heads holds (ford/bpdu.Encode's first statement). No condition. -/
import Derived.Test.YtehapoilfmgjgaaEn2
import Derived.Lib.SliceRun
set_option linter.unusedSimpArgs false
set_option linter.unusedVariables false
namespace Go.Proofs.Ytehapoilfmgjgaa.Oct
open Go.RowKit
/-- Bytes put onto bytes of the call's own. -/
theorem wp_appB {w : World} {o : Oper} {a : Act} {K : Act → World → Prop} {Q : Exit → Act → World → Prop} (s x : Operand) (ho : o.op = .call { callee := .builtin .append, args := #[s, x], argTypes := #[33, 33] })
    (base : Nat) (v : Value) (l : List Int) (hs : a.eval s = v) (hO : OwnB w base v l) (hbase : base ≤ w.heap.size) (ad : Addr) (c : Nat) (news : List Int) (n : Nat) (hn : news.length = n) (hx : a.eval x = .slice (some ad) n c)
    (hnews : ∀ j (hj : j < news.length), w.cell? (ad.add j) = some (.int .u8 news[j])) (hb : l.length + n ≤ 100000)
    (h : ∀ v' w', OwnB w' base v' (l ++ news) → Below base w w' → (∀ (k : Nat) (C : Array Value) (T : TypeId) (fr : Nat × Nat), w.heap[k]? = some (.cells C T fr) → T ≠ 5 → w'.heap[k]? = w.heap[k]?) → K (a.put o.dst v') w') : o.wp Try.prog a w K Q := by
  subst hn
  obtain ⟨i8, hi8, hz8, hs8, hb8⟩ := info_parts info8
  refine wp_append_own w s x 33 ho base 5 i8 _ 1 1 Try.underlying33 hi8 hz8 hs8 hb8 rfl (by decide) v _ _ hs hO ad news.length c (news.map (Value.int .u8)) hx (by simp) (fun j u hj => by
    obtain ⟨hl, he⟩ := List.getElem?_eq_some_iff.1 hj
    have hl' : j < news.length := by simpa using hl
    rw [← he, hnews j hl']
    simp) (by intro u hu; obtain ⟨y, _, rfl⟩ := List.mem_map.1 hu; rfl) (by unfold maxLen; omega) (by omega) hbase ?_
  intro v' w' hown hgrow hnil
  refine h v' w' ?_ ⟨hgrow.os, hgrow.tape, hgrow.output, hgrow.size, fun k hk => hgrow.block k (by omega) (fun e => ?_)⟩ (fun k C T fr hk hT => hgrow.block k (Array.getElem?_eq_some_iff.1 hk).1 (fun e => ?_))
  · show w'.ownsRow _ _ _ _ (l ++ news).length ((l ++ news).map (Value.int .u8))
    rw [List.length_append, List.map_append]
    exact hown
  · obtain ⟨_, ⟨rfl, _⟩ | ⟨g, cc, cur, rfl, hg, _⟩⟩ := hO
    · cases e
    · simp only [Value.ownBlock, Option.some.injEq] at e
      omega
  · obtain ⟨_, ⟨rfl, _⟩ | ⟨g, cc, cur, rfl, hg, hh, _⟩⟩ := hO
    · cases e
    · simp only [Value.ownBlock, Option.some.injEq] at e
      rw [e, hh] at hk
      cases hk
      exact hT rfl
theorem OwnB.mono {w : World} {base base' : Nat} {v : Value} {l : List Int} (h : OwnB w base v l) (hb : base' ≤ base) : OwnB w base' v l := by
  obtain ⟨h1, h2 | ⟨g, c, cur, hv, hg, h3⟩⟩ := h
  · exact ⟨h1, .inl h2⟩
  · exact ⟨h1, .inr ⟨g, c, cur, hv, by omega, h3⟩⟩
theorem wpList_appB {ops : Array Oper} {rest : List Oper} {o : Oper} {a : Act} {w : World} {Q : Exit → Act → World → Prop} (hgd : o.guard = none) (s x : Operand) (ho : o.op = .call { callee := .builtin .append, args := #[s, x], argTypes := #[33, 33] })
    (base : Nat) (v : Value) (l : List Int) (hs : a.eval s = v) (hO : OwnB w base v l) (hbase : base ≤ w.heap.size) (ad : Addr) (c : Nat) (news : List Int) (n : Nat) (hn : news.length = n) (hx : a.eval x = .slice (some ad) n c)
    (hnews : ∀ j (hj : j < news.length), w.cell? (ad.add j) = some (.int .u8 news[j])) (hb : l.length + n ≤ 100000)
    (h : ∀ v' w', OwnB w' base v' (l ++ news) → Below base w w' → (∀ (k : Nat) (C : Array Value) (T : TypeId) (fr : Nat × Nat), w.heap[k]? = some (.cells C T fr) → T ≠ 5 → w'.heap[k]? = w.heap[k]?) → wpList Try.prog ops Q rest (a.put o.dst v') w') : wpList Try.prog ops Q (o :: rest) a w :=
  wpList_plain hgd fun _ hK => wp_appB s x ho base v l hs hO hbase ad c news n hn hx hnews hb (fun v' w' q1 q2 q3 => hK _ _ (h v' w' q1 q2 q3))
/-- A slice of bytes' own. -/
theorem ownB_new {w : World} {base g : Nat} {l : List Int} {n : Nat} (h : w.heap[g]? = some (.cells (cellsB l) 5 (0, 0))) (hg : base ≤ g) (hn : l.length = n) (hb : n ≤ 100000) : OwnB w base (.slice (some ⟨g, 0, none⟩) n n) l := by
  subst hn
  refine ⟨by simp, .inr ⟨g, l.length, _, rfl, hg, h, Nat.le_refl _, by unfold maxLen; omega, by simp [cellsB], ?_⟩⟩
  unfold cellsB
  rw [List.take_of_length_le (by simp)]
theorem cellsB_news {w : World} {g : Nat} {l : List Int} (h : w.heap[g]? = some (.cells (cellsB l) 5 (0, 0))) (j : Nat) (hj : j < l.length) : w.cell? ((⟨g, 0, none⟩ : Addr).add j) = some (.int .u8 l[j]) := by
  rw [Addr.add_mid, Nat.zero_add, cells_of h]
  unfold cellsB
  simp [hj]
/-- The heads, by kinds. -/
def headB (k : Int) : List Int := if k = 0 then [0, 0, 0, 0] else if k = 1 then [0, 0, 0, 128] else [0, 0, 2, 2]
/-- The map's entries. -/
def headE (g : Nat) : Array MapEntry := #[⟨.int .i64 0, .slice (some ⟨g, 0, none⟩) 4 4, 0⟩, ⟨.int .i64 1, .slice (some ⟨g + 1, 0, none⟩) 4 4, 1⟩, ⟨.int .i64 2, .slice (some ⟨g + 1 + 1, 0, none⟩) 4 4, 2⟩]
theorem find_0 (g : Nat) : Instr.findNow (.int .i64) (.int .i64 0) (headE g).toList 0 = some (some (0, .slice (some ⟨g, 0, none⟩) 4 4)) := rfl
theorem find_1 (g : Nat) : Instr.findNow (.int .i64) (.int .i64 1) (headE g).toList 0 = some (some (1, .slice (some ⟨g + 1, 0, none⟩) 4 4)) := rfl
theorem find_2 (g : Nat) : Instr.findNow (.int .i64) (.int .i64 2) (headE g).toList 0 = some (some (2, .slice (some ⟨g + 1 + 1, 0, none⟩) 4 4)) := rfl
theorem find_no (g : Nat) (k : Int) (h0 : k ≠ 0) (h1 : k ≠ 1) (h2 : k ≠ 2) : Instr.findNow (.int .i64) (.int .i64 k) (headE g).toList 0 = some none := by
  have e0 : (k == 0) = false := by simp [h0]
  have e1 : (k == 1) = false := by simp [h1]
  have e2 : (k == 2) = false := by simp [h2]
  simp [Instr.findNow, Instr.sameNow, headE, e0, e1, e2]
theorem mkh_0 (w : World) : Sem.run Try.prog (Instr.buildSlice 33 4 #[(0, .int .u8 0), (1, .int .u8 0), (2, .int .u8 0), (3, .int .u8 0)]) w = .ok (.slice (some ⟨w.heap.size, 0, none⟩) 4 4) (w.alloc (.cells #[.int .u8 0, .int .u8 0, .int .u8 0, .int .u8 0] 5)) := by kernel_rfl
theorem mkh_1 (w : World) : Sem.run Try.prog (Instr.buildSlice 33 4 #[(0, .int .u8 0), (1, .int .u8 0), (2, .int .u8 0), (3, .int .u8 128)]) w = .ok (.slice (some ⟨w.heap.size, 0, none⟩) 4 4) (w.alloc (.cells #[.int .u8 0, .int .u8 0, .int .u8 0, .int .u8 128] 5)) := by kernel_rfl
theorem mkh_2 (w : World) : Sem.run Try.prog (Instr.buildSlice 33 4 #[(0, .int .u8 0), (1, .int .u8 0), (2, .int .u8 2), (3, .int .u8 2)]) w = .ok (.slice (some ⟨w.heap.size, 0, none⟩) 4 4) (w.alloc (.cells #[.int .u8 0, .int .u8 0, .int .u8 2, .int .u8 2] 5)) := by kernel_rfl
attribute [local go_sem] mkh_0 mkh_1 mkh_2
end Go.Proofs.Ytehapoilfmgjgaa.Oct
