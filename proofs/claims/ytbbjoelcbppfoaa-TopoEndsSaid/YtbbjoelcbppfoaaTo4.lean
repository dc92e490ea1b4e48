/- Chapter 17: the library's Clone of numbers, and a number put onto a slice of one's own. Conditions: the numbers can be read; there aren't very many. -/
import Derived.Test.YtbbjoelcbppfoaaBst
import Derived.WalkSpells
import Derived.Lib.Hide
set_option linter.unusedSimpArgs false
set_option linter.unusedVariables false
namespace Go.Proofs.Ytbbjoelcbppfoaa.Br
open Go.RowKit
/-- Onto a slice of one's own. -/
theorem wp_onto {P : Program} {w : World} {o : Oper} {a : Act} {K : Act → World → Prop} {Q : Exit → Act → World → Prop} (s x : Operand) (t : TypeId)
    (ho : o.op = .call { callee := .builtin .append, args := #[s, x], argTypes := #[t, t] })
    (e : TypeId) (i : TypeInfo) (z : Value) (size bytes : Nat) (ht : P.underlying t = some (.slice e)) (hi : P.info? e = some i) (hz : i.zero = some z)
    (hsize : i.size = size) (hby : i.bytes = bytes) (hzs : z.cells.size = size) (hsz : 0 < size)
    (g n cap N : Nat) (f f' : Nat → Nat → Value) (hs : a.eval s = .slice (some ⟨g, 0, none⟩) n cap) (hO : Own w g e size n cap f)
    (ad : Addr) (m c : Nat) (news : List Value) (hx : a.eval x = .slice (some ad) m c) (hl : news.length = m * size) (hnews : ∀ j u, news[j]? = some u → w.cell? (ad.add j) = some u) (h1 : ∀ u ∈ news, u.oneCell' = true)
    (hN : n + m = N) (hf : grid size n f ++ news = grid size N f') (h63 : N ≤ maxLen) (hbytes : N * bytes ≤ 140737488355328)
    (h : ∀ g' cap' w', g ≤ g' → Own w' g' e size N cap' f' → Only (· = g) w w' → K (a.put o.dst (.slice (some ⟨g', 0, none⟩) N cap')) w') : o.wp P a w K Q := by
  subst hN
  obtain ⟨cur, hg, q1, q2, q3, q4⟩ := id hO
  have hgl : g < w.heap.size := (Array.getElem?_eq_some_iff.1 hg).1
  have hown : w.ownsRow g e size (.slice (some ⟨g, 0, none⟩) n cap) n (grid size n f) := ⟨grid_length _ _ _, .inr ⟨g, cap, cur, rfl, Nat.le_refl _, hg, q1, q2, q3, q4⟩⟩
  refine wp_append_own w s x t ho g e i z size bytes ht hi hz hsize hby hzs hsz _ n _ hs hown ad m c news hx hl hnews h1 h63 hbytes (Nat.le_of_lt hgl) ?_
  intro v' w' hown' hgrow hnn
  obtain ⟨hl', ⟨rfl, _⟩ | ⟨g', cap', cur', rfl, hg', hh, hc1, hc2, hc3, hc4⟩⟩ := hown'
  · exact absurd (hnn.1 rfl).1 (by simp)
  · exact h g' cap' w' hg' ⟨cur', hh, hc1, hc2, hc3, by rw [← hf]; exact hc4⟩ ⟨hgrow.os, hgrow.tape, hgrow.output, hgrow.size, fun k hk hn => hgrow.block k hk (fun e => hn (by simpa [Value.ownBlock] using e))⟩
theorem wpList_onto {P : Program} {ops : Array Oper} {rest : List Oper} {o : Oper} {a : Act} {w : World} {Q : Exit → Act → World → Prop} (hgd : o.guard = none) (s x : Operand) (t : TypeId)
    (ho : o.op = .call { callee := .builtin .append, args := #[s, x], argTypes := #[t, t] })
    (e : TypeId) (i : TypeInfo) (z : Value) (size bytes : Nat) (ht : P.underlying t = some (.slice e)) (hi : P.info? e = some i) (hz : i.zero = some z)
    (hsize : i.size = size) (hby : i.bytes = bytes) (hzs : z.cells.size = size) (hsz : 0 < size)
    (g n cap N : Nat) (f f' : Nat → Nat → Value) (hs : a.eval s = .slice (some ⟨g, 0, none⟩) n cap) (hO : Own w g e size n cap f)
    (ad : Addr) (m c : Nat) (news : List Value) (hx : a.eval x = .slice (some ad) m c) (hl : news.length = m * size) (hnews : ∀ j u, news[j]? = some u → w.cell? (ad.add j) = some u) (h1 : ∀ u ∈ news, u.oneCell' = true)
    (hN : n + m = N) (hf : grid size n f ++ news = grid size N f') (h63 : N ≤ maxLen) (hbytes : N * bytes ≤ 140737488355328)
    (h : ∀ g' cap' w', g ≤ g' → Own w' g' e size N cap' f' → Only (· = g) w w' → wpList P ops Q rest (a.put o.dst (.slice (some ⟨g', 0, none⟩) N cap')) w') : wpList P ops Q (o :: rest) a w :=
  wpList_plain hgd fun _ hK => wp_onto s x t ho e i z size bytes ht hi hz hsize hby hzs hsz g n cap N f f' hs hO ad m c news hx hl hnews h1 hN hf h63 hbytes (fun g' cap' w' q1 q2 q3 => hK _ _ (h g' cap' w' q1 q2 q3))
/-- One more number. -/
def snocI (n : Nat) (fs : Nat → Int) (v : Int) : Nat → Int := fun j => if j = n then v else fs j
theorem snocI_grid (n : Nat) (fs : Nat → Int) (v : Int) : grid 1 n (fun j _ => .int .i64 (fs j)) ++ [.int .i64 v] = grid 1 (n + 1) (fun j _ => .int .i64 (snocI n fs v j)) := by
  rw [grid_snoc (by decide)]
  congr 1
  · exact grid_congr (by decide) (fun k j hk => by unfold snocI; rw [if_neg (show ¬ k = n by omega)])
  · unfold snocI
    simp
theorem info_I : ∃ i : TypeInfo, Try.prog.info? 3 = some i ∧ i.zero = some (.int .i64 0) ∧ i.size = 1 ∧ i.bytes = 8 := info_parts infoI
set_option maxRecDepth 100000 in
set_option maxHeartbeats 4000000 in
theorem sclone_any (w : World) (ga oa n cap : Nat) (fs : Nat → Int) (hv : View w (some ⟨ga, oa, none⟩) 1 n fun k _ => .int .i64 (fs k)) (hn : n ≤ 100000) : Calls Try.prog 17 #[.slice (some ⟨ga, oa, none⟩) n cap] w fun e w' => ∃ g' cap', e = .returned (.slice (some ⟨g', 0, none⟩) n cap') ∧ w.heap.size ≤ g' ∧ Own w' g' 3 1 n cap' (fun k _ => .int .i64 (fs k)) ∧ Below w.heap.size w w' := by
  obtain ⟨iI, hiI, hzI, hsI, hbI⟩ := info_I
  have HI := Lib.hid (And.intro hiI (And.intro hzI (And.intro hsI hbI)))
  have HV := Lib.hid hv
  have heq := fun w' => Lib.run_eql_slice_nil (P := Try.prog) w' 31 3 (some ⟨ga, oa, none⟩) n cap 0 0 Try.underlying31
  clear hiI hzI hsI hbI hv
  go_enter Try.func17, Try.ntmps17
  go_wp2_with (first
    | (at_builtin; refine wpList_clone rfl (.tmp 5) (.tmp 6) 31 rfl 3 iI _ 1 8 Try.underlying31 HI.out.1 HI.out.2.1 HI.out.2.2.1 HI.out.2.2.2 rfl (by decide) w.heap.size rfl (at_new rfl) (some ⟨ga, oa, none⟩) n cap (fun k _ => .int .i64 (fs k)) rfl (fun e => by cases e) (HV.out.below (more (Below.refl _ _) _)) (grid_one (by decide) fun _ _ hj => rfl) (by unfold maxLen; omega) (by omega) ?_; intro g3 c3 w3 hg3 ho3 hb3; simp only [Act.put, List.setIfInBounds_toArray, List.set_cons_zero, List.set_cons_succ])
    | fail)
  have hb : Below w.heap.size w w3 := (more (Below.refl _ _) _).trans (hb3.below (by simp) (fun k hk => by omega))
  have HO := Lib.hid ho3
  have HB := Lib.hid hb
  clear ho3 hb3 hb
  go_wp2_with fail
  go_ret
  exact ⟨g3, c3, rfl, hg3, HO.out, HB.out⟩
end Go.Proofs.Ytbbjoelcbppfoaa.Br
