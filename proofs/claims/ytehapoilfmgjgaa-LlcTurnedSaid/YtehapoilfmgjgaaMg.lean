/- Messages: as cells; when two are one; what of their numbers fits; seconds in 256ths and back; roles and flags as they are told. No condition. -/
import Derived.Test.YtehapoilfmgjgaaBy
set_option linter.unusedSimpArgs false
set_option linter.unusedVariables false
namespace Go.Proofs.Ytehapoilfmgjgaa.Oct
open Go.RowKit
/-- A message. -/
@[ext] structure Msg where
  kind : Int
  change : Bool
  ack : Bool
  prop : Bool
  agr : Bool
  lrn : Bool
  fwd : Bool
  role : Int
  root : Int
  cost : Int
  bridge : Int
  port : Int
  rx : Int
  age : Int
  mx : Int
  hel : Int
  del : Int
/-- A message, as cells. -/
def rowM (m : Msg) : Array Value := #[.int .i64 m.kind, .bool m.change, .bool m.ack, .bool m.prop, .bool m.agr, .bool m.lrn, .bool m.fwd, .int .i64 m.role, .int .u64 m.root, .int .u32 m.cost, .int .u64 m.bridge, .int .u16 m.port, .int .u16 m.rx, .int .i64 m.age, .int .i64 m.mx, .int .i64 m.hel, .int .i64 m.del]
theorem rowM_size (m : Msg) : (rowM m).size = 17 := rfl
theorem rowM_one (m : Msg) : (rowM m).all (·.oneCell') = true := by kernel_rfl
theorem sizeM (m : Msg) : (Try.prog.info? 30).map (·.size) = some (rowM m).size := by rw [rowM_size]; kernel_rfl
/-- A message of zeros. -/
def zeroMsg : Msg := ⟨0, false, false, false, false, false, false, 0, 0, 0, 0, 0, 0, 0, 0, 0, 0⟩
theorem zeroM (w : World) : Sem.run Try.prog (zeroValue 30) w = .ok (.agg (rowM zeroMsg)) w := by kernel_rfl
theorem rowM_0 (m : Msg) : (rowM m)[0]? = some (.int .i64 m.kind) := rfl
theorem rowM_put_0 (m : Msg) (v : Int) : (rowM m).setIfInBounds 0 (.int .i64 v) = rowM { m with kind := v } := rfl
theorem rowM_1 (m : Msg) : (rowM m)[1]? = some (.bool m.change) := rfl
theorem rowM_put_1 (m : Msg) (v : Bool) : (rowM m).setIfInBounds 1 (.bool v) = rowM { m with change := v } := rfl
theorem rowM_2 (m : Msg) : (rowM m)[2]? = some (.bool m.ack) := rfl
theorem rowM_put_2 (m : Msg) (v : Bool) : (rowM m).setIfInBounds 2 (.bool v) = rowM { m with ack := v } := rfl
theorem rowM_3 (m : Msg) : (rowM m)[3]? = some (.bool m.prop) := rfl
theorem rowM_put_3 (m : Msg) (v : Bool) : (rowM m).setIfInBounds 3 (.bool v) = rowM { m with prop := v } := rfl
theorem rowM_4 (m : Msg) : (rowM m)[4]? = some (.bool m.agr) := rfl
theorem rowM_put_4 (m : Msg) (v : Bool) : (rowM m).setIfInBounds 4 (.bool v) = rowM { m with agr := v } := rfl
theorem rowM_5 (m : Msg) : (rowM m)[5]? = some (.bool m.lrn) := rfl
theorem rowM_put_5 (m : Msg) (v : Bool) : (rowM m).setIfInBounds 5 (.bool v) = rowM { m with lrn := v } := rfl
theorem rowM_6 (m : Msg) : (rowM m)[6]? = some (.bool m.fwd) := rfl
theorem rowM_put_6 (m : Msg) (v : Bool) : (rowM m).setIfInBounds 6 (.bool v) = rowM { m with fwd := v } := rfl
theorem rowM_7 (m : Msg) : (rowM m)[7]? = some (.int .i64 m.role) := rfl
theorem rowM_put_7 (m : Msg) (v : Int) : (rowM m).setIfInBounds 7 (.int .i64 v) = rowM { m with role := v } := rfl
theorem rowM_8 (m : Msg) : (rowM m)[8]? = some (.int .u64 m.root) := rfl
theorem rowM_put_8 (m : Msg) (v : Int) : (rowM m).setIfInBounds 8 (.int .u64 v) = rowM { m with root := v } := rfl
theorem rowM_9 (m : Msg) : (rowM m)[9]? = some (.int .u32 m.cost) := rfl
theorem rowM_put_9 (m : Msg) (v : Int) : (rowM m).setIfInBounds 9 (.int .u32 v) = rowM { m with cost := v } := rfl
theorem rowM_10 (m : Msg) : (rowM m)[10]? = some (.int .u64 m.bridge) := rfl
theorem rowM_put_10 (m : Msg) (v : Int) : (rowM m).setIfInBounds 10 (.int .u64 v) = rowM { m with bridge := v } := rfl
theorem rowM_11 (m : Msg) : (rowM m)[11]? = some (.int .u16 m.port) := rfl
theorem rowM_put_11 (m : Msg) (v : Int) : (rowM m).setIfInBounds 11 (.int .u16 v) = rowM { m with port := v } := rfl
theorem rowM_12 (m : Msg) : (rowM m)[12]? = some (.int .u16 m.rx) := rfl
theorem rowM_put_12 (m : Msg) (v : Int) : (rowM m).setIfInBounds 12 (.int .u16 v) = rowM { m with rx := v } := rfl
theorem rowM_13 (m : Msg) : (rowM m)[13]? = some (.int .i64 m.age) := rfl
theorem rowM_put_13 (m : Msg) (v : Int) : (rowM m).setIfInBounds 13 (.int .i64 v) = rowM { m with age := v } := rfl
theorem rowM_14 (m : Msg) : (rowM m)[14]? = some (.int .i64 m.mx) := rfl
theorem rowM_put_14 (m : Msg) (v : Int) : (rowM m).setIfInBounds 14 (.int .i64 v) = rowM { m with mx := v } := rfl
theorem rowM_15 (m : Msg) : (rowM m)[15]? = some (.int .i64 m.hel) := rfl
theorem rowM_put_15 (m : Msg) (v : Int) : (rowM m).setIfInBounds 15 (.int .i64 v) = rowM { m with hel := v } := rfl
theorem rowM_16 (m : Msg) : (rowM m)[16]? = some (.int .i64 m.del) := rfl
theorem rowM_put_16 (m : Msg) (v : Int) : (rowM m).setIfInBounds 16 (.int .i64 v) = rowM { m with del := v } := rfl
set_option maxRecDepth 100000 in
set_option maxHeartbeats 4000000 in
theorem eqM (m : Msg) (w : World) : Sem.run Try.prog (Op.equalIn 10000 30 (.agg (rowM m)) (.agg (rowM m))) w = .ok true w := by
  unfold rowM
  simp [go_sem]
theorem guardM : Try.prog.eqGuardType Try.prog.depth 30 = false := by kernel_rfl
theorem exec_eqM {o : Oper} {a : Act} {w : World} (x y : Operand) (ho : o.op = .binOp .eql 30 x y 30) (m : Msg) (hx : a.eval x = .agg (rowM m)) (hy : a.eval y = .agg (rowM m)) : (execOp a.eval o).run Try.prog w = .ok (.value (.bool true)) w := by
  unfold execOp
  simp only [ho, hx, hy, Sem.run_bind, run_eqGuard_agg w .eql 30 x y _ _ guardM, Result.andThen_ok, run_eql_struct, eqM, Sem.run_pure]
theorem wpList_val {P : Program} {ops : Array Oper} {rest : List Oper} {o : Oper} {a : Act} {w : World} {Q : Exit → Act → World → Prop} (hw : Region.wanted o (yielded ops a.tmps) = true) (v : Value) (h : (execOp a.eval o).run P w = .ok (.value v) w) (hk : wpList P ops Q rest (a.put o.dst v) w) : wpList P ops Q (o :: rest) a w :=
  wpList_step fun _ hK => by
    rw [if_pos hw]
    unfold Oper.wp
    rw [h]
    exact hK _ _ hk
/-- What of a message's numbers fits. -/
structure MsgOk (m : Msg) : Prop where
  root : 0 ≤ m.root ∧ m.root < 18446744073709551616
  cost : 0 ≤ m.cost ∧ m.cost < 4294967296
  bridge : 0 ≤ m.bridge ∧ m.bridge < 18446744073709551616
  port : 0 ≤ m.port ∧ m.port < 65536
/-- Seconds in 256ths. -/
def toN (x : Int) : Int := min (max x 0) 255 * 256
/-- 256ths in seconds. -/
def fromN (x : Int) : Int := (x + 128) / 256
theorem toN_in (x : Int) : 0 ≤ toN x ∧ toN x < 65536 := by unfold toN; omega
/-- A role as it is told. -/
def toldN (r : Int) : Int := if r = 1 ∨ r = 2 then 1 else if r = 3 then 2 else if r = 4 then 3 else 0
theorem toldN_in (r : Int) : toldN r = 0 ∨ toldN r = 1 ∨ toldN r = 2 ∨ toldN r = 3 := by
  unfold toldN
  split
  · omega
  split
  · omega
  split <;> omega
/-- The role that is told so. -/
def roleN (t : Int) : Int := if t = 1 then 1 else if t = 2 then 3 else if t = 3 then 4 else 0
/-- A flag's number, if it is set. -/
def bitN (b : Bool) (n : Int) : Int := if b = true then n else 0
/-- A message's flags as a byte. -/
def flagsN (m : Msg) : Int := bitN m.change 1 + bitN m.ack 128 + (if m.kind = 0 then 0 else bitN m.prop 2 + 4 * toldN m.role + bitN m.lrn 16 + bitN m.fwd 32 + bitN m.agr 64)
theorem bitN_in (b : Bool) (n : Int) (h : 0 ≤ n) : 0 ≤ bitN b n ∧ bitN b n ≤ n := by unfold bitN; split <;> omega
theorem flagsN_in (m : Msg) : 0 ≤ flagsN m ∧ flagsN m ≤ 255 := by
  have h1 := bitN_in m.change 1 (by decide)
  have h2 := bitN_in m.ack 128 (by decide)
  have h3 := bitN_in m.prop 2 (by decide)
  have h4 := bitN_in m.lrn 16 (by decide)
  have h5 := bitN_in m.fwd 32 (by decide)
  have h6 := bitN_in m.agr 64 (by decide)
  have h7 := toldN_in m.role
  unfold flagsN
  split <;> omega
/-- The numbers behind the flags, and their bytes. -/
def lfM (m : Msg) (i : Nat) : Int := if i = 0 then m.root else if i = 1 then m.cost else if i = 2 then m.bridge else if i = 3 then m.port else if i = 4 then toN m.age else if i = 5 then toN m.mx else if i = 6 then toN m.hel else toN m.del
def kfM (i : Nat) : Nat := if i = 0 then 8 else if i = 1 then 4 else if i = 2 then 8 else 2
/-- A message's bytes. -/
def encB (m : Msg) : List Int := if m.kind = 1 then [0, 0, 0, 128] else if m.kind = 0 then [0, 0, 0, 0, flagsN m] ++ acc (lfM m) kfM 8 else if m.kind = 2 then [0, 0, 2, 2, flagsN m] ++ acc (lfM m) kfM 8 ++ [0] else []
end Go.Proofs.Ytehapoilfmgjgaa.Oct
