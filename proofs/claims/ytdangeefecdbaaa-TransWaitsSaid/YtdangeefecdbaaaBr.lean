/- Plain words for bridges and ports in memory: a record's cells, ports that lie in a block, worlds that part in new blocks and in one written block. No condition. -/
import Derived.Test.YtdangeefecdbaaaProg
import Derived.WalkKit
import Derived.KernelRfl
import Derived.Deep.QuietTactic
import Derived.BigQuiet
import Derived.Deep.MidRow
import Derived.Laws.EntriesVeiled
namespace Go.Proofs.Ytdangeefecdbaaa.Br
open Go.RowKit
/-- A record's cells: numbers and bools, by their places. -/
structure Rec where
  i : Nat → Int
  b : Nat → Bool
/-- One number is written. -/
def Rec.setI (r : Rec) (j : Nat) (v : Int) : Rec := { r with i := fun x => if x = j then v else r.i x }
/-- One bool is written. -/
def Rec.setB (r : Rec) (j : Nat) (v : Bool) : Rec := { r with b := fun x => if x = j then v else r.b x }
theorem Rec.setI_i (r : Rec) (j x : Nat) (v : Int) : (r.setI j v).i x = if x = j then v else r.i x := rfl
theorem Rec.setI_b (r : Rec) (j x : Nat) (v : Int) : (r.setI j v).b x = r.b x := rfl
theorem Rec.setB_b (r : Rec) (j x : Nat) (v : Bool) : (r.setB j v).b x = if x = j then v else r.b x := rfl
theorem Rec.setB_i (r : Rec) (j x : Nat) (v : Bool) : (r.setB j v).i x = r.i x := rfl

/-- A port, as cells. -/
def rowP (r : Rec) : Array Value := #[.int .u16 (r.i 0), .int .u32 (r.i 1), .bool (r.b 2), .bool (r.b 3), .bool (r.b 4), .bool (r.b 5), .int .i64 (r.i 6), .int .i64 (r.i 7), .int .i64 (r.i 8), .int .i64 (r.i 9), .int .i64 (r.i 10), .int .i64 (r.i 11), .int .i64 (r.i 12), .int .i64 (r.i 13), .int .i64 (r.i 14), .int .i64 (r.i 15), .int .i64 (r.i 16), .int .i64 (r.i 17), .int .i64 (r.i 18), .int .i64 (r.i 19), .int .i64 (r.i 20), .int .i64 (r.i 21), .bool (r.b 22), .bool (r.b 23), .bool (r.b 24), .bool (r.b 25), .bool (r.b 26), .bool (r.b 27), .bool (r.b 28), .bool (r.b 29), .bool (r.b 30), .bool (r.b 31), .bool (r.b 32), .bool (r.b 33), .bool (r.b 34), .bool (r.b 35), .bool (r.b 36), .bool (r.b 37), .bool (r.b 38), .bool (r.b 39), .bool (r.b 40), .bool (r.b 41), .bool (r.b 42), .bool (r.b 43), .bool (r.b 44), .bool (r.b 45), .bool (r.b 46), .bool (r.b 47), .bool (r.b 48), .bool (r.b 49), .bool (r.b 50), .int .i64 (r.i 51), .bool (r.b 52), .bool (r.b 53), .bool (r.b 54), .bool (r.b 55), .bool (r.b 56), .bool (r.b 57), .int .i64 (r.i 58), .int .u64 (r.i 59), .int .u32 (r.i 60), .int .u64 (r.i 61), .int .u16 (r.i 62), .int .u16 (r.i 63), .int .i64 (r.i 64), .int .i64 (r.i 65), .int .i64 (r.i 66), .int .i64 (r.i 67), .int .u64 (r.i 68), .int .u32 (r.i 69), .int .u64 (r.i 70), .int .u16 (r.i 71), .int .u16 (r.i 72), .int .u64 (r.i 73), .int .u32 (r.i 74), .int .u64 (r.i 75), .int .u16 (r.i 76), .int .u16 (r.i 77), .int .i64 (r.i 78), .int .i64 (r.i 79), .int .i64 (r.i 80), .int .i64 (r.i 81), .int .i64 (r.i 82), .int .i64 (r.i 83), .int .i64 (r.i 84), .int .i64 (r.i 85), .int .i64 (r.i 86), .int .i64 (r.i 87), .int .i64 (r.i 88)]
theorem rowP_size (r : Rec) : (rowP r).size = 89 := rfl
theorem rowP_0 (r : Rec) : (rowP r)[0]? = some (.int .u16 (r.i 0)) := rfl
theorem rowP_1 (r : Rec) : (rowP r)[1]? = some (.int .u32 (r.i 1)) := rfl
theorem rowP_2 (r : Rec) : (rowP r)[2]? = some (.bool (r.b 2)) := rfl
theorem rowP_3 (r : Rec) : (rowP r)[3]? = some (.bool (r.b 3)) := rfl
theorem rowP_4 (r : Rec) : (rowP r)[4]? = some (.bool (r.b 4)) := rfl
theorem rowP_5 (r : Rec) : (rowP r)[5]? = some (.bool (r.b 5)) := rfl
theorem rowP_6 (r : Rec) : (rowP r)[6]? = some (.int .i64 (r.i 6)) := rfl
theorem rowP_7 (r : Rec) : (rowP r)[7]? = some (.int .i64 (r.i 7)) := rfl
theorem rowP_8 (r : Rec) : (rowP r)[8]? = some (.int .i64 (r.i 8)) := rfl
theorem rowP_9 (r : Rec) : (rowP r)[9]? = some (.int .i64 (r.i 9)) := rfl
theorem rowP_10 (r : Rec) : (rowP r)[10]? = some (.int .i64 (r.i 10)) := rfl
theorem rowP_11 (r : Rec) : (rowP r)[11]? = some (.int .i64 (r.i 11)) := rfl
theorem rowP_12 (r : Rec) : (rowP r)[12]? = some (.int .i64 (r.i 12)) := rfl
theorem rowP_13 (r : Rec) : (rowP r)[13]? = some (.int .i64 (r.i 13)) := rfl
theorem rowP_14 (r : Rec) : (rowP r)[14]? = some (.int .i64 (r.i 14)) := rfl
theorem rowP_15 (r : Rec) : (rowP r)[15]? = some (.int .i64 (r.i 15)) := rfl
theorem rowP_16 (r : Rec) : (rowP r)[16]? = some (.int .i64 (r.i 16)) := rfl
theorem rowP_17 (r : Rec) : (rowP r)[17]? = some (.int .i64 (r.i 17)) := rfl
theorem rowP_18 (r : Rec) : (rowP r)[18]? = some (.int .i64 (r.i 18)) := rfl
theorem rowP_19 (r : Rec) : (rowP r)[19]? = some (.int .i64 (r.i 19)) := rfl
theorem rowP_20 (r : Rec) : (rowP r)[20]? = some (.int .i64 (r.i 20)) := rfl
theorem rowP_21 (r : Rec) : (rowP r)[21]? = some (.int .i64 (r.i 21)) := rfl
theorem rowP_22 (r : Rec) : (rowP r)[22]? = some (.bool (r.b 22)) := rfl
theorem rowP_23 (r : Rec) : (rowP r)[23]? = some (.bool (r.b 23)) := rfl
theorem rowP_24 (r : Rec) : (rowP r)[24]? = some (.bool (r.b 24)) := rfl
theorem rowP_25 (r : Rec) : (rowP r)[25]? = some (.bool (r.b 25)) := rfl
theorem rowP_26 (r : Rec) : (rowP r)[26]? = some (.bool (r.b 26)) := rfl
theorem rowP_27 (r : Rec) : (rowP r)[27]? = some (.bool (r.b 27)) := rfl
theorem rowP_28 (r : Rec) : (rowP r)[28]? = some (.bool (r.b 28)) := rfl
theorem rowP_29 (r : Rec) : (rowP r)[29]? = some (.bool (r.b 29)) := rfl
theorem rowP_30 (r : Rec) : (rowP r)[30]? = some (.bool (r.b 30)) := rfl
theorem rowP_31 (r : Rec) : (rowP r)[31]? = some (.bool (r.b 31)) := rfl
theorem rowP_32 (r : Rec) : (rowP r)[32]? = some (.bool (r.b 32)) := rfl
theorem rowP_33 (r : Rec) : (rowP r)[33]? = some (.bool (r.b 33)) := rfl
theorem rowP_34 (r : Rec) : (rowP r)[34]? = some (.bool (r.b 34)) := rfl
theorem rowP_35 (r : Rec) : (rowP r)[35]? = some (.bool (r.b 35)) := rfl
theorem rowP_36 (r : Rec) : (rowP r)[36]? = some (.bool (r.b 36)) := rfl
theorem rowP_37 (r : Rec) : (rowP r)[37]? = some (.bool (r.b 37)) := rfl
theorem rowP_38 (r : Rec) : (rowP r)[38]? = some (.bool (r.b 38)) := rfl
theorem rowP_39 (r : Rec) : (rowP r)[39]? = some (.bool (r.b 39)) := rfl
theorem rowP_40 (r : Rec) : (rowP r)[40]? = some (.bool (r.b 40)) := rfl
theorem rowP_41 (r : Rec) : (rowP r)[41]? = some (.bool (r.b 41)) := rfl
theorem rowP_42 (r : Rec) : (rowP r)[42]? = some (.bool (r.b 42)) := rfl
theorem rowP_43 (r : Rec) : (rowP r)[43]? = some (.bool (r.b 43)) := rfl
theorem rowP_44 (r : Rec) : (rowP r)[44]? = some (.bool (r.b 44)) := rfl
theorem rowP_45 (r : Rec) : (rowP r)[45]? = some (.bool (r.b 45)) := rfl
theorem rowP_46 (r : Rec) : (rowP r)[46]? = some (.bool (r.b 46)) := rfl
theorem rowP_47 (r : Rec) : (rowP r)[47]? = some (.bool (r.b 47)) := rfl
theorem rowP_48 (r : Rec) : (rowP r)[48]? = some (.bool (r.b 48)) := rfl
theorem rowP_49 (r : Rec) : (rowP r)[49]? = some (.bool (r.b 49)) := rfl
theorem rowP_50 (r : Rec) : (rowP r)[50]? = some (.bool (r.b 50)) := rfl
theorem rowP_51 (r : Rec) : (rowP r)[51]? = some (.int .i64 (r.i 51)) := rfl
theorem rowP_52 (r : Rec) : (rowP r)[52]? = some (.bool (r.b 52)) := rfl
theorem rowP_53 (r : Rec) : (rowP r)[53]? = some (.bool (r.b 53)) := rfl
theorem rowP_54 (r : Rec) : (rowP r)[54]? = some (.bool (r.b 54)) := rfl
theorem rowP_55 (r : Rec) : (rowP r)[55]? = some (.bool (r.b 55)) := rfl
theorem rowP_56 (r : Rec) : (rowP r)[56]? = some (.bool (r.b 56)) := rfl
theorem rowP_57 (r : Rec) : (rowP r)[57]? = some (.bool (r.b 57)) := rfl
theorem rowP_58 (r : Rec) : (rowP r)[58]? = some (.int .i64 (r.i 58)) := rfl
theorem rowP_59 (r : Rec) : (rowP r)[59]? = some (.int .u64 (r.i 59)) := rfl
theorem rowP_60 (r : Rec) : (rowP r)[60]? = some (.int .u32 (r.i 60)) := rfl
theorem rowP_61 (r : Rec) : (rowP r)[61]? = some (.int .u64 (r.i 61)) := rfl
theorem rowP_62 (r : Rec) : (rowP r)[62]? = some (.int .u16 (r.i 62)) := rfl
theorem rowP_63 (r : Rec) : (rowP r)[63]? = some (.int .u16 (r.i 63)) := rfl
theorem rowP_64 (r : Rec) : (rowP r)[64]? = some (.int .i64 (r.i 64)) := rfl
theorem rowP_65 (r : Rec) : (rowP r)[65]? = some (.int .i64 (r.i 65)) := rfl
theorem rowP_66 (r : Rec) : (rowP r)[66]? = some (.int .i64 (r.i 66)) := rfl
theorem rowP_67 (r : Rec) : (rowP r)[67]? = some (.int .i64 (r.i 67)) := rfl
theorem rowP_68 (r : Rec) : (rowP r)[68]? = some (.int .u64 (r.i 68)) := rfl
theorem rowP_69 (r : Rec) : (rowP r)[69]? = some (.int .u32 (r.i 69)) := rfl
theorem rowP_70 (r : Rec) : (rowP r)[70]? = some (.int .u64 (r.i 70)) := rfl
theorem rowP_71 (r : Rec) : (rowP r)[71]? = some (.int .u16 (r.i 71)) := rfl
theorem rowP_72 (r : Rec) : (rowP r)[72]? = some (.int .u16 (r.i 72)) := rfl
theorem rowP_73 (r : Rec) : (rowP r)[73]? = some (.int .u64 (r.i 73)) := rfl
theorem rowP_74 (r : Rec) : (rowP r)[74]? = some (.int .u32 (r.i 74)) := rfl
theorem rowP_75 (r : Rec) : (rowP r)[75]? = some (.int .u64 (r.i 75)) := rfl
theorem rowP_76 (r : Rec) : (rowP r)[76]? = some (.int .u16 (r.i 76)) := rfl
theorem rowP_77 (r : Rec) : (rowP r)[77]? = some (.int .u16 (r.i 77)) := rfl
theorem rowP_78 (r : Rec) : (rowP r)[78]? = some (.int .i64 (r.i 78)) := rfl
theorem rowP_79 (r : Rec) : (rowP r)[79]? = some (.int .i64 (r.i 79)) := rfl
theorem rowP_80 (r : Rec) : (rowP r)[80]? = some (.int .i64 (r.i 80)) := rfl
theorem rowP_81 (r : Rec) : (rowP r)[81]? = some (.int .i64 (r.i 81)) := rfl
theorem rowP_82 (r : Rec) : (rowP r)[82]? = some (.int .i64 (r.i 82)) := rfl
theorem rowP_83 (r : Rec) : (rowP r)[83]? = some (.int .i64 (r.i 83)) := rfl
theorem rowP_84 (r : Rec) : (rowP r)[84]? = some (.int .i64 (r.i 84)) := rfl
theorem rowP_85 (r : Rec) : (rowP r)[85]? = some (.int .i64 (r.i 85)) := rfl
theorem rowP_86 (r : Rec) : (rowP r)[86]? = some (.int .i64 (r.i 86)) := rfl
theorem rowP_87 (r : Rec) : (rowP r)[87]? = some (.int .i64 (r.i 87)) := rfl
theorem rowP_88 (r : Rec) : (rowP r)[88]? = some (.int .i64 (r.i 88)) := rfl
theorem rowP_put_0 (r : Rec) (v : Int) : (rowP r).setIfInBounds 0 (.int .u16 v) = rowP (r.setI 0 v) := rfl
theorem rowP_put_1 (r : Rec) (v : Int) : (rowP r).setIfInBounds 1 (.int .u32 v) = rowP (r.setI 1 v) := rfl
theorem rowP_put_2 (r : Rec) (v : Bool) : (rowP r).setIfInBounds 2 (.bool v) = rowP (r.setB 2 v) := rfl
theorem rowP_put_3 (r : Rec) (v : Bool) : (rowP r).setIfInBounds 3 (.bool v) = rowP (r.setB 3 v) := rfl
theorem rowP_put_4 (r : Rec) (v : Bool) : (rowP r).setIfInBounds 4 (.bool v) = rowP (r.setB 4 v) := rfl
theorem rowP_put_5 (r : Rec) (v : Bool) : (rowP r).setIfInBounds 5 (.bool v) = rowP (r.setB 5 v) := rfl
theorem rowP_put_6 (r : Rec) (v : Int) : (rowP r).setIfInBounds 6 (.int .i64 v) = rowP (r.setI 6 v) := rfl
theorem rowP_put_7 (r : Rec) (v : Int) : (rowP r).setIfInBounds 7 (.int .i64 v) = rowP (r.setI 7 v) := rfl
theorem rowP_put_8 (r : Rec) (v : Int) : (rowP r).setIfInBounds 8 (.int .i64 v) = rowP (r.setI 8 v) := rfl
theorem rowP_put_9 (r : Rec) (v : Int) : (rowP r).setIfInBounds 9 (.int .i64 v) = rowP (r.setI 9 v) := rfl
theorem rowP_put_10 (r : Rec) (v : Int) : (rowP r).setIfInBounds 10 (.int .i64 v) = rowP (r.setI 10 v) := rfl
theorem rowP_put_11 (r : Rec) (v : Int) : (rowP r).setIfInBounds 11 (.int .i64 v) = rowP (r.setI 11 v) := rfl
theorem rowP_put_12 (r : Rec) (v : Int) : (rowP r).setIfInBounds 12 (.int .i64 v) = rowP (r.setI 12 v) := rfl
theorem rowP_put_13 (r : Rec) (v : Int) : (rowP r).setIfInBounds 13 (.int .i64 v) = rowP (r.setI 13 v) := rfl
theorem rowP_put_14 (r : Rec) (v : Int) : (rowP r).setIfInBounds 14 (.int .i64 v) = rowP (r.setI 14 v) := rfl
theorem rowP_put_15 (r : Rec) (v : Int) : (rowP r).setIfInBounds 15 (.int .i64 v) = rowP (r.setI 15 v) := rfl
theorem rowP_put_16 (r : Rec) (v : Int) : (rowP r).setIfInBounds 16 (.int .i64 v) = rowP (r.setI 16 v) := rfl
theorem rowP_put_17 (r : Rec) (v : Int) : (rowP r).setIfInBounds 17 (.int .i64 v) = rowP (r.setI 17 v) := rfl
theorem rowP_put_18 (r : Rec) (v : Int) : (rowP r).setIfInBounds 18 (.int .i64 v) = rowP (r.setI 18 v) := rfl
theorem rowP_put_19 (r : Rec) (v : Int) : (rowP r).setIfInBounds 19 (.int .i64 v) = rowP (r.setI 19 v) := rfl
theorem rowP_put_20 (r : Rec) (v : Int) : (rowP r).setIfInBounds 20 (.int .i64 v) = rowP (r.setI 20 v) := rfl
theorem rowP_put_21 (r : Rec) (v : Int) : (rowP r).setIfInBounds 21 (.int .i64 v) = rowP (r.setI 21 v) := rfl
theorem rowP_put_22 (r : Rec) (v : Bool) : (rowP r).setIfInBounds 22 (.bool v) = rowP (r.setB 22 v) := rfl
theorem rowP_put_23 (r : Rec) (v : Bool) : (rowP r).setIfInBounds 23 (.bool v) = rowP (r.setB 23 v) := rfl
theorem rowP_put_24 (r : Rec) (v : Bool) : (rowP r).setIfInBounds 24 (.bool v) = rowP (r.setB 24 v) := rfl
theorem rowP_put_25 (r : Rec) (v : Bool) : (rowP r).setIfInBounds 25 (.bool v) = rowP (r.setB 25 v) := rfl
theorem rowP_put_26 (r : Rec) (v : Bool) : (rowP r).setIfInBounds 26 (.bool v) = rowP (r.setB 26 v) := rfl
theorem rowP_put_27 (r : Rec) (v : Bool) : (rowP r).setIfInBounds 27 (.bool v) = rowP (r.setB 27 v) := rfl
theorem rowP_put_28 (r : Rec) (v : Bool) : (rowP r).setIfInBounds 28 (.bool v) = rowP (r.setB 28 v) := rfl
theorem rowP_put_29 (r : Rec) (v : Bool) : (rowP r).setIfInBounds 29 (.bool v) = rowP (r.setB 29 v) := rfl
theorem rowP_put_30 (r : Rec) (v : Bool) : (rowP r).setIfInBounds 30 (.bool v) = rowP (r.setB 30 v) := rfl
theorem rowP_put_31 (r : Rec) (v : Bool) : (rowP r).setIfInBounds 31 (.bool v) = rowP (r.setB 31 v) := rfl
theorem rowP_put_32 (r : Rec) (v : Bool) : (rowP r).setIfInBounds 32 (.bool v) = rowP (r.setB 32 v) := rfl
theorem rowP_put_33 (r : Rec) (v : Bool) : (rowP r).setIfInBounds 33 (.bool v) = rowP (r.setB 33 v) := rfl
theorem rowP_put_34 (r : Rec) (v : Bool) : (rowP r).setIfInBounds 34 (.bool v) = rowP (r.setB 34 v) := rfl
theorem rowP_put_35 (r : Rec) (v : Bool) : (rowP r).setIfInBounds 35 (.bool v) = rowP (r.setB 35 v) := rfl
theorem rowP_put_36 (r : Rec) (v : Bool) : (rowP r).setIfInBounds 36 (.bool v) = rowP (r.setB 36 v) := rfl
theorem rowP_put_37 (r : Rec) (v : Bool) : (rowP r).setIfInBounds 37 (.bool v) = rowP (r.setB 37 v) := rfl
theorem rowP_put_38 (r : Rec) (v : Bool) : (rowP r).setIfInBounds 38 (.bool v) = rowP (r.setB 38 v) := rfl
theorem rowP_put_39 (r : Rec) (v : Bool) : (rowP r).setIfInBounds 39 (.bool v) = rowP (r.setB 39 v) := rfl
theorem rowP_put_40 (r : Rec) (v : Bool) : (rowP r).setIfInBounds 40 (.bool v) = rowP (r.setB 40 v) := rfl
theorem rowP_put_41 (r : Rec) (v : Bool) : (rowP r).setIfInBounds 41 (.bool v) = rowP (r.setB 41 v) := rfl
theorem rowP_put_42 (r : Rec) (v : Bool) : (rowP r).setIfInBounds 42 (.bool v) = rowP (r.setB 42 v) := rfl
theorem rowP_put_43 (r : Rec) (v : Bool) : (rowP r).setIfInBounds 43 (.bool v) = rowP (r.setB 43 v) := rfl
theorem rowP_put_44 (r : Rec) (v : Bool) : (rowP r).setIfInBounds 44 (.bool v) = rowP (r.setB 44 v) := rfl
theorem rowP_put_45 (r : Rec) (v : Bool) : (rowP r).setIfInBounds 45 (.bool v) = rowP (r.setB 45 v) := rfl
theorem rowP_put_46 (r : Rec) (v : Bool) : (rowP r).setIfInBounds 46 (.bool v) = rowP (r.setB 46 v) := rfl
theorem rowP_put_47 (r : Rec) (v : Bool) : (rowP r).setIfInBounds 47 (.bool v) = rowP (r.setB 47 v) := rfl
theorem rowP_put_48 (r : Rec) (v : Bool) : (rowP r).setIfInBounds 48 (.bool v) = rowP (r.setB 48 v) := rfl
theorem rowP_put_49 (r : Rec) (v : Bool) : (rowP r).setIfInBounds 49 (.bool v) = rowP (r.setB 49 v) := rfl
theorem rowP_put_50 (r : Rec) (v : Bool) : (rowP r).setIfInBounds 50 (.bool v) = rowP (r.setB 50 v) := rfl
theorem rowP_put_51 (r : Rec) (v : Int) : (rowP r).setIfInBounds 51 (.int .i64 v) = rowP (r.setI 51 v) := rfl
theorem rowP_put_52 (r : Rec) (v : Bool) : (rowP r).setIfInBounds 52 (.bool v) = rowP (r.setB 52 v) := rfl
theorem rowP_put_53 (r : Rec) (v : Bool) : (rowP r).setIfInBounds 53 (.bool v) = rowP (r.setB 53 v) := rfl
theorem rowP_put_54 (r : Rec) (v : Bool) : (rowP r).setIfInBounds 54 (.bool v) = rowP (r.setB 54 v) := rfl
theorem rowP_put_55 (r : Rec) (v : Bool) : (rowP r).setIfInBounds 55 (.bool v) = rowP (r.setB 55 v) := rfl
theorem rowP_put_56 (r : Rec) (v : Bool) : (rowP r).setIfInBounds 56 (.bool v) = rowP (r.setB 56 v) := rfl
theorem rowP_put_57 (r : Rec) (v : Bool) : (rowP r).setIfInBounds 57 (.bool v) = rowP (r.setB 57 v) := rfl
theorem rowP_put_58 (r : Rec) (v : Int) : (rowP r).setIfInBounds 58 (.int .i64 v) = rowP (r.setI 58 v) := rfl
theorem rowP_put_59 (r : Rec) (v : Int) : (rowP r).setIfInBounds 59 (.int .u64 v) = rowP (r.setI 59 v) := rfl
theorem rowP_put_60 (r : Rec) (v : Int) : (rowP r).setIfInBounds 60 (.int .u32 v) = rowP (r.setI 60 v) := rfl
theorem rowP_put_61 (r : Rec) (v : Int) : (rowP r).setIfInBounds 61 (.int .u64 v) = rowP (r.setI 61 v) := rfl
theorem rowP_put_62 (r : Rec) (v : Int) : (rowP r).setIfInBounds 62 (.int .u16 v) = rowP (r.setI 62 v) := rfl
theorem rowP_put_63 (r : Rec) (v : Int) : (rowP r).setIfInBounds 63 (.int .u16 v) = rowP (r.setI 63 v) := rfl
theorem rowP_put_64 (r : Rec) (v : Int) : (rowP r).setIfInBounds 64 (.int .i64 v) = rowP (r.setI 64 v) := rfl
theorem rowP_put_65 (r : Rec) (v : Int) : (rowP r).setIfInBounds 65 (.int .i64 v) = rowP (r.setI 65 v) := rfl
theorem rowP_put_66 (r : Rec) (v : Int) : (rowP r).setIfInBounds 66 (.int .i64 v) = rowP (r.setI 66 v) := rfl
theorem rowP_put_67 (r : Rec) (v : Int) : (rowP r).setIfInBounds 67 (.int .i64 v) = rowP (r.setI 67 v) := rfl
theorem rowP_put_68 (r : Rec) (v : Int) : (rowP r).setIfInBounds 68 (.int .u64 v) = rowP (r.setI 68 v) := rfl
theorem rowP_put_69 (r : Rec) (v : Int) : (rowP r).setIfInBounds 69 (.int .u32 v) = rowP (r.setI 69 v) := rfl
theorem rowP_put_70 (r : Rec) (v : Int) : (rowP r).setIfInBounds 70 (.int .u64 v) = rowP (r.setI 70 v) := rfl
theorem rowP_put_71 (r : Rec) (v : Int) : (rowP r).setIfInBounds 71 (.int .u16 v) = rowP (r.setI 71 v) := rfl
theorem rowP_put_72 (r : Rec) (v : Int) : (rowP r).setIfInBounds 72 (.int .u16 v) = rowP (r.setI 72 v) := rfl
theorem rowP_put_73 (r : Rec) (v : Int) : (rowP r).setIfInBounds 73 (.int .u64 v) = rowP (r.setI 73 v) := rfl
theorem rowP_put_74 (r : Rec) (v : Int) : (rowP r).setIfInBounds 74 (.int .u32 v) = rowP (r.setI 74 v) := rfl
theorem rowP_put_75 (r : Rec) (v : Int) : (rowP r).setIfInBounds 75 (.int .u64 v) = rowP (r.setI 75 v) := rfl
theorem rowP_put_76 (r : Rec) (v : Int) : (rowP r).setIfInBounds 76 (.int .u16 v) = rowP (r.setI 76 v) := rfl
theorem rowP_put_77 (r : Rec) (v : Int) : (rowP r).setIfInBounds 77 (.int .u16 v) = rowP (r.setI 77 v) := rfl
theorem rowP_put_78 (r : Rec) (v : Int) : (rowP r).setIfInBounds 78 (.int .i64 v) = rowP (r.setI 78 v) := rfl
theorem rowP_put_79 (r : Rec) (v : Int) : (rowP r).setIfInBounds 79 (.int .i64 v) = rowP (r.setI 79 v) := rfl
theorem rowP_put_80 (r : Rec) (v : Int) : (rowP r).setIfInBounds 80 (.int .i64 v) = rowP (r.setI 80 v) := rfl
theorem rowP_put_81 (r : Rec) (v : Int) : (rowP r).setIfInBounds 81 (.int .i64 v) = rowP (r.setI 81 v) := rfl
theorem rowP_put_82 (r : Rec) (v : Int) : (rowP r).setIfInBounds 82 (.int .i64 v) = rowP (r.setI 82 v) := rfl
theorem rowP_put_83 (r : Rec) (v : Int) : (rowP r).setIfInBounds 83 (.int .i64 v) = rowP (r.setI 83 v) := rfl
theorem rowP_put_84 (r : Rec) (v : Int) : (rowP r).setIfInBounds 84 (.int .i64 v) = rowP (r.setI 84 v) := rfl
theorem rowP_put_85 (r : Rec) (v : Int) : (rowP r).setIfInBounds 85 (.int .i64 v) = rowP (r.setI 85 v) := rfl
theorem rowP_put_86 (r : Rec) (v : Int) : (rowP r).setIfInBounds 86 (.int .i64 v) = rowP (r.setI 86 v) := rfl
theorem rowP_put_87 (r : Rec) (v : Int) : (rowP r).setIfInBounds 87 (.int .i64 v) = rowP (r.setI 87 v) := rfl
theorem rowP_put_88 (r : Rec) (v : Int) : (rowP r).setIfInBounds 88 (.int .i64 v) = rowP (r.setI 88 v) := rfl
/-- A port's cell. -/
def cellP (r : Rec) (j : Nat) : Value := (rowP r)[j]?.getD undef
theorem rowP_get {r : Rec} {j : Nat} (h : j < 89) : (rowP r)[j]? = some (cellP r j) := by
  unfold cellP
  have hs : j < (rowP r).size := by rw [rowP_size]; exact h
  rw [Array.getElem?_eq_getElem hs]
  rfl

/-! ### Worlds -/
/-- All old blocks but some are as they were; the streams are as they were; no block has gone. -/
structure Only (S : Nat → Prop) (w w' : World) : Prop where
  os : w'.os = w.os
  tape : w'.tape = w.tape
  output : w'.output = w.output
  size : w.heap.size ≤ w'.heap.size
  block : ∀ k, k < w.heap.size → ¬ S k → w'.heap[k]? = w.heap[k]?
theorem Only.refl (S : Nat → Prop) (w : World) : Only S w w := ⟨rfl, rfl, rfl, Nat.le_refl _, fun _ _ _ => rfl⟩
theorem Only.trans {S : Nat → Prop} {a b c : World} (h : Only S a b) (k : Only S b c) : Only S a c :=
  ⟨k.os.trans h.os, k.tape.trans h.tape, k.output.trans h.output, Nat.le_trans h.size k.size, fun i hi hn => (k.block i (Nat.lt_of_lt_of_le hi h.size) hn).trans (h.block i hi hn)⟩
theorem Only.of_below {S : Nat → Prop} {w w' : World} (h : Below w.heap.size w w') : Only S w w' := ⟨h.os, h.tape, h.output, h.size, fun k hk _ => h.block k hk⟩
theorem Only.below {S : Nat → Prop} {w w' : World} {B : Nat} (h : Only S w w') (hB : B ≤ w.heap.size) (hS : ∀ k, S k → B ≤ k) : Below B w w' :=
  ⟨h.os, h.tape, h.output, h.size, fun k hk => h.block k (by omega) (fun hs => by have := hS k hs; omega)⟩
theorem Only.drew {S : Nat → Prop} {a w : World} (h : Only S a w) : Only S a w.drew := ⟨h.os, h.tape, h.output, h.size, h.block⟩
theorem Only.alloc {S : Nat → Prop} {a w : World} (h : Only S a w) (o : Obj) : Only S a (w.alloc o) :=
  h.trans ⟨rfl, rfl, rfl, by simp, fun k hk _ => Below.heap_alloc _ _ _ hk⟩
theorem Only.setCell {S : Nat → Prop} {a w : World} (h : Only S a w) {p : Addr} (hp : S p.block ∨ a.heap.size ≤ p.block) (v : Value) : Only S a (w.setCell p v) :=
  ⟨h.os, h.tape, h.output, by simpa [World.setCell] using h.size, fun k hk hn => by
    rw [Below.heap_setCell _ _ _ _ (fun e => by rcases hp with hp | hp; exact hn (e ▸ hp); omega)]
    exact h.block k hk hn⟩
theorem Only.cell {S : Nat → Prop} {w w' : World} (h : Only S w w') {p : Addr} (hp : p.block < w.heap.size) (hn : ¬ S p.block) : w'.cell? p = w.cell? p := World.cell?_of_block (w := w) (h.block p.block hp hn)
theorem Only.mono {S T : Nat → Prop} {w w' : World} (h : Only S w w') (hST : ∀ k, S k → T k) : Only T w w' := ⟨h.os, h.tape, h.output, h.size, fun k hk hn => h.block k hk (fun hs => hn (hST k hs))⟩

/-! ### Ports that lie in a block of their own -/
/-- n ports lie in block g, from its head on; none of its cells is frozen. -/
def Ports (w : World) (g n : Nat) (ps : Nat → Rec) : Prop :=
  ∃ C : Array Value, w.heap[g]? = some (.cells C 51 (0, 0)) ∧ ∀ k, k < n → ∀ j, j < 89 → C[k * 89 + j]? = some (cellP (ps k) j)
theorem Ports.lt {w : World} {g n : Nat} {ps : Nat → Rec} (h : Ports w g n ps) : g < w.heap.size := by
  obtain ⟨C, hg, _⟩ := h
  exact (Array.getElem?_eq_some_iff.1 hg).1
theorem Ports.cell {w : World} {g n : Nat} {ps : Nat → Rec} (h : Ports w g n ps) {k j : Nat} (hk : k < n) (hj : j < 89) : w.cell? ⟨g, k * 89 + j, none⟩ = some (cellP (ps k) j) := by
  obtain ⟨C, hg, hc⟩ := h
  simpa [World.cell?, hg] using hc k hk j hj
theorem Ports.free {w : World} {g n : Nat} {ps : Nat → Rec} (h : Ports w g n ps) (o : Nat) : w.frozen? ⟨g, o, none⟩ = false := by
  obtain ⟨C, hg, _⟩ := h
  simp [World.frozen?, hg]
theorem Ports.of_block {w w' : World} {g n : Nat} {ps : Nat → Rec} (h : Ports w g n ps) (e : w'.heap[g]? = w.heap[g]?) : Ports w' g n ps := by
  obtain ⟨C, hg, hc⟩ := h
  exact ⟨C, e.trans hg, hc⟩
theorem Ports.below {w w' : World} {g n B : Nat} {ps : Nat → Rec} (h : Ports w g n ps) (hb : Below B w w') (hB : g < B) : Ports w' g n ps := h.of_block (hb.block g hB)
theorem Ports.only {S : Nat → Prop} {w w' : World} {g n : Nat} {ps : Nat → Rec} (h : Ports w g n ps) (hb : Only S w w') (hn : ¬ S g) : Ports w' g n ps := h.of_block (hb.block g h.lt hn)
theorem Ports.alloc {w : World} {g n : Nat} {ps : Nat → Rec} (h : Ports w g n ps) (o : Obj) : Ports (w.alloc o) g n ps := h.of_block (Below.heap_alloc _ _ _ h.lt)
theorem Ports.drew {w : World} {g n : Nat} {ps : Nat → Rec} (h : Ports w g n ps) : Ports w.drew g n ps := h
theorem Ports.other {w : World} {g n : Nat} {ps : Nat → Rec} (h : Ports w g n ps) {a : Addr} (ha : g ≠ a.block) (v : Value) : Ports (w.setCell a v) g n ps := h.of_block (Below.heap_setCell _ _ _ _ ha)
/-- The ports, one of them another one. -/
def upd (ps : Nat → Rec) (k : Nat) (p : Rec) : Nat → Rec := fun x => if x = k then p else ps x
theorem upd_same (ps : Nat → Rec) (k : Nat) (p : Rec) : upd ps k p k = p := if_pos rfl
theorem upd_other (ps : Nat → Rec) {k x : Nat} (p : Rec) (h : x ≠ k) : upd ps k p x = ps x := if_neg h
theorem upd_upd (ps : Nat → Rec) (k : Nat) (p q : Rec) : upd (upd ps k p) k q = upd ps k q := by
  funext x
  unfold upd
  split <;> rfl
theorem upd_self (ps : Nat → Rec) (k : Nat) : upd ps k (ps k) = ps := by
  funext x
  unfold upd
  split
  · rename_i h
    rw [h]
  · rfl
/-- A store into a port's cell. -/
theorem Ports.put {w : World} {g n : Nat} {ps : Nat → Rec} (h : Ports w g n ps) {k j : Nat} {p' : Rec} (v : Value) (hj : j < 89) (hv : (rowP (ps k)).setIfInBounds j v = rowP p') :
    Ports (w.setCell ⟨g, k * 89 + j, none⟩ v) g n (upd ps k p') := by
  obtain ⟨C, hg, hc⟩ := h
  refine ⟨C.setIfInBounds (k * 89 + j) v, by simp [World.setCell, Array.getElem?_modify, hg], fun x hx y hy => ?_⟩
  rw [Array.getElem?_setIfInBounds]
  by_cases e : x = k
  · subst e
    rw [upd_same]
    have hs : (rowP p')[y]? = some (cellP p' y) := rowP_get hy
    rw [← hv, Array.getElem?_setIfInBounds] at hs
    have hin : x * 89 + j < C.size := (Array.getElem?_eq_some_iff.1 (hc x hx j hj)).1
    by_cases ej : j = y
    · subst ej
      rw [if_pos rfl, if_pos hin]
      rw [if_pos rfl, if_pos (by rw [rowP_size]; exact hj)] at hs
      exact hs
    · rw [if_neg ej] at hs
      rw [if_neg (by omega), ← hs, rowP_get hy]
      exact hc x hx y hy
  · rw [upd_other _ _ e, if_neg (by omega)]
    exact hc x hx y hy
theorem Ports.congr {w : World} {g n : Nat} {ps qs : Nat → Rec} (h : Ports w g n ps) (e : ∀ k, k < n → ps k = qs k) : Ports w g n qs := by
  obtain ⟨C, hg, hc⟩ := h
  exact ⟨C, hg, fun k hk j hj => by rw [← e k hk]; exact hc k hk j hj⟩
/-- A port's cells, for a load of the whole. -/
theorem Ports.range {w : World} {g n : Nat} {ps : Nat → Rec} (h : Ports w g n ps) {k : Nat} (hk : k < n) : w.rangeAt g (k * 89) (rowP (ps k)).toList := fun j v hv => by
  have hj : j < 89 := by
    have := (List.getElem?_eq_some_iff.1 hv).1
    simpa [rowP_size] using this
  rw [h.cell hk hj, ← rowP_get hj]
  simpa using hv

/-! ### A region that draws its order, in all worlds that hold what one held -/
section
variable {P : Program} {C : World → Prop} {K : Act → Prop} {a : Act} {o : Oper}
theorem quiet_row (ty : TypeId) (x : Operand) (ho : o.op = .load ty x) (b off : Nat) (hx : a.eval x = .pointer (some ⟨b, off, none⟩)) (cs : Array Value) (d : TypeDesc) (hc : ∀ w, C w → w.rangeAt b off cs.toList)
    (hu : P.underlying ty = some d) (hd : d.isRow = true) (hi : (P.info? ty).map (·.size) = some cs.size) (hk : K (a.put o.dst (.agg cs))) : o.quiet P a C K :=
  ⟨_, fun w hw => by
    unfold Oper.quietAt execOp
    simp only [ho, hx, Instr.loadAt, Instr.sureAddr, Sem.run_bind, Sem.run_pure, Result.andThen_ok, run_loadVar_mid w b off ty cs.toList d (hc w hw) hu hd (by simpa using hi)]
    exact ⟨rfl, rfl⟩, hk⟩
end
/-- A world that holds, below block B, what W holds. -/
structure Old (B : Nat) (W : World) where
  w : World
  h : Below B W w
theorem Old.some (B : Nat) (W : World) : Nonempty (Old B W) := ⟨⟨W, Below.refl _ _⟩⟩
/-- A region that draws its order: all its operations read, or call what makes new memory alone. -/
theorem wp_region_old {P : Program} {id : Nat} {Q : Exit → Act → World → Prop} {a : Act} {w : World} {l : List Oper} (B : Nat) (hm : P.follows .mixedOrders = true) (hB : Region.lexB .any l.toArray = true)
    (h : wpQuiet P l.toArray (fun w' => ∃ y : Old B w, w' = y.w) (fun a' => ∀ w', (∃ y : Old B w, w' = y.w) → Q .normal a' w') l a) : (Code.region id l.toArray true).wp P Q a w :=
  wp_region_quiet (C := fun w' => ∃ y : Old B w, w' = y.w) hm hB ⟨⟨_, (Below.refl B w).drew⟩, rfl⟩ (by simpa using h)
/-- A callee that makes new memory alone. -/
theorem Calls.old {P : Program} {f : FuncId} {args : Array Value} {B : Nat} {W : World} {y : Old B W} {v : Value} (hB : B ≤ W.heap.size)
    (h : Calls P f args y.w fun e w' => e = .returned v ∧ Below y.w.heap.size y.w w') : Calls P f args y.w fun e w' => e = .returned v ∧ ∃ z : Old B W, w' = z.w :=
  h.mono fun _ w' ⟨he, hb⟩ => ⟨he, ⟨w', y.h.trans (hb.mono (Nat.le_trans hB y.h.size))⟩, rfl⟩
/-! ### One port, cell after cell -/
theorem Ports.start {w : World} {g n : Nat} {ps : Nat → Rec} (h : Ports w g n ps) (k : Nat) : Ports w g n (upd ps k (ps k)) := by rw [upd_self]; exact h
/-- A store into a cell of port k, which has been written before. -/
theorem Ports.step {w : World} {g n : Nat} {ps : Nat → Rec} {k j : Nat} {p p' : Rec} {v : Value} (h : Ports w g n (upd ps k p)) (hj : j < 89) (hv : (rowP p).setIfInBounds j v = rowP p') :
    Ports (w.setCell ⟨g, k * 89 + j, none⟩ v) g n (upd ps k p') := by
  have := h.put (k := k) (j := j) (p' := p') v hj (by rw [upd_same]; exact hv)
  rw [upd_upd] at this
  exact this
/-! ### A whole thing, loaded out of the midst of a block, stored into a new block -/
section
variable {P : Program} {ops : Array Oper} {rest : List Oper} {o : Oper} {a : Act} {w : World} {Q : Exit → Act → World → Prop}
theorem wpList_row (hgd : o.guard = none) (ty : TypeId) (x : Operand) (ho : o.op = .load ty x) (b off : Nat) (hx : a.eval x = .pointer (some ⟨b, off, none⟩)) (cs : Array Value) (d : TypeDesc) (hc : w.rangeAt b off cs.toList)
    (hu : P.underlying ty = some d) (hd : d.isRow = true) (hi : (P.info? ty).map (·.size) = some cs.size) (h : wpList P ops Q rest (a.put o.dst (.agg cs)) w) : wpList P ops Q (o :: rest) a w :=
  wpList_load_mid hgd ty x ho b off hx cs.toList d hc hu hd (by simpa using hi) (by simpa using h)
theorem setRow_alloc (w : World) (C cs : Array Value) (T : TypeId) : (w.alloc (.cells C T)).setRow w.heap.size cs = w.alloc (.cells cs T) := by
  unfold World.setRow World.alloc
  congr 1
  apply Array.ext_getElem?
  intro i
  rw [Array.getElem?_modify, Array.getElem?_push, Array.getElem?_push]
  by_cases h : i = w.heap.size
  · subst h
    simp
  · rw [if_neg (fun e => h e.symm), if_neg h, if_neg h]
theorem wpList_store_new (hgd : o.guard = none) (ty : TypeId) (x y : Operand) (ho : o.op = .store ty x y) (w0 : World) (C : Array Value) (T : TypeId) (cells : Array Value) (hw : w = w0.alloc (.cells C T))
    (hx : a.eval x = .pointer (some ⟨w0.heap.size, 0, none⟩)) (hy : a.eval y = .agg cells) (hi : (P.info? ty).map (·.size) = some cells.size) (hold : C.size = cells.size) (h1 : cells.all (·.oneCell') = true)
    (h : wpList P ops Q rest (a.put o.dst undef) (w0.alloc (.cells cells T))) : wpList P ops Q (o :: rest) a w := by
  subst hw
  refine wpList_store_row hgd ty x y ho w0.heap.size cells hx hy T C (heap_alloc_new _ _) hi hold h1 ?_
  rw [setRow_alloc]
  exact h
end
theorem cells_of {w : World} {g : Nat} {C : Array Value} {T : TypeId} {fr : Nat × Nat} (h : w.heap[g]? = some (.cells C T fr)) (j : Nat) : w.cell? ⟨g, j, none⟩ = C[j]? := cell_of_row w g j C T fr h
/-- A record of zeros. -/
def zeroR : Rec := ⟨fun _ => 0, fun _ => false⟩
theorem rowP_one (p : Rec) : (rowP p).all (·.oneCell') = true := by kernel_rfl
/-- New memory besides. -/
theorem more {w w' : World} (h : Below w.heap.size w w') (o : Obj) : Below w.heap.size w (w'.alloc o) := h.alloc h.size o
/-- A call behind a call. -/
theorem andthen {w w1 w2 : World} (h : Below w.heap.size w w1) (k : Below w1.heap.size w1 w2) : Below w.heap.size w w2 := h.trans (k.mono h.size)
theorem third (w : World) (A B C : Obj) : (((w.alloc A).alloc B).alloc C).heap[w.heap.size]? = some A := by
  rw [Below.heap_alloc _ _ _ (by simp; omega), Below.heap_alloc _ _ _ (by simp)]
  exact heap_alloc_new _ _
theorem old3 (w : World) (A B C : Obj) (g : Nat) (h : g < w.heap.size) : (((w.alloc A).alloc B).alloc C).heap[g]? = w.heap[g]? := by
  rw [Below.heap_alloc _ _ _ (by simp; omega), Below.heap_alloc _ _ _ (by simp; omega), Below.heap_alloc _ _ _ h]
end Go.Proofs.Ytdangeefecdbaaa.Br
