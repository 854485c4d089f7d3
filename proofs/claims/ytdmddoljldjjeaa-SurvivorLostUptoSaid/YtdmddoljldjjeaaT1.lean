/- What the logic asks of the types of the translation. -/
import Derived.Test.YtdmddoljldjjeaaProg
import Derived.KernelRfl
import Derived.Test.YtdmddoljldjjeaaA2
/- What the abstract logic asks of the types of the translation; printed by a program of our own (tyfacts.py). -/
namespace Go.Proofs.Ytdmddoljldjjeaa.Ty
open Go Go.Ab
set_option linter.unusedVariables false

attribute [go_sem] Try.underlying1
@[go_sem] theorem cellsOf1 : Try.prog.cellsOf 1 = 1 := by kernel_rfl
@[go_sem] theorem isAgg1 : isAggT Try.prog 1 = some false := by kernel_rfl
@[go_sem] theorem ok1 : tyOk Try.prog 1 = true := by kernel_rfl
@[go_sem] theorem bytes1 : Try.prog.bytesOf 1 = 8 := by kernel_rfl
@[go_sem] theorem zero1 : zeroOf Try.prog 1 = some (.p .nilf) := by kernel_rfl
@[go_sem] theorem zeroLen1 : appendA.zeroLen Try.prog 1 = 1 := by kernel_rfl
attribute [go_sem] Try.underlying2
@[go_sem] theorem cellsOf2 : Try.prog.cellsOf 2 = 1 := by kernel_rfl
@[go_sem] theorem isAgg2 : isAggT Try.prog 2 = some false := by kernel_rfl
@[go_sem] theorem ok2 : tyOk Try.prog 2 = true := by kernel_rfl
@[go_sem] theorem bytes2 : Try.prog.bytesOf 2 = 8 := by kernel_rfl
@[go_sem] theorem zero2 : zeroOf Try.prog 2 = some (.p (.int .i64 0)) := by kernel_rfl
@[go_sem] theorem zeroLen2 : appendA.zeroLen Try.prog 2 = 1 := by kernel_rfl
@[go_sem] theorem eqI2 (d : Nat) (k k' : IntKind) (a b : Int) : eqT Try.prog (d + 1) 2 [.int k a] [.int k' b] = if k = k' then some (a == b) else none := eqT_int _ Try.underlying2 d k k' a b
attribute [go_sem] Try.underlying3
@[go_sem] theorem cellsOf3 : Try.prog.cellsOf 3 = 1 := by kernel_rfl
@[go_sem] theorem isAgg3 : isAggT Try.prog 3 = some false := by kernel_rfl
@[go_sem] theorem ok3 : tyOk Try.prog 3 = true := by kernel_rfl
@[go_sem] theorem bytes3 : Try.prog.bytesOf 3 = 8 := by kernel_rfl
@[go_sem] theorem zero3 : zeroOf Try.prog 3 = some (.p (.int .i64 0)) := by kernel_rfl
@[go_sem] theorem zeroLen3 : appendA.zeroLen Try.prog 3 = 1 := by kernel_rfl
@[go_sem] theorem eqI3 (d : Nat) (k k' : IntKind) (a b : Int) : eqT Try.prog (d + 1) 3 [.int k a] [.int k' b] = if k = k' then some (a == b) else none := eqT_int _ Try.underlying3 d k k' a b
attribute [go_sem] Try.underlying4
@[go_sem] theorem cellsOf4 : Try.prog.cellsOf 4 = 1 := by kernel_rfl
@[go_sem] theorem isAgg4 : isAggT Try.prog 4 = some false := by kernel_rfl
@[go_sem] theorem ok4 : tyOk Try.prog 4 = true := by kernel_rfl
@[go_sem] theorem bytes4 : Try.prog.bytesOf 4 = 1 := by kernel_rfl
@[go_sem] theorem zero4 : zeroOf Try.prog 4 = some (.p (.bool false)) := by kernel_rfl
@[go_sem] theorem zeroLen4 : appendA.zeroLen Try.prog 4 = 1 := by kernel_rfl
@[go_sem] theorem eqI4 (d : Nat) (a b : Bool) : eqT Try.prog (d + 1) 4 [.bool a] [.bool b] = some (a == b) := eqT_bool _ Try.underlying4 d a b
attribute [go_sem] Try.underlying5
@[go_sem] theorem cellsOf5 : Try.prog.cellsOf 5 = 1 := by kernel_rfl
@[go_sem] theorem isAgg5 : isAggT Try.prog 5 = some false := by kernel_rfl
@[go_sem] theorem ok5 : tyOk Try.prog 5 = true := by kernel_rfl
@[go_sem] theorem bytes5 : Try.prog.bytesOf 5 = 1 := by kernel_rfl
@[go_sem] theorem zero5 : zeroOf Try.prog 5 = some (.p (.int .u8 0)) := by kernel_rfl
@[go_sem] theorem zeroLen5 : appendA.zeroLen Try.prog 5 = 1 := by kernel_rfl
@[go_sem] theorem eqI5 (d : Nat) (k k' : IntKind) (a b : Int) : eqT Try.prog (d + 1) 5 [.int k a] [.int k' b] = if k = k' then some (a == b) else none := eqT_int _ Try.underlying5 d k k' a b
attribute [go_sem] Try.underlying6
@[go_sem] theorem cellsOf6 : Try.prog.cellsOf 6 = 1 := by kernel_rfl
@[go_sem] theorem isAgg6 : isAggT Try.prog 6 = some false := by kernel_rfl
@[go_sem] theorem ok6 : tyOk Try.prog 6 = true := by kernel_rfl
@[go_sem] theorem bytes6 : Try.prog.bytesOf 6 = 1 := by kernel_rfl
@[go_sem] theorem zero6 : zeroOf Try.prog 6 = some (.p (.int .u8 0)) := by kernel_rfl
@[go_sem] theorem zeroLen6 : appendA.zeroLen Try.prog 6 = 1 := by kernel_rfl
@[go_sem] theorem eqI6 (d : Nat) (k k' : IntKind) (a b : Int) : eqT Try.prog (d + 1) 6 [.int k a] [.int k' b] = if k = k' then some (a == b) else none := eqT_int _ Try.underlying6 d k k' a b
attribute [go_sem] Try.underlying7
@[go_sem] theorem cellsOf7 : Try.prog.cellsOf 7 = 4 := by kernel_rfl
@[go_sem] theorem isAgg7 : isAggT Try.prog 7 = some true := by kernel_rfl
@[go_sem] theorem ok7 : tyOk Try.prog 7 = true := by kernel_rfl
@[go_sem] theorem bytes7 : Try.prog.bytesOf 7 = 24 := by kernel_rfl
@[go_sem] theorem zero7 : zeroOf Try.prog 7 = some (.p (.agg [(.int .i64 0), (.int .i64 0), (.bool false), (.int .u8 0)])) := by kernel_rfl
@[go_sem] theorem zeroLen7 : appendA.zeroLen Try.prog 7 = 4 := by kernel_rfl
@[go_sem] theorem field7_0 : fieldOff Try.prog 7 0 = some 0 := by kernel_rfl
@[go_sem] theorem field7_1 : fieldOff Try.prog 7 1 = some 1 := by kernel_rfl
@[go_sem] theorem field7_2 : fieldOff Try.prog 7 2 = some 2 := by kernel_rfl
@[go_sem] theorem field7_3 : fieldOff Try.prog 7 3 = some 3 := by kernel_rfl
@[go_sem] theorem build7 (parts : List (Nat × AV)) : buildA Try.prog 7 parts = (fillG (fun j => [(0, 1), (1, 1), (2, 1), (3, 1)][j]?) [.p (.int .i64 0), .p (.int .i64 0), .p (.bool false), .p (.int .u8 0)] parts).map mkAgg :=
  buildA_eq _ _ zero7 rfl (by kernel_rfl) (by kernel_rfl) (by funext j; exact placesA_eq _ _ (by kernel_rfl) j)
@[go_sem] theorem eqS7 (d : Nat) (xs ys : List PV) : eqT Try.prog (d + 1) 7 xs ys = eqL (eqT Try.prog d) [(2, 0, 1), (3, 1, 1), (4, 2, 1), (6, 3, 1)] xs ys := eqT_struct _ (by kernel_rfl) (by kernel_rfl) (by kernel_rfl) (by kernel_rfl) d xs ys
@[go_sem] theorem eqg7 : Try.prog.eqGuardType Try.prog.depth 7 = false := by kernel_rfl
attribute [go_sem] Try.underlying8
@[go_sem] theorem cellsOf8 : Try.prog.cellsOf 8 = 4 := by kernel_rfl
@[go_sem] theorem isAgg8 : isAggT Try.prog 8 = some true := by kernel_rfl
@[go_sem] theorem ok8 : tyOk Try.prog 8 = true := by kernel_rfl
@[go_sem] theorem bytes8 : Try.prog.bytesOf 8 = 24 := by kernel_rfl
@[go_sem] theorem zero8 : zeroOf Try.prog 8 = some (.p (.agg [(.int .i64 0), (.int .i64 0), (.bool false), (.int .u8 0)])) := by kernel_rfl
@[go_sem] theorem zeroLen8 : appendA.zeroLen Try.prog 8 = 4 := by kernel_rfl
@[go_sem] theorem field8_0 : fieldOff Try.prog 8 0 = some 0 := by kernel_rfl
@[go_sem] theorem field8_1 : fieldOff Try.prog 8 1 = some 1 := by kernel_rfl
@[go_sem] theorem field8_2 : fieldOff Try.prog 8 2 = some 2 := by kernel_rfl
@[go_sem] theorem field8_3 : fieldOff Try.prog 8 3 = some 3 := by kernel_rfl
@[go_sem] theorem build8 (parts : List (Nat × AV)) : buildA Try.prog 8 parts = (fillG (fun j => [(0, 1), (1, 1), (2, 1), (3, 1)][j]?) [.p (.int .i64 0), .p (.int .i64 0), .p (.bool false), .p (.int .u8 0)] parts).map mkAgg :=
  buildA_eq _ _ zero8 rfl (by kernel_rfl) (by kernel_rfl) (by funext j; exact placesA_eq _ _ (by kernel_rfl) j)
@[go_sem] theorem eqS8 (d : Nat) (xs ys : List PV) : eqT Try.prog (d + 1) 8 xs ys = eqL (eqT Try.prog d) [(2, 0, 1), (3, 1, 1), (4, 2, 1), (6, 3, 1)] xs ys := eqT_struct _ (by kernel_rfl) (by kernel_rfl) (by kernel_rfl) (by kernel_rfl) d xs ys
@[go_sem] theorem eqg8 : Try.prog.eqGuardType Try.prog.depth 8 = false := by kernel_rfl
attribute [go_sem] Try.underlying9
@[go_sem] theorem cellsOf9 : Try.prog.cellsOf 9 = 1 := by kernel_rfl
@[go_sem] theorem isAgg9 : isAggT Try.prog 9 = some false := by kernel_rfl
@[go_sem] theorem ok9 : tyOk Try.prog 9 = true := by kernel_rfl
@[go_sem] theorem bytes9 : Try.prog.bytesOf 9 = 16 := by kernel_rfl
@[go_sem] theorem zero9 : zeroOf Try.prog 9 = some (.p (.str [])) := by kernel_rfl
@[go_sem] theorem zeroLen9 : appendA.zeroLen Try.prog 9 = 1 := by kernel_rfl
@[go_sem] theorem eqI9 (d : Nat) (a b : List UInt8) : eqT Try.prog (d + 1) 9 [.str a] [.str b] = some (a == b) := eqT_str _ Try.underlying9 d a b
attribute [go_sem] Try.underlying10
@[go_sem] theorem cellsOf10 : Try.prog.cellsOf 10 = 1 := by kernel_rfl
@[go_sem] theorem isAgg10 : isAggT Try.prog 10 = some false := by kernel_rfl
@[go_sem] theorem ok10 : tyOk Try.prog 10 = true := by kernel_rfl
@[go_sem] theorem bytes10 : Try.prog.bytesOf 10 = 16 := by kernel_rfl
@[go_sem] theorem zero10 : zeroOf Try.prog 10 = some (.p (.str [])) := by kernel_rfl
@[go_sem] theorem zeroLen10 : appendA.zeroLen Try.prog 10 = 1 := by kernel_rfl
@[go_sem] theorem eqI10 (d : Nat) (a b : List UInt8) : eqT Try.prog (d + 1) 10 [.str a] [.str b] = some (a == b) := eqT_str _ Try.underlying10 d a b
attribute [go_sem] Try.underlying11
@[go_sem] theorem cellsOf11 : Try.prog.cellsOf 11 = 1 := by kernel_rfl
@[go_sem] theorem isAgg11 : isAggT Try.prog 11 = some false := by kernel_rfl
@[go_sem] theorem ok11 : tyOk Try.prog 11 = true := by kernel_rfl
@[go_sem] theorem bytes11 : Try.prog.bytesOf 11 = 16 := by kernel_rfl
@[go_sem] theorem zero11 : zeroOf Try.prog 11 = some (.p (.str [])) := by kernel_rfl
@[go_sem] theorem zeroLen11 : appendA.zeroLen Try.prog 11 = 1 := by kernel_rfl
@[go_sem] theorem eqI11 (d : Nat) (a b : List UInt8) : eqT Try.prog (d + 1) 11 [.str a] [.str b] = some (a == b) := eqT_str _ Try.underlying11 d a b
attribute [go_sem] Try.underlying12
@[go_sem] theorem cellsOf12 : Try.prog.cellsOf 12 = 1 := by kernel_rfl
@[go_sem] theorem isAgg12 : isAggT Try.prog 12 = some false := by kernel_rfl
@[go_sem] theorem ok12 : tyOk Try.prog 12 = true := by kernel_rfl
@[go_sem] theorem bytes12 : Try.prog.bytesOf 12 = 8 := by kernel_rfl
@[go_sem] theorem zero12 : zeroOf Try.prog 12 = some (.p (.int .u64 0)) := by kernel_rfl
@[go_sem] theorem zeroLen12 : appendA.zeroLen Try.prog 12 = 1 := by kernel_rfl
@[go_sem] theorem eqI12 (d : Nat) (k k' : IntKind) (a b : Int) : eqT Try.prog (d + 1) 12 [.int k a] [.int k' b] = if k = k' then some (a == b) else none := eqT_int _ Try.underlying12 d k k' a b
attribute [go_sem] Try.underlying13
@[go_sem] theorem cellsOf13 : Try.prog.cellsOf 13 = 2 := by kernel_rfl
@[go_sem] theorem isAgg13 : isAggT Try.prog 13 = some true := by kernel_rfl
@[go_sem] theorem ok13 : tyOk Try.prog 13 = true := by kernel_rfl
@[go_sem] theorem bytes13 : Try.prog.bytesOf 13 = 24 := by kernel_rfl
@[go_sem] theorem zero13 : zeroOf Try.prog 13 = some (.p (.agg [(.str []), (.int .u64 0)])) := by kernel_rfl
@[go_sem] theorem zeroLen13 : appendA.zeroLen Try.prog 13 = 2 := by kernel_rfl
@[go_sem] theorem field13_0 : fieldOff Try.prog 13 0 = some 0 := by kernel_rfl
@[go_sem] theorem field13_1 : fieldOff Try.prog 13 1 = some 1 := by kernel_rfl
@[go_sem] theorem build13 (parts : List (Nat × AV)) : buildA Try.prog 13 parts = (fillG (fun j => [(0, 1), (1, 1)][j]?) [.p (.str []), .p (.int .u64 0)] parts).map mkAgg :=
  buildA_eq _ _ zero13 rfl (by kernel_rfl) (by kernel_rfl) (by funext j; exact placesA_eq _ _ (by kernel_rfl) j)
attribute [go_sem] Try.underlying14
@[go_sem] theorem cellsOf14 : Try.prog.cellsOf 14 = 2 := by kernel_rfl
@[go_sem] theorem isAgg14 : isAggT Try.prog 14 = some true := by kernel_rfl
@[go_sem] theorem ok14 : tyOk Try.prog 14 = true := by kernel_rfl
@[go_sem] theorem bytes14 : Try.prog.bytesOf 14 = 24 := by kernel_rfl
@[go_sem] theorem zero14 : zeroOf Try.prog 14 = some (.p (.agg [(.str []), (.int .u64 0)])) := by kernel_rfl
@[go_sem] theorem zeroLen14 : appendA.zeroLen Try.prog 14 = 2 := by kernel_rfl
@[go_sem] theorem field14_0 : fieldOff Try.prog 14 0 = some 0 := by kernel_rfl
@[go_sem] theorem field14_1 : fieldOff Try.prog 14 1 = some 1 := by kernel_rfl
@[go_sem] theorem build14 (parts : List (Nat × AV)) : buildA Try.prog 14 parts = (fillG (fun j => [(0, 1), (1, 1)][j]?) [.p (.str []), .p (.int .u64 0)] parts).map mkAgg :=
  buildA_eq _ _ zero14 rfl (by kernel_rfl) (by kernel_rfl) (by funext j; exact placesA_eq _ _ (by kernel_rfl) j)
attribute [go_sem] Try.underlying15
@[go_sem] theorem cellsOf15 : Try.prog.cellsOf 15 = 1 := by kernel_rfl
@[go_sem] theorem isAgg15 : isAggT Try.prog 15 = some false := by kernel_rfl
@[go_sem] theorem ok15 : tyOk Try.prog 15 = true := by kernel_rfl
@[go_sem] theorem bytes15 : Try.prog.bytesOf 15 = 8 := by kernel_rfl
@[go_sem] theorem zero15 : zeroOf Try.prog 15 = some (.p .nilp) := by kernel_rfl
@[go_sem] theorem zeroLen15 : appendA.zeroLen Try.prog 15 = 1 := by kernel_rfl
attribute [go_sem] Try.underlying16
@[go_sem] theorem cellsOf16 : Try.prog.cellsOf 16 = 1 := by kernel_rfl
@[go_sem] theorem isAgg16 : isAggT Try.prog 16 = some false := by kernel_rfl
@[go_sem] theorem ok16 : tyOk Try.prog 16 = true := by kernel_rfl
@[go_sem] theorem bytes16 : Try.prog.bytesOf 16 = 8 := by kernel_rfl
@[go_sem] theorem zero16 : zeroOf Try.prog 16 = some (.p .nilp) := by kernel_rfl
@[go_sem] theorem zeroLen16 : appendA.zeroLen Try.prog 16 = 1 := by kernel_rfl
attribute [go_sem] Try.underlying17
@[go_sem] theorem cellsOf17 : Try.prog.cellsOf 17 = 1 := by kernel_rfl
@[go_sem] theorem isAgg17 : isAggT Try.prog 17 = some false := by kernel_rfl
@[go_sem] theorem ok17 : tyOk Try.prog 17 = true := by kernel_rfl
@[go_sem] theorem bytes17 : Try.prog.bytesOf 17 = 8 := by kernel_rfl
@[go_sem] theorem zero17 : zeroOf Try.prog 17 = some (.p .nilp) := by kernel_rfl
@[go_sem] theorem zeroLen17 : appendA.zeroLen Try.prog 17 = 1 := by kernel_rfl
attribute [go_sem] Try.underlying18
@[go_sem] theorem cellsOf18 : Try.prog.cellsOf 18 = 1 := by kernel_rfl
@[go_sem] theorem isAgg18 : isAggT Try.prog 18 = some true := by kernel_rfl
@[go_sem] theorem ok18 : tyOk Try.prog 18 = true := by kernel_rfl
@[go_sem] theorem bytes18 : Try.prog.bytesOf 18 = 8 := by kernel_rfl
@[go_sem] theorem zero18 : zeroOf Try.prog 18 = some (.p (.agg [.nilp])) := by kernel_rfl
@[go_sem] theorem zeroLen18 : appendA.zeroLen Try.prog 18 = 1 := by kernel_rfl
@[go_sem] theorem field18_0 : fieldOff Try.prog 18 0 = some 0 := by kernel_rfl
@[go_sem] theorem build18 (parts : List (Nat × AV)) : buildA Try.prog 18 parts = (fillG (fun j => [(0, 1)][j]?) [.p .nilp] parts).map mkAgg :=
  buildA_eq _ _ zero18 rfl (by kernel_rfl) (by kernel_rfl) (by funext j; exact placesA_eq _ _ (by kernel_rfl) j)
attribute [go_sem] Try.underlying19
@[go_sem] theorem cellsOf19 : Try.prog.cellsOf 19 = 1 := by kernel_rfl
@[go_sem] theorem isAgg19 : isAggT Try.prog 19 = some true := by kernel_rfl
@[go_sem] theorem ok19 : tyOk Try.prog 19 = true := by kernel_rfl
@[go_sem] theorem bytes19 : Try.prog.bytesOf 19 = 8 := by kernel_rfl
@[go_sem] theorem zero19 : zeroOf Try.prog 19 = some (.p (.agg [.nilp])) := by kernel_rfl
@[go_sem] theorem zeroLen19 : appendA.zeroLen Try.prog 19 = 1 := by kernel_rfl
@[go_sem] theorem field19_0 : fieldOff Try.prog 19 0 = some 0 := by kernel_rfl
@[go_sem] theorem build19 (parts : List (Nat × AV)) : buildA Try.prog 19 parts = (fillG (fun j => [(0, 1)][j]?) [.p .nilp] parts).map mkAgg :=
  buildA_eq _ _ zero19 rfl (by kernel_rfl) (by kernel_rfl) (by funext j; exact placesA_eq _ _ (by kernel_rfl) j)
attribute [go_sem] Try.underlying20
@[go_sem] theorem cellsOf20 : Try.prog.cellsOf 20 = 1 := by kernel_rfl
@[go_sem] theorem isAgg20 : isAggT Try.prog 20 = some false := by kernel_rfl
@[go_sem] theorem ok20 : tyOk Try.prog 20 = true := by kernel_rfl
@[go_sem] theorem bytes20 : Try.prog.bytesOf 20 = 16 := by kernel_rfl
@[go_sem] theorem zero20 : zeroOf Try.prog 20 = some (.p .nili) := by kernel_rfl
@[go_sem] theorem zeroLen20 : appendA.zeroLen Try.prog 20 = 1 := by kernel_rfl
attribute [go_sem] Try.underlying21
@[go_sem] theorem cellsOf21 : Try.prog.cellsOf 21 = 1 := by kernel_rfl
@[go_sem] theorem isAgg21 : isAggT Try.prog 21 = some false := by kernel_rfl
@[go_sem] theorem ok21 : tyOk Try.prog 21 = true := by kernel_rfl
@[go_sem] theorem bytes21 : Try.prog.bytesOf 21 = 4 := by kernel_rfl
@[go_sem] theorem zero21 : zeroOf Try.prog 21 = some (.p (.int .i32 0)) := by kernel_rfl
@[go_sem] theorem zeroLen21 : appendA.zeroLen Try.prog 21 = 1 := by kernel_rfl
@[go_sem] theorem eqI21 (d : Nat) (k k' : IntKind) (a b : Int) : eqT Try.prog (d + 1) 21 [.int k a] [.int k' b] = if k = k' then some (a == b) else none := eqT_int _ Try.underlying21 d k k' a b
attribute [go_sem] Try.underlying22
@[go_sem] theorem cellsOf22 : Try.prog.cellsOf 22 = 1 := by kernel_rfl
@[go_sem] theorem isAgg22 : isAggT Try.prog 22 = some false := by kernel_rfl
@[go_sem] theorem ok22 : tyOk Try.prog 22 = true := by kernel_rfl
@[go_sem] theorem bytes22 : Try.prog.bytesOf 22 = 24 := by kernel_rfl
@[go_sem] theorem zero22 : zeroOf Try.prog 22 = some (.nils) := by kernel_rfl
@[go_sem] theorem zeroLen22 : appendA.zeroLen Try.prog 22 = 1 := by kernel_rfl
attribute [go_sem] Try.underlying23
@[go_sem] theorem cellsOf23 : Try.prog.cellsOf 23 = 1 := by kernel_rfl
@[go_sem] theorem isAgg23 : isAggT Try.prog 23 = some false := by kernel_rfl
@[go_sem] theorem ok23 : tyOk Try.prog 23 = true := by kernel_rfl
@[go_sem] theorem bytes23 : Try.prog.bytesOf 23 = 8 := by kernel_rfl
@[go_sem] theorem zero23 : zeroOf Try.prog 23 = some (.p .nilf) := by kernel_rfl
@[go_sem] theorem zeroLen23 : appendA.zeroLen Try.prog 23 = 1 := by kernel_rfl
attribute [go_sem] Try.underlying24
@[go_sem] theorem cellsOf24 : Try.prog.cellsOf 24 = 3 := by kernel_rfl
@[go_sem] theorem isAgg24 : isAggT Try.prog 24 = some true := by kernel_rfl
@[go_sem] theorem ok24 : tyOk Try.prog 24 = true := by kernel_rfl
@[go_sem] theorem bytes24 : Try.prog.bytesOf 24 = 32 := by kernel_rfl
@[go_sem] theorem zero24 : zeroOf Try.prog 24 = some (.p (.agg [(.int .i64 0), (.int .i64 0), (.str [])])) := by kernel_rfl
@[go_sem] theorem zeroLen24 : appendA.zeroLen Try.prog 24 = 3 := by kernel_rfl
@[go_sem] theorem field24_0 : fieldOff Try.prog 24 0 = some 0 := by kernel_rfl
@[go_sem] theorem field24_1 : fieldOff Try.prog 24 1 = some 1 := by kernel_rfl
@[go_sem] theorem field24_2 : fieldOff Try.prog 24 2 = some 2 := by kernel_rfl
@[go_sem] theorem build24 (parts : List (Nat × AV)) : buildA Try.prog 24 parts = (fillG (fun j => [(0, 1), (1, 1), (2, 1)][j]?) [.p (.int .i64 0), .p (.int .i64 0), .p (.str [])] parts).map mkAgg :=
  buildA_eq _ _ zero24 rfl (by kernel_rfl) (by kernel_rfl) (by funext j; exact placesA_eq _ _ (by kernel_rfl) j)
@[go_sem] theorem eqS24 (d : Nat) (xs ys : List PV) : eqT Try.prog (d + 1) 24 xs ys = eqL (eqT Try.prog d) [(3, 0, 1), (2, 1, 1), (9, 2, 1)] xs ys := eqT_struct _ (by kernel_rfl) (by kernel_rfl) (by kernel_rfl) (by kernel_rfl) d xs ys
@[go_sem] theorem eqg24 : Try.prog.eqGuardType Try.prog.depth 24 = false := by kernel_rfl
attribute [go_sem] Try.underlying25
@[go_sem] theorem cellsOf25 : Try.prog.cellsOf 25 = 3 := by kernel_rfl
@[go_sem] theorem isAgg25 : isAggT Try.prog 25 = some true := by kernel_rfl
@[go_sem] theorem ok25 : tyOk Try.prog 25 = true := by kernel_rfl
@[go_sem] theorem bytes25 : Try.prog.bytesOf 25 = 32 := by kernel_rfl
@[go_sem] theorem zero25 : zeroOf Try.prog 25 = some (.p (.agg [(.int .i64 0), (.int .i64 0), (.str [])])) := by kernel_rfl
@[go_sem] theorem zeroLen25 : appendA.zeroLen Try.prog 25 = 3 := by kernel_rfl
@[go_sem] theorem field25_0 : fieldOff Try.prog 25 0 = some 0 := by kernel_rfl
@[go_sem] theorem field25_1 : fieldOff Try.prog 25 1 = some 1 := by kernel_rfl
@[go_sem] theorem field25_2 : fieldOff Try.prog 25 2 = some 2 := by kernel_rfl
@[go_sem] theorem build25 (parts : List (Nat × AV)) : buildA Try.prog 25 parts = (fillG (fun j => [(0, 1), (1, 1), (2, 1)][j]?) [.p (.int .i64 0), .p (.int .i64 0), .p (.str [])] parts).map mkAgg :=
  buildA_eq _ _ zero25 rfl (by kernel_rfl) (by kernel_rfl) (by funext j; exact placesA_eq _ _ (by kernel_rfl) j)
@[go_sem] theorem eqS25 (d : Nat) (xs ys : List PV) : eqT Try.prog (d + 1) 25 xs ys = eqL (eqT Try.prog d) [(3, 0, 1), (2, 1, 1), (9, 2, 1)] xs ys := eqT_struct _ (by kernel_rfl) (by kernel_rfl) (by kernel_rfl) (by kernel_rfl) d xs ys
@[go_sem] theorem eqg25 : Try.prog.eqGuardType Try.prog.depth 25 = false := by kernel_rfl
attribute [go_sem] Try.underlying26
@[go_sem] theorem cellsOf26 : Try.prog.cellsOf 26 = 1 := by kernel_rfl
@[go_sem] theorem isAgg26 : isAggT Try.prog 26 = some false := by kernel_rfl
@[go_sem] theorem ok26 : tyOk Try.prog 26 = true := by kernel_rfl
@[go_sem] theorem bytes26 : Try.prog.bytesOf 26 = 8 := by kernel_rfl
@[go_sem] theorem zero26 : zeroOf Try.prog 26 = some (.p (.int .i64 0)) := by kernel_rfl
@[go_sem] theorem zeroLen26 : appendA.zeroLen Try.prog 26 = 1 := by kernel_rfl
@[go_sem] theorem eqI26 (d : Nat) (k k' : IntKind) (a b : Int) : eqT Try.prog (d + 1) 26 [.int k a] [.int k' b] = if k = k' then some (a == b) else none := eqT_int _ Try.underlying26 d k k' a b
attribute [go_sem] Try.underlying28
@[go_sem] theorem cellsOf28 : Try.prog.cellsOf 28 = 1 := by kernel_rfl
@[go_sem] theorem isAgg28 : isAggT Try.prog 28 = some false := by kernel_rfl
@[go_sem] theorem ok28 : tyOk Try.prog 28 = true := by kernel_rfl
@[go_sem] theorem bytes28 : Try.prog.bytesOf 28 = 8 := by kernel_rfl
@[go_sem] theorem zero28 : zeroOf Try.prog 28 = some (.p .nilf) := by kernel_rfl
@[go_sem] theorem zeroLen28 : appendA.zeroLen Try.prog 28 = 1 := by kernel_rfl
attribute [go_sem] Try.underlying29
@[go_sem] theorem cellsOf29 : Try.prog.cellsOf 29 = 1 := by kernel_rfl
@[go_sem] theorem isAgg29 : isAggT Try.prog 29 = some false := by kernel_rfl
@[go_sem] theorem ok29 : tyOk Try.prog 29 = true := by kernel_rfl
@[go_sem] theorem bytes29 : Try.prog.bytesOf 29 = 8 := by kernel_rfl
@[go_sem] theorem zero29 : zeroOf Try.prog 29 = some (.p .nilf) := by kernel_rfl
@[go_sem] theorem zeroLen29 : appendA.zeroLen Try.prog 29 = 1 := by kernel_rfl
attribute [go_sem] Try.underlying30
@[go_sem] theorem cellsOf30 : Try.prog.cellsOf 30 = 1 := by kernel_rfl
@[go_sem] theorem isAgg30 : isAggT Try.prog 30 = some false := by kernel_rfl
@[go_sem] theorem ok30 : tyOk Try.prog 30 = true := by kernel_rfl
@[go_sem] theorem bytes30 : Try.prog.bytesOf 30 = 24 := by kernel_rfl
@[go_sem] theorem zero30 : zeroOf Try.prog 30 = some (.nils) := by kernel_rfl
@[go_sem] theorem zeroLen30 : appendA.zeroLen Try.prog 30 = 1 := by kernel_rfl
attribute [go_sem] Try.underlying31
@[go_sem] theorem cellsOf31 : Try.prog.cellsOf 31 = 2 := by kernel_rfl
@[go_sem] theorem isAgg31 : isAggT Try.prog 31 = some true := by kernel_rfl
@[go_sem] theorem ok31 : tyOk Try.prog 31 = true := by kernel_rfl
@[go_sem] theorem bytes31 : Try.prog.bytesOf 31 = 32 := by kernel_rfl
@[go_sem] theorem zero31 : zeroOf Try.prog 31 = some (.agg [.p (.int .i64 0), .nils]) := by kernel_rfl
@[go_sem] theorem zeroLen31 : appendA.zeroLen Try.prog 31 = 2 := by kernel_rfl
@[go_sem] theorem field31_0 : fieldOff Try.prog 31 0 = some 0 := by kernel_rfl
@[go_sem] theorem field31_1 : fieldOff Try.prog 31 1 = some 1 := by kernel_rfl
@[go_sem] theorem build31 (parts : List (Nat × AV)) : buildA Try.prog 31 parts = (fillG (fun j => [(0, 1), (1, 1)][j]?) [.p (.int .i64 0), .nils] parts).map mkAgg :=
  buildA_eq _ _ zero31 rfl (by kernel_rfl) (by kernel_rfl) (by funext j; exact placesA_eq _ _ (by kernel_rfl) j)
attribute [go_sem] Try.underlying32
@[go_sem] theorem cellsOf32 : Try.prog.cellsOf 32 = 2 := by kernel_rfl
@[go_sem] theorem isAgg32 : isAggT Try.prog 32 = some true := by kernel_rfl
@[go_sem] theorem ok32 : tyOk Try.prog 32 = true := by kernel_rfl
@[go_sem] theorem bytes32 : Try.prog.bytesOf 32 = 32 := by kernel_rfl
@[go_sem] theorem zero32 : zeroOf Try.prog 32 = some (.agg [.p (.int .i64 0), .nils]) := by kernel_rfl
@[go_sem] theorem zeroLen32 : appendA.zeroLen Try.prog 32 = 2 := by kernel_rfl
@[go_sem] theorem field32_0 : fieldOff Try.prog 32 0 = some 0 := by kernel_rfl
@[go_sem] theorem field32_1 : fieldOff Try.prog 32 1 = some 1 := by kernel_rfl
@[go_sem] theorem build32 (parts : List (Nat × AV)) : buildA Try.prog 32 parts = (fillG (fun j => [(0, 1), (1, 1)][j]?) [.p (.int .i64 0), .nils] parts).map mkAgg :=
  buildA_eq _ _ zero32 rfl (by kernel_rfl) (by kernel_rfl) (by funext j; exact placesA_eq _ _ (by kernel_rfl) j)
attribute [go_sem] Try.underlying33
@[go_sem] theorem cellsOf33 : Try.prog.cellsOf 33 = 4 := by kernel_rfl
@[go_sem] theorem isAgg33 : isAggT Try.prog 33 = some true := by kernel_rfl
@[go_sem] theorem ok33 : tyOk Try.prog 33 = true := by kernel_rfl
@[go_sem] theorem bytes33 : Try.prog.bytesOf 33 = 40 := by kernel_rfl
@[go_sem] theorem zero33 : zeroOf Try.prog 33 = some (.p (.agg [(.int .i64 0), (.int .i64 0), (.str []), (.int .i64 0)])) := by kernel_rfl
@[go_sem] theorem zeroLen33 : appendA.zeroLen Try.prog 33 = 4 := by kernel_rfl
@[go_sem] theorem field33_0 : fieldOff Try.prog 33 0 = some 0 := by kernel_rfl
@[go_sem] theorem field33_1 : fieldOff Try.prog 33 1 = some 3 := by kernel_rfl
@[go_sem] theorem build33 (parts : List (Nat × AV)) : buildA Try.prog 33 parts = (fillG (fun j => [(0, 3), (3, 1)][j]?) [.p (.int .i64 0), .p (.int .i64 0), .p (.str []), .p (.int .i64 0)] parts).map mkAgg :=
  buildA_eq _ _ zero33 rfl (by kernel_rfl) (by kernel_rfl) (by funext j; exact placesA_eq _ _ (by kernel_rfl) j)
@[go_sem] theorem eqS33 (d : Nat) (xs ys : List PV) : eqT Try.prog (d + 1) 33 xs ys = eqL (eqT Try.prog d) [(25, 0, 3), (2, 3, 1)] xs ys := eqT_struct _ (by kernel_rfl) (by kernel_rfl) (by kernel_rfl) (by kernel_rfl) d xs ys
@[go_sem] theorem eqg33 : Try.prog.eqGuardType Try.prog.depth 33 = false := by kernel_rfl
attribute [go_sem] Try.underlying34
@[go_sem] theorem cellsOf34 : Try.prog.cellsOf 34 = 4 := by kernel_rfl
@[go_sem] theorem isAgg34 : isAggT Try.prog 34 = some true := by kernel_rfl
@[go_sem] theorem ok34 : tyOk Try.prog 34 = true := by kernel_rfl
@[go_sem] theorem bytes34 : Try.prog.bytesOf 34 = 40 := by kernel_rfl
@[go_sem] theorem zero34 : zeroOf Try.prog 34 = some (.p (.agg [(.int .i64 0), (.int .i64 0), (.str []), (.int .i64 0)])) := by kernel_rfl
@[go_sem] theorem zeroLen34 : appendA.zeroLen Try.prog 34 = 4 := by kernel_rfl
@[go_sem] theorem field34_0 : fieldOff Try.prog 34 0 = some 0 := by kernel_rfl
@[go_sem] theorem field34_1 : fieldOff Try.prog 34 1 = some 3 := by kernel_rfl
@[go_sem] theorem build34 (parts : List (Nat × AV)) : buildA Try.prog 34 parts = (fillG (fun j => [(0, 3), (3, 1)][j]?) [.p (.int .i64 0), .p (.int .i64 0), .p (.str []), .p (.int .i64 0)] parts).map mkAgg :=
  buildA_eq _ _ zero34 rfl (by kernel_rfl) (by kernel_rfl) (by funext j; exact placesA_eq _ _ (by kernel_rfl) j)
@[go_sem] theorem eqS34 (d : Nat) (xs ys : List PV) : eqT Try.prog (d + 1) 34 xs ys = eqL (eqT Try.prog d) [(25, 0, 3), (2, 3, 1)] xs ys := eqT_struct _ (by kernel_rfl) (by kernel_rfl) (by kernel_rfl) (by kernel_rfl) d xs ys
@[go_sem] theorem eqg34 : Try.prog.eqGuardType Try.prog.depth 34 = false := by kernel_rfl
attribute [go_sem] Try.underlying36
@[go_sem] theorem cellsOf36 : Try.prog.cellsOf 36 = 1 := by kernel_rfl
@[go_sem] theorem isAgg36 : isAggT Try.prog 36 = some false := by kernel_rfl
@[go_sem] theorem ok36 : tyOk Try.prog 36 = true := by kernel_rfl
@[go_sem] theorem bytes36 : Try.prog.bytesOf 36 = 8 := by kernel_rfl
@[go_sem] theorem zero36 : zeroOf Try.prog 36 = some (.p .nilf) := by kernel_rfl
@[go_sem] theorem zeroLen36 : appendA.zeroLen Try.prog 36 = 1 := by kernel_rfl
attribute [go_sem] Try.underlying37
@[go_sem] theorem cellsOf37 : Try.prog.cellsOf 37 = 1 := by kernel_rfl
@[go_sem] theorem isAgg37 : isAggT Try.prog 37 = some false := by kernel_rfl
@[go_sem] theorem ok37 : tyOk Try.prog 37 = true := by kernel_rfl
@[go_sem] theorem bytes37 : Try.prog.bytesOf 37 = 8 := by kernel_rfl
@[go_sem] theorem zero37 : zeroOf Try.prog 37 = some (.p .nilf) := by kernel_rfl
@[go_sem] theorem zeroLen37 : appendA.zeroLen Try.prog 37 = 1 := by kernel_rfl
attribute [go_sem] Try.underlying38
@[go_sem] theorem cellsOf38 : Try.prog.cellsOf 38 = 1 := by kernel_rfl
@[go_sem] theorem isAgg38 : isAggT Try.prog 38 = some false := by kernel_rfl
@[go_sem] theorem ok38 : tyOk Try.prog 38 = true := by kernel_rfl
@[go_sem] theorem bytes38 : Try.prog.bytesOf 38 = 24 := by kernel_rfl
@[go_sem] theorem zero38 : zeroOf Try.prog 38 = some (.nils) := by kernel_rfl
@[go_sem] theorem zeroLen38 : appendA.zeroLen Try.prog 38 = 1 := by kernel_rfl
attribute [go_sem] Try.underlying39
@[go_sem] theorem cellsOf39 : Try.prog.cellsOf 39 = 1 := by kernel_rfl
@[go_sem] theorem isAgg39 : isAggT Try.prog 39 = some false := by kernel_rfl
@[go_sem] theorem ok39 : tyOk Try.prog 39 = true := by kernel_rfl
@[go_sem] theorem bytes39 : Try.prog.bytesOf 39 = 24 := by kernel_rfl
@[go_sem] theorem zero39 : zeroOf Try.prog 39 = some (.nils) := by kernel_rfl
@[go_sem] theorem zeroLen39 : appendA.zeroLen Try.prog 39 = 1 := by kernel_rfl
attribute [go_sem] Try.underlying41
@[go_sem] theorem cellsOf41 : Try.prog.cellsOf 41 = 1 := by kernel_rfl
@[go_sem] theorem isAgg41 : isAggT Try.prog 41 = some false := by kernel_rfl
@[go_sem] theorem ok41 : tyOk Try.prog 41 = true := by kernel_rfl
@[go_sem] theorem bytes41 : Try.prog.bytesOf 41 = 8 := by kernel_rfl
@[go_sem] theorem zero41 : zeroOf Try.prog 41 = some (.p .nilf) := by kernel_rfl
@[go_sem] theorem zeroLen41 : appendA.zeroLen Try.prog 41 = 1 := by kernel_rfl
attribute [go_sem] Try.underlying42
@[go_sem] theorem cellsOf42 : Try.prog.cellsOf 42 = 1 := by kernel_rfl
@[go_sem] theorem isAgg42 : isAggT Try.prog 42 = some false := by kernel_rfl
@[go_sem] theorem ok42 : tyOk Try.prog 42 = true := by kernel_rfl
@[go_sem] theorem bytes42 : Try.prog.bytesOf 42 = 8 := by kernel_rfl
@[go_sem] theorem zero42 : zeroOf Try.prog 42 = some (.p .nilf) := by kernel_rfl
@[go_sem] theorem zeroLen42 : appendA.zeroLen Try.prog 42 = 1 := by kernel_rfl
attribute [go_sem] Try.underlying43
@[go_sem] theorem cellsOf43 : Try.prog.cellsOf 43 = 3 := by kernel_rfl
@[go_sem] theorem isAgg43 : isAggT Try.prog 43 = some true := by kernel_rfl
@[go_sem] theorem ok43 : tyOk Try.prog 43 = true := by kernel_rfl
@[go_sem] theorem bytes43 : Try.prog.bytesOf 43 = 56 := by kernel_rfl
@[go_sem] theorem zero43 : zeroOf Try.prog 43 = some (.agg [.p (.int .i64 0), .nils, .nils]) := by kernel_rfl
@[go_sem] theorem zeroLen43 : appendA.zeroLen Try.prog 43 = 3 := by kernel_rfl
@[go_sem] theorem field43_0 : fieldOff Try.prog 43 0 = some 0 := by kernel_rfl
@[go_sem] theorem field43_1 : fieldOff Try.prog 43 1 = some 2 := by kernel_rfl
@[go_sem] theorem build43 (parts : List (Nat × AV)) : buildA Try.prog 43 parts = (fillG (fun j => [(0, 2), (2, 1)][j]?) [.p (.int .i64 0), .nils, .nils] parts).map mkAgg :=
  buildA_eq _ _ zero43 rfl (by kernel_rfl) (by kernel_rfl) (by funext j; exact placesA_eq _ _ (by kernel_rfl) j)
attribute [go_sem] Try.underlying44
@[go_sem] theorem cellsOf44 : Try.prog.cellsOf 44 = 3 := by kernel_rfl
@[go_sem] theorem isAgg44 : isAggT Try.prog 44 = some true := by kernel_rfl
@[go_sem] theorem ok44 : tyOk Try.prog 44 = true := by kernel_rfl
@[go_sem] theorem bytes44 : Try.prog.bytesOf 44 = 56 := by kernel_rfl
@[go_sem] theorem zero44 : zeroOf Try.prog 44 = some (.agg [.p (.int .i64 0), .nils, .nils]) := by kernel_rfl
@[go_sem] theorem zeroLen44 : appendA.zeroLen Try.prog 44 = 3 := by kernel_rfl
@[go_sem] theorem field44_0 : fieldOff Try.prog 44 0 = some 0 := by kernel_rfl
@[go_sem] theorem field44_1 : fieldOff Try.prog 44 1 = some 2 := by kernel_rfl
@[go_sem] theorem build44 (parts : List (Nat × AV)) : buildA Try.prog 44 parts = (fillG (fun j => [(0, 2), (2, 1)][j]?) [.p (.int .i64 0), .nils, .nils] parts).map mkAgg :=
  buildA_eq _ _ zero44 rfl (by kernel_rfl) (by kernel_rfl) (by funext j; exact placesA_eq _ _ (by kernel_rfl) j)
attribute [go_sem] Try.underlying46
@[go_sem] theorem cellsOf46 : Try.prog.cellsOf 46 = 1 := by kernel_rfl
@[go_sem] theorem isAgg46 : isAggT Try.prog 46 = some false := by kernel_rfl
@[go_sem] theorem ok46 : tyOk Try.prog 46 = true := by kernel_rfl
@[go_sem] theorem bytes46 : Try.prog.bytesOf 46 = 8 := by kernel_rfl
@[go_sem] theorem zero46 : zeroOf Try.prog 46 = some (.p .nilf) := by kernel_rfl
@[go_sem] theorem zeroLen46 : appendA.zeroLen Try.prog 46 = 1 := by kernel_rfl
attribute [go_sem] Try.underlying47
@[go_sem] theorem cellsOf47 : Try.prog.cellsOf 47 = 1 := by kernel_rfl
@[go_sem] theorem isAgg47 : isAggT Try.prog 47 = some false := by kernel_rfl
@[go_sem] theorem ok47 : tyOk Try.prog 47 = true := by kernel_rfl
@[go_sem] theorem bytes47 : Try.prog.bytesOf 47 = 8 := by kernel_rfl
@[go_sem] theorem zero47 : zeroOf Try.prog 47 = some (.p .nilf) := by kernel_rfl
@[go_sem] theorem zeroLen47 : appendA.zeroLen Try.prog 47 = 1 := by kernel_rfl
attribute [go_sem] Try.underlying48
@[go_sem] theorem cellsOf48 : Try.prog.cellsOf 48 = 1 := by kernel_rfl
@[go_sem] theorem isAgg48 : isAggT Try.prog 48 = some false := by kernel_rfl
@[go_sem] theorem ok48 : tyOk Try.prog 48 = true := by kernel_rfl
@[go_sem] theorem bytes48 : Try.prog.bytesOf 48 = 8 := by kernel_rfl
@[go_sem] theorem zero48 : zeroOf Try.prog 48 = some (.p .nilf) := by kernel_rfl
@[go_sem] theorem zeroLen48 : appendA.zeroLen Try.prog 48 = 1 := by kernel_rfl
attribute [go_sem] Try.underlying49
@[go_sem] theorem cellsOf49 : Try.prog.cellsOf 49 = 1 := by kernel_rfl
@[go_sem] theorem isAgg49 : isAggT Try.prog 49 = some false := by kernel_rfl
@[go_sem] theorem ok49 : tyOk Try.prog 49 = true := by kernel_rfl
@[go_sem] theorem bytes49 : Try.prog.bytesOf 49 = 8 := by kernel_rfl
@[go_sem] theorem zero49 : zeroOf Try.prog 49 = some (.p .nilf) := by kernel_rfl
@[go_sem] theorem zeroLen49 : appendA.zeroLen Try.prog 49 = 1 := by kernel_rfl
attribute [go_sem] Try.underlying50
@[go_sem] theorem cellsOf50 : Try.prog.cellsOf 50 = 1 := by kernel_rfl
@[go_sem] theorem isAgg50 : isAggT Try.prog 50 = some false := by kernel_rfl
@[go_sem] theorem ok50 : tyOk Try.prog 50 = true := by kernel_rfl
@[go_sem] theorem bytes50 : Try.prog.bytesOf 50 = 24 := by kernel_rfl
@[go_sem] theorem zero50 : zeroOf Try.prog 50 = some (.nils) := by kernel_rfl
@[go_sem] theorem zeroLen50 : appendA.zeroLen Try.prog 50 = 1 := by kernel_rfl
attribute [go_sem] Try.underlying51
@[go_sem] theorem cellsOf51 : Try.prog.cellsOf 51 = 3 := by kernel_rfl
@[go_sem] theorem isAgg51 : isAggT Try.prog 51 = some true := by kernel_rfl
@[go_sem] theorem ok51 : tyOk Try.prog 51 = true := by kernel_rfl
@[go_sem] theorem bytes51 : Try.prog.bytesOf 51 = 64 := by kernel_rfl
@[go_sem] theorem zero51 : zeroOf Try.prog 51 = some (.agg [.p (.str []), .nils, .nils]) := by kernel_rfl
@[go_sem] theorem zeroLen51 : appendA.zeroLen Try.prog 51 = 3 := by kernel_rfl
@[go_sem] theorem field51_0 : fieldOff Try.prog 51 0 = some 0 := by kernel_rfl
@[go_sem] theorem field51_1 : fieldOff Try.prog 51 1 = some 1 := by kernel_rfl
@[go_sem] theorem field51_2 : fieldOff Try.prog 51 2 = some 2 := by kernel_rfl
@[go_sem] theorem build51 (parts : List (Nat × AV)) : buildA Try.prog 51 parts = (fillG (fun j => [(0, 1), (1, 1), (2, 1)][j]?) [.p (.str []), .nils, .nils] parts).map mkAgg :=
  buildA_eq _ _ zero51 rfl (by kernel_rfl) (by kernel_rfl) (by funext j; exact placesA_eq _ _ (by kernel_rfl) j)
attribute [go_sem] Try.underlying52
@[go_sem] theorem cellsOf52 : Try.prog.cellsOf 52 = 3 := by kernel_rfl
@[go_sem] theorem isAgg52 : isAggT Try.prog 52 = some true := by kernel_rfl
@[go_sem] theorem ok52 : tyOk Try.prog 52 = true := by kernel_rfl
@[go_sem] theorem bytes52 : Try.prog.bytesOf 52 = 64 := by kernel_rfl
@[go_sem] theorem zero52 : zeroOf Try.prog 52 = some (.agg [.p (.str []), .nils, .nils]) := by kernel_rfl
@[go_sem] theorem zeroLen52 : appendA.zeroLen Try.prog 52 = 3 := by kernel_rfl
@[go_sem] theorem field52_0 : fieldOff Try.prog 52 0 = some 0 := by kernel_rfl
@[go_sem] theorem field52_1 : fieldOff Try.prog 52 1 = some 1 := by kernel_rfl
@[go_sem] theorem field52_2 : fieldOff Try.prog 52 2 = some 2 := by kernel_rfl
@[go_sem] theorem build52 (parts : List (Nat × AV)) : buildA Try.prog 52 parts = (fillG (fun j => [(0, 1), (1, 1), (2, 1)][j]?) [.p (.str []), .nils, .nils] parts).map mkAgg :=
  buildA_eq _ _ zero52 rfl (by kernel_rfl) (by kernel_rfl) (by funext j; exact placesA_eq _ _ (by kernel_rfl) j)
attribute [go_sem] Try.underlying53
@[go_sem] theorem cellsOf53 : Try.prog.cellsOf 53 = 1 := by kernel_rfl
@[go_sem] theorem isAgg53 : isAggT Try.prog 53 = some false := by kernel_rfl
@[go_sem] theorem ok53 : tyOk Try.prog 53 = true := by kernel_rfl
@[go_sem] theorem bytes53 : Try.prog.bytesOf 53 = 24 := by kernel_rfl
@[go_sem] theorem zero53 : zeroOf Try.prog 53 = some (.nils) := by kernel_rfl
@[go_sem] theorem zeroLen53 : appendA.zeroLen Try.prog 53 = 1 := by kernel_rfl
attribute [go_sem] Try.underlying54
@[go_sem] theorem cellsOf54 : Try.prog.cellsOf 54 = 5 := by kernel_rfl
@[go_sem] theorem isAgg54 : isAggT Try.prog 54 = some true := by kernel_rfl
@[go_sem] theorem ok54 : tyOk Try.prog 54 = true := by kernel_rfl
@[go_sem] theorem bytes54 : Try.prog.bytesOf 54 = 112 := by kernel_rfl
@[go_sem] theorem zero54 : zeroOf Try.prog 54 = some (.agg [.p (.str []), .nils, .nils, .nils, .nils]) := by kernel_rfl
@[go_sem] theorem zeroLen54 : appendA.zeroLen Try.prog 54 = 5 := by kernel_rfl
@[go_sem] theorem field54_0 : fieldOff Try.prog 54 0 = some 0 := by kernel_rfl
@[go_sem] theorem field54_1 : fieldOff Try.prog 54 1 = some 3 := by kernel_rfl
@[go_sem] theorem field54_2 : fieldOff Try.prog 54 2 = some 4 := by kernel_rfl
@[go_sem] theorem build54 (parts : List (Nat × AV)) : buildA Try.prog 54 parts = (fillG (fun j => [(0, 3), (3, 1), (4, 1)][j]?) [.p (.str []), .nils, .nils, .nils, .nils] parts).map mkAgg :=
  buildA_eq _ _ zero54 rfl (by kernel_rfl) (by kernel_rfl) (by funext j; exact placesA_eq _ _ (by kernel_rfl) j)
attribute [go_sem] Try.underlying55
@[go_sem] theorem cellsOf55 : Try.prog.cellsOf 55 = 5 := by kernel_rfl
@[go_sem] theorem isAgg55 : isAggT Try.prog 55 = some true := by kernel_rfl
@[go_sem] theorem ok55 : tyOk Try.prog 55 = true := by kernel_rfl
@[go_sem] theorem bytes55 : Try.prog.bytesOf 55 = 112 := by kernel_rfl
@[go_sem] theorem zero55 : zeroOf Try.prog 55 = some (.agg [.p (.str []), .nils, .nils, .nils, .nils]) := by kernel_rfl
@[go_sem] theorem zeroLen55 : appendA.zeroLen Try.prog 55 = 5 := by kernel_rfl
@[go_sem] theorem field55_0 : fieldOff Try.prog 55 0 = some 0 := by kernel_rfl
@[go_sem] theorem field55_1 : fieldOff Try.prog 55 1 = some 3 := by kernel_rfl
@[go_sem] theorem field55_2 : fieldOff Try.prog 55 2 = some 4 := by kernel_rfl
@[go_sem] theorem build55 (parts : List (Nat × AV)) : buildA Try.prog 55 parts = (fillG (fun j => [(0, 3), (3, 1), (4, 1)][j]?) [.p (.str []), .nils, .nils, .nils, .nils] parts).map mkAgg :=
  buildA_eq _ _ zero55 rfl (by kernel_rfl) (by kernel_rfl) (by funext j; exact placesA_eq _ _ (by kernel_rfl) j)
attribute [go_sem] Try.underlying56
@[go_sem] theorem cellsOf56 : Try.prog.cellsOf 56 = 2 := by kernel_rfl
@[go_sem] theorem isAgg56 : isAggT Try.prog 56 = some true := by kernel_rfl
@[go_sem] theorem ok56 : tyOk Try.prog 56 = true := by kernel_rfl
@[go_sem] theorem bytes56 : Try.prog.bytesOf 56 = 16 := by kernel_rfl
@[go_sem] theorem zero56 : zeroOf Try.prog 56 = some (.p (.agg [(.int .i64 0), (.int .i64 0)])) := by kernel_rfl
@[go_sem] theorem zeroLen56 : appendA.zeroLen Try.prog 56 = 2 := by kernel_rfl
@[go_sem] theorem field56_0 : fieldOff Try.prog 56 0 = some 0 := by kernel_rfl
@[go_sem] theorem field56_1 : fieldOff Try.prog 56 1 = some 1 := by kernel_rfl
@[go_sem] theorem build56 (parts : List (Nat × AV)) : buildA Try.prog 56 parts = (fillG (fun j => [(0, 1), (1, 1)][j]?) [.p (.int .i64 0), .p (.int .i64 0)] parts).map mkAgg :=
  buildA_eq _ _ zero56 rfl (by kernel_rfl) (by kernel_rfl) (by funext j; exact placesA_eq _ _ (by kernel_rfl) j)
@[go_sem] theorem eqS56 (d : Nat) (xs ys : List PV) : eqT Try.prog (d + 1) 56 xs ys = eqL (eqT Try.prog d) [(2, 0, 1), (3, 1, 1)] xs ys := eqT_struct _ (by kernel_rfl) (by kernel_rfl) (by kernel_rfl) (by kernel_rfl) d xs ys
@[go_sem] theorem eqg56 : Try.prog.eqGuardType Try.prog.depth 56 = false := by kernel_rfl
attribute [go_sem] Try.underlying57
@[go_sem] theorem cellsOf57 : Try.prog.cellsOf 57 = 2 := by kernel_rfl
@[go_sem] theorem isAgg57 : isAggT Try.prog 57 = some true := by kernel_rfl
@[go_sem] theorem ok57 : tyOk Try.prog 57 = true := by kernel_rfl
@[go_sem] theorem bytes57 : Try.prog.bytesOf 57 = 16 := by kernel_rfl
@[go_sem] theorem zero57 : zeroOf Try.prog 57 = some (.p (.agg [(.int .i64 0), (.int .i64 0)])) := by kernel_rfl
@[go_sem] theorem zeroLen57 : appendA.zeroLen Try.prog 57 = 2 := by kernel_rfl
@[go_sem] theorem field57_0 : fieldOff Try.prog 57 0 = some 0 := by kernel_rfl
@[go_sem] theorem field57_1 : fieldOff Try.prog 57 1 = some 1 := by kernel_rfl
@[go_sem] theorem build57 (parts : List (Nat × AV)) : buildA Try.prog 57 parts = (fillG (fun j => [(0, 1), (1, 1)][j]?) [.p (.int .i64 0), .p (.int .i64 0)] parts).map mkAgg :=
  buildA_eq _ _ zero57 rfl (by kernel_rfl) (by kernel_rfl) (by funext j; exact placesA_eq _ _ (by kernel_rfl) j)
@[go_sem] theorem eqS57 (d : Nat) (xs ys : List PV) : eqT Try.prog (d + 1) 57 xs ys = eqL (eqT Try.prog d) [(2, 0, 1), (3, 1, 1)] xs ys := eqT_struct _ (by kernel_rfl) (by kernel_rfl) (by kernel_rfl) (by kernel_rfl) d xs ys
@[go_sem] theorem eqg57 : Try.prog.eqGuardType Try.prog.depth 57 = false := by kernel_rfl
attribute [go_sem] Try.underlying58
@[go_sem] theorem cellsOf58 : Try.prog.cellsOf 58 = 1 := by kernel_rfl
@[go_sem] theorem isAgg58 : isAggT Try.prog 58 = some false := by kernel_rfl
@[go_sem] theorem ok58 : tyOk Try.prog 58 = true := by kernel_rfl
@[go_sem] theorem bytes58 : Try.prog.bytesOf 58 = 8 := by kernel_rfl
@[go_sem] theorem zero58 : zeroOf Try.prog 58 = some (.p .nilf) := by kernel_rfl
@[go_sem] theorem zeroLen58 : appendA.zeroLen Try.prog 58 = 1 := by kernel_rfl
attribute [go_sem] Try.underlying60
@[go_sem] theorem cellsOf60 : Try.prog.cellsOf 60 = 1 := by kernel_rfl
@[go_sem] theorem isAgg60 : isAggT Try.prog 60 = some false := by kernel_rfl
@[go_sem] theorem ok60 : tyOk Try.prog 60 = true := by kernel_rfl
@[go_sem] theorem bytes60 : Try.prog.bytesOf 60 = 8 := by kernel_rfl
@[go_sem] theorem zero60 : zeroOf Try.prog 60 = some (.p .nilf) := by kernel_rfl
@[go_sem] theorem zeroLen60 : appendA.zeroLen Try.prog 60 = 1 := by kernel_rfl
attribute [go_sem] Try.underlying61
@[go_sem] theorem cellsOf61 : Try.prog.cellsOf 61 = 1 := by kernel_rfl
@[go_sem] theorem isAgg61 : isAggT Try.prog 61 = some false := by kernel_rfl
@[go_sem] theorem ok61 : tyOk Try.prog 61 = true := by kernel_rfl
@[go_sem] theorem bytes61 : Try.prog.bytesOf 61 = 8 := by kernel_rfl
@[go_sem] theorem zero61 : zeroOf Try.prog 61 = some (.p .nilf) := by kernel_rfl
@[go_sem] theorem zeroLen61 : appendA.zeroLen Try.prog 61 = 1 := by kernel_rfl
attribute [go_sem] Try.underlying62
@[go_sem] theorem cellsOf62 : Try.prog.cellsOf 62 = 1 := by kernel_rfl
@[go_sem] theorem isAgg62 : isAggT Try.prog 62 = some false := by kernel_rfl
@[go_sem] theorem ok62 : tyOk Try.prog 62 = true := by kernel_rfl
@[go_sem] theorem bytes62 : Try.prog.bytesOf 62 = 8 := by kernel_rfl
@[go_sem] theorem zero62 : zeroOf Try.prog 62 = some (.p .nilf) := by kernel_rfl
@[go_sem] theorem zeroLen62 : appendA.zeroLen Try.prog 62 = 1 := by kernel_rfl
attribute [go_sem] Try.underlying63
@[go_sem] theorem cellsOf63 : Try.prog.cellsOf 63 = 1 := by kernel_rfl
@[go_sem] theorem isAgg63 : isAggT Try.prog 63 = some false := by kernel_rfl
@[go_sem] theorem ok63 : tyOk Try.prog 63 = true := by kernel_rfl
@[go_sem] theorem bytes63 : Try.prog.bytesOf 63 = 24 := by kernel_rfl
@[go_sem] theorem zero63 : zeroOf Try.prog 63 = some (.nils) := by kernel_rfl
@[go_sem] theorem zeroLen63 : appendA.zeroLen Try.prog 63 = 1 := by kernel_rfl
attribute [go_sem] Try.underlying65
@[go_sem] theorem cellsOf65 : Try.prog.cellsOf 65 = 1 := by kernel_rfl
@[go_sem] theorem isAgg65 : isAggT Try.prog 65 = some false := by kernel_rfl
@[go_sem] theorem ok65 : tyOk Try.prog 65 = true := by kernel_rfl
@[go_sem] theorem bytes65 : Try.prog.bytesOf 65 = 8 := by kernel_rfl
@[go_sem] theorem zero65 : zeroOf Try.prog 65 = some (.p .nilf) := by kernel_rfl
@[go_sem] theorem zeroLen65 : appendA.zeroLen Try.prog 65 = 1 := by kernel_rfl
attribute [go_sem] Try.underlying66
@[go_sem] theorem cellsOf66 : Try.prog.cellsOf 66 = 1 := by kernel_rfl
@[go_sem] theorem isAgg66 : isAggT Try.prog 66 = some false := by kernel_rfl
@[go_sem] theorem ok66 : tyOk Try.prog 66 = true := by kernel_rfl
@[go_sem] theorem bytes66 : Try.prog.bytesOf 66 = 8 := by kernel_rfl
@[go_sem] theorem zero66 : zeroOf Try.prog 66 = some (.p .nilf) := by kernel_rfl
@[go_sem] theorem zeroLen66 : appendA.zeroLen Try.prog 66 = 1 := by kernel_rfl
attribute [go_sem] Try.underlying67
@[go_sem] theorem cellsOf67 : Try.prog.cellsOf 67 = 1 := by kernel_rfl
@[go_sem] theorem isAgg67 : isAggT Try.prog 67 = some false := by kernel_rfl
@[go_sem] theorem ok67 : tyOk Try.prog 67 = true := by kernel_rfl
@[go_sem] theorem bytes67 : Try.prog.bytesOf 67 = 8 := by kernel_rfl
@[go_sem] theorem zero67 : zeroOf Try.prog 67 = some (.p .nilf) := by kernel_rfl
@[go_sem] theorem zeroLen67 : appendA.zeroLen Try.prog 67 = 1 := by kernel_rfl
attribute [go_sem] Try.underlying68
@[go_sem] theorem cellsOf68 : Try.prog.cellsOf 68 = 1 := by kernel_rfl
@[go_sem] theorem isAgg68 : isAggT Try.prog 68 = some false := by kernel_rfl
@[go_sem] theorem ok68 : tyOk Try.prog 68 = true := by kernel_rfl
@[go_sem] theorem bytes68 : Try.prog.bytesOf 68 = 8 := by kernel_rfl
@[go_sem] theorem zero68 : zeroOf Try.prog 68 = some (.p .nilf) := by kernel_rfl
@[go_sem] theorem zeroLen68 : appendA.zeroLen Try.prog 68 = 1 := by kernel_rfl
attribute [go_sem] Try.underlying69
@[go_sem] theorem cellsOf69 : Try.prog.cellsOf 69 = 1 := by kernel_rfl
@[go_sem] theorem isAgg69 : isAggT Try.prog 69 = some false := by kernel_rfl
@[go_sem] theorem ok69 : tyOk Try.prog 69 = true := by kernel_rfl
@[go_sem] theorem bytes69 : Try.prog.bytesOf 69 = 8 := by kernel_rfl
@[go_sem] theorem zero69 : zeroOf Try.prog 69 = some (.p .nilf) := by kernel_rfl
@[go_sem] theorem zeroLen69 : appendA.zeroLen Try.prog 69 = 1 := by kernel_rfl
attribute [go_sem] Try.underlying70
@[go_sem] theorem cellsOf70 : Try.prog.cellsOf 70 = 1 := by kernel_rfl
@[go_sem] theorem isAgg70 : isAggT Try.prog 70 = some false := by kernel_rfl
@[go_sem] theorem ok70 : tyOk Try.prog 70 = true := by kernel_rfl
@[go_sem] theorem bytes70 : Try.prog.bytesOf 70 = 8 := by kernel_rfl
@[go_sem] theorem zero70 : zeroOf Try.prog 70 = some (.p .nilf) := by kernel_rfl
@[go_sem] theorem zeroLen70 : appendA.zeroLen Try.prog 70 = 1 := by kernel_rfl
attribute [go_sem] Try.underlying72
@[go_sem] theorem cellsOf72 : Try.prog.cellsOf 72 = 1 := by kernel_rfl
@[go_sem] theorem isAgg72 : isAggT Try.prog 72 = some false := by kernel_rfl
@[go_sem] theorem ok72 : tyOk Try.prog 72 = true := by kernel_rfl
@[go_sem] theorem bytes72 : Try.prog.bytesOf 72 = 8 := by kernel_rfl
@[go_sem] theorem zero72 : zeroOf Try.prog 72 = some (.p .nilf) := by kernel_rfl
@[go_sem] theorem zeroLen72 : appendA.zeroLen Try.prog 72 = 1 := by kernel_rfl
attribute [go_sem] Try.underlying73
@[go_sem] theorem cellsOf73 : Try.prog.cellsOf 73 = 1 := by kernel_rfl
@[go_sem] theorem isAgg73 : isAggT Try.prog 73 = some false := by kernel_rfl
@[go_sem] theorem ok73 : tyOk Try.prog 73 = true := by kernel_rfl
@[go_sem] theorem bytes73 : Try.prog.bytesOf 73 = 8 := by kernel_rfl
@[go_sem] theorem zero73 : zeroOf Try.prog 73 = some (.p .nilf) := by kernel_rfl
@[go_sem] theorem zeroLen73 : appendA.zeroLen Try.prog 73 = 1 := by kernel_rfl
attribute [go_sem] Try.underlying74
@[go_sem] theorem cellsOf74 : Try.prog.cellsOf 74 = 1 := by kernel_rfl
@[go_sem] theorem isAgg74 : isAggT Try.prog 74 = some false := by kernel_rfl
@[go_sem] theorem ok74 : tyOk Try.prog 74 = true := by kernel_rfl
@[go_sem] theorem bytes74 : Try.prog.bytesOf 74 = 8 := by kernel_rfl
@[go_sem] theorem zero74 : zeroOf Try.prog 74 = some (.p .nilf) := by kernel_rfl
@[go_sem] theorem zeroLen74 : appendA.zeroLen Try.prog 74 = 1 := by kernel_rfl
attribute [go_sem] Try.underlying75
@[go_sem] theorem cellsOf75 : Try.prog.cellsOf 75 = 1 := by kernel_rfl
@[go_sem] theorem isAgg75 : isAggT Try.prog 75 = some false := by kernel_rfl
@[go_sem] theorem ok75 : tyOk Try.prog 75 = true := by kernel_rfl
@[go_sem] theorem bytes75 : Try.prog.bytesOf 75 = 8 := by kernel_rfl
@[go_sem] theorem zero75 : zeroOf Try.prog 75 = some (.p .nilf) := by kernel_rfl
@[go_sem] theorem zeroLen75 : appendA.zeroLen Try.prog 75 = 1 := by kernel_rfl
attribute [go_sem] Try.underlying76
@[go_sem] theorem cellsOf76 : Try.prog.cellsOf 76 = 1 := by kernel_rfl
@[go_sem] theorem isAgg76 : isAggT Try.prog 76 = some false := by kernel_rfl
@[go_sem] theorem ok76 : tyOk Try.prog 76 = true := by kernel_rfl
@[go_sem] theorem bytes76 : Try.prog.bytesOf 76 = 8 := by kernel_rfl
@[go_sem] theorem zero76 : zeroOf Try.prog 76 = some (.p .nilf) := by kernel_rfl
@[go_sem] theorem zeroLen76 : appendA.zeroLen Try.prog 76 = 1 := by kernel_rfl
attribute [go_sem] Try.underlying77
@[go_sem] theorem cellsOf77 : Try.prog.cellsOf 77 = 1 := by kernel_rfl
@[go_sem] theorem isAgg77 : isAggT Try.prog 77 = some false := by kernel_rfl
@[go_sem] theorem ok77 : tyOk Try.prog 77 = true := by kernel_rfl
@[go_sem] theorem bytes77 : Try.prog.bytesOf 77 = 8 := by kernel_rfl
@[go_sem] theorem zero77 : zeroOf Try.prog 77 = some (.p .nilf) := by kernel_rfl
@[go_sem] theorem zeroLen77 : appendA.zeroLen Try.prog 77 = 1 := by kernel_rfl
attribute [go_sem] Try.underlying78
@[go_sem] theorem cellsOf78 : Try.prog.cellsOf 78 = 1 := by kernel_rfl
@[go_sem] theorem isAgg78 : isAggT Try.prog 78 = some false := by kernel_rfl
@[go_sem] theorem ok78 : tyOk Try.prog 78 = true := by kernel_rfl
@[go_sem] theorem bytes78 : Try.prog.bytesOf 78 = 8 := by kernel_rfl
@[go_sem] theorem zero78 : zeroOf Try.prog 78 = some (.p .nilf) := by kernel_rfl
@[go_sem] theorem zeroLen78 : appendA.zeroLen Try.prog 78 = 1 := by kernel_rfl
attribute [go_sem] Try.underlying80
@[go_sem] theorem cellsOf80 : Try.prog.cellsOf 80 = 1 := by kernel_rfl
@[go_sem] theorem isAgg80 : isAggT Try.prog 80 = some false := by kernel_rfl
@[go_sem] theorem ok80 : tyOk Try.prog 80 = true := by kernel_rfl
@[go_sem] theorem bytes80 : Try.prog.bytesOf 80 = 8 := by kernel_rfl
@[go_sem] theorem zero80 : zeroOf Try.prog 80 = some (.p .nilf) := by kernel_rfl
@[go_sem] theorem zeroLen80 : appendA.zeroLen Try.prog 80 = 1 := by kernel_rfl
attribute [go_sem] Try.underlying81
@[go_sem] theorem cellsOf81 : Try.prog.cellsOf 81 = 1 := by kernel_rfl
@[go_sem] theorem isAgg81 : isAggT Try.prog 81 = some false := by kernel_rfl
@[go_sem] theorem ok81 : tyOk Try.prog 81 = true := by kernel_rfl
@[go_sem] theorem bytes81 : Try.prog.bytesOf 81 = 8 := by kernel_rfl
@[go_sem] theorem zero81 : zeroOf Try.prog 81 = some (.p .nilf) := by kernel_rfl
@[go_sem] theorem zeroLen81 : appendA.zeroLen Try.prog 81 = 1 := by kernel_rfl
attribute [go_sem] Try.underlying82
@[go_sem] theorem cellsOf82 : Try.prog.cellsOf 82 = 1 := by kernel_rfl
@[go_sem] theorem isAgg82 : isAggT Try.prog 82 = some false := by kernel_rfl
@[go_sem] theorem ok82 : tyOk Try.prog 82 = true := by kernel_rfl
@[go_sem] theorem bytes82 : Try.prog.bytesOf 82 = 8 := by kernel_rfl
@[go_sem] theorem zero82 : zeroOf Try.prog 82 = some (.p (.mapv [] [])) := by kernel_rfl
@[go_sem] theorem zeroLen82 : appendA.zeroLen Try.prog 82 = 1 := by kernel_rfl
attribute [go_sem] Try.underlying83
@[go_sem] theorem cellsOf83 : Try.prog.cellsOf 83 = 1 := by kernel_rfl
@[go_sem] theorem isAgg83 : isAggT Try.prog 83 = some false := by kernel_rfl
@[go_sem] theorem ok83 : tyOk Try.prog 83 = true := by kernel_rfl
@[go_sem] theorem bytes83 : Try.prog.bytesOf 83 = 8 := by kernel_rfl
@[go_sem] theorem zero83 : zeroOf Try.prog 83 = some (.p .nilf) := by kernel_rfl
@[go_sem] theorem zeroLen83 : appendA.zeroLen Try.prog 83 = 1 := by kernel_rfl
attribute [go_sem] Try.underlying84
@[go_sem] theorem cellsOf84 : Try.prog.cellsOf 84 = 1 := by kernel_rfl
@[go_sem] theorem isAgg84 : isAggT Try.prog 84 = some false := by kernel_rfl
@[go_sem] theorem ok84 : tyOk Try.prog 84 = true := by kernel_rfl
@[go_sem] theorem bytes84 : Try.prog.bytesOf 84 = 8 := by kernel_rfl
@[go_sem] theorem zero84 : zeroOf Try.prog 84 = some (.p .nilf) := by kernel_rfl
@[go_sem] theorem zeroLen84 : appendA.zeroLen Try.prog 84 = 1 := by kernel_rfl
attribute [go_sem] Try.underlying85
@[go_sem] theorem cellsOf85 : Try.prog.cellsOf 85 = 1 := by kernel_rfl
@[go_sem] theorem isAgg85 : isAggT Try.prog 85 = some false := by kernel_rfl
@[go_sem] theorem ok85 : tyOk Try.prog 85 = true := by kernel_rfl
@[go_sem] theorem bytes85 : Try.prog.bytesOf 85 = 8 := by kernel_rfl
@[go_sem] theorem zero85 : zeroOf Try.prog 85 = some (.p .nilf) := by kernel_rfl
@[go_sem] theorem zeroLen85 : appendA.zeroLen Try.prog 85 = 1 := by kernel_rfl
attribute [go_sem] Try.underlying86
@[go_sem] theorem cellsOf86 : Try.prog.cellsOf 86 = 1 := by kernel_rfl
@[go_sem] theorem isAgg86 : isAggT Try.prog 86 = some false := by kernel_rfl
@[go_sem] theorem ok86 : tyOk Try.prog 86 = true := by kernel_rfl
@[go_sem] theorem bytes86 : Try.prog.bytesOf 86 = 8 := by kernel_rfl
@[go_sem] theorem zero86 : zeroOf Try.prog 86 = some (.p .nilf) := by kernel_rfl
@[go_sem] theorem zeroLen86 : appendA.zeroLen Try.prog 86 = 1 := by kernel_rfl
attribute [go_sem] Try.underlying87
@[go_sem] theorem cellsOf87 : Try.prog.cellsOf 87 = 1 := by kernel_rfl
@[go_sem] theorem isAgg87 : isAggT Try.prog 87 = some false := by kernel_rfl
@[go_sem] theorem ok87 : tyOk Try.prog 87 = true := by kernel_rfl
@[go_sem] theorem bytes87 : Try.prog.bytesOf 87 = 8 := by kernel_rfl
@[go_sem] theorem zero87 : zeroOf Try.prog 87 = some (.p .nilf) := by kernel_rfl
@[go_sem] theorem zeroLen87 : appendA.zeroLen Try.prog 87 = 1 := by kernel_rfl
attribute [go_sem] Try.underlying88
@[go_sem] theorem cellsOf88 : Try.prog.cellsOf 88 = 1 := by kernel_rfl
@[go_sem] theorem isAgg88 : isAggT Try.prog 88 = some false := by kernel_rfl
@[go_sem] theorem ok88 : tyOk Try.prog 88 = true := by kernel_rfl
@[go_sem] theorem bytes88 : Try.prog.bytesOf 88 = 8 := by kernel_rfl
@[go_sem] theorem zero88 : zeroOf Try.prog 88 = some (.p .nilf) := by kernel_rfl
@[go_sem] theorem zeroLen88 : appendA.zeroLen Try.prog 88 = 1 := by kernel_rfl
attribute [go_sem] Try.underlying89
@[go_sem] theorem cellsOf89 : Try.prog.cellsOf 89 = 1 := by kernel_rfl
@[go_sem] theorem isAgg89 : isAggT Try.prog 89 = some false := by kernel_rfl
@[go_sem] theorem ok89 : tyOk Try.prog 89 = true := by kernel_rfl
@[go_sem] theorem bytes89 : Try.prog.bytesOf 89 = 8 := by kernel_rfl
@[go_sem] theorem zero89 : zeroOf Try.prog 89 = some (.p .nilf) := by kernel_rfl
@[go_sem] theorem zeroLen89 : appendA.zeroLen Try.prog 89 = 1 := by kernel_rfl
attribute [go_sem] Try.underlying90
@[go_sem] theorem cellsOf90 : Try.prog.cellsOf 90 = 1 := by kernel_rfl
@[go_sem] theorem isAgg90 : isAggT Try.prog 90 = some false := by kernel_rfl
@[go_sem] theorem ok90 : tyOk Try.prog 90 = true := by kernel_rfl
@[go_sem] theorem bytes90 : Try.prog.bytesOf 90 = 8 := by kernel_rfl
@[go_sem] theorem zero90 : zeroOf Try.prog 90 = some (.p .nilf) := by kernel_rfl
@[go_sem] theorem zeroLen90 : appendA.zeroLen Try.prog 90 = 1 := by kernel_rfl
attribute [go_sem] Try.underlying91
@[go_sem] theorem cellsOf91 : Try.prog.cellsOf 91 = 1 := by kernel_rfl
@[go_sem] theorem isAgg91 : isAggT Try.prog 91 = some false := by kernel_rfl
@[go_sem] theorem ok91 : tyOk Try.prog 91 = true := by kernel_rfl
@[go_sem] theorem bytes91 : Try.prog.bytesOf 91 = 8 := by kernel_rfl
@[go_sem] theorem zero91 : zeroOf Try.prog 91 = some (.p .nilf) := by kernel_rfl
@[go_sem] theorem zeroLen91 : appendA.zeroLen Try.prog 91 = 1 := by kernel_rfl
attribute [go_sem] Try.underlying92
@[go_sem] theorem cellsOf92 : Try.prog.cellsOf 92 = 1 := by kernel_rfl
@[go_sem] theorem isAgg92 : isAggT Try.prog 92 = some false := by kernel_rfl
@[go_sem] theorem ok92 : tyOk Try.prog 92 = true := by kernel_rfl
@[go_sem] theorem bytes92 : Try.prog.bytesOf 92 = 8 := by kernel_rfl
@[go_sem] theorem zero92 : zeroOf Try.prog 92 = some (.p .nilf) := by kernel_rfl
@[go_sem] theorem zeroLen92 : appendA.zeroLen Try.prog 92 = 1 := by kernel_rfl
attribute [go_sem] Try.underlying93
@[go_sem] theorem cellsOf93 : Try.prog.cellsOf 93 = 1 := by kernel_rfl
@[go_sem] theorem isAgg93 : isAggT Try.prog 93 = some false := by kernel_rfl
@[go_sem] theorem ok93 : tyOk Try.prog 93 = true := by kernel_rfl
@[go_sem] theorem bytes93 : Try.prog.bytesOf 93 = 8 := by kernel_rfl
@[go_sem] theorem zero93 : zeroOf Try.prog 93 = some (.p .nilf) := by kernel_rfl
@[go_sem] theorem zeroLen93 : appendA.zeroLen Try.prog 93 = 1 := by kernel_rfl
attribute [go_sem] Try.underlying94
@[go_sem] theorem cellsOf94 : Try.prog.cellsOf 94 = 1 := by kernel_rfl
@[go_sem] theorem isAgg94 : isAggT Try.prog 94 = some false := by kernel_rfl
@[go_sem] theorem ok94 : tyOk Try.prog 94 = true := by kernel_rfl
@[go_sem] theorem bytes94 : Try.prog.bytesOf 94 = 8 := by kernel_rfl
@[go_sem] theorem zero94 : zeroOf Try.prog 94 = some (.p .nilf) := by kernel_rfl
@[go_sem] theorem zeroLen94 : appendA.zeroLen Try.prog 94 = 1 := by kernel_rfl
attribute [go_sem] Try.underlying95
@[go_sem] theorem cellsOf95 : Try.prog.cellsOf 95 = 1 := by kernel_rfl
@[go_sem] theorem isAgg95 : isAggT Try.prog 95 = some false := by kernel_rfl
@[go_sem] theorem ok95 : tyOk Try.prog 95 = true := by kernel_rfl
@[go_sem] theorem bytes95 : Try.prog.bytesOf 95 = 8 := by kernel_rfl
@[go_sem] theorem zero95 : zeroOf Try.prog 95 = some (.p .nilf) := by kernel_rfl
@[go_sem] theorem zeroLen95 : appendA.zeroLen Try.prog 95 = 1 := by kernel_rfl
attribute [go_sem] Try.underlying96
@[go_sem] theorem cellsOf96 : Try.prog.cellsOf 96 = 1 := by kernel_rfl
@[go_sem] theorem isAgg96 : isAggT Try.prog 96 = some false := by kernel_rfl
@[go_sem] theorem ok96 : tyOk Try.prog 96 = true := by kernel_rfl
@[go_sem] theorem bytes96 : Try.prog.bytesOf 96 = 8 := by kernel_rfl
@[go_sem] theorem zero96 : zeroOf Try.prog 96 = some (.p (.mapv [] [])) := by kernel_rfl
@[go_sem] theorem zeroLen96 : appendA.zeroLen Try.prog 96 = 1 := by kernel_rfl
attribute [go_sem] Try.underlying98
@[go_sem] theorem cellsOf98 : Try.prog.cellsOf 98 = 1 := by kernel_rfl
@[go_sem] theorem isAgg98 : isAggT Try.prog 98 = some false := by kernel_rfl
@[go_sem] theorem ok98 : tyOk Try.prog 98 = true := by kernel_rfl
@[go_sem] theorem bytes98 : Try.prog.bytesOf 98 = 8 := by kernel_rfl
@[go_sem] theorem zero98 : zeroOf Try.prog 98 = some (.p .nilf) := by kernel_rfl
@[go_sem] theorem zeroLen98 : appendA.zeroLen Try.prog 98 = 1 := by kernel_rfl
attribute [go_sem] Try.underlying99
@[go_sem] theorem cellsOf99 : Try.prog.cellsOf 99 = 1 := by kernel_rfl
@[go_sem] theorem isAgg99 : isAggT Try.prog 99 = some false := by kernel_rfl
@[go_sem] theorem ok99 : tyOk Try.prog 99 = true := by kernel_rfl
@[go_sem] theorem bytes99 : Try.prog.bytesOf 99 = 8 := by kernel_rfl
@[go_sem] theorem zero99 : zeroOf Try.prog 99 = some (.p .nilf) := by kernel_rfl
@[go_sem] theorem zeroLen99 : appendA.zeroLen Try.prog 99 = 1 := by kernel_rfl
attribute [go_sem] Try.underlying100
@[go_sem] theorem cellsOf100 : Try.prog.cellsOf 100 = 1 := by kernel_rfl
@[go_sem] theorem isAgg100 : isAggT Try.prog 100 = some false := by kernel_rfl
@[go_sem] theorem ok100 : tyOk Try.prog 100 = true := by kernel_rfl
@[go_sem] theorem bytes100 : Try.prog.bytesOf 100 = 8 := by kernel_rfl
@[go_sem] theorem zero100 : zeroOf Try.prog 100 = some (.p .nilf) := by kernel_rfl
@[go_sem] theorem zeroLen100 : appendA.zeroLen Try.prog 100 = 1 := by kernel_rfl
attribute [go_sem] Try.underlying101
@[go_sem] theorem cellsOf101 : Try.prog.cellsOf 101 = 1 := by kernel_rfl
@[go_sem] theorem isAgg101 : isAggT Try.prog 101 = some false := by kernel_rfl
@[go_sem] theorem ok101 : tyOk Try.prog 101 = true := by kernel_rfl
@[go_sem] theorem bytes101 : Try.prog.bytesOf 101 = 8 := by kernel_rfl
@[go_sem] theorem zero101 : zeroOf Try.prog 101 = some (.p .nilf) := by kernel_rfl
@[go_sem] theorem zeroLen101 : appendA.zeroLen Try.prog 101 = 1 := by kernel_rfl
attribute [go_sem] Try.underlying102
@[go_sem] theorem cellsOf102 : Try.prog.cellsOf 102 = 1 := by kernel_rfl
@[go_sem] theorem isAgg102 : isAggT Try.prog 102 = some false := by kernel_rfl
@[go_sem] theorem ok102 : tyOk Try.prog 102 = true := by kernel_rfl
@[go_sem] theorem bytes102 : Try.prog.bytesOf 102 = 8 := by kernel_rfl
@[go_sem] theorem zero102 : zeroOf Try.prog 102 = some (.p .nilf) := by kernel_rfl
@[go_sem] theorem zeroLen102 : appendA.zeroLen Try.prog 102 = 1 := by kernel_rfl
attribute [go_sem] Try.underlying103
@[go_sem] theorem cellsOf103 : Try.prog.cellsOf 103 = 1 := by kernel_rfl
@[go_sem] theorem isAgg103 : isAggT Try.prog 103 = some false := by kernel_rfl
@[go_sem] theorem ok103 : tyOk Try.prog 103 = true := by kernel_rfl
@[go_sem] theorem bytes103 : Try.prog.bytesOf 103 = 8 := by kernel_rfl
@[go_sem] theorem zero103 : zeroOf Try.prog 103 = some (.p .nilf) := by kernel_rfl
@[go_sem] theorem zeroLen103 : appendA.zeroLen Try.prog 103 = 1 := by kernel_rfl
attribute [go_sem] Try.underlying104
@[go_sem] theorem cellsOf104 : Try.prog.cellsOf 104 = 1 := by kernel_rfl
@[go_sem] theorem isAgg104 : isAggT Try.prog 104 = some false := by kernel_rfl
@[go_sem] theorem ok104 : tyOk Try.prog 104 = true := by kernel_rfl
@[go_sem] theorem bytes104 : Try.prog.bytesOf 104 = 8 := by kernel_rfl
@[go_sem] theorem zero104 : zeroOf Try.prog 104 = some (.p .nilf) := by kernel_rfl
@[go_sem] theorem zeroLen104 : appendA.zeroLen Try.prog 104 = 1 := by kernel_rfl
attribute [go_sem] Try.underlying105
@[go_sem] theorem cellsOf105 : Try.prog.cellsOf 105 = 1 := by kernel_rfl
@[go_sem] theorem isAgg105 : isAggT Try.prog 105 = some false := by kernel_rfl
@[go_sem] theorem ok105 : tyOk Try.prog 105 = true := by kernel_rfl
@[go_sem] theorem bytes105 : Try.prog.bytesOf 105 = 8 := by kernel_rfl
@[go_sem] theorem zero105 : zeroOf Try.prog 105 = some (.p .nilf) := by kernel_rfl
@[go_sem] theorem zeroLen105 : appendA.zeroLen Try.prog 105 = 1 := by kernel_rfl
attribute [go_sem] Try.underlying106
@[go_sem] theorem cellsOf106 : Try.prog.cellsOf 106 = 1 := by kernel_rfl
@[go_sem] theorem isAgg106 : isAggT Try.prog 106 = some false := by kernel_rfl
@[go_sem] theorem ok106 : tyOk Try.prog 106 = true := by kernel_rfl
@[go_sem] theorem bytes106 : Try.prog.bytesOf 106 = 8 := by kernel_rfl
@[go_sem] theorem zero106 : zeroOf Try.prog 106 = some (.p .nilf) := by kernel_rfl
@[go_sem] theorem zeroLen106 : appendA.zeroLen Try.prog 106 = 1 := by kernel_rfl
attribute [go_sem] Try.underlying107
@[go_sem] theorem cellsOf107 : Try.prog.cellsOf 107 = 1 := by kernel_rfl
@[go_sem] theorem isAgg107 : isAggT Try.prog 107 = some false := by kernel_rfl
@[go_sem] theorem ok107 : tyOk Try.prog 107 = true := by kernel_rfl
@[go_sem] theorem bytes107 : Try.prog.bytesOf 107 = 8 := by kernel_rfl
@[go_sem] theorem zero107 : zeroOf Try.prog 107 = some (.p .nilf) := by kernel_rfl
@[go_sem] theorem zeroLen107 : appendA.zeroLen Try.prog 107 = 1 := by kernel_rfl
attribute [go_sem] Try.underlying108
@[go_sem] theorem cellsOf108 : Try.prog.cellsOf 108 = 1 := by kernel_rfl
@[go_sem] theorem isAgg108 : isAggT Try.prog 108 = some false := by kernel_rfl
@[go_sem] theorem ok108 : tyOk Try.prog 108 = true := by kernel_rfl
@[go_sem] theorem bytes108 : Try.prog.bytesOf 108 = 8 := by kernel_rfl
@[go_sem] theorem zero108 : zeroOf Try.prog 108 = some (.p .nilf) := by kernel_rfl
@[go_sem] theorem zeroLen108 : appendA.zeroLen Try.prog 108 = 1 := by kernel_rfl
attribute [go_sem] Try.underlying109
@[go_sem] theorem cellsOf109 : Try.prog.cellsOf 109 = 1 := by kernel_rfl
@[go_sem] theorem isAgg109 : isAggT Try.prog 109 = some false := by kernel_rfl
@[go_sem] theorem ok109 : tyOk Try.prog 109 = true := by kernel_rfl
@[go_sem] theorem bytes109 : Try.prog.bytesOf 109 = 8 := by kernel_rfl
@[go_sem] theorem zero109 : zeroOf Try.prog 109 = some (.p .nilf) := by kernel_rfl
@[go_sem] theorem zeroLen109 : appendA.zeroLen Try.prog 109 = 1 := by kernel_rfl
attribute [go_sem] Try.underlying110
@[go_sem] theorem cellsOf110 : Try.prog.cellsOf 110 = 1 := by kernel_rfl
@[go_sem] theorem isAgg110 : isAggT Try.prog 110 = some false := by kernel_rfl
@[go_sem] theorem ok110 : tyOk Try.prog 110 = true := by kernel_rfl
@[go_sem] theorem bytes110 : Try.prog.bytesOf 110 = 8 := by kernel_rfl
@[go_sem] theorem zero110 : zeroOf Try.prog 110 = some (.p .nilf) := by kernel_rfl
@[go_sem] theorem zeroLen110 : appendA.zeroLen Try.prog 110 = 1 := by kernel_rfl
attribute [go_sem] Try.underlying111
@[go_sem] theorem cellsOf111 : Try.prog.cellsOf 111 = 1 := by kernel_rfl
@[go_sem] theorem isAgg111 : isAggT Try.prog 111 = some false := by kernel_rfl
@[go_sem] theorem ok111 : tyOk Try.prog 111 = true := by kernel_rfl
@[go_sem] theorem bytes111 : Try.prog.bytesOf 111 = 8 := by kernel_rfl
@[go_sem] theorem zero111 : zeroOf Try.prog 111 = some (.p .nilf) := by kernel_rfl
@[go_sem] theorem zeroLen111 : appendA.zeroLen Try.prog 111 = 1 := by kernel_rfl
attribute [go_sem] Try.underlying112
@[go_sem] theorem cellsOf112 : Try.prog.cellsOf 112 = 1 := by kernel_rfl
@[go_sem] theorem isAgg112 : isAggT Try.prog 112 = some false := by kernel_rfl
@[go_sem] theorem ok112 : tyOk Try.prog 112 = true := by kernel_rfl
@[go_sem] theorem bytes112 : Try.prog.bytesOf 112 = 8 := by kernel_rfl
@[go_sem] theorem zero112 : zeroOf Try.prog 112 = some (.p .nilf) := by kernel_rfl
@[go_sem] theorem zeroLen112 : appendA.zeroLen Try.prog 112 = 1 := by kernel_rfl
attribute [go_sem] Try.underlying113
@[go_sem] theorem cellsOf113 : Try.prog.cellsOf 113 = 1 := by kernel_rfl
@[go_sem] theorem isAgg113 : isAggT Try.prog 113 = some false := by kernel_rfl
@[go_sem] theorem ok113 : tyOk Try.prog 113 = true := by kernel_rfl
@[go_sem] theorem bytes113 : Try.prog.bytesOf 113 = 8 := by kernel_rfl
@[go_sem] theorem zero113 : zeroOf Try.prog 113 = some (.p .nilf) := by kernel_rfl
@[go_sem] theorem zeroLen113 : appendA.zeroLen Try.prog 113 = 1 := by kernel_rfl
attribute [go_sem] Try.underlying114
@[go_sem] theorem cellsOf114 : Try.prog.cellsOf 114 = 1 := by kernel_rfl
@[go_sem] theorem isAgg114 : isAggT Try.prog 114 = some false := by kernel_rfl
@[go_sem] theorem ok114 : tyOk Try.prog 114 = true := by kernel_rfl
@[go_sem] theorem bytes114 : Try.prog.bytesOf 114 = 8 := by kernel_rfl
@[go_sem] theorem zero114 : zeroOf Try.prog 114 = some (.p .nilf) := by kernel_rfl
@[go_sem] theorem zeroLen114 : appendA.zeroLen Try.prog 114 = 1 := by kernel_rfl
attribute [go_sem] Try.underlying115
@[go_sem] theorem cellsOf115 : Try.prog.cellsOf 115 = 1 := by kernel_rfl
@[go_sem] theorem isAgg115 : isAggT Try.prog 115 = some false := by kernel_rfl
@[go_sem] theorem ok115 : tyOk Try.prog 115 = true := by kernel_rfl
@[go_sem] theorem bytes115 : Try.prog.bytesOf 115 = 8 := by kernel_rfl
@[go_sem] theorem zero115 : zeroOf Try.prog 115 = some (.p .nilf) := by kernel_rfl
@[go_sem] theorem zeroLen115 : appendA.zeroLen Try.prog 115 = 1 := by kernel_rfl
attribute [go_sem] Try.underlying116
@[go_sem] theorem cellsOf116 : Try.prog.cellsOf 116 = 1 := by kernel_rfl
@[go_sem] theorem isAgg116 : isAggT Try.prog 116 = some false := by kernel_rfl
@[go_sem] theorem ok116 : tyOk Try.prog 116 = true := by kernel_rfl
@[go_sem] theorem bytes116 : Try.prog.bytesOf 116 = 8 := by kernel_rfl
@[go_sem] theorem zero116 : zeroOf Try.prog 116 = some (.p .nilf) := by kernel_rfl
@[go_sem] theorem zeroLen116 : appendA.zeroLen Try.prog 116 = 1 := by kernel_rfl
attribute [go_sem] Try.underlying117
@[go_sem] theorem cellsOf117 : Try.prog.cellsOf 117 = 1 := by kernel_rfl
@[go_sem] theorem isAgg117 : isAggT Try.prog 117 = some false := by kernel_rfl
@[go_sem] theorem ok117 : tyOk Try.prog 117 = true := by kernel_rfl
@[go_sem] theorem bytes117 : Try.prog.bytesOf 117 = 8 := by kernel_rfl
@[go_sem] theorem zero117 : zeroOf Try.prog 117 = some (.p .nilf) := by kernel_rfl
@[go_sem] theorem zeroLen117 : appendA.zeroLen Try.prog 117 = 1 := by kernel_rfl
attribute [go_sem] Try.underlying118
@[go_sem] theorem cellsOf118 : Try.prog.cellsOf 118 = 1 := by kernel_rfl
@[go_sem] theorem isAgg118 : isAggT Try.prog 118 = some false := by kernel_rfl
@[go_sem] theorem ok118 : tyOk Try.prog 118 = true := by kernel_rfl
@[go_sem] theorem bytes118 : Try.prog.bytesOf 118 = 8 := by kernel_rfl
@[go_sem] theorem zero118 : zeroOf Try.prog 118 = some (.p .nilf) := by kernel_rfl
@[go_sem] theorem zeroLen118 : appendA.zeroLen Try.prog 118 = 1 := by kernel_rfl
attribute [go_sem] Try.underlying119
@[go_sem] theorem cellsOf119 : Try.prog.cellsOf 119 = 1 := by kernel_rfl
@[go_sem] theorem isAgg119 : isAggT Try.prog 119 = some false := by kernel_rfl
@[go_sem] theorem ok119 : tyOk Try.prog 119 = true := by kernel_rfl
@[go_sem] theorem bytes119 : Try.prog.bytesOf 119 = 8 := by kernel_rfl
@[go_sem] theorem zero119 : zeroOf Try.prog 119 = some (.p .nilf) := by kernel_rfl
@[go_sem] theorem zeroLen119 : appendA.zeroLen Try.prog 119 = 1 := by kernel_rfl
attribute [go_sem] Try.underlying120
@[go_sem] theorem cellsOf120 : Try.prog.cellsOf 120 = 1 := by kernel_rfl
@[go_sem] theorem isAgg120 : isAggT Try.prog 120 = some false := by kernel_rfl
@[go_sem] theorem ok120 : tyOk Try.prog 120 = true := by kernel_rfl
@[go_sem] theorem bytes120 : Try.prog.bytesOf 120 = 8 := by kernel_rfl
@[go_sem] theorem zero120 : zeroOf Try.prog 120 = some (.p .nilf) := by kernel_rfl
@[go_sem] theorem zeroLen120 : appendA.zeroLen Try.prog 120 = 1 := by kernel_rfl
attribute [go_sem] Try.underlying121
@[go_sem] theorem cellsOf121 : Try.prog.cellsOf 121 = 4 := by kernel_rfl
@[go_sem] theorem isAgg121 : isAggT Try.prog 121 = some true := by kernel_rfl
@[go_sem] theorem ok121 : tyOk Try.prog 121 = true := by kernel_rfl
@[go_sem] theorem bytes121 : Try.prog.bytesOf 121 = 40 := by kernel_rfl
@[go_sem] theorem zero121 : zeroOf Try.prog 121 = some (.p (.agg [.nilp, .nilp, .nilp, (.str [])])) := by kernel_rfl
@[go_sem] theorem zeroLen121 : appendA.zeroLen Try.prog 121 = 4 := by kernel_rfl
@[go_sem] theorem field121_0 : fieldOff Try.prog 121 0 = some 0 := by kernel_rfl
@[go_sem] theorem field121_1 : fieldOff Try.prog 121 1 = some 1 := by kernel_rfl
@[go_sem] theorem field121_2 : fieldOff Try.prog 121 2 = some 2 := by kernel_rfl
@[go_sem] theorem field121_3 : fieldOff Try.prog 121 3 = some 3 := by kernel_rfl
@[go_sem] theorem build121 (parts : List (Nat × AV)) : buildA Try.prog 121 parts = (fillG (fun j => [(0, 1), (1, 1), (2, 1), (3, 1)][j]?) [.p .nilp, .p .nilp, .p .nilp, .p (.str [])] parts).map mkAgg :=
  buildA_eq _ _ zero121 rfl (by kernel_rfl) (by kernel_rfl) (by funext j; exact placesA_eq _ _ (by kernel_rfl) j)
attribute [go_sem] Try.underlying122
@[go_sem] theorem cellsOf122 : Try.prog.cellsOf 122 = 4 := by kernel_rfl
@[go_sem] theorem isAgg122 : isAggT Try.prog 122 = some true := by kernel_rfl
@[go_sem] theorem ok122 : tyOk Try.prog 122 = true := by kernel_rfl
@[go_sem] theorem bytes122 : Try.prog.bytesOf 122 = 40 := by kernel_rfl
@[go_sem] theorem zero122 : zeroOf Try.prog 122 = some (.p (.agg [.nilp, .nilp, .nilp, (.str [])])) := by kernel_rfl
@[go_sem] theorem zeroLen122 : appendA.zeroLen Try.prog 122 = 4 := by kernel_rfl
@[go_sem] theorem field122_0 : fieldOff Try.prog 122 0 = some 0 := by kernel_rfl
@[go_sem] theorem field122_1 : fieldOff Try.prog 122 1 = some 1 := by kernel_rfl
@[go_sem] theorem field122_2 : fieldOff Try.prog 122 2 = some 2 := by kernel_rfl
@[go_sem] theorem field122_3 : fieldOff Try.prog 122 3 = some 3 := by kernel_rfl
@[go_sem] theorem build122 (parts : List (Nat × AV)) : buildA Try.prog 122 parts = (fillG (fun j => [(0, 1), (1, 1), (2, 1), (3, 1)][j]?) [.p .nilp, .p .nilp, .p .nilp, .p (.str [])] parts).map mkAgg :=
  buildA_eq _ _ zero122 rfl (by kernel_rfl) (by kernel_rfl) (by funext j; exact placesA_eq _ _ (by kernel_rfl) j)
attribute [go_sem] Try.underlying123
@[go_sem] theorem cellsOf123 : Try.prog.cellsOf 123 = 0 := by kernel_rfl
@[go_sem] theorem isAgg123 : isAggT Try.prog 123 = some true := by kernel_rfl
@[go_sem] theorem ok123 : tyOk Try.prog 123 = true := by kernel_rfl
@[go_sem] theorem bytes123 : Try.prog.bytesOf 123 = 0 := by kernel_rfl
attribute [go_sem] Try.underlying124
@[go_sem] theorem cellsOf124 : Try.prog.cellsOf 124 = 0 := by kernel_rfl
@[go_sem] theorem isAgg124 : isAggT Try.prog 124 = some true := by kernel_rfl
@[go_sem] theorem ok124 : tyOk Try.prog 124 = true := by kernel_rfl
@[go_sem] theorem bytes124 : Try.prog.bytesOf 124 = 0 := by kernel_rfl
attribute [go_sem] Try.underlying125
@[go_sem] theorem cellsOf125 : Try.prog.cellsOf 125 = 0 := by kernel_rfl
@[go_sem] theorem isAgg125 : isAggT Try.prog 125 = some true := by kernel_rfl
@[go_sem] theorem ok125 : tyOk Try.prog 125 = true := by kernel_rfl
@[go_sem] theorem bytes125 : Try.prog.bytesOf 125 = 0 := by kernel_rfl
attribute [go_sem] Try.underlying126
@[go_sem] theorem cellsOf126 : Try.prog.cellsOf 126 = 1 := by kernel_rfl
@[go_sem] theorem isAgg126 : isAggT Try.prog 126 = some false := by kernel_rfl
@[go_sem] theorem ok126 : tyOk Try.prog 126 = true := by kernel_rfl
@[go_sem] theorem bytes126 : Try.prog.bytesOf 126 = 8 := by kernel_rfl
@[go_sem] theorem zero126 : zeroOf Try.prog 126 = some (.p .nilf) := by kernel_rfl
@[go_sem] theorem zeroLen126 : appendA.zeroLen Try.prog 126 = 1 := by kernel_rfl
attribute [go_sem] Try.underlying127
@[go_sem] theorem cellsOf127 : Try.prog.cellsOf 127 = 1 := by kernel_rfl
@[go_sem] theorem isAgg127 : isAggT Try.prog 127 = some false := by kernel_rfl
@[go_sem] theorem ok127 : tyOk Try.prog 127 = true := by kernel_rfl
@[go_sem] theorem bytes127 : Try.prog.bytesOf 127 = 4 := by kernel_rfl
@[go_sem] theorem zero127 : zeroOf Try.prog 127 = some (.p (.int .u32 0)) := by kernel_rfl
@[go_sem] theorem zeroLen127 : appendA.zeroLen Try.prog 127 = 1 := by kernel_rfl
@[go_sem] theorem eqI127 (d : Nat) (k k' : IntKind) (a b : Int) : eqT Try.prog (d + 1) 127 [.int k a] [.int k' b] = if k = k' then some (a == b) else none := eqT_int _ Try.underlying127 d k k' a b
attribute [go_sem] Try.underlying128
@[go_sem] theorem cellsOf128 : Try.prog.cellsOf 128 = 1 := by kernel_rfl
@[go_sem] theorem isAgg128 : isAggT Try.prog 128 = some false := by kernel_rfl
@[go_sem] theorem ok128 : tyOk Try.prog 128 = true := by kernel_rfl
@[go_sem] theorem bytes128 : Try.prog.bytesOf 128 = 1 := by kernel_rfl
@[go_sem] theorem zero128 : zeroOf Try.prog 128 = some (.p (.int .u8 0)) := by kernel_rfl
@[go_sem] theorem zeroLen128 : appendA.zeroLen Try.prog 128 = 1 := by kernel_rfl
@[go_sem] theorem eqI128 (d : Nat) (k k' : IntKind) (a b : Int) : eqT Try.prog (d + 1) 128 [.int k a] [.int k' b] = if k = k' then some (a == b) else none := eqT_int _ Try.underlying128 d k k' a b
attribute [go_sem] Try.underlying129
@[go_sem] theorem cellsOf129 : Try.prog.cellsOf 129 = 1 := by kernel_rfl
@[go_sem] theorem isAgg129 : isAggT Try.prog 129 = some false := by kernel_rfl
@[go_sem] theorem ok129 : tyOk Try.prog 129 = true := by kernel_rfl
@[go_sem] theorem bytes129 : Try.prog.bytesOf 129 = 1 := by kernel_rfl
@[go_sem] theorem zero129 : zeroOf Try.prog 129 = some (.p (.int .u8 0)) := by kernel_rfl
@[go_sem] theorem zeroLen129 : appendA.zeroLen Try.prog 129 = 1 := by kernel_rfl
@[go_sem] theorem eqI129 (d : Nat) (k k' : IntKind) (a b : Int) : eqT Try.prog (d + 1) 129 [.int k a] [.int k' b] = if k = k' then some (a == b) else none := eqT_int _ Try.underlying129 d k k' a b
attribute [go_sem] Try.underlying130
@[go_sem] theorem cellsOf130 : Try.prog.cellsOf 130 = 1 := by kernel_rfl
@[go_sem] theorem isAgg130 : isAggT Try.prog 130 = some false := by kernel_rfl
@[go_sem] theorem ok130 : tyOk Try.prog 130 = true := by kernel_rfl
@[go_sem] theorem bytes130 : Try.prog.bytesOf 130 = 8 := by kernel_rfl
@[go_sem] theorem zero130 : zeroOf Try.prog 130 = some (.p .nilf) := by kernel_rfl
@[go_sem] theorem zeroLen130 : appendA.zeroLen Try.prog 130 = 1 := by kernel_rfl
attribute [go_sem] Try.underlying131
@[go_sem] theorem cellsOf131 : Try.prog.cellsOf 131 = 1 := by kernel_rfl
@[go_sem] theorem isAgg131 : isAggT Try.prog 131 = some false := by kernel_rfl
@[go_sem] theorem ok131 : tyOk Try.prog 131 = true := by kernel_rfl
@[go_sem] theorem bytes131 : Try.prog.bytesOf 131 = 8 := by kernel_rfl
@[go_sem] theorem zero131 : zeroOf Try.prog 131 = some (.p .nilp) := by kernel_rfl
@[go_sem] theorem zeroLen131 : appendA.zeroLen Try.prog 131 = 1 := by kernel_rfl
attribute [go_sem] Try.underlying132
@[go_sem] theorem cellsOf132 : Try.prog.cellsOf 132 = 1 := by kernel_rfl
@[go_sem] theorem isAgg132 : isAggT Try.prog 132 = some false := by kernel_rfl
@[go_sem] theorem ok132 : tyOk Try.prog 132 = true := by kernel_rfl
@[go_sem] theorem bytes132 : Try.prog.bytesOf 132 = 4 := by kernel_rfl
@[go_sem] theorem zero132 : zeroOf Try.prog 132 = some (.p (.int .i32 0)) := by kernel_rfl
@[go_sem] theorem zeroLen132 : appendA.zeroLen Try.prog 132 = 1 := by kernel_rfl
@[go_sem] theorem eqI132 (d : Nat) (k k' : IntKind) (a b : Int) : eqT Try.prog (d + 1) 132 [.int k a] [.int k' b] = if k = k' then some (a == b) else none := eqT_int _ Try.underlying132 d k k' a b
attribute [go_sem] Try.underlying133
@[go_sem] theorem cellsOf133 : Try.prog.cellsOf 133 = 1 := by kernel_rfl
@[go_sem] theorem isAgg133 : isAggT Try.prog 133 = some false := by kernel_rfl
@[go_sem] theorem ok133 : tyOk Try.prog 133 = true := by kernel_rfl
@[go_sem] theorem bytes133 : Try.prog.bytesOf 133 = 4 := by kernel_rfl
@[go_sem] theorem zero133 : zeroOf Try.prog 133 = some (.p (.int .i32 0)) := by kernel_rfl
@[go_sem] theorem zeroLen133 : appendA.zeroLen Try.prog 133 = 1 := by kernel_rfl
@[go_sem] theorem eqI133 (d : Nat) (k k' : IntKind) (a b : Int) : eqT Try.prog (d + 1) 133 [.int k a] [.int k' b] = if k = k' then some (a == b) else none := eqT_int _ Try.underlying133 d k k' a b
attribute [go_sem] Try.underlying134
@[go_sem] theorem cellsOf134 : Try.prog.cellsOf 134 = 11 := by kernel_rfl
@[go_sem] theorem isAgg134 : isAggT Try.prog 134 = some true := by kernel_rfl
@[go_sem] theorem ok134 : tyOk Try.prog 134 = true := by kernel_rfl
@[go_sem] theorem bytes134 : Try.prog.bytesOf 134 = 48 := by kernel_rfl
@[go_sem] theorem zero134 : zeroOf Try.prog 134 = some (.p (.agg [(.int .u64 0), (.int .u64 0), (.int .u32 0), (.int .u8 0), (.int .u8 0), (.int .u8 0), (.int .u8 0), .nilf, .nilp, (.int .i32 0), (.int .i32 0)])) := by kernel_rfl
@[go_sem] theorem zeroLen134 : appendA.zeroLen Try.prog 134 = 11 := by kernel_rfl
@[go_sem] theorem field134_0 : fieldOff Try.prog 134 0 = some 0 := by kernel_rfl
@[go_sem] theorem field134_1 : fieldOff Try.prog 134 1 = some 1 := by kernel_rfl
@[go_sem] theorem field134_2 : fieldOff Try.prog 134 2 = some 2 := by kernel_rfl
@[go_sem] theorem field134_3 : fieldOff Try.prog 134 3 = some 3 := by kernel_rfl
@[go_sem] theorem field134_4 : fieldOff Try.prog 134 4 = some 4 := by kernel_rfl
@[go_sem] theorem field134_5 : fieldOff Try.prog 134 5 = some 5 := by kernel_rfl
@[go_sem] theorem field134_6 : fieldOff Try.prog 134 6 = some 6 := by kernel_rfl
@[go_sem] theorem field134_7 : fieldOff Try.prog 134 7 = some 7 := by kernel_rfl
@[go_sem] theorem field134_8 : fieldOff Try.prog 134 8 = some 8 := by kernel_rfl
@[go_sem] theorem field134_9 : fieldOff Try.prog 134 9 = some 9 := by kernel_rfl
@[go_sem] theorem field134_10 : fieldOff Try.prog 134 10 = some 10 := by kernel_rfl
@[go_sem] theorem build134 (parts : List (Nat × AV)) : buildA Try.prog 134 parts = (fillG (fun j => [(0, 1), (1, 1), (2, 1), (3, 1), (4, 1), (5, 1), (6, 1), (7, 1), (8, 1), (9, 1), (10, 1)][j]?) [.p (.int .u64 0), .p (.int .u64 0), .p (.int .u32 0), .p (.int .u8 0), .p (.int .u8 0), .p (.int .u8 0), .p (.int .u8 0), .p .nilf, .p .nilp, .p (.int .i32 0), .p (.int .i32 0)] parts).map mkAgg :=
  buildA_eq _ _ zero134 rfl (by kernel_rfl) (by kernel_rfl) (by funext j; exact placesA_eq _ _ (by kernel_rfl) j)
attribute [go_sem] Try.underlying135
@[go_sem] theorem cellsOf135 : Try.prog.cellsOf 135 = 11 := by kernel_rfl
@[go_sem] theorem isAgg135 : isAggT Try.prog 135 = some true := by kernel_rfl
@[go_sem] theorem ok135 : tyOk Try.prog 135 = true := by kernel_rfl
@[go_sem] theorem bytes135 : Try.prog.bytesOf 135 = 48 := by kernel_rfl
@[go_sem] theorem zero135 : zeroOf Try.prog 135 = some (.p (.agg [(.int .u64 0), (.int .u64 0), (.int .u32 0), (.int .u8 0), (.int .u8 0), (.int .u8 0), (.int .u8 0), .nilf, .nilp, (.int .i32 0), (.int .i32 0)])) := by kernel_rfl
@[go_sem] theorem zeroLen135 : appendA.zeroLen Try.prog 135 = 11 := by kernel_rfl
@[go_sem] theorem field135_0 : fieldOff Try.prog 135 0 = some 0 := by kernel_rfl
@[go_sem] theorem field135_1 : fieldOff Try.prog 135 1 = some 1 := by kernel_rfl
@[go_sem] theorem field135_2 : fieldOff Try.prog 135 2 = some 2 := by kernel_rfl
@[go_sem] theorem field135_3 : fieldOff Try.prog 135 3 = some 3 := by kernel_rfl
@[go_sem] theorem field135_4 : fieldOff Try.prog 135 4 = some 4 := by kernel_rfl
@[go_sem] theorem field135_5 : fieldOff Try.prog 135 5 = some 5 := by kernel_rfl
@[go_sem] theorem field135_6 : fieldOff Try.prog 135 6 = some 6 := by kernel_rfl
@[go_sem] theorem field135_7 : fieldOff Try.prog 135 7 = some 7 := by kernel_rfl
@[go_sem] theorem field135_8 : fieldOff Try.prog 135 8 = some 8 := by kernel_rfl
@[go_sem] theorem field135_9 : fieldOff Try.prog 135 9 = some 9 := by kernel_rfl
@[go_sem] theorem field135_10 : fieldOff Try.prog 135 10 = some 10 := by kernel_rfl
@[go_sem] theorem build135 (parts : List (Nat × AV)) : buildA Try.prog 135 parts = (fillG (fun j => [(0, 1), (1, 1), (2, 1), (3, 1), (4, 1), (5, 1), (6, 1), (7, 1), (8, 1), (9, 1), (10, 1)][j]?) [.p (.int .u64 0), .p (.int .u64 0), .p (.int .u32 0), .p (.int .u8 0), .p (.int .u8 0), .p (.int .u8 0), .p (.int .u8 0), .p .nilf, .p .nilp, .p (.int .i32 0), .p (.int .i32 0)] parts).map mkAgg :=
  buildA_eq _ _ zero135 rfl (by kernel_rfl) (by kernel_rfl) (by funext j; exact placesA_eq _ _ (by kernel_rfl) j)
end Go.Proofs.Ytdmddoljldjjeaa.Ty
