/- What the logic asks of the types of the translation. -/
import Derived.Test.YtbiklagfjeileaaProg
import Derived.KernelRfl
import Derived.Test.YtbiklagfjeileaaA2
/- What the abstract logic asks of the types of the translation; printed by a program of our own (tyfacts.py). -/
namespace Go.Proofs.Ytbiklagfjeileaa.Ty
open Go Go.Ab
set_option linter.unusedVariables false

attribute [go_sem] Try.underlying1
@[go_sem] theorem cellsOf1 : Try.prog.cellsOf 1 = 1 := by kernel_rfl
@[go_sem] theorem isAgg1 : isAggT Try.prog 1 = some false := by kernel_rfl
@[go_sem] theorem ok1 : tyOk Try.prog 1 = true := by kernel_rfl
@[go_sem] theorem bytes1 : Try.prog.bytesOf 1 = 8 := by kernel_rfl
@[go_sem] theorem zero1 : zeroOf Try.prog 1 = some (.p .nilf) := by kernel_rfl
@[go_sem] theorem zeroLen1 : appendA.zeroLen Try.prog 1 = 1 := by kernel_rfl
attribute [go_sem] Try.underlying2
@[go_sem] theorem cellsOf2 : Try.prog.cellsOf 2 = 1 := by kernel_rfl
@[go_sem] theorem isAgg2 : isAggT Try.prog 2 = some false := by kernel_rfl
@[go_sem] theorem ok2 : tyOk Try.prog 2 = true := by kernel_rfl
@[go_sem] theorem bytes2 : Try.prog.bytesOf 2 = 8 := by kernel_rfl
@[go_sem] theorem zero2 : zeroOf Try.prog 2 = some (.p (.int .i64 0)) := by kernel_rfl
@[go_sem] theorem zeroLen2 : appendA.zeroLen Try.prog 2 = 1 := by kernel_rfl
@[go_sem] theorem eqI2 (d : Nat) (k k' : IntKind) (a b : Int) : eqT Try.prog (d + 1) 2 [.int k a] [.int k' b] = if k = k' then some (a == b) else none := eqT_int _ Try.underlying2 d k k' a b
attribute [go_sem] Try.underlying3
@[go_sem] theorem cellsOf3 : Try.prog.cellsOf 3 = 1 := by kernel_rfl
@[go_sem] theorem isAgg3 : isAggT Try.prog 3 = some false := by kernel_rfl
@[go_sem] theorem ok3 : tyOk Try.prog 3 = true := by kernel_rfl
@[go_sem] theorem bytes3 : Try.prog.bytesOf 3 = 8 := by kernel_rfl
@[go_sem] theorem zero3 : zeroOf Try.prog 3 = some (.p (.int .i64 0)) := by kernel_rfl
@[go_sem] theorem zeroLen3 : appendA.zeroLen Try.prog 3 = 1 := by kernel_rfl
@[go_sem] theorem eqI3 (d : Nat) (k k' : IntKind) (a b : Int) : eqT Try.prog (d + 1) 3 [.int k a] [.int k' b] = if k = k' then some (a == b) else none := eqT_int _ Try.underlying3 d k k' a b
attribute [go_sem] Try.underlying4
@[go_sem] theorem cellsOf4 : Try.prog.cellsOf 4 = 1 := by kernel_rfl
@[go_sem] theorem isAgg4 : isAggT Try.prog 4 = some false := by kernel_rfl
@[go_sem] theorem ok4 : tyOk Try.prog 4 = true := by kernel_rfl
@[go_sem] theorem bytes4 : Try.prog.bytesOf 4 = 1 := by kernel_rfl
@[go_sem] theorem zero4 : zeroOf Try.prog 4 = some (.p (.bool false)) := by kernel_rfl
@[go_sem] theorem zeroLen4 : appendA.zeroLen Try.prog 4 = 1 := by kernel_rfl
@[go_sem] theorem eqI4 (d : Nat) (a b : Bool) : eqT Try.prog (d + 1) 4 [.bool a] [.bool b] = some (a == b) := eqT_bool _ Try.underlying4 d a b
attribute [go_sem] Try.underlying5
@[go_sem] theorem cellsOf5 : Try.prog.cellsOf 5 = 1 := by kernel_rfl
@[go_sem] theorem isAgg5 : isAggT Try.prog 5 = some false := by kernel_rfl
@[go_sem] theorem ok5 : tyOk Try.prog 5 = true := by kernel_rfl
@[go_sem] theorem bytes5 : Try.prog.bytesOf 5 = 1 := by kernel_rfl
@[go_sem] theorem zero5 : zeroOf Try.prog 5 = some (.p (.int .u8 0)) := by kernel_rfl
@[go_sem] theorem zeroLen5 : appendA.zeroLen Try.prog 5 = 1 := by kernel_rfl
@[go_sem] theorem eqI5 (d : Nat) (k k' : IntKind) (a b : Int) : eqT Try.prog (d + 1) 5 [.int k a] [.int k' b] = if k = k' then some (a == b) else none := eqT_int _ Try.underlying5 d k k' a b
attribute [go_sem] Try.underlying6
@[go_sem] theorem cellsOf6 : Try.prog.cellsOf 6 = 1 := by kernel_rfl
@[go_sem] theorem isAgg6 : isAggT Try.prog 6 = some false := by kernel_rfl
@[go_sem] theorem ok6 : tyOk Try.prog 6 = true := by kernel_rfl
@[go_sem] theorem bytes6 : Try.prog.bytesOf 6 = 1 := by kernel_rfl
@[go_sem] theorem zero6 : zeroOf Try.prog 6 = some (.p (.int .u8 0)) := by kernel_rfl
@[go_sem] theorem zeroLen6 : appendA.zeroLen Try.prog 6 = 1 := by kernel_rfl
@[go_sem] theorem eqI6 (d : Nat) (k k' : IntKind) (a b : Int) : eqT Try.prog (d + 1) 6 [.int k a] [.int k' b] = if k = k' then some (a == b) else none := eqT_int _ Try.underlying6 d k k' a b
attribute [go_sem] Try.underlying7
@[go_sem] theorem cellsOf7 : Try.prog.cellsOf 7 = 4 := by kernel_rfl
@[go_sem] theorem isAgg7 : isAggT Try.prog 7 = some true := by kernel_rfl
@[go_sem] theorem ok7 : tyOk Try.prog 7 = true := by kernel_rfl
@[go_sem] theorem bytes7 : Try.prog.bytesOf 7 = 24 := by kernel_rfl
@[go_sem] theorem zero7 : zeroOf Try.prog 7 = some (.p (.agg [(.int .i64 0), (.int .i64 0), (.bool false), (.int .u8 0)])) := by kernel_rfl
@[go_sem] theorem zeroLen7 : appendA.zeroLen Try.prog 7 = 4 := by kernel_rfl
@[go_sem] theorem field7_0 : fieldOff Try.prog 7 0 = some 0 := by kernel_rfl
@[go_sem] theorem field7_1 : fieldOff Try.prog 7 1 = some 1 := by kernel_rfl
@[go_sem] theorem field7_2 : fieldOff Try.prog 7 2 = some 2 := by kernel_rfl
@[go_sem] theorem field7_3 : fieldOff Try.prog 7 3 = some 3 := by kernel_rfl
@[go_sem] theorem build7 (parts : List (Nat × AV)) : buildA Try.prog 7 parts = (fillG (fun j => [(0, 1), (1, 1), (2, 1), (3, 1)][j]?) [.p (.int .i64 0), .p (.int .i64 0), .p (.bool false), .p (.int .u8 0)] parts).map mkAgg :=
  buildA_eq _ _ zero7 rfl (by kernel_rfl) (by kernel_rfl) (by funext j; exact placesA_eq _ _ (by kernel_rfl) j)
@[go_sem] theorem eqS7 (d : Nat) (xs ys : List PV) : eqT Try.prog (d + 1) 7 xs ys = eqL (eqT Try.prog d) [(2, 0, 1), (3, 1, 1), (4, 2, 1), (6, 3, 1)] xs ys := eqT_struct _ (by kernel_rfl) (by kernel_rfl) (by kernel_rfl) (by kernel_rfl) d xs ys
@[go_sem] theorem eqg7 : Try.prog.eqGuardType Try.prog.depth 7 = false := by kernel_rfl
attribute [go_sem] Try.underlying8
@[go_sem] theorem cellsOf8 : Try.prog.cellsOf 8 = 4 := by kernel_rfl
@[go_sem] theorem isAgg8 : isAggT Try.prog 8 = some true := by kernel_rfl
@[go_sem] theorem ok8 : tyOk Try.prog 8 = true := by kernel_rfl
@[go_sem] theorem bytes8 : Try.prog.bytesOf 8 = 24 := by kernel_rfl
@[go_sem] theorem zero8 : zeroOf Try.prog 8 = some (.p (.agg [(.int .i64 0), (.int .i64 0), (.bool false), (.int .u8 0)])) := by kernel_rfl
@[go_sem] theorem zeroLen8 : appendA.zeroLen Try.prog 8 = 4 := by kernel_rfl
@[go_sem] theorem field8_0 : fieldOff Try.prog 8 0 = some 0 := by kernel_rfl
@[go_sem] theorem field8_1 : fieldOff Try.prog 8 1 = some 1 := by kernel_rfl
@[go_sem] theorem field8_2 : fieldOff Try.prog 8 2 = some 2 := by kernel_rfl
@[go_sem] theorem field8_3 : fieldOff Try.prog 8 3 = some 3 := by kernel_rfl
@[go_sem] theorem build8 (parts : List (Nat × AV)) : buildA Try.prog 8 parts = (fillG (fun j => [(0, 1), (1, 1), (2, 1), (3, 1)][j]?) [.p (.int .i64 0), .p (.int .i64 0), .p (.bool false), .p (.int .u8 0)] parts).map mkAgg :=
  buildA_eq _ _ zero8 rfl (by kernel_rfl) (by kernel_rfl) (by funext j; exact placesA_eq _ _ (by kernel_rfl) j)
@[go_sem] theorem eqS8 (d : Nat) (xs ys : List PV) : eqT Try.prog (d + 1) 8 xs ys = eqL (eqT Try.prog d) [(2, 0, 1), (3, 1, 1), (4, 2, 1), (6, 3, 1)] xs ys := eqT_struct _ (by kernel_rfl) (by kernel_rfl) (by kernel_rfl) (by kernel_rfl) d xs ys
@[go_sem] theorem eqg8 : Try.prog.eqGuardType Try.prog.depth 8 = false := by kernel_rfl
attribute [go_sem] Try.underlying9
@[go_sem] theorem cellsOf9 : Try.prog.cellsOf 9 = 1 := by kernel_rfl
@[go_sem] theorem isAgg9 : isAggT Try.prog 9 = some false := by kernel_rfl
@[go_sem] theorem ok9 : tyOk Try.prog 9 = true := by kernel_rfl
@[go_sem] theorem bytes9 : Try.prog.bytesOf 9 = 16 := by kernel_rfl
@[go_sem] theorem zero9 : zeroOf Try.prog 9 = some (.p (.str [])) := by kernel_rfl
@[go_sem] theorem zeroLen9 : appendA.zeroLen Try.prog 9 = 1 := by kernel_rfl
@[go_sem] theorem eqI9 (d : Nat) (a b : List UInt8) : eqT Try.prog (d + 1) 9 [.str a] [.str b] = some (a == b) := eqT_str _ Try.underlying9 d a b
attribute [go_sem] Try.underlying10
@[go_sem] theorem cellsOf10 : Try.prog.cellsOf 10 = 1 := by kernel_rfl
@[go_sem] theorem isAgg10 : isAggT Try.prog 10 = some false := by kernel_rfl
@[go_sem] theorem ok10 : tyOk Try.prog 10 = true := by kernel_rfl
@[go_sem] theorem bytes10 : Try.prog.bytesOf 10 = 16 := by kernel_rfl
@[go_sem] theorem zero10 : zeroOf Try.prog 10 = some (.p (.str [])) := by kernel_rfl
@[go_sem] theorem zeroLen10 : appendA.zeroLen Try.prog 10 = 1 := by kernel_rfl
@[go_sem] theorem eqI10 (d : Nat) (a b : List UInt8) : eqT Try.prog (d + 1) 10 [.str a] [.str b] = some (a == b) := eqT_str _ Try.underlying10 d a b
attribute [go_sem] Try.underlying11
@[go_sem] theorem cellsOf11 : Try.prog.cellsOf 11 = 1 := by kernel_rfl
@[go_sem] theorem isAgg11 : isAggT Try.prog 11 = some false := by kernel_rfl
@[go_sem] theorem ok11 : tyOk Try.prog 11 = true := by kernel_rfl
@[go_sem] theorem bytes11 : Try.prog.bytesOf 11 = 16 := by kernel_rfl
@[go_sem] theorem zero11 : zeroOf Try.prog 11 = some (.p (.str [])) := by kernel_rfl
@[go_sem] theorem zeroLen11 : appendA.zeroLen Try.prog 11 = 1 := by kernel_rfl
@[go_sem] theorem eqI11 (d : Nat) (a b : List UInt8) : eqT Try.prog (d + 1) 11 [.str a] [.str b] = some (a == b) := eqT_str _ Try.underlying11 d a b
attribute [go_sem] Try.underlying12
@[go_sem] theorem cellsOf12 : Try.prog.cellsOf 12 = 1 := by kernel_rfl
@[go_sem] theorem isAgg12 : isAggT Try.prog 12 = some false := by kernel_rfl
@[go_sem] theorem ok12 : tyOk Try.prog 12 = true := by kernel_rfl
@[go_sem] theorem bytes12 : Try.prog.bytesOf 12 = 8 := by kernel_rfl
@[go_sem] theorem zero12 : zeroOf Try.prog 12 = some (.p (.int .u64 0)) := by kernel_rfl
@[go_sem] theorem zeroLen12 : appendA.zeroLen Try.prog 12 = 1 := by kernel_rfl
@[go_sem] theorem eqI12 (d : Nat) (k k' : IntKind) (a b : Int) : eqT Try.prog (d + 1) 12 [.int k a] [.int k' b] = if k = k' then some (a == b) else none := eqT_int _ Try.underlying12 d k k' a b
attribute [go_sem] Try.underlying13
@[go_sem] theorem cellsOf13 : Try.prog.cellsOf 13 = 2 := by kernel_rfl
@[go_sem] theorem isAgg13 : isAggT Try.prog 13 = some true := by kernel_rfl
@[go_sem] theorem ok13 : tyOk Try.prog 13 = true := by kernel_rfl
@[go_sem] theorem bytes13 : Try.prog.bytesOf 13 = 24 := by kernel_rfl
@[go_sem] theorem zero13 : zeroOf Try.prog 13 = some (.p (.agg [(.str []), (.int .u64 0)])) := by kernel_rfl
@[go_sem] theorem zeroLen13 : appendA.zeroLen Try.prog 13 = 2 := by kernel_rfl
@[go_sem] theorem field13_0 : fieldOff Try.prog 13 0 = some 0 := by kernel_rfl
@[go_sem] theorem field13_1 : fieldOff Try.prog 13 1 = some 1 := by kernel_rfl
@[go_sem] theorem build13 (parts : List (Nat × AV)) : buildA Try.prog 13 parts = (fillG (fun j => [(0, 1), (1, 1)][j]?) [.p (.str []), .p (.int .u64 0)] parts).map mkAgg :=
  buildA_eq _ _ zero13 rfl (by kernel_rfl) (by kernel_rfl) (by funext j; exact placesA_eq _ _ (by kernel_rfl) j)
attribute [go_sem] Try.underlying14
@[go_sem] theorem cellsOf14 : Try.prog.cellsOf 14 = 2 := by kernel_rfl
@[go_sem] theorem isAgg14 : isAggT Try.prog 14 = some true := by kernel_rfl
@[go_sem] theorem ok14 : tyOk Try.prog 14 = true := by kernel_rfl
@[go_sem] theorem bytes14 : Try.prog.bytesOf 14 = 24 := by kernel_rfl
@[go_sem] theorem zero14 : zeroOf Try.prog 14 = some (.p (.agg [(.str []), (.int .u64 0)])) := by kernel_rfl
@[go_sem] theorem zeroLen14 : appendA.zeroLen Try.prog 14 = 2 := by kernel_rfl
@[go_sem] theorem field14_0 : fieldOff Try.prog 14 0 = some 0 := by kernel_rfl
@[go_sem] theorem field14_1 : fieldOff Try.prog 14 1 = some 1 := by kernel_rfl
@[go_sem] theorem build14 (parts : List (Nat × AV)) : buildA Try.prog 14 parts = (fillG (fun j => [(0, 1), (1, 1)][j]?) [.p (.str []), .p (.int .u64 0)] parts).map mkAgg :=
  buildA_eq _ _ zero14 rfl (by kernel_rfl) (by kernel_rfl) (by funext j; exact placesA_eq _ _ (by kernel_rfl) j)
attribute [go_sem] Try.underlying15
@[go_sem] theorem cellsOf15 : Try.prog.cellsOf 15 = 1 := by kernel_rfl
@[go_sem] theorem isAgg15 : isAggT Try.prog 15 = some false := by kernel_rfl
@[go_sem] theorem ok15 : tyOk Try.prog 15 = true := by kernel_rfl
@[go_sem] theorem bytes15 : Try.prog.bytesOf 15 = 8 := by kernel_rfl
@[go_sem] theorem zero15 : zeroOf Try.prog 15 = some (.p .nilp) := by kernel_rfl
@[go_sem] theorem zeroLen15 : appendA.zeroLen Try.prog 15 = 1 := by kernel_rfl
attribute [go_sem] Try.underlying16
@[go_sem] theorem cellsOf16 : Try.prog.cellsOf 16 = 1 := by kernel_rfl
@[go_sem] theorem isAgg16 : isAggT Try.prog 16 = some false := by kernel_rfl
@[go_sem] theorem ok16 : tyOk Try.prog 16 = true := by kernel_rfl
@[go_sem] theorem bytes16 : Try.prog.bytesOf 16 = 8 := by kernel_rfl
@[go_sem] theorem zero16 : zeroOf Try.prog 16 = some (.p .nilp) := by kernel_rfl
@[go_sem] theorem zeroLen16 : appendA.zeroLen Try.prog 16 = 1 := by kernel_rfl
attribute [go_sem] Try.underlying17
@[go_sem] theorem cellsOf17 : Try.prog.cellsOf 17 = 1 := by kernel_rfl
@[go_sem] theorem isAgg17 : isAggT Try.prog 17 = some false := by kernel_rfl
@[go_sem] theorem ok17 : tyOk Try.prog 17 = true := by kernel_rfl
@[go_sem] theorem bytes17 : Try.prog.bytesOf 17 = 8 := by kernel_rfl
@[go_sem] theorem zero17 : zeroOf Try.prog 17 = some (.p .nilp) := by kernel_rfl
@[go_sem] theorem zeroLen17 : appendA.zeroLen Try.prog 17 = 1 := by kernel_rfl
attribute [go_sem] Try.underlying18
@[go_sem] theorem cellsOf18 : Try.prog.cellsOf 18 = 1 := by kernel_rfl
@[go_sem] theorem isAgg18 : isAggT Try.prog 18 = some true := by kernel_rfl
@[go_sem] theorem ok18 : tyOk Try.prog 18 = true := by kernel_rfl
@[go_sem] theorem bytes18 : Try.prog.bytesOf 18 = 8 := by kernel_rfl
@[go_sem] theorem zero18 : zeroOf Try.prog 18 = some (.p (.agg [.nilp])) := by kernel_rfl
@[go_sem] theorem zeroLen18 : appendA.zeroLen Try.prog 18 = 1 := by kernel_rfl
@[go_sem] theorem field18_0 : fieldOff Try.prog 18 0 = some 0 := by kernel_rfl
@[go_sem] theorem build18 (parts : List (Nat × AV)) : buildA Try.prog 18 parts = (fillG (fun j => [(0, 1)][j]?) [.p .nilp] parts).map mkAgg :=
  buildA_eq _ _ zero18 rfl (by kernel_rfl) (by kernel_rfl) (by funext j; exact placesA_eq _ _ (by kernel_rfl) j)
attribute [go_sem] Try.underlying19
@[go_sem] theorem cellsOf19 : Try.prog.cellsOf 19 = 1 := by kernel_rfl
@[go_sem] theorem isAgg19 : isAggT Try.prog 19 = some true := by kernel_rfl
@[go_sem] theorem ok19 : tyOk Try.prog 19 = true := by kernel_rfl
@[go_sem] theorem bytes19 : Try.prog.bytesOf 19 = 8 := by kernel_rfl
@[go_sem] theorem zero19 : zeroOf Try.prog 19 = some (.p (.agg [.nilp])) := by kernel_rfl
@[go_sem] theorem zeroLen19 : appendA.zeroLen Try.prog 19 = 1 := by kernel_rfl
@[go_sem] theorem field19_0 : fieldOff Try.prog 19 0 = some 0 := by kernel_rfl
@[go_sem] theorem build19 (parts : List (Nat × AV)) : buildA Try.prog 19 parts = (fillG (fun j => [(0, 1)][j]?) [.p .nilp] parts).map mkAgg :=
  buildA_eq _ _ zero19 rfl (by kernel_rfl) (by kernel_rfl) (by funext j; exact placesA_eq _ _ (by kernel_rfl) j)
attribute [go_sem] Try.underlying20
@[go_sem] theorem cellsOf20 : Try.prog.cellsOf 20 = 1 := by kernel_rfl
@[go_sem] theorem isAgg20 : isAggT Try.prog 20 = some false := by kernel_rfl
@[go_sem] theorem ok20 : tyOk Try.prog 20 = true := by kernel_rfl
@[go_sem] theorem bytes20 : Try.prog.bytesOf 20 = 16 := by kernel_rfl
@[go_sem] theorem zero20 : zeroOf Try.prog 20 = some (.p .nili) := by kernel_rfl
@[go_sem] theorem zeroLen20 : appendA.zeroLen Try.prog 20 = 1 := by kernel_rfl
attribute [go_sem] Try.underlying21
@[go_sem] theorem cellsOf21 : Try.prog.cellsOf 21 = 1 := by kernel_rfl
@[go_sem] theorem isAgg21 : isAggT Try.prog 21 = some false := by kernel_rfl
@[go_sem] theorem ok21 : tyOk Try.prog 21 = true := by kernel_rfl
@[go_sem] theorem bytes21 : Try.prog.bytesOf 21 = 4 := by kernel_rfl
@[go_sem] theorem zero21 : zeroOf Try.prog 21 = some (.p (.int .i32 0)) := by kernel_rfl
@[go_sem] theorem zeroLen21 : appendA.zeroLen Try.prog 21 = 1 := by kernel_rfl
@[go_sem] theorem eqI21 (d : Nat) (k k' : IntKind) (a b : Int) : eqT Try.prog (d + 1) 21 [.int k a] [.int k' b] = if k = k' then some (a == b) else none := eqT_int _ Try.underlying21 d k k' a b
attribute [go_sem] Try.underlying22
@[go_sem] theorem cellsOf22 : Try.prog.cellsOf 22 = 1 := by kernel_rfl
@[go_sem] theorem isAgg22 : isAggT Try.prog 22 = some false := by kernel_rfl
@[go_sem] theorem ok22 : tyOk Try.prog 22 = true := by kernel_rfl
@[go_sem] theorem bytes22 : Try.prog.bytesOf 22 = 24 := by kernel_rfl
@[go_sem] theorem zero22 : zeroOf Try.prog 22 = some (.nils) := by kernel_rfl
@[go_sem] theorem zeroLen22 : appendA.zeroLen Try.prog 22 = 1 := by kernel_rfl
attribute [go_sem] Try.underlying23
@[go_sem] theorem cellsOf23 : Try.prog.cellsOf 23 = 1 := by kernel_rfl
@[go_sem] theorem isAgg23 : isAggT Try.prog 23 = some false := by kernel_rfl
@[go_sem] theorem ok23 : tyOk Try.prog 23 = true := by kernel_rfl
@[go_sem] theorem bytes23 : Try.prog.bytesOf 23 = 24 := by kernel_rfl
@[go_sem] theorem zero23 : zeroOf Try.prog 23 = some (.nils) := by kernel_rfl
@[go_sem] theorem zeroLen23 : appendA.zeroLen Try.prog 23 = 1 := by kernel_rfl
attribute [go_sem] Try.underlying24
@[go_sem] theorem cellsOf24 : Try.prog.cellsOf 24 = 3 := by kernel_rfl
@[go_sem] theorem isAgg24 : isAggT Try.prog 24 = some true := by kernel_rfl
@[go_sem] theorem ok24 : tyOk Try.prog 24 = true := by kernel_rfl
@[go_sem] theorem bytes24 : Try.prog.bytesOf 24 = 64 := by kernel_rfl
@[go_sem] theorem zero24 : zeroOf Try.prog 24 = some (.agg [.p (.str []), .nils, .nils]) := by kernel_rfl
@[go_sem] theorem zeroLen24 : appendA.zeroLen Try.prog 24 = 3 := by kernel_rfl
@[go_sem] theorem field24_0 : fieldOff Try.prog 24 0 = some 0 := by kernel_rfl
@[go_sem] theorem field24_1 : fieldOff Try.prog 24 1 = some 1 := by kernel_rfl
@[go_sem] theorem field24_2 : fieldOff Try.prog 24 2 = some 2 := by kernel_rfl
@[go_sem] theorem build24 (parts : List (Nat × AV)) : buildA Try.prog 24 parts = (fillG (fun j => [(0, 1), (1, 1), (2, 1)][j]?) [.p (.str []), .nils, .nils] parts).map mkAgg :=
  buildA_eq _ _ zero24 rfl (by kernel_rfl) (by kernel_rfl) (by funext j; exact placesA_eq _ _ (by kernel_rfl) j)
attribute [go_sem] Try.underlying25
@[go_sem] theorem cellsOf25 : Try.prog.cellsOf 25 = 3 := by kernel_rfl
@[go_sem] theorem isAgg25 : isAggT Try.prog 25 = some true := by kernel_rfl
@[go_sem] theorem ok25 : tyOk Try.prog 25 = true := by kernel_rfl
@[go_sem] theorem bytes25 : Try.prog.bytesOf 25 = 64 := by kernel_rfl
@[go_sem] theorem zero25 : zeroOf Try.prog 25 = some (.agg [.p (.str []), .nils, .nils]) := by kernel_rfl
@[go_sem] theorem zeroLen25 : appendA.zeroLen Try.prog 25 = 3 := by kernel_rfl
@[go_sem] theorem field25_0 : fieldOff Try.prog 25 0 = some 0 := by kernel_rfl
@[go_sem] theorem field25_1 : fieldOff Try.prog 25 1 = some 1 := by kernel_rfl
@[go_sem] theorem field25_2 : fieldOff Try.prog 25 2 = some 2 := by kernel_rfl
@[go_sem] theorem build25 (parts : List (Nat × AV)) : buildA Try.prog 25 parts = (fillG (fun j => [(0, 1), (1, 1), (2, 1)][j]?) [.p (.str []), .nils, .nils] parts).map mkAgg :=
  buildA_eq _ _ zero25 rfl (by kernel_rfl) (by kernel_rfl) (by funext j; exact placesA_eq _ _ (by kernel_rfl) j)
attribute [go_sem] Try.underlying27
@[go_sem] theorem cellsOf27 : Try.prog.cellsOf 27 = 1 := by kernel_rfl
@[go_sem] theorem isAgg27 : isAggT Try.prog 27 = some false := by kernel_rfl
@[go_sem] theorem ok27 : tyOk Try.prog 27 = true := by kernel_rfl
@[go_sem] theorem bytes27 : Try.prog.bytesOf 27 = 8 := by kernel_rfl
@[go_sem] theorem zero27 : zeroOf Try.prog 27 = some (.p .nilf) := by kernel_rfl
@[go_sem] theorem zeroLen27 : appendA.zeroLen Try.prog 27 = 1 := by kernel_rfl
attribute [go_sem] Try.underlying28
@[go_sem] theorem cellsOf28 : Try.prog.cellsOf 28 = 1 := by kernel_rfl
@[go_sem] theorem isAgg28 : isAggT Try.prog 28 = some false := by kernel_rfl
@[go_sem] theorem ok28 : tyOk Try.prog 28 = true := by kernel_rfl
@[go_sem] theorem bytes28 : Try.prog.bytesOf 28 = 8 := by kernel_rfl
@[go_sem] theorem zero28 : zeroOf Try.prog 28 = some (.p .nilf) := by kernel_rfl
@[go_sem] theorem zeroLen28 : appendA.zeroLen Try.prog 28 = 1 := by kernel_rfl
attribute [go_sem] Try.underlying29
@[go_sem] theorem cellsOf29 : Try.prog.cellsOf 29 = 1 := by kernel_rfl
@[go_sem] theorem isAgg29 : isAggT Try.prog 29 = some false := by kernel_rfl
@[go_sem] theorem ok29 : tyOk Try.prog 29 = true := by kernel_rfl
@[go_sem] theorem bytes29 : Try.prog.bytesOf 29 = 24 := by kernel_rfl
@[go_sem] theorem zero29 : zeroOf Try.prog 29 = some (.nils) := by kernel_rfl
@[go_sem] theorem zeroLen29 : appendA.zeroLen Try.prog 29 = 1 := by kernel_rfl
attribute [go_sem] Try.underlying30
@[go_sem] theorem cellsOf30 : Try.prog.cellsOf 30 = 1 := by kernel_rfl
@[go_sem] theorem isAgg30 : isAggT Try.prog 30 = some false := by kernel_rfl
@[go_sem] theorem ok30 : tyOk Try.prog 30 = true := by kernel_rfl
@[go_sem] theorem bytes30 : Try.prog.bytesOf 30 = 8 := by kernel_rfl
@[go_sem] theorem zero30 : zeroOf Try.prog 30 = some (.p (.int .i64 0)) := by kernel_rfl
@[go_sem] theorem zeroLen30 : appendA.zeroLen Try.prog 30 = 1 := by kernel_rfl
@[go_sem] theorem eqI30 (d : Nat) (k k' : IntKind) (a b : Int) : eqT Try.prog (d + 1) 30 [.int k a] [.int k' b] = if k = k' then some (a == b) else none := eqT_int _ Try.underlying30 d k k' a b
attribute [go_sem] Try.underlying32
@[go_sem] theorem cellsOf32 : Try.prog.cellsOf 32 = 1 := by kernel_rfl
@[go_sem] theorem isAgg32 : isAggT Try.prog 32 = some false := by kernel_rfl
@[go_sem] theorem ok32 : tyOk Try.prog 32 = true := by kernel_rfl
@[go_sem] theorem bytes32 : Try.prog.bytesOf 32 = 8 := by kernel_rfl
@[go_sem] theorem zero32 : zeroOf Try.prog 32 = some (.p .nilf) := by kernel_rfl
@[go_sem] theorem zeroLen32 : appendA.zeroLen Try.prog 32 = 1 := by kernel_rfl
attribute [go_sem] Try.underlying33
@[go_sem] theorem cellsOf33 : Try.prog.cellsOf 33 = 1 := by kernel_rfl
@[go_sem] theorem isAgg33 : isAggT Try.prog 33 = some false := by kernel_rfl
@[go_sem] theorem ok33 : tyOk Try.prog 33 = true := by kernel_rfl
@[go_sem] theorem bytes33 : Try.prog.bytesOf 33 = 24 := by kernel_rfl
@[go_sem] theorem zero33 : zeroOf Try.prog 33 = some (.nils) := by kernel_rfl
@[go_sem] theorem zeroLen33 : appendA.zeroLen Try.prog 33 = 1 := by kernel_rfl
attribute [go_sem] Try.underlying34
@[go_sem] theorem cellsOf34 : Try.prog.cellsOf 34 = 2 := by kernel_rfl
@[go_sem] theorem isAgg34 : isAggT Try.prog 34 = some true := by kernel_rfl
@[go_sem] theorem ok34 : tyOk Try.prog 34 = true := by kernel_rfl
@[go_sem] theorem bytes34 : Try.prog.bytesOf 34 = 32 := by kernel_rfl
@[go_sem] theorem zero34 : zeroOf Try.prog 34 = some (.agg [.p (.int .i64 0), .nils]) := by kernel_rfl
@[go_sem] theorem zeroLen34 : appendA.zeroLen Try.prog 34 = 2 := by kernel_rfl
@[go_sem] theorem field34_0 : fieldOff Try.prog 34 0 = some 0 := by kernel_rfl
@[go_sem] theorem field34_1 : fieldOff Try.prog 34 1 = some 1 := by kernel_rfl
@[go_sem] theorem build34 (parts : List (Nat × AV)) : buildA Try.prog 34 parts = (fillG (fun j => [(0, 1), (1, 1)][j]?) [.p (.int .i64 0), .nils] parts).map mkAgg :=
  buildA_eq _ _ zero34 rfl (by kernel_rfl) (by kernel_rfl) (by funext j; exact placesA_eq _ _ (by kernel_rfl) j)
attribute [go_sem] Try.underlying35
@[go_sem] theorem cellsOf35 : Try.prog.cellsOf 35 = 2 := by kernel_rfl
@[go_sem] theorem isAgg35 : isAggT Try.prog 35 = some true := by kernel_rfl
@[go_sem] theorem ok35 : tyOk Try.prog 35 = true := by kernel_rfl
@[go_sem] theorem bytes35 : Try.prog.bytesOf 35 = 32 := by kernel_rfl
@[go_sem] theorem zero35 : zeroOf Try.prog 35 = some (.agg [.p (.int .i64 0), .nils]) := by kernel_rfl
@[go_sem] theorem zeroLen35 : appendA.zeroLen Try.prog 35 = 2 := by kernel_rfl
@[go_sem] theorem field35_0 : fieldOff Try.prog 35 0 = some 0 := by kernel_rfl
@[go_sem] theorem field35_1 : fieldOff Try.prog 35 1 = some 1 := by kernel_rfl
@[go_sem] theorem build35 (parts : List (Nat × AV)) : buildA Try.prog 35 parts = (fillG (fun j => [(0, 1), (1, 1)][j]?) [.p (.int .i64 0), .nils] parts).map mkAgg :=
  buildA_eq _ _ zero35 rfl (by kernel_rfl) (by kernel_rfl) (by funext j; exact placesA_eq _ _ (by kernel_rfl) j)
attribute [go_sem] Try.underlying36
@[go_sem] theorem cellsOf36 : Try.prog.cellsOf 36 = 3 := by kernel_rfl
@[go_sem] theorem isAgg36 : isAggT Try.prog 36 = some true := by kernel_rfl
@[go_sem] theorem ok36 : tyOk Try.prog 36 = true := by kernel_rfl
@[go_sem] theorem bytes36 : Try.prog.bytesOf 36 = 32 := by kernel_rfl
@[go_sem] theorem zero36 : zeroOf Try.prog 36 = some (.p (.agg [(.int .i64 0), (.int .i64 0), (.str [])])) := by kernel_rfl
@[go_sem] theorem zeroLen36 : appendA.zeroLen Try.prog 36 = 3 := by kernel_rfl
@[go_sem] theorem field36_0 : fieldOff Try.prog 36 0 = some 0 := by kernel_rfl
@[go_sem] theorem field36_1 : fieldOff Try.prog 36 1 = some 1 := by kernel_rfl
@[go_sem] theorem field36_2 : fieldOff Try.prog 36 2 = some 2 := by kernel_rfl
@[go_sem] theorem build36 (parts : List (Nat × AV)) : buildA Try.prog 36 parts = (fillG (fun j => [(0, 1), (1, 1), (2, 1)][j]?) [.p (.int .i64 0), .p (.int .i64 0), .p (.str [])] parts).map mkAgg :=
  buildA_eq _ _ zero36 rfl (by kernel_rfl) (by kernel_rfl) (by funext j; exact placesA_eq _ _ (by kernel_rfl) j)
@[go_sem] theorem eqS36 (d : Nat) (xs ys : List PV) : eqT Try.prog (d + 1) 36 xs ys = eqL (eqT Try.prog d) [(3, 0, 1), (2, 1, 1), (9, 2, 1)] xs ys := eqT_struct _ (by kernel_rfl) (by kernel_rfl) (by kernel_rfl) (by kernel_rfl) d xs ys
@[go_sem] theorem eqg36 : Try.prog.eqGuardType Try.prog.depth 36 = false := by kernel_rfl
attribute [go_sem] Try.underlying37
@[go_sem] theorem cellsOf37 : Try.prog.cellsOf 37 = 3 := by kernel_rfl
@[go_sem] theorem isAgg37 : isAggT Try.prog 37 = some true := by kernel_rfl
@[go_sem] theorem ok37 : tyOk Try.prog 37 = true := by kernel_rfl
@[go_sem] theorem bytes37 : Try.prog.bytesOf 37 = 32 := by kernel_rfl
@[go_sem] theorem zero37 : zeroOf Try.prog 37 = some (.p (.agg [(.int .i64 0), (.int .i64 0), (.str [])])) := by kernel_rfl
@[go_sem] theorem zeroLen37 : appendA.zeroLen Try.prog 37 = 3 := by kernel_rfl
@[go_sem] theorem field37_0 : fieldOff Try.prog 37 0 = some 0 := by kernel_rfl
@[go_sem] theorem field37_1 : fieldOff Try.prog 37 1 = some 1 := by kernel_rfl
@[go_sem] theorem field37_2 : fieldOff Try.prog 37 2 = some 2 := by kernel_rfl
@[go_sem] theorem build37 (parts : List (Nat × AV)) : buildA Try.prog 37 parts = (fillG (fun j => [(0, 1), (1, 1), (2, 1)][j]?) [.p (.int .i64 0), .p (.int .i64 0), .p (.str [])] parts).map mkAgg :=
  buildA_eq _ _ zero37 rfl (by kernel_rfl) (by kernel_rfl) (by funext j; exact placesA_eq _ _ (by kernel_rfl) j)
@[go_sem] theorem eqS37 (d : Nat) (xs ys : List PV) : eqT Try.prog (d + 1) 37 xs ys = eqL (eqT Try.prog d) [(3, 0, 1), (2, 1, 1), (9, 2, 1)] xs ys := eqT_struct _ (by kernel_rfl) (by kernel_rfl) (by kernel_rfl) (by kernel_rfl) d xs ys
@[go_sem] theorem eqg37 : Try.prog.eqGuardType Try.prog.depth 37 = false := by kernel_rfl
attribute [go_sem] Try.underlying38
@[go_sem] theorem cellsOf38 : Try.prog.cellsOf 38 = 1 := by kernel_rfl
@[go_sem] theorem isAgg38 : isAggT Try.prog 38 = some false := by kernel_rfl
@[go_sem] theorem ok38 : tyOk Try.prog 38 = true := by kernel_rfl
@[go_sem] theorem bytes38 : Try.prog.bytesOf 38 = 8 := by kernel_rfl
@[go_sem] theorem zero38 : zeroOf Try.prog 38 = some (.p .nilf) := by kernel_rfl
@[go_sem] theorem zeroLen38 : appendA.zeroLen Try.prog 38 = 1 := by kernel_rfl
attribute [go_sem] Try.underlying39
@[go_sem] theorem cellsOf39 : Try.prog.cellsOf 39 = 1 := by kernel_rfl
@[go_sem] theorem isAgg39 : isAggT Try.prog 39 = some false := by kernel_rfl
@[go_sem] theorem ok39 : tyOk Try.prog 39 = true := by kernel_rfl
@[go_sem] theorem bytes39 : Try.prog.bytesOf 39 = 8 := by kernel_rfl
@[go_sem] theorem zero39 : zeroOf Try.prog 39 = some (.p .nilf) := by kernel_rfl
@[go_sem] theorem zeroLen39 : appendA.zeroLen Try.prog 39 = 1 := by kernel_rfl
attribute [go_sem] Try.underlying40
@[go_sem] theorem cellsOf40 : Try.prog.cellsOf 40 = 2 := by kernel_rfl
@[go_sem] theorem isAgg40 : isAggT Try.prog 40 = some true := by kernel_rfl
@[go_sem] theorem ok40 : tyOk Try.prog 40 = true := by kernel_rfl
@[go_sem] theorem bytes40 : Try.prog.bytesOf 40 = 16 := by kernel_rfl
@[go_sem] theorem zero40 : zeroOf Try.prog 40 = some (.p (.agg [(.int .i64 0), (.int .i64 0)])) := by kernel_rfl
@[go_sem] theorem zeroLen40 : appendA.zeroLen Try.prog 40 = 2 := by kernel_rfl
@[go_sem] theorem build40 (parts : List (Nat × AV)) : buildA Try.prog 40 parts = (fillG (fun i => some (i * 1, 1)) [.p (.int .i64 0), .p (.int .i64 0)] parts).map mkAgg :=
  buildA_arr _ _ zero40 rfl Try.underlying40 (by kernel_rfl) (by kernel_rfl)
@[go_sem] theorem eqS40 (d : Nat) (xs ys : List PV) : eqT Try.prog (d + 1) 40 xs ys = eqL (eqT Try.prog d) [(2, 0, 1), (2, 1, 1)] xs ys := eqT_array _ Try.underlying40 (by kernel_rfl) (by kernel_rfl) d xs ys
@[go_sem] theorem eqg40 : Try.prog.eqGuardType Try.prog.depth 40 = false := by kernel_rfl
attribute [go_sem] Try.underlying41
@[go_sem] theorem cellsOf41 : Try.prog.cellsOf 41 = 1 := by kernel_rfl
@[go_sem] theorem isAgg41 : isAggT Try.prog 41 = some false := by kernel_rfl
@[go_sem] theorem ok41 : tyOk Try.prog 41 = true := by kernel_rfl
@[go_sem] theorem bytes41 : Try.prog.bytesOf 41 = 8 := by kernel_rfl
@[go_sem] theorem zero41 : zeroOf Try.prog 41 = some (.p .nilf) := by kernel_rfl
@[go_sem] theorem zeroLen41 : appendA.zeroLen Try.prog 41 = 1 := by kernel_rfl
attribute [go_sem] Try.underlying42
@[go_sem] theorem cellsOf42 : Try.prog.cellsOf 42 = 2 := by kernel_rfl
@[go_sem] theorem isAgg42 : isAggT Try.prog 42 = some true := by kernel_rfl
@[go_sem] theorem ok42 : tyOk Try.prog 42 = true := by kernel_rfl
@[go_sem] theorem bytes42 : Try.prog.bytesOf 42 = 2 := by kernel_rfl
@[go_sem] theorem zero42 : zeroOf Try.prog 42 = some (.p (.agg [(.int .u8 0), (.int .u8 0)])) := by kernel_rfl
@[go_sem] theorem zeroLen42 : appendA.zeroLen Try.prog 42 = 2 := by kernel_rfl
@[go_sem] theorem build42 (parts : List (Nat × AV)) : buildA Try.prog 42 parts = (fillG (fun i => some (i * 1, 1)) [.p (.int .u8 0), .p (.int .u8 0)] parts).map mkAgg :=
  buildA_arr _ _ zero42 rfl Try.underlying42 (by kernel_rfl) (by kernel_rfl)
@[go_sem] theorem eqS42 (d : Nat) (xs ys : List PV) : eqT Try.prog (d + 1) 42 xs ys = eqL (eqT Try.prog d) [(5, 0, 1), (5, 1, 1)] xs ys := eqT_array _ Try.underlying42 (by kernel_rfl) (by kernel_rfl) d xs ys
@[go_sem] theorem eqg42 : Try.prog.eqGuardType Try.prog.depth 42 = false := by kernel_rfl
attribute [go_sem] Try.underlying43
@[go_sem] theorem cellsOf43 : Try.prog.cellsOf 43 = 1 := by kernel_rfl
@[go_sem] theorem isAgg43 : isAggT Try.prog 43 = some false := by kernel_rfl
@[go_sem] theorem ok43 : tyOk Try.prog 43 = true := by kernel_rfl
@[go_sem] theorem bytes43 : Try.prog.bytesOf 43 = 8 := by kernel_rfl
@[go_sem] theorem zero43 : zeroOf Try.prog 43 = some (.p .nilf) := by kernel_rfl
@[go_sem] theorem zeroLen43 : appendA.zeroLen Try.prog 43 = 1 := by kernel_rfl
attribute [go_sem] Try.underlying45
@[go_sem] theorem cellsOf45 : Try.prog.cellsOf 45 = 1 := by kernel_rfl
@[go_sem] theorem isAgg45 : isAggT Try.prog 45 = some false := by kernel_rfl
@[go_sem] theorem ok45 : tyOk Try.prog 45 = true := by kernel_rfl
@[go_sem] theorem bytes45 : Try.prog.bytesOf 45 = 8 := by kernel_rfl
@[go_sem] theorem zero45 : zeroOf Try.prog 45 = some (.p .nilf) := by kernel_rfl
@[go_sem] theorem zeroLen45 : appendA.zeroLen Try.prog 45 = 1 := by kernel_rfl
attribute [go_sem] Try.underlying46
@[go_sem] theorem cellsOf46 : Try.prog.cellsOf 46 = 1 := by kernel_rfl
@[go_sem] theorem isAgg46 : isAggT Try.prog 46 = some false := by kernel_rfl
@[go_sem] theorem ok46 : tyOk Try.prog 46 = true := by kernel_rfl
@[go_sem] theorem bytes46 : Try.prog.bytesOf 46 = 8 := by kernel_rfl
@[go_sem] theorem zero46 : zeroOf Try.prog 46 = some (.p .nilf) := by kernel_rfl
@[go_sem] theorem zeroLen46 : appendA.zeroLen Try.prog 46 = 1 := by kernel_rfl
attribute [go_sem] Try.underlying47
@[go_sem] theorem cellsOf47 : Try.prog.cellsOf 47 = 1 := by kernel_rfl
@[go_sem] theorem isAgg47 : isAggT Try.prog 47 = some false := by kernel_rfl
@[go_sem] theorem ok47 : tyOk Try.prog 47 = true := by kernel_rfl
@[go_sem] theorem bytes47 : Try.prog.bytesOf 47 = 8 := by kernel_rfl
@[go_sem] theorem zero47 : zeroOf Try.prog 47 = some (.p .nilf) := by kernel_rfl
@[go_sem] theorem zeroLen47 : appendA.zeroLen Try.prog 47 = 1 := by kernel_rfl
attribute [go_sem] Try.underlying48
@[go_sem] theorem cellsOf48 : Try.prog.cellsOf 48 = 1 := by kernel_rfl
@[go_sem] theorem isAgg48 : isAggT Try.prog 48 = some false := by kernel_rfl
@[go_sem] theorem ok48 : tyOk Try.prog 48 = true := by kernel_rfl
@[go_sem] theorem bytes48 : Try.prog.bytesOf 48 = 24 := by kernel_rfl
@[go_sem] theorem zero48 : zeroOf Try.prog 48 = some (.nils) := by kernel_rfl
@[go_sem] theorem zeroLen48 : appendA.zeroLen Try.prog 48 = 1 := by kernel_rfl
attribute [go_sem] Try.underlying49
@[go_sem] theorem cellsOf49 : Try.prog.cellsOf 49 = 1 := by kernel_rfl
@[go_sem] theorem isAgg49 : isAggT Try.prog 49 = some false := by kernel_rfl
@[go_sem] theorem ok49 : tyOk Try.prog 49 = true := by kernel_rfl
@[go_sem] theorem bytes49 : Try.prog.bytesOf 49 = 24 := by kernel_rfl
@[go_sem] theorem zero49 : zeroOf Try.prog 49 = some (.nils) := by kernel_rfl
@[go_sem] theorem zeroLen49 : appendA.zeroLen Try.prog 49 = 1 := by kernel_rfl
attribute [go_sem] Try.underlying51
@[go_sem] theorem cellsOf51 : Try.prog.cellsOf 51 = 1 := by kernel_rfl
@[go_sem] theorem isAgg51 : isAggT Try.prog 51 = some false := by kernel_rfl
@[go_sem] theorem ok51 : tyOk Try.prog 51 = true := by kernel_rfl
@[go_sem] theorem bytes51 : Try.prog.bytesOf 51 = 8 := by kernel_rfl
@[go_sem] theorem zero51 : zeroOf Try.prog 51 = some (.p .nilf) := by kernel_rfl
@[go_sem] theorem zeroLen51 : appendA.zeroLen Try.prog 51 = 1 := by kernel_rfl
attribute [go_sem] Try.underlying52
@[go_sem] theorem cellsOf52 : Try.prog.cellsOf 52 = 1 := by kernel_rfl
@[go_sem] theorem isAgg52 : isAggT Try.prog 52 = some false := by kernel_rfl
@[go_sem] theorem ok52 : tyOk Try.prog 52 = true := by kernel_rfl
@[go_sem] theorem bytes52 : Try.prog.bytesOf 52 = 8 := by kernel_rfl
@[go_sem] theorem zero52 : zeroOf Try.prog 52 = some (.p .nilf) := by kernel_rfl
@[go_sem] theorem zeroLen52 : appendA.zeroLen Try.prog 52 = 1 := by kernel_rfl
attribute [go_sem] Try.underlying53
@[go_sem] theorem cellsOf53 : Try.prog.cellsOf 53 = 1 := by kernel_rfl
@[go_sem] theorem isAgg53 : isAggT Try.prog 53 = some false := by kernel_rfl
@[go_sem] theorem ok53 : tyOk Try.prog 53 = true := by kernel_rfl
@[go_sem] theorem bytes53 : Try.prog.bytesOf 53 = 8 := by kernel_rfl
@[go_sem] theorem zero53 : zeroOf Try.prog 53 = some (.p .nilf) := by kernel_rfl
@[go_sem] theorem zeroLen53 : appendA.zeroLen Try.prog 53 = 1 := by kernel_rfl
attribute [go_sem] Try.underlying54
@[go_sem] theorem cellsOf54 : Try.prog.cellsOf 54 = 1 := by kernel_rfl
@[go_sem] theorem isAgg54 : isAggT Try.prog 54 = some false := by kernel_rfl
@[go_sem] theorem ok54 : tyOk Try.prog 54 = true := by kernel_rfl
@[go_sem] theorem bytes54 : Try.prog.bytesOf 54 = 8 := by kernel_rfl
@[go_sem] theorem zero54 : zeroOf Try.prog 54 = some (.p .nilf) := by kernel_rfl
@[go_sem] theorem zeroLen54 : appendA.zeroLen Try.prog 54 = 1 := by kernel_rfl
attribute [go_sem] Try.underlying56
@[go_sem] theorem cellsOf56 : Try.prog.cellsOf 56 = 1 := by kernel_rfl
@[go_sem] theorem isAgg56 : isAggT Try.prog 56 = some false := by kernel_rfl
@[go_sem] theorem ok56 : tyOk Try.prog 56 = true := by kernel_rfl
@[go_sem] theorem bytes56 : Try.prog.bytesOf 56 = 8 := by kernel_rfl
@[go_sem] theorem zero56 : zeroOf Try.prog 56 = some (.p .nilf) := by kernel_rfl
@[go_sem] theorem zeroLen56 : appendA.zeroLen Try.prog 56 = 1 := by kernel_rfl
attribute [go_sem] Try.underlying57
@[go_sem] theorem cellsOf57 : Try.prog.cellsOf 57 = 1 := by kernel_rfl
@[go_sem] theorem isAgg57 : isAggT Try.prog 57 = some false := by kernel_rfl
@[go_sem] theorem ok57 : tyOk Try.prog 57 = true := by kernel_rfl
@[go_sem] theorem bytes57 : Try.prog.bytesOf 57 = 8 := by kernel_rfl
@[go_sem] theorem zero57 : zeroOf Try.prog 57 = some (.p .nilf) := by kernel_rfl
@[go_sem] theorem zeroLen57 : appendA.zeroLen Try.prog 57 = 1 := by kernel_rfl
attribute [go_sem] Try.underlying58
@[go_sem] theorem cellsOf58 : Try.prog.cellsOf 58 = 1 := by kernel_rfl
@[go_sem] theorem isAgg58 : isAggT Try.prog 58 = some false := by kernel_rfl
@[go_sem] theorem ok58 : tyOk Try.prog 58 = true := by kernel_rfl
@[go_sem] theorem bytes58 : Try.prog.bytesOf 58 = 8 := by kernel_rfl
@[go_sem] theorem zero58 : zeroOf Try.prog 58 = some (.p .nilf) := by kernel_rfl
@[go_sem] theorem zeroLen58 : appendA.zeroLen Try.prog 58 = 1 := by kernel_rfl
attribute [go_sem] Try.underlying59
@[go_sem] theorem cellsOf59 : Try.prog.cellsOf 59 = 1 := by kernel_rfl
@[go_sem] theorem isAgg59 : isAggT Try.prog 59 = some false := by kernel_rfl
@[go_sem] theorem ok59 : tyOk Try.prog 59 = true := by kernel_rfl
@[go_sem] theorem bytes59 : Try.prog.bytesOf 59 = 8 := by kernel_rfl
@[go_sem] theorem zero59 : zeroOf Try.prog 59 = some (.p .nilf) := by kernel_rfl
@[go_sem] theorem zeroLen59 : appendA.zeroLen Try.prog 59 = 1 := by kernel_rfl
attribute [go_sem] Try.underlying60
@[go_sem] theorem cellsOf60 : Try.prog.cellsOf 60 = 1 := by kernel_rfl
@[go_sem] theorem isAgg60 : isAggT Try.prog 60 = some false := by kernel_rfl
@[go_sem] theorem ok60 : tyOk Try.prog 60 = true := by kernel_rfl
@[go_sem] theorem bytes60 : Try.prog.bytesOf 60 = 8 := by kernel_rfl
@[go_sem] theorem zero60 : zeroOf Try.prog 60 = some (.p .nilf) := by kernel_rfl
@[go_sem] theorem zeroLen60 : appendA.zeroLen Try.prog 60 = 1 := by kernel_rfl
attribute [go_sem] Try.underlying61
@[go_sem] theorem cellsOf61 : Try.prog.cellsOf 61 = 1 := by kernel_rfl
@[go_sem] theorem isAgg61 : isAggT Try.prog 61 = some false := by kernel_rfl
@[go_sem] theorem ok61 : tyOk Try.prog 61 = true := by kernel_rfl
@[go_sem] theorem bytes61 : Try.prog.bytesOf 61 = 8 := by kernel_rfl
@[go_sem] theorem zero61 : zeroOf Try.prog 61 = some (.p .nilf) := by kernel_rfl
@[go_sem] theorem zeroLen61 : appendA.zeroLen Try.prog 61 = 1 := by kernel_rfl
attribute [go_sem] Try.underlying62
@[go_sem] theorem cellsOf62 : Try.prog.cellsOf 62 = 1 := by kernel_rfl
@[go_sem] theorem isAgg62 : isAggT Try.prog 62 = some false := by kernel_rfl
@[go_sem] theorem ok62 : tyOk Try.prog 62 = true := by kernel_rfl
@[go_sem] theorem bytes62 : Try.prog.bytesOf 62 = 8 := by kernel_rfl
@[go_sem] theorem zero62 : zeroOf Try.prog 62 = some (.p .nilf) := by kernel_rfl
@[go_sem] theorem zeroLen62 : appendA.zeroLen Try.prog 62 = 1 := by kernel_rfl
attribute [go_sem] Try.underlying64
@[go_sem] theorem cellsOf64 : Try.prog.cellsOf 64 = 1 := by kernel_rfl
@[go_sem] theorem isAgg64 : isAggT Try.prog 64 = some false := by kernel_rfl
@[go_sem] theorem ok64 : tyOk Try.prog 64 = true := by kernel_rfl
@[go_sem] theorem bytes64 : Try.prog.bytesOf 64 = 8 := by kernel_rfl
@[go_sem] theorem zero64 : zeroOf Try.prog 64 = some (.p .nilf) := by kernel_rfl
@[go_sem] theorem zeroLen64 : appendA.zeroLen Try.prog 64 = 1 := by kernel_rfl
attribute [go_sem] Try.underlying65
@[go_sem] theorem cellsOf65 : Try.prog.cellsOf 65 = 1 := by kernel_rfl
@[go_sem] theorem isAgg65 : isAggT Try.prog 65 = some false := by kernel_rfl
@[go_sem] theorem ok65 : tyOk Try.prog 65 = true := by kernel_rfl
@[go_sem] theorem bytes65 : Try.prog.bytesOf 65 = 8 := by kernel_rfl
@[go_sem] theorem zero65 : zeroOf Try.prog 65 = some (.p .nilf) := by kernel_rfl
@[go_sem] theorem zeroLen65 : appendA.zeroLen Try.prog 65 = 1 := by kernel_rfl
attribute [go_sem] Try.underlying66
@[go_sem] theorem cellsOf66 : Try.prog.cellsOf 66 = 1 := by kernel_rfl
@[go_sem] theorem isAgg66 : isAggT Try.prog 66 = some false := by kernel_rfl
@[go_sem] theorem ok66 : tyOk Try.prog 66 = true := by kernel_rfl
@[go_sem] theorem bytes66 : Try.prog.bytesOf 66 = 8 := by kernel_rfl
@[go_sem] theorem zero66 : zeroOf Try.prog 66 = some (.p .nilf) := by kernel_rfl
@[go_sem] theorem zeroLen66 : appendA.zeroLen Try.prog 66 = 1 := by kernel_rfl
attribute [go_sem] Try.underlying67
@[go_sem] theorem cellsOf67 : Try.prog.cellsOf 67 = 1 := by kernel_rfl
@[go_sem] theorem isAgg67 : isAggT Try.prog 67 = some false := by kernel_rfl
@[go_sem] theorem ok67 : tyOk Try.prog 67 = true := by kernel_rfl
@[go_sem] theorem bytes67 : Try.prog.bytesOf 67 = 8 := by kernel_rfl
@[go_sem] theorem zero67 : zeroOf Try.prog 67 = some (.p .nilf) := by kernel_rfl
@[go_sem] theorem zeroLen67 : appendA.zeroLen Try.prog 67 = 1 := by kernel_rfl
attribute [go_sem] Try.underlying68
@[go_sem] theorem cellsOf68 : Try.prog.cellsOf 68 = 1 := by kernel_rfl
@[go_sem] theorem isAgg68 : isAggT Try.prog 68 = some false := by kernel_rfl
@[go_sem] theorem ok68 : tyOk Try.prog 68 = true := by kernel_rfl
@[go_sem] theorem bytes68 : Try.prog.bytesOf 68 = 8 := by kernel_rfl
@[go_sem] theorem zero68 : zeroOf Try.prog 68 = some (.p (.int .u64 0)) := by kernel_rfl
@[go_sem] theorem zeroLen68 : appendA.zeroLen Try.prog 68 = 1 := by kernel_rfl
@[go_sem] theorem eqI68 (d : Nat) (k k' : IntKind) (a b : Int) : eqT Try.prog (d + 1) 68 [.int k a] [.int k' b] = if k = k' then some (a == b) else none := eqT_int _ Try.underlying68 d k k' a b
attribute [go_sem] Try.underlying69
@[go_sem] theorem cellsOf69 : Try.prog.cellsOf 69 = 1 := by kernel_rfl
@[go_sem] theorem isAgg69 : isAggT Try.prog 69 = some false := by kernel_rfl
@[go_sem] theorem ok69 : tyOk Try.prog 69 = true := by kernel_rfl
@[go_sem] theorem bytes69 : Try.prog.bytesOf 69 = 8 := by kernel_rfl
@[go_sem] theorem zero69 : zeroOf Try.prog 69 = some (.p .nilf) := by kernel_rfl
@[go_sem] theorem zeroLen69 : appendA.zeroLen Try.prog 69 = 1 := by kernel_rfl
attribute [go_sem] Try.underlying70
@[go_sem] theorem cellsOf70 : Try.prog.cellsOf 70 = 1 := by kernel_rfl
@[go_sem] theorem isAgg70 : isAggT Try.prog 70 = some false := by kernel_rfl
@[go_sem] theorem ok70 : tyOk Try.prog 70 = true := by kernel_rfl
@[go_sem] theorem bytes70 : Try.prog.bytesOf 70 = 8 := by kernel_rfl
@[go_sem] theorem zero70 : zeroOf Try.prog 70 = some (.p .nilf) := by kernel_rfl
@[go_sem] theorem zeroLen70 : appendA.zeroLen Try.prog 70 = 1 := by kernel_rfl
attribute [go_sem] Try.underlying71
@[go_sem] theorem cellsOf71 : Try.prog.cellsOf 71 = 1 := by kernel_rfl
@[go_sem] theorem isAgg71 : isAggT Try.prog 71 = some false := by kernel_rfl
@[go_sem] theorem ok71 : tyOk Try.prog 71 = true := by kernel_rfl
@[go_sem] theorem bytes71 : Try.prog.bytesOf 71 = 8 := by kernel_rfl
@[go_sem] theorem zero71 : zeroOf Try.prog 71 = some (.p .nilf) := by kernel_rfl
@[go_sem] theorem zeroLen71 : appendA.zeroLen Try.prog 71 = 1 := by kernel_rfl
attribute [go_sem] Try.underlying72
@[go_sem] theorem cellsOf72 : Try.prog.cellsOf 72 = 1 := by kernel_rfl
@[go_sem] theorem isAgg72 : isAggT Try.prog 72 = some false := by kernel_rfl
@[go_sem] theorem ok72 : tyOk Try.prog 72 = true := by kernel_rfl
@[go_sem] theorem bytes72 : Try.prog.bytesOf 72 = 8 := by kernel_rfl
@[go_sem] theorem zero72 : zeroOf Try.prog 72 = some (.p .nilf) := by kernel_rfl
@[go_sem] theorem zeroLen72 : appendA.zeroLen Try.prog 72 = 1 := by kernel_rfl
attribute [go_sem] Try.underlying76
@[go_sem] theorem cellsOf76 : Try.prog.cellsOf 76 = 1 := by kernel_rfl
@[go_sem] theorem isAgg76 : isAggT Try.prog 76 = some false := by kernel_rfl
@[go_sem] theorem ok76 : tyOk Try.prog 76 = true := by kernel_rfl
@[go_sem] theorem bytes76 : Try.prog.bytesOf 76 = 8 := by kernel_rfl
@[go_sem] theorem zero76 : zeroOf Try.prog 76 = some (.p .nilf) := by kernel_rfl
@[go_sem] theorem zeroLen76 : appendA.zeroLen Try.prog 76 = 1 := by kernel_rfl
attribute [go_sem] Try.underlying78
@[go_sem] theorem cellsOf78 : Try.prog.cellsOf 78 = 1 := by kernel_rfl
@[go_sem] theorem isAgg78 : isAggT Try.prog 78 = some false := by kernel_rfl
@[go_sem] theorem ok78 : tyOk Try.prog 78 = true := by kernel_rfl
@[go_sem] theorem bytes78 : Try.prog.bytesOf 78 = 8 := by kernel_rfl
@[go_sem] theorem zero78 : zeroOf Try.prog 78 = some (.p .nilp) := by kernel_rfl
@[go_sem] theorem zeroLen78 : appendA.zeroLen Try.prog 78 = 1 := by kernel_rfl
attribute [go_sem] Try.underlying79
@[go_sem] theorem cellsOf79 : Try.prog.cellsOf 79 = 1 := by kernel_rfl
@[go_sem] theorem isAgg79 : isAggT Try.prog 79 = some false := by kernel_rfl
@[go_sem] theorem ok79 : tyOk Try.prog 79 = true := by kernel_rfl
@[go_sem] theorem bytes79 : Try.prog.bytesOf 79 = 24 := by kernel_rfl
@[go_sem] theorem zero79 : zeroOf Try.prog 79 = some (.nils) := by kernel_rfl
@[go_sem] theorem zeroLen79 : appendA.zeroLen Try.prog 79 = 1 := by kernel_rfl
attribute [go_sem] Try.underlying80
@[go_sem] theorem cellsOf80 : Try.prog.cellsOf 80 = 2 := by kernel_rfl
@[go_sem] theorem isAgg80 : isAggT Try.prog 80 = some true := by kernel_rfl
@[go_sem] theorem ok80 : tyOk Try.prog 80 = true := by kernel_rfl
@[go_sem] theorem bytes80 : Try.prog.bytesOf 80 = 32 := by kernel_rfl
@[go_sem] theorem zero80 : zeroOf Try.prog 80 = some (.agg [.p .nilp, .nils]) := by kernel_rfl
@[go_sem] theorem zeroLen80 : appendA.zeroLen Try.prog 80 = 2 := by kernel_rfl
@[go_sem] theorem field80_0 : fieldOff Try.prog 80 0 = some 0 := by kernel_rfl
@[go_sem] theorem field80_1 : fieldOff Try.prog 80 1 = some 1 := by kernel_rfl
@[go_sem] theorem build80 (parts : List (Nat × AV)) : buildA Try.prog 80 parts = (fillG (fun j => [(0, 1), (1, 1)][j]?) [.p .nilp, .nils] parts).map mkAgg :=
  buildA_eq _ _ zero80 rfl (by kernel_rfl) (by kernel_rfl) (by funext j; exact placesA_eq _ _ (by kernel_rfl) j)
attribute [go_sem] Try.underlying81
@[go_sem] theorem cellsOf81 : Try.prog.cellsOf 81 = 2 := by kernel_rfl
@[go_sem] theorem isAgg81 : isAggT Try.prog 81 = some true := by kernel_rfl
@[go_sem] theorem ok81 : tyOk Try.prog 81 = true := by kernel_rfl
@[go_sem] theorem bytes81 : Try.prog.bytesOf 81 = 32 := by kernel_rfl
@[go_sem] theorem zero81 : zeroOf Try.prog 81 = some (.agg [.p .nilp, .nils]) := by kernel_rfl
@[go_sem] theorem zeroLen81 : appendA.zeroLen Try.prog 81 = 2 := by kernel_rfl
@[go_sem] theorem field81_0 : fieldOff Try.prog 81 0 = some 0 := by kernel_rfl
@[go_sem] theorem field81_1 : fieldOff Try.prog 81 1 = some 1 := by kernel_rfl
@[go_sem] theorem build81 (parts : List (Nat × AV)) : buildA Try.prog 81 parts = (fillG (fun j => [(0, 1), (1, 1)][j]?) [.p .nilp, .nils] parts).map mkAgg :=
  buildA_eq _ _ zero81 rfl (by kernel_rfl) (by kernel_rfl) (by funext j; exact placesA_eq _ _ (by kernel_rfl) j)
attribute [go_sem] Try.underlying83
@[go_sem] theorem cellsOf83 : Try.prog.cellsOf 83 = 1 := by kernel_rfl
@[go_sem] theorem isAgg83 : isAggT Try.prog 83 = some false := by kernel_rfl
@[go_sem] theorem ok83 : tyOk Try.prog 83 = true := by kernel_rfl
@[go_sem] theorem bytes83 : Try.prog.bytesOf 83 = 16 := by kernel_rfl
@[go_sem] theorem zero83 : zeroOf Try.prog 83 = some (.p .nili) := by kernel_rfl
@[go_sem] theorem zeroLen83 : appendA.zeroLen Try.prog 83 = 1 := by kernel_rfl
attribute [go_sem] Try.underlying84
@[go_sem] theorem cellsOf84 : Try.prog.cellsOf 84 = 1 := by kernel_rfl
@[go_sem] theorem isAgg84 : isAggT Try.prog 84 = some false := by kernel_rfl
@[go_sem] theorem ok84 : tyOk Try.prog 84 = true := by kernel_rfl
@[go_sem] theorem bytes84 : Try.prog.bytesOf 84 = 16 := by kernel_rfl
@[go_sem] theorem zero84 : zeroOf Try.prog 84 = some (.p .nili) := by kernel_rfl
@[go_sem] theorem zeroLen84 : appendA.zeroLen Try.prog 84 = 1 := by kernel_rfl
attribute [go_sem] Try.underlying87
@[go_sem] theorem cellsOf87 : Try.prog.cellsOf 87 = 1 := by kernel_rfl
@[go_sem] theorem isAgg87 : isAggT Try.prog 87 = some false := by kernel_rfl
@[go_sem] theorem ok87 : tyOk Try.prog 87 = true := by kernel_rfl
@[go_sem] theorem bytes87 : Try.prog.bytesOf 87 = 8 := by kernel_rfl
@[go_sem] theorem zero87 : zeroOf Try.prog 87 = some (.p .nilf) := by kernel_rfl
@[go_sem] theorem zeroLen87 : appendA.zeroLen Try.prog 87 = 1 := by kernel_rfl
attribute [go_sem] Try.underlying91
@[go_sem] theorem cellsOf91 : Try.prog.cellsOf 91 = 1 := by kernel_rfl
@[go_sem] theorem isAgg91 : isAggT Try.prog 91 = some false := by kernel_rfl
@[go_sem] theorem ok91 : tyOk Try.prog 91 = true := by kernel_rfl
@[go_sem] theorem bytes91 : Try.prog.bytesOf 91 = 8 := by kernel_rfl
@[go_sem] theorem zero91 : zeroOf Try.prog 91 = some (.p (.int .i64 0)) := by kernel_rfl
@[go_sem] theorem zeroLen91 : appendA.zeroLen Try.prog 91 = 1 := by kernel_rfl
@[go_sem] theorem eqI91 (d : Nat) (k k' : IntKind) (a b : Int) : eqT Try.prog (d + 1) 91 [.int k a] [.int k' b] = if k = k' then some (a == b) else none := eqT_int _ Try.underlying91 d k k' a b
attribute [go_sem] Try.underlying97
@[go_sem] theorem cellsOf97 : Try.prog.cellsOf 97 = 1 := by kernel_rfl
@[go_sem] theorem isAgg97 : isAggT Try.prog 97 = some false := by kernel_rfl
@[go_sem] theorem ok97 : tyOk Try.prog 97 = true := by kernel_rfl
@[go_sem] theorem bytes97 : Try.prog.bytesOf 97 = 8 := by kernel_rfl
@[go_sem] theorem zero97 : zeroOf Try.prog 97 = some (.p .nilf) := by kernel_rfl
@[go_sem] theorem zeroLen97 : appendA.zeroLen Try.prog 97 = 1 := by kernel_rfl
attribute [go_sem] Try.underlying98
@[go_sem] theorem cellsOf98 : Try.prog.cellsOf 98 = 1 := by kernel_rfl
@[go_sem] theorem isAgg98 : isAggT Try.prog 98 = some false := by kernel_rfl
@[go_sem] theorem ok98 : tyOk Try.prog 98 = true := by kernel_rfl
@[go_sem] theorem bytes98 : Try.prog.bytesOf 98 = 8 := by kernel_rfl
@[go_sem] theorem zero98 : zeroOf Try.prog 98 = some (.p .nilf) := by kernel_rfl
@[go_sem] theorem zeroLen98 : appendA.zeroLen Try.prog 98 = 1 := by kernel_rfl
attribute [go_sem] Try.underlying99
@[go_sem] theorem cellsOf99 : Try.prog.cellsOf 99 = 1 := by kernel_rfl
@[go_sem] theorem isAgg99 : isAggT Try.prog 99 = some false := by kernel_rfl
@[go_sem] theorem ok99 : tyOk Try.prog 99 = true := by kernel_rfl
@[go_sem] theorem bytes99 : Try.prog.bytesOf 99 = 4 := by kernel_rfl
@[go_sem] theorem zero99 : zeroOf Try.prog 99 = some (.p (.int .u32 0)) := by kernel_rfl
@[go_sem] theorem zeroLen99 : appendA.zeroLen Try.prog 99 = 1 := by kernel_rfl
@[go_sem] theorem eqI99 (d : Nat) (k k' : IntKind) (a b : Int) : eqT Try.prog (d + 1) 99 [.int k a] [.int k' b] = if k = k' then some (a == b) else none := eqT_int _ Try.underlying99 d k k' a b
attribute [go_sem] Try.underlying101
@[go_sem] theorem cellsOf101 : Try.prog.cellsOf 101 = 1 := by kernel_rfl
@[go_sem] theorem isAgg101 : isAggT Try.prog 101 = some false := by kernel_rfl
@[go_sem] theorem ok101 : tyOk Try.prog 101 = true := by kernel_rfl
@[go_sem] theorem bytes101 : Try.prog.bytesOf 101 = 8 := by kernel_rfl
@[go_sem] theorem zero101 : zeroOf Try.prog 101 = some (.p (.int .u64 0)) := by kernel_rfl
@[go_sem] theorem zeroLen101 : appendA.zeroLen Try.prog 101 = 1 := by kernel_rfl
@[go_sem] theorem eqI101 (d : Nat) (k k' : IntKind) (a b : Int) : eqT Try.prog (d + 1) 101 [.int k a] [.int k' b] = if k = k' then some (a == b) else none := eqT_int _ Try.underlying101 d k k' a b
attribute [go_sem] Try.underlying103
@[go_sem] theorem cellsOf103 : Try.prog.cellsOf 103 = 1 := by kernel_rfl
@[go_sem] theorem isAgg103 : isAggT Try.prog 103 = some false := by kernel_rfl
@[go_sem] theorem ok103 : tyOk Try.prog 103 = true := by kernel_rfl
@[go_sem] theorem bytes103 : Try.prog.bytesOf 103 = 8 := by kernel_rfl
@[go_sem] theorem zero103 : zeroOf Try.prog 103 = some (.p .nilf) := by kernel_rfl
@[go_sem] theorem zeroLen103 : appendA.zeroLen Try.prog 103 = 1 := by kernel_rfl
attribute [go_sem] Try.underlying104
@[go_sem] theorem cellsOf104 : Try.prog.cellsOf 104 = 1 := by kernel_rfl
@[go_sem] theorem isAgg104 : isAggT Try.prog 104 = some false := by kernel_rfl
@[go_sem] theorem ok104 : tyOk Try.prog 104 = true := by kernel_rfl
@[go_sem] theorem bytes104 : Try.prog.bytesOf 104 = 8 := by kernel_rfl
@[go_sem] theorem zero104 : zeroOf Try.prog 104 = some (.p .nilf) := by kernel_rfl
@[go_sem] theorem zeroLen104 : appendA.zeroLen Try.prog 104 = 1 := by kernel_rfl
attribute [go_sem] Try.underlying105
@[go_sem] theorem cellsOf105 : Try.prog.cellsOf 105 = 1 := by kernel_rfl
@[go_sem] theorem isAgg105 : isAggT Try.prog 105 = some false := by kernel_rfl
@[go_sem] theorem ok105 : tyOk Try.prog 105 = true := by kernel_rfl
@[go_sem] theorem bytes105 : Try.prog.bytesOf 105 = 8 := by kernel_rfl
@[go_sem] theorem zero105 : zeroOf Try.prog 105 = some (.p .nilf) := by kernel_rfl
@[go_sem] theorem zeroLen105 : appendA.zeroLen Try.prog 105 = 1 := by kernel_rfl
attribute [go_sem] Try.underlying111
@[go_sem] theorem cellsOf111 : Try.prog.cellsOf 111 = 1 := by kernel_rfl
@[go_sem] theorem isAgg111 : isAggT Try.prog 111 = some false := by kernel_rfl
@[go_sem] theorem ok111 : tyOk Try.prog 111 = true := by kernel_rfl
@[go_sem] theorem bytes111 : Try.prog.bytesOf 111 = 8 := by kernel_rfl
@[go_sem] theorem zero111 : zeroOf Try.prog 111 = some (.p .nilp) := by kernel_rfl
@[go_sem] theorem zeroLen111 : appendA.zeroLen Try.prog 111 = 1 := by kernel_rfl
attribute [go_sem] Try.underlying112
@[go_sem] theorem cellsOf112 : Try.prog.cellsOf 112 = 1 := by kernel_rfl
@[go_sem] theorem isAgg112 : isAggT Try.prog 112 = some false := by kernel_rfl
@[go_sem] theorem ok112 : tyOk Try.prog 112 = true := by kernel_rfl
@[go_sem] theorem bytes112 : Try.prog.bytesOf 112 = 8 := by kernel_rfl
@[go_sem] theorem zero112 : zeroOf Try.prog 112 = some (.p .nilf) := by kernel_rfl
@[go_sem] theorem zeroLen112 : appendA.zeroLen Try.prog 112 = 1 := by kernel_rfl
attribute [go_sem] Try.underlying113
@[go_sem] theorem cellsOf113 : Try.prog.cellsOf 113 = 1 := by kernel_rfl
@[go_sem] theorem isAgg113 : isAggT Try.prog 113 = some false := by kernel_rfl
@[go_sem] theorem ok113 : tyOk Try.prog 113 = true := by kernel_rfl
@[go_sem] theorem bytes113 : Try.prog.bytesOf 113 = 8 := by kernel_rfl
@[go_sem] theorem zero113 : zeroOf Try.prog 113 = some (.p .nilf) := by kernel_rfl
@[go_sem] theorem zeroLen113 : appendA.zeroLen Try.prog 113 = 1 := by kernel_rfl
attribute [go_sem] Try.underlying116
@[go_sem] theorem cellsOf116 : Try.prog.cellsOf 116 = 1 := by kernel_rfl
@[go_sem] theorem isAgg116 : isAggT Try.prog 116 = some false := by kernel_rfl
@[go_sem] theorem ok116 : tyOk Try.prog 116 = true := by kernel_rfl
@[go_sem] theorem bytes116 : Try.prog.bytesOf 116 = 8 := by kernel_rfl
@[go_sem] theorem zero116 : zeroOf Try.prog 116 = some (.p .nilf) := by kernel_rfl
@[go_sem] theorem zeroLen116 : appendA.zeroLen Try.prog 116 = 1 := by kernel_rfl
attribute [go_sem] Try.underlying117
@[go_sem] theorem cellsOf117 : Try.prog.cellsOf 117 = 1 := by kernel_rfl
@[go_sem] theorem isAgg117 : isAggT Try.prog 117 = some false := by kernel_rfl
@[go_sem] theorem ok117 : tyOk Try.prog 117 = true := by kernel_rfl
@[go_sem] theorem bytes117 : Try.prog.bytesOf 117 = 8 := by kernel_rfl
@[go_sem] theorem zero117 : zeroOf Try.prog 117 = some (.p (.int .u64 0)) := by kernel_rfl
@[go_sem] theorem zeroLen117 : appendA.zeroLen Try.prog 117 = 1 := by kernel_rfl
@[go_sem] theorem eqI117 (d : Nat) (k k' : IntKind) (a b : Int) : eqT Try.prog (d + 1) 117 [.int k a] [.int k' b] = if k = k' then some (a == b) else none := eqT_int _ Try.underlying117 d k k' a b
attribute [go_sem] Try.underlying120
@[go_sem] theorem cellsOf120 : Try.prog.cellsOf 120 = 1 := by kernel_rfl
@[go_sem] theorem isAgg120 : isAggT Try.prog 120 = some false := by kernel_rfl
@[go_sem] theorem ok120 : tyOk Try.prog 120 = true := by kernel_rfl
@[go_sem] theorem bytes120 : Try.prog.bytesOf 120 = 8 := by kernel_rfl
@[go_sem] theorem zero120 : zeroOf Try.prog 120 = some (.p .nilf) := by kernel_rfl
@[go_sem] theorem zeroLen120 : appendA.zeroLen Try.prog 120 = 1 := by kernel_rfl
attribute [go_sem] Try.underlying121
@[go_sem] theorem cellsOf121 : Try.prog.cellsOf 121 = 1 := by kernel_rfl
@[go_sem] theorem isAgg121 : isAggT Try.prog 121 = some false := by kernel_rfl
@[go_sem] theorem ok121 : tyOk Try.prog 121 = true := by kernel_rfl
@[go_sem] theorem bytes121 : Try.prog.bytesOf 121 = 8 := by kernel_rfl
@[go_sem] theorem zero121 : zeroOf Try.prog 121 = some (.p .nilp) := by kernel_rfl
@[go_sem] theorem zeroLen121 : appendA.zeroLen Try.prog 121 = 1 := by kernel_rfl
attribute [go_sem] Try.underlying125
@[go_sem] theorem cellsOf125 : Try.prog.cellsOf 125 = 1 := by kernel_rfl
@[go_sem] theorem isAgg125 : isAggT Try.prog 125 = some false := by kernel_rfl
@[go_sem] theorem ok125 : tyOk Try.prog 125 = true := by kernel_rfl
@[go_sem] theorem bytes125 : Try.prog.bytesOf 125 = 8 := by kernel_rfl
@[go_sem] theorem zero125 : zeroOf Try.prog 125 = some (.p .nilf) := by kernel_rfl
@[go_sem] theorem zeroLen125 : appendA.zeroLen Try.prog 125 = 1 := by kernel_rfl
attribute [go_sem] Try.underlying129
@[go_sem] theorem cellsOf129 : Try.prog.cellsOf 129 = 1 := by kernel_rfl
@[go_sem] theorem isAgg129 : isAggT Try.prog 129 = some false := by kernel_rfl
@[go_sem] theorem ok129 : tyOk Try.prog 129 = true := by kernel_rfl
@[go_sem] theorem bytes129 : Try.prog.bytesOf 129 = 8 := by kernel_rfl
@[go_sem] theorem zero129 : zeroOf Try.prog 129 = some (.p .nilp) := by kernel_rfl
@[go_sem] theorem zeroLen129 : appendA.zeroLen Try.prog 129 = 1 := by kernel_rfl
attribute [go_sem] Try.underlying133
@[go_sem] theorem cellsOf133 : Try.prog.cellsOf 133 = 4 := by kernel_rfl
@[go_sem] theorem isAgg133 : isAggT Try.prog 133 = some true := by kernel_rfl
@[go_sem] theorem ok133 : tyOk Try.prog 133 = true := by kernel_rfl
@[go_sem] theorem bytes133 : Try.prog.bytesOf 133 = 40 := by kernel_rfl
@[go_sem] theorem zero133 : zeroOf Try.prog 133 = some (.p (.agg [.nilp, .nilp, .nilp, (.str [])])) := by kernel_rfl
@[go_sem] theorem zeroLen133 : appendA.zeroLen Try.prog 133 = 4 := by kernel_rfl
@[go_sem] theorem field133_0 : fieldOff Try.prog 133 0 = some 0 := by kernel_rfl
@[go_sem] theorem field133_1 : fieldOff Try.prog 133 1 = some 1 := by kernel_rfl
@[go_sem] theorem field133_2 : fieldOff Try.prog 133 2 = some 2 := by kernel_rfl
@[go_sem] theorem field133_3 : fieldOff Try.prog 133 3 = some 3 := by kernel_rfl
@[go_sem] theorem build133 (parts : List (Nat × AV)) : buildA Try.prog 133 parts = (fillG (fun j => [(0, 1), (1, 1), (2, 1), (3, 1)][j]?) [.p .nilp, .p .nilp, .p .nilp, .p (.str [])] parts).map mkAgg :=
  buildA_eq _ _ zero133 rfl (by kernel_rfl) (by kernel_rfl) (by funext j; exact placesA_eq _ _ (by kernel_rfl) j)
attribute [go_sem] Try.underlying134
@[go_sem] theorem cellsOf134 : Try.prog.cellsOf 134 = 4 := by kernel_rfl
@[go_sem] theorem isAgg134 : isAggT Try.prog 134 = some true := by kernel_rfl
@[go_sem] theorem ok134 : tyOk Try.prog 134 = true := by kernel_rfl
@[go_sem] theorem bytes134 : Try.prog.bytesOf 134 = 40 := by kernel_rfl
@[go_sem] theorem zero134 : zeroOf Try.prog 134 = some (.p (.agg [.nilp, .nilp, .nilp, (.str [])])) := by kernel_rfl
@[go_sem] theorem zeroLen134 : appendA.zeroLen Try.prog 134 = 4 := by kernel_rfl
@[go_sem] theorem field134_0 : fieldOff Try.prog 134 0 = some 0 := by kernel_rfl
@[go_sem] theorem field134_1 : fieldOff Try.prog 134 1 = some 1 := by kernel_rfl
@[go_sem] theorem field134_2 : fieldOff Try.prog 134 2 = some 2 := by kernel_rfl
@[go_sem] theorem field134_3 : fieldOff Try.prog 134 3 = some 3 := by kernel_rfl
@[go_sem] theorem build134 (parts : List (Nat × AV)) : buildA Try.prog 134 parts = (fillG (fun j => [(0, 1), (1, 1), (2, 1), (3, 1)][j]?) [.p .nilp, .p .nilp, .p .nilp, .p (.str [])] parts).map mkAgg :=
  buildA_eq _ _ zero134 rfl (by kernel_rfl) (by kernel_rfl) (by funext j; exact placesA_eq _ _ (by kernel_rfl) j)
attribute [go_sem] Try.underlying135
@[go_sem] theorem cellsOf135 : Try.prog.cellsOf 135 = 0 := by kernel_rfl
@[go_sem] theorem isAgg135 : isAggT Try.prog 135 = some true := by kernel_rfl
@[go_sem] theorem ok135 : tyOk Try.prog 135 = true := by kernel_rfl
@[go_sem] theorem bytes135 : Try.prog.bytesOf 135 = 0 := by kernel_rfl
@[go_sem] theorem zero135 : zeroOf Try.prog 135 = some (.p (.agg [])) := by kernel_rfl
@[go_sem] theorem zeroLen135 : appendA.zeroLen Try.prog 135 = 0 := by kernel_rfl
attribute [go_sem] Try.underlying136
@[go_sem] theorem cellsOf136 : Try.prog.cellsOf 136 = 0 := by kernel_rfl
@[go_sem] theorem isAgg136 : isAggT Try.prog 136 = some true := by kernel_rfl
@[go_sem] theorem ok136 : tyOk Try.prog 136 = true := by kernel_rfl
@[go_sem] theorem bytes136 : Try.prog.bytesOf 136 = 0 := by kernel_rfl
@[go_sem] theorem zero136 : zeroOf Try.prog 136 = some (.p (.agg [])) := by kernel_rfl
@[go_sem] theorem zeroLen136 : appendA.zeroLen Try.prog 136 = 0 := by kernel_rfl
@[go_sem] theorem build136 (parts : List (Nat × AV)) : buildA Try.prog 136 parts = (fillG (fun j => [(0, 0)][j]?) [] parts).map mkAgg :=
  buildA_eq _ _ zero136 rfl (by kernel_rfl) (by kernel_rfl) (by funext j; exact placesA_eq _ _ (by kernel_rfl) j)
attribute [go_sem] Try.underlying137
@[go_sem] theorem cellsOf137 : Try.prog.cellsOf 137 = 0 := by kernel_rfl
@[go_sem] theorem isAgg137 : isAggT Try.prog 137 = some true := by kernel_rfl
@[go_sem] theorem ok137 : tyOk Try.prog 137 = true := by kernel_rfl
@[go_sem] theorem bytes137 : Try.prog.bytesOf 137 = 0 := by kernel_rfl
@[go_sem] theorem zero137 : zeroOf Try.prog 137 = some (.p (.agg [])) := by kernel_rfl
@[go_sem] theorem zeroLen137 : appendA.zeroLen Try.prog 137 = 0 := by kernel_rfl
@[go_sem] theorem build137 (parts : List (Nat × AV)) : buildA Try.prog 137 parts = (fillG (fun j => [(0, 0)][j]?) [] parts).map mkAgg :=
  buildA_eq _ _ zero137 rfl (by kernel_rfl) (by kernel_rfl) (by funext j; exact placesA_eq _ _ (by kernel_rfl) j)
attribute [go_sem] Try.underlying138
@[go_sem] theorem cellsOf138 : Try.prog.cellsOf 138 = 1 := by kernel_rfl
@[go_sem] theorem isAgg138 : isAggT Try.prog 138 = some false := by kernel_rfl
@[go_sem] theorem ok138 : tyOk Try.prog 138 = true := by kernel_rfl
@[go_sem] theorem bytes138 : Try.prog.bytesOf 138 = 1 := by kernel_rfl
@[go_sem] theorem zero138 : zeroOf Try.prog 138 = some (.p (.int .u8 0)) := by kernel_rfl
@[go_sem] theorem zeroLen138 : appendA.zeroLen Try.prog 138 = 1 := by kernel_rfl
@[go_sem] theorem eqI138 (d : Nat) (k k' : IntKind) (a b : Int) : eqT Try.prog (d + 1) 138 [.int k a] [.int k' b] = if k = k' then some (a == b) else none := eqT_int _ Try.underlying138 d k k' a b
attribute [go_sem] Try.underlying139
@[go_sem] theorem cellsOf139 : Try.prog.cellsOf 139 = 1 := by kernel_rfl
@[go_sem] theorem isAgg139 : isAggT Try.prog 139 = some false := by kernel_rfl
@[go_sem] theorem ok139 : tyOk Try.prog 139 = true := by kernel_rfl
@[go_sem] theorem bytes139 : Try.prog.bytesOf 139 = 1 := by kernel_rfl
@[go_sem] theorem zero139 : zeroOf Try.prog 139 = some (.p (.int .u8 0)) := by kernel_rfl
@[go_sem] theorem zeroLen139 : appendA.zeroLen Try.prog 139 = 1 := by kernel_rfl
@[go_sem] theorem eqI139 (d : Nat) (k k' : IntKind) (a b : Int) : eqT Try.prog (d + 1) 139 [.int k a] [.int k' b] = if k = k' then some (a == b) else none := eqT_int _ Try.underlying139 d k k' a b
attribute [go_sem] Try.underlying140
@[go_sem] theorem cellsOf140 : Try.prog.cellsOf 140 = 1 := by kernel_rfl
@[go_sem] theorem isAgg140 : isAggT Try.prog 140 = some false := by kernel_rfl
@[go_sem] theorem ok140 : tyOk Try.prog 140 = true := by kernel_rfl
@[go_sem] theorem bytes140 : Try.prog.bytesOf 140 = 8 := by kernel_rfl
@[go_sem] theorem zero140 : zeroOf Try.prog 140 = some (.p .nilf) := by kernel_rfl
@[go_sem] theorem zeroLen140 : appendA.zeroLen Try.prog 140 = 1 := by kernel_rfl
attribute [go_sem] Try.underlying141
@[go_sem] theorem cellsOf141 : Try.prog.cellsOf 141 = 1 := by kernel_rfl
@[go_sem] theorem isAgg141 : isAggT Try.prog 141 = some false := by kernel_rfl
@[go_sem] theorem ok141 : tyOk Try.prog 141 = true := by kernel_rfl
@[go_sem] theorem bytes141 : Try.prog.bytesOf 141 = 4 := by kernel_rfl
@[go_sem] theorem zero141 : zeroOf Try.prog 141 = some (.p (.int .i32 0)) := by kernel_rfl
@[go_sem] theorem zeroLen141 : appendA.zeroLen Try.prog 141 = 1 := by kernel_rfl
@[go_sem] theorem eqI141 (d : Nat) (k k' : IntKind) (a b : Int) : eqT Try.prog (d + 1) 141 [.int k a] [.int k' b] = if k = k' then some (a == b) else none := eqT_int _ Try.underlying141 d k k' a b
attribute [go_sem] Try.underlying142
@[go_sem] theorem cellsOf142 : Try.prog.cellsOf 142 = 1 := by kernel_rfl
@[go_sem] theorem isAgg142 : isAggT Try.prog 142 = some false := by kernel_rfl
@[go_sem] theorem ok142 : tyOk Try.prog 142 = true := by kernel_rfl
@[go_sem] theorem bytes142 : Try.prog.bytesOf 142 = 4 := by kernel_rfl
@[go_sem] theorem zero142 : zeroOf Try.prog 142 = some (.p (.int .i32 0)) := by kernel_rfl
@[go_sem] theorem zeroLen142 : appendA.zeroLen Try.prog 142 = 1 := by kernel_rfl
@[go_sem] theorem eqI142 (d : Nat) (k k' : IntKind) (a b : Int) : eqT Try.prog (d + 1) 142 [.int k a] [.int k' b] = if k = k' then some (a == b) else none := eqT_int _ Try.underlying142 d k k' a b
attribute [go_sem] Try.underlying143
@[go_sem] theorem cellsOf143 : Try.prog.cellsOf 143 = 11 := by kernel_rfl
@[go_sem] theorem isAgg143 : isAggT Try.prog 143 = some true := by kernel_rfl
@[go_sem] theorem ok143 : tyOk Try.prog 143 = true := by kernel_rfl
@[go_sem] theorem bytes143 : Try.prog.bytesOf 143 = 48 := by kernel_rfl
@[go_sem] theorem zero143 : zeroOf Try.prog 143 = some (.p (.agg [(.int .u64 0), (.int .u64 0), (.int .u32 0), (.int .u8 0), (.int .u8 0), (.int .u8 0), (.int .u8 0), .nilf, .nilp, (.int .i32 0), (.int .i32 0)])) := by kernel_rfl
@[go_sem] theorem zeroLen143 : appendA.zeroLen Try.prog 143 = 11 := by kernel_rfl
@[go_sem] theorem field143_0 : fieldOff Try.prog 143 0 = some 0 := by kernel_rfl
@[go_sem] theorem field143_1 : fieldOff Try.prog 143 1 = some 1 := by kernel_rfl
@[go_sem] theorem field143_2 : fieldOff Try.prog 143 2 = some 2 := by kernel_rfl
@[go_sem] theorem field143_3 : fieldOff Try.prog 143 3 = some 3 := by kernel_rfl
@[go_sem] theorem field143_4 : fieldOff Try.prog 143 4 = some 4 := by kernel_rfl
@[go_sem] theorem field143_5 : fieldOff Try.prog 143 5 = some 5 := by kernel_rfl
@[go_sem] theorem field143_6 : fieldOff Try.prog 143 6 = some 6 := by kernel_rfl
@[go_sem] theorem field143_7 : fieldOff Try.prog 143 7 = some 7 := by kernel_rfl
@[go_sem] theorem field143_8 : fieldOff Try.prog 143 8 = some 8 := by kernel_rfl
@[go_sem] theorem field143_9 : fieldOff Try.prog 143 9 = some 9 := by kernel_rfl
@[go_sem] theorem field143_10 : fieldOff Try.prog 143 10 = some 10 := by kernel_rfl
@[go_sem] theorem build143 (parts : List (Nat × AV)) : buildA Try.prog 143 parts = (fillG (fun j => [(0, 1), (1, 1), (2, 1), (3, 1), (4, 1), (5, 1), (6, 1), (7, 1), (8, 1), (9, 1), (10, 1)][j]?) [.p (.int .u64 0), .p (.int .u64 0), .p (.int .u32 0), .p (.int .u8 0), .p (.int .u8 0), .p (.int .u8 0), .p (.int .u8 0), .p .nilf, .p .nilp, .p (.int .i32 0), .p (.int .i32 0)] parts).map mkAgg :=
  buildA_eq _ _ zero143 rfl (by kernel_rfl) (by kernel_rfl) (by funext j; exact placesA_eq _ _ (by kernel_rfl) j)
attribute [go_sem] Try.underlying144
@[go_sem] theorem cellsOf144 : Try.prog.cellsOf 144 = 11 := by kernel_rfl
@[go_sem] theorem isAgg144 : isAggT Try.prog 144 = some true := by kernel_rfl
@[go_sem] theorem ok144 : tyOk Try.prog 144 = true := by kernel_rfl
@[go_sem] theorem bytes144 : Try.prog.bytesOf 144 = 48 := by kernel_rfl
@[go_sem] theorem zero144 : zeroOf Try.prog 144 = some (.p (.agg [(.int .u64 0), (.int .u64 0), (.int .u32 0), (.int .u8 0), (.int .u8 0), (.int .u8 0), (.int .u8 0), .nilf, .nilp, (.int .i32 0), (.int .i32 0)])) := by kernel_rfl
@[go_sem] theorem zeroLen144 : appendA.zeroLen Try.prog 144 = 11 := by kernel_rfl
@[go_sem] theorem field144_0 : fieldOff Try.prog 144 0 = some 0 := by kernel_rfl
@[go_sem] theorem field144_1 : fieldOff Try.prog 144 1 = some 1 := by kernel_rfl
@[go_sem] theorem field144_2 : fieldOff Try.prog 144 2 = some 2 := by kernel_rfl
@[go_sem] theorem field144_3 : fieldOff Try.prog 144 3 = some 3 := by kernel_rfl
@[go_sem] theorem field144_4 : fieldOff Try.prog 144 4 = some 4 := by kernel_rfl
@[go_sem] theorem field144_5 : fieldOff Try.prog 144 5 = some 5 := by kernel_rfl
@[go_sem] theorem field144_6 : fieldOff Try.prog 144 6 = some 6 := by kernel_rfl
@[go_sem] theorem field144_7 : fieldOff Try.prog 144 7 = some 7 := by kernel_rfl
@[go_sem] theorem field144_8 : fieldOff Try.prog 144 8 = some 8 := by kernel_rfl
@[go_sem] theorem field144_9 : fieldOff Try.prog 144 9 = some 9 := by kernel_rfl
@[go_sem] theorem field144_10 : fieldOff Try.prog 144 10 = some 10 := by kernel_rfl
@[go_sem] theorem build144 (parts : List (Nat × AV)) : buildA Try.prog 144 parts = (fillG (fun j => [(0, 1), (1, 1), (2, 1), (3, 1), (4, 1), (5, 1), (6, 1), (7, 1), (8, 1), (9, 1), (10, 1)][j]?) [.p (.int .u64 0), .p (.int .u64 0), .p (.int .u32 0), .p (.int .u8 0), .p (.int .u8 0), .p (.int .u8 0), .p (.int .u8 0), .p .nilf, .p .nilp, .p (.int .i32 0), .p (.int .i32 0)] parts).map mkAgg :=
  buildA_eq _ _ zero144 rfl (by kernel_rfl) (by kernel_rfl) (by funext j; exact placesA_eq _ _ (by kernel_rfl) j)
end Go.Proofs.Ytbiklagfjeileaa.Ty
