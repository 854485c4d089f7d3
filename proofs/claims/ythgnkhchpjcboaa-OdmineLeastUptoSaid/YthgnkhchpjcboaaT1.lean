/- What the logic asks of the types of the translation. -/
import Derived.Test.YthgnkhchpjcboaaProg
import Derived.KernelRfl
import Derived.Test.YthgnkhchpjcboaaA2
/- What the abstract logic asks of the types of the translation; printed by a program of our own (tyfacts.py). -/
namespace Go.Proofs.Ythgnkhchpjcboaa.Ty
open Go Go.Ab
set_option linter.unusedVariables false

attribute [go_sem] Try.underlying1
@[go_sem] theorem cellsOf1 : Try.prog.cellsOf 1 = 1 := by kernel_rfl
@[go_sem] theorem isAgg1 : isAggT Try.prog 1 = some false := by kernel_rfl
@[go_sem] theorem ok1 : tyOk Try.prog 1 = true := by kernel_rfl
@[go_sem] theorem bytes1 : Try.prog.bytesOf 1 = 8 := by kernel_rfl
@[go_sem] theorem zero1 : zeroOf Try.prog 1 = some (.p .nilf) := by kernel_rfl
@[go_sem] theorem zeroLen1 : appendA.zeroLen Try.prog 1 = 1 := by kernel_rfl
attribute [go_sem] Try.underlying2
@[go_sem] theorem cellsOf2 : Try.prog.cellsOf 2 = 1 := by kernel_rfl
@[go_sem] theorem isAgg2 : isAggT Try.prog 2 = some false := by kernel_rfl
@[go_sem] theorem ok2 : tyOk Try.prog 2 = true := by kernel_rfl
@[go_sem] theorem bytes2 : Try.prog.bytesOf 2 = 8 := by kernel_rfl
@[go_sem] theorem zero2 : zeroOf Try.prog 2 = some (.p (.int .i64 0)) := by kernel_rfl
@[go_sem] theorem zeroLen2 : appendA.zeroLen Try.prog 2 = 1 := by kernel_rfl
@[go_sem] theorem eqI2 (d : Nat) (k k' : IntKind) (a b : Int) : eqT Try.prog (d + 1) 2 [.int k a] [.int k' b] = if k = k' then some (a == b) else none := eqT_int _ Try.underlying2 d k k' a b
attribute [go_sem] Try.underlying3
@[go_sem] theorem cellsOf3 : Try.prog.cellsOf 3 = 1 := by kernel_rfl
@[go_sem] theorem isAgg3 : isAggT Try.prog 3 = some false := by kernel_rfl
@[go_sem] theorem ok3 : tyOk Try.prog 3 = true := by kernel_rfl
@[go_sem] theorem bytes3 : Try.prog.bytesOf 3 = 8 := by kernel_rfl
@[go_sem] theorem zero3 : zeroOf Try.prog 3 = some (.p (.int .i64 0)) := by kernel_rfl
@[go_sem] theorem zeroLen3 : appendA.zeroLen Try.prog 3 = 1 := by kernel_rfl
@[go_sem] theorem eqI3 (d : Nat) (k k' : IntKind) (a b : Int) : eqT Try.prog (d + 1) 3 [.int k a] [.int k' b] = if k = k' then some (a == b) else none := eqT_int _ Try.underlying3 d k k' a b
attribute [go_sem] Try.underlying4
@[go_sem] theorem cellsOf4 : Try.prog.cellsOf 4 = 1 := by kernel_rfl
@[go_sem] theorem isAgg4 : isAggT Try.prog 4 = some false := by kernel_rfl
@[go_sem] theorem ok4 : tyOk Try.prog 4 = true := by kernel_rfl
@[go_sem] theorem bytes4 : Try.prog.bytesOf 4 = 1 := by kernel_rfl
@[go_sem] theorem zero4 : zeroOf Try.prog 4 = some (.p (.bool false)) := by kernel_rfl
@[go_sem] theorem zeroLen4 : appendA.zeroLen Try.prog 4 = 1 := by kernel_rfl
@[go_sem] theorem eqI4 (d : Nat) (a b : Bool) : eqT Try.prog (d + 1) 4 [.bool a] [.bool b] = some (a == b) := eqT_bool _ Try.underlying4 d a b
attribute [go_sem] Try.underlying5
@[go_sem] theorem cellsOf5 : Try.prog.cellsOf 5 = 1 := by kernel_rfl
@[go_sem] theorem isAgg5 : isAggT Try.prog 5 = some false := by kernel_rfl
@[go_sem] theorem ok5 : tyOk Try.prog 5 = true := by kernel_rfl
@[go_sem] theorem bytes5 : Try.prog.bytesOf 5 = 1 := by kernel_rfl
@[go_sem] theorem zero5 : zeroOf Try.prog 5 = some (.p (.int .u8 0)) := by kernel_rfl
@[go_sem] theorem zeroLen5 : appendA.zeroLen Try.prog 5 = 1 := by kernel_rfl
@[go_sem] theorem eqI5 (d : Nat) (k k' : IntKind) (a b : Int) : eqT Try.prog (d + 1) 5 [.int k a] [.int k' b] = if k = k' then some (a == b) else none := eqT_int _ Try.underlying5 d k k' a b
attribute [go_sem] Try.underlying6
@[go_sem] theorem cellsOf6 : Try.prog.cellsOf 6 = 1 := by kernel_rfl
@[go_sem] theorem isAgg6 : isAggT Try.prog 6 = some false := by kernel_rfl
@[go_sem] theorem ok6 : tyOk Try.prog 6 = true := by kernel_rfl
@[go_sem] theorem bytes6 : Try.prog.bytesOf 6 = 1 := by kernel_rfl
@[go_sem] theorem zero6 : zeroOf Try.prog 6 = some (.p (.int .u8 0)) := by kernel_rfl
@[go_sem] theorem zeroLen6 : appendA.zeroLen Try.prog 6 = 1 := by kernel_rfl
@[go_sem] theorem eqI6 (d : Nat) (k k' : IntKind) (a b : Int) : eqT Try.prog (d + 1) 6 [.int k a] [.int k' b] = if k = k' then some (a == b) else none := eqT_int _ Try.underlying6 d k k' a b
attribute [go_sem] Try.underlying7
@[go_sem] theorem cellsOf7 : Try.prog.cellsOf 7 = 4 := by kernel_rfl
@[go_sem] theorem isAgg7 : isAggT Try.prog 7 = some true := by kernel_rfl
@[go_sem] theorem ok7 : tyOk Try.prog 7 = true := by kernel_rfl
@[go_sem] theorem bytes7 : Try.prog.bytesOf 7 = 24 := by kernel_rfl
@[go_sem] theorem zero7 : zeroOf Try.prog 7 = some (.p (.agg [(.int .i64 0), (.int .i64 0), (.bool false), (.int .u8 0)])) := by kernel_rfl
@[go_sem] theorem zeroLen7 : appendA.zeroLen Try.prog 7 = 4 := by kernel_rfl
@[go_sem] theorem field7_0 : fieldOff Try.prog 7 0 = some 0 := by kernel_rfl
@[go_sem] theorem field7_1 : fieldOff Try.prog 7 1 = some 1 := by kernel_rfl
@[go_sem] theorem field7_2 : fieldOff Try.prog 7 2 = some 2 := by kernel_rfl
@[go_sem] theorem field7_3 : fieldOff Try.prog 7 3 = some 3 := by kernel_rfl
@[go_sem] theorem build7 (parts : List (Nat × AV)) : buildA Try.prog 7 parts = (fillG (fun j => [(0, 1), (1, 1), (2, 1), (3, 1)][j]?) [.p (.int .i64 0), .p (.int .i64 0), .p (.bool false), .p (.int .u8 0)] parts).map mkAgg :=
  buildA_eq _ _ zero7 rfl (by kernel_rfl) (by kernel_rfl) (by funext j; exact placesA_eq _ _ (by kernel_rfl) j)
@[go_sem] theorem eqS7 (d : Nat) (xs ys : List PV) : eqT Try.prog (d + 1) 7 xs ys = eqL (eqT Try.prog d) [(2, 0, 1), (3, 1, 1), (4, 2, 1), (6, 3, 1)] xs ys := eqT_struct _ (by kernel_rfl) (by kernel_rfl) (by kernel_rfl) (by kernel_rfl) d xs ys
@[go_sem] theorem eqg7 : Try.prog.eqGuardType Try.prog.depth 7 = false := by kernel_rfl
attribute [go_sem] Try.underlying8
@[go_sem] theorem cellsOf8 : Try.prog.cellsOf 8 = 4 := by kernel_rfl
@[go_sem] theorem isAgg8 : isAggT Try.prog 8 = some true := by kernel_rfl
@[go_sem] theorem ok8 : tyOk Try.prog 8 = true := by kernel_rfl
@[go_sem] theorem bytes8 : Try.prog.bytesOf 8 = 24 := by kernel_rfl
@[go_sem] theorem zero8 : zeroOf Try.prog 8 = some (.p (.agg [(.int .i64 0), (.int .i64 0), (.bool false), (.int .u8 0)])) := by kernel_rfl
@[go_sem] theorem zeroLen8 : appendA.zeroLen Try.prog 8 = 4 := by kernel_rfl
@[go_sem] theorem field8_0 : fieldOff Try.prog 8 0 = some 0 := by kernel_rfl
@[go_sem] theorem field8_1 : fieldOff Try.prog 8 1 = some 1 := by kernel_rfl
@[go_sem] theorem field8_2 : fieldOff Try.prog 8 2 = some 2 := by kernel_rfl
@[go_sem] theorem field8_3 : fieldOff Try.prog 8 3 = some 3 := by kernel_rfl
@[go_sem] theorem build8 (parts : List (Nat × AV)) : buildA Try.prog 8 parts = (fillG (fun j => [(0, 1), (1, 1), (2, 1), (3, 1)][j]?) [.p (.int .i64 0), .p (.int .i64 0), .p (.bool false), .p (.int .u8 0)] parts).map mkAgg :=
  buildA_eq _ _ zero8 rfl (by kernel_rfl) (by kernel_rfl) (by funext j; exact placesA_eq _ _ (by kernel_rfl) j)
@[go_sem] theorem eqS8 (d : Nat) (xs ys : List PV) : eqT Try.prog (d + 1) 8 xs ys = eqL (eqT Try.prog d) [(2, 0, 1), (3, 1, 1), (4, 2, 1), (6, 3, 1)] xs ys := eqT_struct _ (by kernel_rfl) (by kernel_rfl) (by kernel_rfl) (by kernel_rfl) d xs ys
@[go_sem] theorem eqg8 : Try.prog.eqGuardType Try.prog.depth 8 = false := by kernel_rfl
attribute [go_sem] Try.underlying9
@[go_sem] theorem cellsOf9 : Try.prog.cellsOf 9 = 1 := by kernel_rfl
@[go_sem] theorem isAgg9 : isAggT Try.prog 9 = some false := by kernel_rfl
@[go_sem] theorem ok9 : tyOk Try.prog 9 = true := by kernel_rfl
@[go_sem] theorem bytes9 : Try.prog.bytesOf 9 = 16 := by kernel_rfl
@[go_sem] theorem zero9 : zeroOf Try.prog 9 = some (.p (.str [])) := by kernel_rfl
@[go_sem] theorem zeroLen9 : appendA.zeroLen Try.prog 9 = 1 := by kernel_rfl
@[go_sem] theorem eqI9 (d : Nat) (a b : List UInt8) : eqT Try.prog (d + 1) 9 [.str a] [.str b] = some (a == b) := eqT_str _ Try.underlying9 d a b
attribute [go_sem] Try.underlying10
@[go_sem] theorem cellsOf10 : Try.prog.cellsOf 10 = 1 := by kernel_rfl
@[go_sem] theorem isAgg10 : isAggT Try.prog 10 = some false := by kernel_rfl
@[go_sem] theorem ok10 : tyOk Try.prog 10 = true := by kernel_rfl
@[go_sem] theorem bytes10 : Try.prog.bytesOf 10 = 16 := by kernel_rfl
@[go_sem] theorem zero10 : zeroOf Try.prog 10 = some (.p (.str [])) := by kernel_rfl
@[go_sem] theorem zeroLen10 : appendA.zeroLen Try.prog 10 = 1 := by kernel_rfl
@[go_sem] theorem eqI10 (d : Nat) (a b : List UInt8) : eqT Try.prog (d + 1) 10 [.str a] [.str b] = some (a == b) := eqT_str _ Try.underlying10 d a b
attribute [go_sem] Try.underlying11
@[go_sem] theorem cellsOf11 : Try.prog.cellsOf 11 = 1 := by kernel_rfl
@[go_sem] theorem isAgg11 : isAggT Try.prog 11 = some false := by kernel_rfl
@[go_sem] theorem ok11 : tyOk Try.prog 11 = true := by kernel_rfl
@[go_sem] theorem bytes11 : Try.prog.bytesOf 11 = 16 := by kernel_rfl
@[go_sem] theorem zero11 : zeroOf Try.prog 11 = some (.p (.str [])) := by kernel_rfl
@[go_sem] theorem zeroLen11 : appendA.zeroLen Try.prog 11 = 1 := by kernel_rfl
@[go_sem] theorem eqI11 (d : Nat) (a b : List UInt8) : eqT Try.prog (d + 1) 11 [.str a] [.str b] = some (a == b) := eqT_str _ Try.underlying11 d a b
attribute [go_sem] Try.underlying12
@[go_sem] theorem cellsOf12 : Try.prog.cellsOf 12 = 1 := by kernel_rfl
@[go_sem] theorem isAgg12 : isAggT Try.prog 12 = some false := by kernel_rfl
@[go_sem] theorem ok12 : tyOk Try.prog 12 = true := by kernel_rfl
@[go_sem] theorem bytes12 : Try.prog.bytesOf 12 = 8 := by kernel_rfl
@[go_sem] theorem zero12 : zeroOf Try.prog 12 = some (.p (.int .u64 0)) := by kernel_rfl
@[go_sem] theorem zeroLen12 : appendA.zeroLen Try.prog 12 = 1 := by kernel_rfl
@[go_sem] theorem eqI12 (d : Nat) (k k' : IntKind) (a b : Int) : eqT Try.prog (d + 1) 12 [.int k a] [.int k' b] = if k = k' then some (a == b) else none := eqT_int _ Try.underlying12 d k k' a b
attribute [go_sem] Try.underlying13
@[go_sem] theorem cellsOf13 : Try.prog.cellsOf 13 = 2 := by kernel_rfl
@[go_sem] theorem isAgg13 : isAggT Try.prog 13 = some true := by kernel_rfl
@[go_sem] theorem ok13 : tyOk Try.prog 13 = true := by kernel_rfl
@[go_sem] theorem bytes13 : Try.prog.bytesOf 13 = 24 := by kernel_rfl
@[go_sem] theorem zero13 : zeroOf Try.prog 13 = some (.p (.agg [(.str []), (.int .u64 0)])) := by kernel_rfl
@[go_sem] theorem zeroLen13 : appendA.zeroLen Try.prog 13 = 2 := by kernel_rfl
@[go_sem] theorem field13_0 : fieldOff Try.prog 13 0 = some 0 := by kernel_rfl
@[go_sem] theorem field13_1 : fieldOff Try.prog 13 1 = some 1 := by kernel_rfl
@[go_sem] theorem build13 (parts : List (Nat × AV)) : buildA Try.prog 13 parts = (fillG (fun j => [(0, 1), (1, 1)][j]?) [.p (.str []), .p (.int .u64 0)] parts).map mkAgg :=
  buildA_eq _ _ zero13 rfl (by kernel_rfl) (by kernel_rfl) (by funext j; exact placesA_eq _ _ (by kernel_rfl) j)
attribute [go_sem] Try.underlying14
@[go_sem] theorem cellsOf14 : Try.prog.cellsOf 14 = 2 := by kernel_rfl
@[go_sem] theorem isAgg14 : isAggT Try.prog 14 = some true := by kernel_rfl
@[go_sem] theorem ok14 : tyOk Try.prog 14 = true := by kernel_rfl
@[go_sem] theorem bytes14 : Try.prog.bytesOf 14 = 24 := by kernel_rfl
@[go_sem] theorem zero14 : zeroOf Try.prog 14 = some (.p (.agg [(.str []), (.int .u64 0)])) := by kernel_rfl
@[go_sem] theorem zeroLen14 : appendA.zeroLen Try.prog 14 = 2 := by kernel_rfl
@[go_sem] theorem field14_0 : fieldOff Try.prog 14 0 = some 0 := by kernel_rfl
@[go_sem] theorem field14_1 : fieldOff Try.prog 14 1 = some 1 := by kernel_rfl
@[go_sem] theorem build14 (parts : List (Nat × AV)) : buildA Try.prog 14 parts = (fillG (fun j => [(0, 1), (1, 1)][j]?) [.p (.str []), .p (.int .u64 0)] parts).map mkAgg :=
  buildA_eq _ _ zero14 rfl (by kernel_rfl) (by kernel_rfl) (by funext j; exact placesA_eq _ _ (by kernel_rfl) j)
attribute [go_sem] Try.underlying15
@[go_sem] theorem cellsOf15 : Try.prog.cellsOf 15 = 1 := by kernel_rfl
@[go_sem] theorem isAgg15 : isAggT Try.prog 15 = some false := by kernel_rfl
@[go_sem] theorem ok15 : tyOk Try.prog 15 = true := by kernel_rfl
@[go_sem] theorem bytes15 : Try.prog.bytesOf 15 = 8 := by kernel_rfl
@[go_sem] theorem zero15 : zeroOf Try.prog 15 = some (.p .nilp) := by kernel_rfl
@[go_sem] theorem zeroLen15 : appendA.zeroLen Try.prog 15 = 1 := by kernel_rfl
attribute [go_sem] Try.underlying16
@[go_sem] theorem cellsOf16 : Try.prog.cellsOf 16 = 1 := by kernel_rfl
@[go_sem] theorem isAgg16 : isAggT Try.prog 16 = some false := by kernel_rfl
@[go_sem] theorem ok16 : tyOk Try.prog 16 = true := by kernel_rfl
@[go_sem] theorem bytes16 : Try.prog.bytesOf 16 = 8 := by kernel_rfl
@[go_sem] theorem zero16 : zeroOf Try.prog 16 = some (.p .nilp) := by kernel_rfl
@[go_sem] theorem zeroLen16 : appendA.zeroLen Try.prog 16 = 1 := by kernel_rfl
attribute [go_sem] Try.underlying17
@[go_sem] theorem cellsOf17 : Try.prog.cellsOf 17 = 1 := by kernel_rfl
@[go_sem] theorem isAgg17 : isAggT Try.prog 17 = some false := by kernel_rfl
@[go_sem] theorem ok17 : tyOk Try.prog 17 = true := by kernel_rfl
@[go_sem] theorem bytes17 : Try.prog.bytesOf 17 = 8 := by kernel_rfl
@[go_sem] theorem zero17 : zeroOf Try.prog 17 = some (.p .nilp) := by kernel_rfl
@[go_sem] theorem zeroLen17 : appendA.zeroLen Try.prog 17 = 1 := by kernel_rfl
attribute [go_sem] Try.underlying18
@[go_sem] theorem cellsOf18 : Try.prog.cellsOf 18 = 1 := by kernel_rfl
@[go_sem] theorem isAgg18 : isAggT Try.prog 18 = some true := by kernel_rfl
@[go_sem] theorem ok18 : tyOk Try.prog 18 = true := by kernel_rfl
@[go_sem] theorem bytes18 : Try.prog.bytesOf 18 = 8 := by kernel_rfl
@[go_sem] theorem zero18 : zeroOf Try.prog 18 = some (.p (.agg [.nilp])) := by kernel_rfl
@[go_sem] theorem zeroLen18 : appendA.zeroLen Try.prog 18 = 1 := by kernel_rfl
@[go_sem] theorem field18_0 : fieldOff Try.prog 18 0 = some 0 := by kernel_rfl
@[go_sem] theorem build18 (parts : List (Nat × AV)) : buildA Try.prog 18 parts = (fillG (fun j => [(0, 1)][j]?) [.p .nilp] parts).map mkAgg :=
  buildA_eq _ _ zero18 rfl (by kernel_rfl) (by kernel_rfl) (by funext j; exact placesA_eq _ _ (by kernel_rfl) j)
attribute [go_sem] Try.underlying19
@[go_sem] theorem cellsOf19 : Try.prog.cellsOf 19 = 1 := by kernel_rfl
@[go_sem] theorem isAgg19 : isAggT Try.prog 19 = some true := by kernel_rfl
@[go_sem] theorem ok19 : tyOk Try.prog 19 = true := by kernel_rfl
@[go_sem] theorem bytes19 : Try.prog.bytesOf 19 = 8 := by kernel_rfl
@[go_sem] theorem zero19 : zeroOf Try.prog 19 = some (.p (.agg [.nilp])) := by kernel_rfl
@[go_sem] theorem zeroLen19 : appendA.zeroLen Try.prog 19 = 1 := by kernel_rfl
@[go_sem] theorem field19_0 : fieldOff Try.prog 19 0 = some 0 := by kernel_rfl
@[go_sem] theorem build19 (parts : List (Nat × AV)) : buildA Try.prog 19 parts = (fillG (fun j => [(0, 1)][j]?) [.p .nilp] parts).map mkAgg :=
  buildA_eq _ _ zero19 rfl (by kernel_rfl) (by kernel_rfl) (by funext j; exact placesA_eq _ _ (by kernel_rfl) j)
attribute [go_sem] Try.underlying20
@[go_sem] theorem cellsOf20 : Try.prog.cellsOf 20 = 1 := by kernel_rfl
@[go_sem] theorem isAgg20 : isAggT Try.prog 20 = some false := by kernel_rfl
@[go_sem] theorem ok20 : tyOk Try.prog 20 = true := by kernel_rfl
@[go_sem] theorem bytes20 : Try.prog.bytesOf 20 = 16 := by kernel_rfl
@[go_sem] theorem zero20 : zeroOf Try.prog 20 = some (.p .nili) := by kernel_rfl
@[go_sem] theorem zeroLen20 : appendA.zeroLen Try.prog 20 = 1 := by kernel_rfl
attribute [go_sem] Try.underlying21
@[go_sem] theorem cellsOf21 : Try.prog.cellsOf 21 = 1 := by kernel_rfl
@[go_sem] theorem isAgg21 : isAggT Try.prog 21 = some false := by kernel_rfl
@[go_sem] theorem ok21 : tyOk Try.prog 21 = true := by kernel_rfl
@[go_sem] theorem bytes21 : Try.prog.bytesOf 21 = 4 := by kernel_rfl
@[go_sem] theorem zero21 : zeroOf Try.prog 21 = some (.p (.int .i32 0)) := by kernel_rfl
@[go_sem] theorem zeroLen21 : appendA.zeroLen Try.prog 21 = 1 := by kernel_rfl
@[go_sem] theorem eqI21 (d : Nat) (k k' : IntKind) (a b : Int) : eqT Try.prog (d + 1) 21 [.int k a] [.int k' b] = if k = k' then some (a == b) else none := eqT_int _ Try.underlying21 d k k' a b
attribute [go_sem] Try.underlying22
@[go_sem] theorem cellsOf22 : Try.prog.cellsOf 22 = 1 := by kernel_rfl
@[go_sem] theorem isAgg22 : isAggT Try.prog 22 = some false := by kernel_rfl
@[go_sem] theorem ok22 : tyOk Try.prog 22 = true := by kernel_rfl
@[go_sem] theorem bytes22 : Try.prog.bytesOf 22 = 24 := by kernel_rfl
@[go_sem] theorem zero22 : zeroOf Try.prog 22 = some (.nils) := by kernel_rfl
@[go_sem] theorem zeroLen22 : appendA.zeroLen Try.prog 22 = 1 := by kernel_rfl
attribute [go_sem] Try.underlying23
@[go_sem] theorem cellsOf23 : Try.prog.cellsOf 23 = 1 := by kernel_rfl
@[go_sem] theorem isAgg23 : isAggT Try.prog 23 = some false := by kernel_rfl
@[go_sem] theorem ok23 : tyOk Try.prog 23 = true := by kernel_rfl
@[go_sem] theorem bytes23 : Try.prog.bytesOf 23 = 24 := by kernel_rfl
@[go_sem] theorem zero23 : zeroOf Try.prog 23 = some (.nils) := by kernel_rfl
@[go_sem] theorem zeroLen23 : appendA.zeroLen Try.prog 23 = 1 := by kernel_rfl
attribute [go_sem] Try.underlying24
@[go_sem] theorem cellsOf24 : Try.prog.cellsOf 24 = 3 := by kernel_rfl
@[go_sem] theorem isAgg24 : isAggT Try.prog 24 = some true := by kernel_rfl
@[go_sem] theorem ok24 : tyOk Try.prog 24 = true := by kernel_rfl
@[go_sem] theorem bytes24 : Try.prog.bytesOf 24 = 64 := by kernel_rfl
@[go_sem] theorem zero24 : zeroOf Try.prog 24 = some (.agg [.p (.str []), .nils, .nils]) := by kernel_rfl
@[go_sem] theorem zeroLen24 : appendA.zeroLen Try.prog 24 = 3 := by kernel_rfl
@[go_sem] theorem field24_0 : fieldOff Try.prog 24 0 = some 0 := by kernel_rfl
@[go_sem] theorem field24_1 : fieldOff Try.prog 24 1 = some 1 := by kernel_rfl
@[go_sem] theorem field24_2 : fieldOff Try.prog 24 2 = some 2 := by kernel_rfl
@[go_sem] theorem build24 (parts : List (Nat × AV)) : buildA Try.prog 24 parts = (fillG (fun j => [(0, 1), (1, 1), (2, 1)][j]?) [.p (.str []), .nils, .nils] parts).map mkAgg :=
  buildA_eq _ _ zero24 rfl (by kernel_rfl) (by kernel_rfl) (by funext j; exact placesA_eq _ _ (by kernel_rfl) j)
attribute [go_sem] Try.underlying25
@[go_sem] theorem cellsOf25 : Try.prog.cellsOf 25 = 3 := by kernel_rfl
@[go_sem] theorem isAgg25 : isAggT Try.prog 25 = some true := by kernel_rfl
@[go_sem] theorem ok25 : tyOk Try.prog 25 = true := by kernel_rfl
@[go_sem] theorem bytes25 : Try.prog.bytesOf 25 = 64 := by kernel_rfl
@[go_sem] theorem zero25 : zeroOf Try.prog 25 = some (.agg [.p (.str []), .nils, .nils]) := by kernel_rfl
@[go_sem] theorem zeroLen25 : appendA.zeroLen Try.prog 25 = 3 := by kernel_rfl
@[go_sem] theorem field25_0 : fieldOff Try.prog 25 0 = some 0 := by kernel_rfl
@[go_sem] theorem field25_1 : fieldOff Try.prog 25 1 = some 1 := by kernel_rfl
@[go_sem] theorem field25_2 : fieldOff Try.prog 25 2 = some 2 := by kernel_rfl
@[go_sem] theorem build25 (parts : List (Nat × AV)) : buildA Try.prog 25 parts = (fillG (fun j => [(0, 1), (1, 1), (2, 1)][j]?) [.p (.str []), .nils, .nils] parts).map mkAgg :=
  buildA_eq _ _ zero25 rfl (by kernel_rfl) (by kernel_rfl) (by funext j; exact placesA_eq _ _ (by kernel_rfl) j)
attribute [go_sem] Try.underlying26
@[go_sem] theorem cellsOf26 : Try.prog.cellsOf 26 = 1 := by kernel_rfl
@[go_sem] theorem isAgg26 : isAggT Try.prog 26 = some false := by kernel_rfl
@[go_sem] theorem ok26 : tyOk Try.prog 26 = true := by kernel_rfl
@[go_sem] theorem bytes26 : Try.prog.bytesOf 26 = 8 := by kernel_rfl
@[go_sem] theorem zero26 : zeroOf Try.prog 26 = some (.p .nilf) := by kernel_rfl
@[go_sem] theorem zeroLen26 : appendA.zeroLen Try.prog 26 = 1 := by kernel_rfl
attribute [go_sem] Try.underlying27
@[go_sem] theorem cellsOf27 : Try.prog.cellsOf 27 = 1 := by kernel_rfl
@[go_sem] theorem isAgg27 : isAggT Try.prog 27 = some false := by kernel_rfl
@[go_sem] theorem ok27 : tyOk Try.prog 27 = true := by kernel_rfl
@[go_sem] theorem bytes27 : Try.prog.bytesOf 27 = 8 := by kernel_rfl
@[go_sem] theorem zero27 : zeroOf Try.prog 27 = some (.p .nilf) := by kernel_rfl
@[go_sem] theorem zeroLen27 : appendA.zeroLen Try.prog 27 = 1 := by kernel_rfl
attribute [go_sem] Try.underlying28
@[go_sem] theorem cellsOf28 : Try.prog.cellsOf 28 = 1 := by kernel_rfl
@[go_sem] theorem isAgg28 : isAggT Try.prog 28 = some false := by kernel_rfl
@[go_sem] theorem ok28 : tyOk Try.prog 28 = true := by kernel_rfl
@[go_sem] theorem bytes28 : Try.prog.bytesOf 28 = 24 := by kernel_rfl
@[go_sem] theorem zero28 : zeroOf Try.prog 28 = some (.nils) := by kernel_rfl
@[go_sem] theorem zeroLen28 : appendA.zeroLen Try.prog 28 = 1 := by kernel_rfl
attribute [go_sem] Try.underlying29
@[go_sem] theorem cellsOf29 : Try.prog.cellsOf 29 = 1 := by kernel_rfl
@[go_sem] theorem isAgg29 : isAggT Try.prog 29 = some false := by kernel_rfl
@[go_sem] theorem ok29 : tyOk Try.prog 29 = true := by kernel_rfl
@[go_sem] theorem bytes29 : Try.prog.bytesOf 29 = 8 := by kernel_rfl
@[go_sem] theorem zero29 : zeroOf Try.prog 29 = some (.p (.int .i64 0)) := by kernel_rfl
@[go_sem] theorem zeroLen29 : appendA.zeroLen Try.prog 29 = 1 := by kernel_rfl
@[go_sem] theorem eqI29 (d : Nat) (k k' : IntKind) (a b : Int) : eqT Try.prog (d + 1) 29 [.int k a] [.int k' b] = if k = k' then some (a == b) else none := eqT_int _ Try.underlying29 d k k' a b
attribute [go_sem] Try.underlying31
@[go_sem] theorem cellsOf31 : Try.prog.cellsOf 31 = 1 := by kernel_rfl
@[go_sem] theorem isAgg31 : isAggT Try.prog 31 = some false := by kernel_rfl
@[go_sem] theorem ok31 : tyOk Try.prog 31 = true := by kernel_rfl
@[go_sem] theorem bytes31 : Try.prog.bytesOf 31 = 8 := by kernel_rfl
@[go_sem] theorem zero31 : zeroOf Try.prog 31 = some (.p .nilf) := by kernel_rfl
@[go_sem] theorem zeroLen31 : appendA.zeroLen Try.prog 31 = 1 := by kernel_rfl
attribute [go_sem] Try.underlying32
@[go_sem] theorem cellsOf32 : Try.prog.cellsOf 32 = 1 := by kernel_rfl
@[go_sem] theorem isAgg32 : isAggT Try.prog 32 = some false := by kernel_rfl
@[go_sem] theorem ok32 : tyOk Try.prog 32 = true := by kernel_rfl
@[go_sem] theorem bytes32 : Try.prog.bytesOf 32 = 8 := by kernel_rfl
@[go_sem] theorem zero32 : zeroOf Try.prog 32 = some (.p .nilf) := by kernel_rfl
@[go_sem] theorem zeroLen32 : appendA.zeroLen Try.prog 32 = 1 := by kernel_rfl
attribute [go_sem] Try.underlying33
@[go_sem] theorem cellsOf33 : Try.prog.cellsOf 33 = 1 := by kernel_rfl
@[go_sem] theorem isAgg33 : isAggT Try.prog 33 = some false := by kernel_rfl
@[go_sem] theorem ok33 : tyOk Try.prog 33 = true := by kernel_rfl
@[go_sem] theorem bytes33 : Try.prog.bytesOf 33 = 24 := by kernel_rfl
@[go_sem] theorem zero33 : zeroOf Try.prog 33 = some (.nils) := by kernel_rfl
@[go_sem] theorem zeroLen33 : appendA.zeroLen Try.prog 33 = 1 := by kernel_rfl
attribute [go_sem] Try.underlying34
@[go_sem] theorem cellsOf34 : Try.prog.cellsOf 34 = 3 := by kernel_rfl
@[go_sem] theorem isAgg34 : isAggT Try.prog 34 = some true := by kernel_rfl
@[go_sem] theorem ok34 : tyOk Try.prog 34 = true := by kernel_rfl
@[go_sem] theorem bytes34 : Try.prog.bytesOf 34 = 32 := by kernel_rfl
@[go_sem] theorem zero34 : zeroOf Try.prog 34 = some (.agg [.p (.int .u8 0), .p (.int .u8 0), .nils]) := by kernel_rfl
@[go_sem] theorem zeroLen34 : appendA.zeroLen Try.prog 34 = 3 := by kernel_rfl
@[go_sem] theorem field34_0 : fieldOff Try.prog 34 0 = some 0 := by kernel_rfl
@[go_sem] theorem field34_1 : fieldOff Try.prog 34 1 = some 1 := by kernel_rfl
@[go_sem] theorem field34_2 : fieldOff Try.prog 34 2 = some 2 := by kernel_rfl
@[go_sem] theorem build34 (parts : List (Nat × AV)) : buildA Try.prog 34 parts = (fillG (fun j => [(0, 1), (1, 1), (2, 1)][j]?) [.p (.int .u8 0), .p (.int .u8 0), .nils] parts).map mkAgg :=
  buildA_eq _ _ zero34 rfl (by kernel_rfl) (by kernel_rfl) (by funext j; exact placesA_eq _ _ (by kernel_rfl) j)
attribute [go_sem] Try.underlying35
@[go_sem] theorem cellsOf35 : Try.prog.cellsOf 35 = 3 := by kernel_rfl
@[go_sem] theorem isAgg35 : isAggT Try.prog 35 = some true := by kernel_rfl
@[go_sem] theorem ok35 : tyOk Try.prog 35 = true := by kernel_rfl
@[go_sem] theorem bytes35 : Try.prog.bytesOf 35 = 32 := by kernel_rfl
@[go_sem] theorem zero35 : zeroOf Try.prog 35 = some (.agg [.p (.int .u8 0), .p (.int .u8 0), .nils]) := by kernel_rfl
@[go_sem] theorem zeroLen35 : appendA.zeroLen Try.prog 35 = 3 := by kernel_rfl
@[go_sem] theorem field35_0 : fieldOff Try.prog 35 0 = some 0 := by kernel_rfl
@[go_sem] theorem field35_1 : fieldOff Try.prog 35 1 = some 1 := by kernel_rfl
@[go_sem] theorem field35_2 : fieldOff Try.prog 35 2 = some 2 := by kernel_rfl
@[go_sem] theorem build35 (parts : List (Nat × AV)) : buildA Try.prog 35 parts = (fillG (fun j => [(0, 1), (1, 1), (2, 1)][j]?) [.p (.int .u8 0), .p (.int .u8 0), .nils] parts).map mkAgg :=
  buildA_eq _ _ zero35 rfl (by kernel_rfl) (by kernel_rfl) (by funext j; exact placesA_eq _ _ (by kernel_rfl) j)
attribute [go_sem] Try.underlying36
@[go_sem] theorem cellsOf36 : Try.prog.cellsOf 36 = 1 := by kernel_rfl
@[go_sem] theorem isAgg36 : isAggT Try.prog 36 = some false := by kernel_rfl
@[go_sem] theorem ok36 : tyOk Try.prog 36 = true := by kernel_rfl
@[go_sem] theorem bytes36 : Try.prog.bytesOf 36 = 4 := by kernel_rfl
@[go_sem] theorem zero36 : zeroOf Try.prog 36 = some (.p (.int .u32 0)) := by kernel_rfl
@[go_sem] theorem zeroLen36 : appendA.zeroLen Try.prog 36 = 1 := by kernel_rfl
@[go_sem] theorem eqI36 (d : Nat) (k k' : IntKind) (a b : Int) : eqT Try.prog (d + 1) 36 [.int k a] [.int k' b] = if k = k' then some (a == b) else none := eqT_int _ Try.underlying36 d k k' a b
attribute [go_sem] Try.underlying37
@[go_sem] theorem cellsOf37 : Try.prog.cellsOf 37 = 1 := by kernel_rfl
@[go_sem] theorem isAgg37 : isAggT Try.prog 37 = some false := by kernel_rfl
@[go_sem] theorem ok37 : tyOk Try.prog 37 = true := by kernel_rfl
@[go_sem] theorem bytes37 : Try.prog.bytesOf 37 = 4 := by kernel_rfl
@[go_sem] theorem zero37 : zeroOf Try.prog 37 = some (.p (.int .u32 0)) := by kernel_rfl
@[go_sem] theorem zeroLen37 : appendA.zeroLen Try.prog 37 = 1 := by kernel_rfl
@[go_sem] theorem eqI37 (d : Nat) (k k' : IntKind) (a b : Int) : eqT Try.prog (d + 1) 37 [.int k a] [.int k' b] = if k = k' then some (a == b) else none := eqT_int _ Try.underlying37 d k k' a b
attribute [go_sem] Try.underlying39
@[go_sem] theorem cellsOf39 : Try.prog.cellsOf 39 = 1 := by kernel_rfl
@[go_sem] theorem isAgg39 : isAggT Try.prog 39 = some false := by kernel_rfl
@[go_sem] theorem ok39 : tyOk Try.prog 39 = true := by kernel_rfl
@[go_sem] theorem bytes39 : Try.prog.bytesOf 39 = 8 := by kernel_rfl
@[go_sem] theorem zero39 : zeroOf Try.prog 39 = some (.p .nilf) := by kernel_rfl
@[go_sem] theorem zeroLen39 : appendA.zeroLen Try.prog 39 = 1 := by kernel_rfl
attribute [go_sem] Try.underlying40
@[go_sem] theorem cellsOf40 : Try.prog.cellsOf 40 = 1 := by kernel_rfl
@[go_sem] theorem isAgg40 : isAggT Try.prog 40 = some false := by kernel_rfl
@[go_sem] theorem ok40 : tyOk Try.prog 40 = true := by kernel_rfl
@[go_sem] theorem bytes40 : Try.prog.bytesOf 40 = 8 := by kernel_rfl
@[go_sem] theorem zero40 : zeroOf Try.prog 40 = some (.p .nilf) := by kernel_rfl
@[go_sem] theorem zeroLen40 : appendA.zeroLen Try.prog 40 = 1 := by kernel_rfl
attribute [go_sem] Try.underlying41
@[go_sem] theorem cellsOf41 : Try.prog.cellsOf 41 = 1 := by kernel_rfl
@[go_sem] theorem isAgg41 : isAggT Try.prog 41 = some false := by kernel_rfl
@[go_sem] theorem ok41 : tyOk Try.prog 41 = true := by kernel_rfl
@[go_sem] theorem bytes41 : Try.prog.bytesOf 41 = 24 := by kernel_rfl
@[go_sem] theorem zero41 : zeroOf Try.prog 41 = some (.nils) := by kernel_rfl
@[go_sem] theorem zeroLen41 : appendA.zeroLen Try.prog 41 = 1 := by kernel_rfl
attribute [go_sem] Try.underlying42
@[go_sem] theorem cellsOf42 : Try.prog.cellsOf 42 = 2 := by kernel_rfl
@[go_sem] theorem isAgg42 : isAggT Try.prog 42 = some true := by kernel_rfl
@[go_sem] theorem ok42 : tyOk Try.prog 42 = true := by kernel_rfl
@[go_sem] theorem bytes42 : Try.prog.bytesOf 42 = 32 := by kernel_rfl
@[go_sem] theorem zero42 : zeroOf Try.prog 42 = some (.agg [.p (.int .i64 0), .nils]) := by kernel_rfl
@[go_sem] theorem zeroLen42 : appendA.zeroLen Try.prog 42 = 2 := by kernel_rfl
@[go_sem] theorem field42_0 : fieldOff Try.prog 42 0 = some 0 := by kernel_rfl
@[go_sem] theorem field42_1 : fieldOff Try.prog 42 1 = some 1 := by kernel_rfl
@[go_sem] theorem build42 (parts : List (Nat × AV)) : buildA Try.prog 42 parts = (fillG (fun j => [(0, 1), (1, 1)][j]?) [.p (.int .i64 0), .nils] parts).map mkAgg :=
  buildA_eq _ _ zero42 rfl (by kernel_rfl) (by kernel_rfl) (by funext j; exact placesA_eq _ _ (by kernel_rfl) j)
attribute [go_sem] Try.underlying43
@[go_sem] theorem cellsOf43 : Try.prog.cellsOf 43 = 2 := by kernel_rfl
@[go_sem] theorem isAgg43 : isAggT Try.prog 43 = some true := by kernel_rfl
@[go_sem] theorem ok43 : tyOk Try.prog 43 = true := by kernel_rfl
@[go_sem] theorem bytes43 : Try.prog.bytesOf 43 = 32 := by kernel_rfl
@[go_sem] theorem zero43 : zeroOf Try.prog 43 = some (.agg [.p (.int .i64 0), .nils]) := by kernel_rfl
@[go_sem] theorem zeroLen43 : appendA.zeroLen Try.prog 43 = 2 := by kernel_rfl
@[go_sem] theorem field43_0 : fieldOff Try.prog 43 0 = some 0 := by kernel_rfl
@[go_sem] theorem field43_1 : fieldOff Try.prog 43 1 = some 1 := by kernel_rfl
@[go_sem] theorem build43 (parts : List (Nat × AV)) : buildA Try.prog 43 parts = (fillG (fun j => [(0, 1), (1, 1)][j]?) [.p (.int .i64 0), .nils] parts).map mkAgg :=
  buildA_eq _ _ zero43 rfl (by kernel_rfl) (by kernel_rfl) (by funext j; exact placesA_eq _ _ (by kernel_rfl) j)
attribute [go_sem] Try.underlying44
@[go_sem] theorem cellsOf44 : Try.prog.cellsOf 44 = 1 := by kernel_rfl
@[go_sem] theorem isAgg44 : isAggT Try.prog 44 = some false := by kernel_rfl
@[go_sem] theorem ok44 : tyOk Try.prog 44 = true := by kernel_rfl
@[go_sem] theorem bytes44 : Try.prog.bytesOf 44 = 8 := by kernel_rfl
@[go_sem] theorem zero44 : zeroOf Try.prog 44 = some (.p .nilf) := by kernel_rfl
@[go_sem] theorem zeroLen44 : appendA.zeroLen Try.prog 44 = 1 := by kernel_rfl
attribute [go_sem] Try.underlying45
@[go_sem] theorem cellsOf45 : Try.prog.cellsOf 45 = 1 := by kernel_rfl
@[go_sem] theorem isAgg45 : isAggT Try.prog 45 = some false := by kernel_rfl
@[go_sem] theorem ok45 : tyOk Try.prog 45 = true := by kernel_rfl
@[go_sem] theorem bytes45 : Try.prog.bytesOf 45 = 8 := by kernel_rfl
@[go_sem] theorem zero45 : zeroOf Try.prog 45 = some (.p .nilf) := by kernel_rfl
@[go_sem] theorem zeroLen45 : appendA.zeroLen Try.prog 45 = 1 := by kernel_rfl
attribute [go_sem] Try.underlying46
@[go_sem] theorem cellsOf46 : Try.prog.cellsOf 46 = 1 := by kernel_rfl
@[go_sem] theorem isAgg46 : isAggT Try.prog 46 = some false := by kernel_rfl
@[go_sem] theorem ok46 : tyOk Try.prog 46 = true := by kernel_rfl
@[go_sem] theorem bytes46 : Try.prog.bytesOf 46 = 8 := by kernel_rfl
@[go_sem] theorem zero46 : zeroOf Try.prog 46 = some (.p .nilf) := by kernel_rfl
@[go_sem] theorem zeroLen46 : appendA.zeroLen Try.prog 46 = 1 := by kernel_rfl
attribute [go_sem] Try.underlying47
@[go_sem] theorem cellsOf47 : Try.prog.cellsOf 47 = 1 := by kernel_rfl
@[go_sem] theorem isAgg47 : isAggT Try.prog 47 = some false := by kernel_rfl
@[go_sem] theorem ok47 : tyOk Try.prog 47 = true := by kernel_rfl
@[go_sem] theorem bytes47 : Try.prog.bytesOf 47 = 24 := by kernel_rfl
@[go_sem] theorem zero47 : zeroOf Try.prog 47 = some (.nils) := by kernel_rfl
@[go_sem] theorem zeroLen47 : appendA.zeroLen Try.prog 47 = 1 := by kernel_rfl
attribute [go_sem] Try.underlying49
@[go_sem] theorem cellsOf49 : Try.prog.cellsOf 49 = 1 := by kernel_rfl
@[go_sem] theorem isAgg49 : isAggT Try.prog 49 = some false := by kernel_rfl
@[go_sem] theorem ok49 : tyOk Try.prog 49 = true := by kernel_rfl
@[go_sem] theorem bytes49 : Try.prog.bytesOf 49 = 8 := by kernel_rfl
@[go_sem] theorem zero49 : zeroOf Try.prog 49 = some (.p .nilf) := by kernel_rfl
@[go_sem] theorem zeroLen49 : appendA.zeroLen Try.prog 49 = 1 := by kernel_rfl
attribute [go_sem] Try.underlying51
@[go_sem] theorem cellsOf51 : Try.prog.cellsOf 51 = 3 := by kernel_rfl
@[go_sem] theorem isAgg51 : isAggT Try.prog 51 = some true := by kernel_rfl
@[go_sem] theorem ok51 : tyOk Try.prog 51 = true := by kernel_rfl
@[go_sem] theorem bytes51 : Try.prog.bytesOf 51 = 24 := by kernel_rfl
@[go_sem] theorem zero51 : zeroOf Try.prog 51 = some (.p (.agg [(.int .u32 0), (.int .i64 0), (.int .i64 0)])) := by kernel_rfl
@[go_sem] theorem zeroLen51 : appendA.zeroLen Try.prog 51 = 3 := by kernel_rfl
@[go_sem] theorem field51_0 : fieldOff Try.prog 51 0 = some 0 := by kernel_rfl
@[go_sem] theorem field51_1 : fieldOff Try.prog 51 1 = some 1 := by kernel_rfl
@[go_sem] theorem field51_2 : fieldOff Try.prog 51 2 = some 2 := by kernel_rfl
@[go_sem] theorem build51 (parts : List (Nat × AV)) : buildA Try.prog 51 parts = (fillG (fun j => [(0, 1), (1, 1), (2, 1)][j]?) [.p (.int .u32 0), .p (.int .i64 0), .p (.int .i64 0)] parts).map mkAgg :=
  buildA_eq _ _ zero51 rfl (by kernel_rfl) (by kernel_rfl) (by funext j; exact placesA_eq _ _ (by kernel_rfl) j)
@[go_sem] theorem eqS51 (d : Nat) (xs ys : List PV) : eqT Try.prog (d + 1) 51 xs ys = eqL (eqT Try.prog d) [(37, 0, 1), (3, 1, 1), (3, 2, 1)] xs ys := eqT_struct _ (by kernel_rfl) (by kernel_rfl) (by kernel_rfl) (by kernel_rfl) d xs ys
@[go_sem] theorem eqg51 : Try.prog.eqGuardType Try.prog.depth 51 = false := by kernel_rfl
attribute [go_sem] Try.underlying52
@[go_sem] theorem cellsOf52 : Try.prog.cellsOf 52 = 3 := by kernel_rfl
@[go_sem] theorem isAgg52 : isAggT Try.prog 52 = some true := by kernel_rfl
@[go_sem] theorem ok52 : tyOk Try.prog 52 = true := by kernel_rfl
@[go_sem] theorem bytes52 : Try.prog.bytesOf 52 = 24 := by kernel_rfl
@[go_sem] theorem zero52 : zeroOf Try.prog 52 = some (.p (.agg [(.int .u32 0), (.int .i64 0), (.int .i64 0)])) := by kernel_rfl
@[go_sem] theorem zeroLen52 : appendA.zeroLen Try.prog 52 = 3 := by kernel_rfl
@[go_sem] theorem field52_0 : fieldOff Try.prog 52 0 = some 0 := by kernel_rfl
@[go_sem] theorem field52_1 : fieldOff Try.prog 52 1 = some 1 := by kernel_rfl
@[go_sem] theorem field52_2 : fieldOff Try.prog 52 2 = some 2 := by kernel_rfl
@[go_sem] theorem build52 (parts : List (Nat × AV)) : buildA Try.prog 52 parts = (fillG (fun j => [(0, 1), (1, 1), (2, 1)][j]?) [.p (.int .u32 0), .p (.int .i64 0), .p (.int .i64 0)] parts).map mkAgg :=
  buildA_eq _ _ zero52 rfl (by kernel_rfl) (by kernel_rfl) (by funext j; exact placesA_eq _ _ (by kernel_rfl) j)
@[go_sem] theorem eqS52 (d : Nat) (xs ys : List PV) : eqT Try.prog (d + 1) 52 xs ys = eqL (eqT Try.prog d) [(37, 0, 1), (3, 1, 1), (3, 2, 1)] xs ys := eqT_struct _ (by kernel_rfl) (by kernel_rfl) (by kernel_rfl) (by kernel_rfl) d xs ys
@[go_sem] theorem eqg52 : Try.prog.eqGuardType Try.prog.depth 52 = false := by kernel_rfl
attribute [go_sem] Try.underlying54
@[go_sem] theorem cellsOf54 : Try.prog.cellsOf 54 = 1 := by kernel_rfl
@[go_sem] theorem isAgg54 : isAggT Try.prog 54 = some false := by kernel_rfl
@[go_sem] theorem ok54 : tyOk Try.prog 54 = true := by kernel_rfl
@[go_sem] theorem bytes54 : Try.prog.bytesOf 54 = 8 := by kernel_rfl
@[go_sem] theorem zero54 : zeroOf Try.prog 54 = some (.p .nilf) := by kernel_rfl
@[go_sem] theorem zeroLen54 : appendA.zeroLen Try.prog 54 = 1 := by kernel_rfl
attribute [go_sem] Try.underlying56
@[go_sem] theorem cellsOf56 : Try.prog.cellsOf 56 = 1 := by kernel_rfl
@[go_sem] theorem isAgg56 : isAggT Try.prog 56 = some false := by kernel_rfl
@[go_sem] theorem ok56 : tyOk Try.prog 56 = true := by kernel_rfl
@[go_sem] theorem bytes56 : Try.prog.bytesOf 56 = 8 := by kernel_rfl
@[go_sem] theorem zero56 : zeroOf Try.prog 56 = some (.p .nilf) := by kernel_rfl
@[go_sem] theorem zeroLen56 : appendA.zeroLen Try.prog 56 = 1 := by kernel_rfl
attribute [go_sem] Try.underlying57
@[go_sem] theorem cellsOf57 : Try.prog.cellsOf 57 = 1 := by kernel_rfl
@[go_sem] theorem isAgg57 : isAggT Try.prog 57 = some false := by kernel_rfl
@[go_sem] theorem ok57 : tyOk Try.prog 57 = true := by kernel_rfl
@[go_sem] theorem bytes57 : Try.prog.bytesOf 57 = 8 := by kernel_rfl
@[go_sem] theorem zero57 : zeroOf Try.prog 57 = some (.p .nilf) := by kernel_rfl
@[go_sem] theorem zeroLen57 : appendA.zeroLen Try.prog 57 = 1 := by kernel_rfl
attribute [go_sem] Try.underlying58
@[go_sem] theorem cellsOf58 : Try.prog.cellsOf 58 = 1 := by kernel_rfl
@[go_sem] theorem isAgg58 : isAggT Try.prog 58 = some false := by kernel_rfl
@[go_sem] theorem ok58 : tyOk Try.prog 58 = true := by kernel_rfl
@[go_sem] theorem bytes58 : Try.prog.bytesOf 58 = 8 := by kernel_rfl
@[go_sem] theorem zero58 : zeroOf Try.prog 58 = some (.p .nilf) := by kernel_rfl
@[go_sem] theorem zeroLen58 : appendA.zeroLen Try.prog 58 = 1 := by kernel_rfl
attribute [go_sem] Try.underlying60
@[go_sem] theorem cellsOf60 : Try.prog.cellsOf 60 = 1 := by kernel_rfl
@[go_sem] theorem isAgg60 : isAggT Try.prog 60 = some false := by kernel_rfl
@[go_sem] theorem ok60 : tyOk Try.prog 60 = true := by kernel_rfl
@[go_sem] theorem bytes60 : Try.prog.bytesOf 60 = 8 := by kernel_rfl
@[go_sem] theorem zero60 : zeroOf Try.prog 60 = some (.p .nilf) := by kernel_rfl
@[go_sem] theorem zeroLen60 : appendA.zeroLen Try.prog 60 = 1 := by kernel_rfl
attribute [go_sem] Try.underlying61
@[go_sem] theorem cellsOf61 : Try.prog.cellsOf 61 = 2 := by kernel_rfl
@[go_sem] theorem isAgg61 : isAggT Try.prog 61 = some true := by kernel_rfl
@[go_sem] theorem ok61 : tyOk Try.prog 61 = true := by kernel_rfl
@[go_sem] theorem bytes61 : Try.prog.bytesOf 61 = 48 := by kernel_rfl
@[go_sem] theorem zero61 : zeroOf Try.prog 61 = some (.agg [.nils, .nils]) := by kernel_rfl
@[go_sem] theorem zeroLen61 : appendA.zeroLen Try.prog 61 = 2 := by kernel_rfl
@[go_sem] theorem field61_0 : fieldOff Try.prog 61 0 = some 0 := by kernel_rfl
@[go_sem] theorem field61_1 : fieldOff Try.prog 61 1 = some 1 := by kernel_rfl
@[go_sem] theorem build61 (parts : List (Nat × AV)) : buildA Try.prog 61 parts = (fillG (fun j => [(0, 1), (1, 1)][j]?) [.nils, .nils] parts).map mkAgg :=
  buildA_eq _ _ zero61 rfl (by kernel_rfl) (by kernel_rfl) (by funext j; exact placesA_eq _ _ (by kernel_rfl) j)
attribute [go_sem] Try.underlying62
@[go_sem] theorem cellsOf62 : Try.prog.cellsOf 62 = 2 := by kernel_rfl
@[go_sem] theorem isAgg62 : isAggT Try.prog 62 = some true := by kernel_rfl
@[go_sem] theorem ok62 : tyOk Try.prog 62 = true := by kernel_rfl
@[go_sem] theorem bytes62 : Try.prog.bytesOf 62 = 48 := by kernel_rfl
@[go_sem] theorem zero62 : zeroOf Try.prog 62 = some (.agg [.nils, .nils]) := by kernel_rfl
@[go_sem] theorem zeroLen62 : appendA.zeroLen Try.prog 62 = 2 := by kernel_rfl
@[go_sem] theorem field62_0 : fieldOff Try.prog 62 0 = some 0 := by kernel_rfl
@[go_sem] theorem field62_1 : fieldOff Try.prog 62 1 = some 1 := by kernel_rfl
@[go_sem] theorem build62 (parts : List (Nat × AV)) : buildA Try.prog 62 parts = (fillG (fun j => [(0, 1), (1, 1)][j]?) [.nils, .nils] parts).map mkAgg :=
  buildA_eq _ _ zero62 rfl (by kernel_rfl) (by kernel_rfl) (by funext j; exact placesA_eq _ _ (by kernel_rfl) j)
attribute [go_sem] Try.underlying65
@[go_sem] theorem cellsOf65 : Try.prog.cellsOf 65 = 1 := by kernel_rfl
@[go_sem] theorem isAgg65 : isAggT Try.prog 65 = some false := by kernel_rfl
@[go_sem] theorem ok65 : tyOk Try.prog 65 = true := by kernel_rfl
@[go_sem] theorem bytes65 : Try.prog.bytesOf 65 = 8 := by kernel_rfl
@[go_sem] theorem zero65 : zeroOf Try.prog 65 = some (.p .nilf) := by kernel_rfl
@[go_sem] theorem zeroLen65 : appendA.zeroLen Try.prog 65 = 1 := by kernel_rfl
attribute [go_sem] Try.underlying66
@[go_sem] theorem cellsOf66 : Try.prog.cellsOf 66 = 1 := by kernel_rfl
@[go_sem] theorem isAgg66 : isAggT Try.prog 66 = some false := by kernel_rfl
@[go_sem] theorem ok66 : tyOk Try.prog 66 = true := by kernel_rfl
@[go_sem] theorem bytes66 : Try.prog.bytesOf 66 = 8 := by kernel_rfl
@[go_sem] theorem zero66 : zeroOf Try.prog 66 = some (.p .nilf) := by kernel_rfl
@[go_sem] theorem zeroLen66 : appendA.zeroLen Try.prog 66 = 1 := by kernel_rfl
attribute [go_sem] Try.underlying69
@[go_sem] theorem cellsOf69 : Try.prog.cellsOf 69 = 1 := by kernel_rfl
@[go_sem] theorem isAgg69 : isAggT Try.prog 69 = some false := by kernel_rfl
@[go_sem] theorem ok69 : tyOk Try.prog 69 = true := by kernel_rfl
@[go_sem] theorem bytes69 : Try.prog.bytesOf 69 = 8 := by kernel_rfl
@[go_sem] theorem zero69 : zeroOf Try.prog 69 = some (.p .nilf) := by kernel_rfl
@[go_sem] theorem zeroLen69 : appendA.zeroLen Try.prog 69 = 1 := by kernel_rfl
attribute [go_sem] Try.underlying70
@[go_sem] theorem cellsOf70 : Try.prog.cellsOf 70 = 1 := by kernel_rfl
@[go_sem] theorem isAgg70 : isAggT Try.prog 70 = some false := by kernel_rfl
@[go_sem] theorem ok70 : tyOk Try.prog 70 = true := by kernel_rfl
@[go_sem] theorem bytes70 : Try.prog.bytesOf 70 = 8 := by kernel_rfl
@[go_sem] theorem zero70 : zeroOf Try.prog 70 = some (.p .nilf) := by kernel_rfl
@[go_sem] theorem zeroLen70 : appendA.zeroLen Try.prog 70 = 1 := by kernel_rfl
attribute [go_sem] Try.underlying71
@[go_sem] theorem cellsOf71 : Try.prog.cellsOf 71 = 1 := by kernel_rfl
@[go_sem] theorem isAgg71 : isAggT Try.prog 71 = some false := by kernel_rfl
@[go_sem] theorem ok71 : tyOk Try.prog 71 = true := by kernel_rfl
@[go_sem] theorem bytes71 : Try.prog.bytesOf 71 = 8 := by kernel_rfl
@[go_sem] theorem zero71 : zeroOf Try.prog 71 = some (.p .nilf) := by kernel_rfl
@[go_sem] theorem zeroLen71 : appendA.zeroLen Try.prog 71 = 1 := by kernel_rfl
attribute [go_sem] Try.underlying73
@[go_sem] theorem cellsOf73 : Try.prog.cellsOf 73 = 1 := by kernel_rfl
@[go_sem] theorem isAgg73 : isAggT Try.prog 73 = some false := by kernel_rfl
@[go_sem] theorem ok73 : tyOk Try.prog 73 = true := by kernel_rfl
@[go_sem] theorem bytes73 : Try.prog.bytesOf 73 = 8 := by kernel_rfl
@[go_sem] theorem zero73 : zeroOf Try.prog 73 = some (.p (.mapv [] [])) := by kernel_rfl
@[go_sem] theorem zeroLen73 : appendA.zeroLen Try.prog 73 = 1 := by kernel_rfl
attribute [go_sem] Try.underlying74
@[go_sem] theorem cellsOf74 : Try.prog.cellsOf 74 = 4 := by kernel_rfl
@[go_sem] theorem isAgg74 : isAggT Try.prog 74 = some true := by kernel_rfl
@[go_sem] theorem ok74 : tyOk Try.prog 74 = true := by kernel_rfl
@[go_sem] theorem bytes74 : Try.prog.bytesOf 74 = 72 := by kernel_rfl
@[go_sem] theorem zero74 : zeroOf Try.prog 74 = some (.agg [.p (.str []), .nils, .nils, .p (.mapv [] [])]) := by kernel_rfl
@[go_sem] theorem zeroLen74 : appendA.zeroLen Try.prog 74 = 4 := by kernel_rfl
@[go_sem] theorem field74_0 : fieldOff Try.prog 74 0 = some 0 := by kernel_rfl
@[go_sem] theorem field74_1 : fieldOff Try.prog 74 1 = some 3 := by kernel_rfl
@[go_sem] theorem build74 (parts : List (Nat × AV)) : buildA Try.prog 74 parts = (fillG (fun j => [(0, 3), (3, 1)][j]?) [.p (.str []), .nils, .nils, .p (.mapv [] [])] parts).map mkAgg :=
  buildA_eq _ _ zero74 rfl (by kernel_rfl) (by kernel_rfl) (by funext j; exact placesA_eq _ _ (by kernel_rfl) j)
attribute [go_sem] Try.underlying75
@[go_sem] theorem cellsOf75 : Try.prog.cellsOf 75 = 4 := by kernel_rfl
@[go_sem] theorem isAgg75 : isAggT Try.prog 75 = some true := by kernel_rfl
@[go_sem] theorem ok75 : tyOk Try.prog 75 = true := by kernel_rfl
@[go_sem] theorem bytes75 : Try.prog.bytesOf 75 = 72 := by kernel_rfl
@[go_sem] theorem zero75 : zeroOf Try.prog 75 = some (.agg [.p (.str []), .nils, .nils, .p (.mapv [] [])]) := by kernel_rfl
@[go_sem] theorem zeroLen75 : appendA.zeroLen Try.prog 75 = 4 := by kernel_rfl
@[go_sem] theorem field75_0 : fieldOff Try.prog 75 0 = some 0 := by kernel_rfl
@[go_sem] theorem field75_1 : fieldOff Try.prog 75 1 = some 3 := by kernel_rfl
@[go_sem] theorem build75 (parts : List (Nat × AV)) : buildA Try.prog 75 parts = (fillG (fun j => [(0, 3), (3, 1)][j]?) [.p (.str []), .nils, .nils, .p (.mapv [] [])] parts).map mkAgg :=
  buildA_eq _ _ zero75 rfl (by kernel_rfl) (by kernel_rfl) (by funext j; exact placesA_eq _ _ (by kernel_rfl) j)
attribute [go_sem] Try.underlying76
@[go_sem] theorem cellsOf76 : Try.prog.cellsOf 76 = 1 := by kernel_rfl
@[go_sem] theorem isAgg76 : isAggT Try.prog 76 = some false := by kernel_rfl
@[go_sem] theorem ok76 : tyOk Try.prog 76 = true := by kernel_rfl
@[go_sem] theorem bytes76 : Try.prog.bytesOf 76 = 24 := by kernel_rfl
@[go_sem] theorem zero76 : zeroOf Try.prog 76 = some (.nils) := by kernel_rfl
@[go_sem] theorem zeroLen76 : appendA.zeroLen Try.prog 76 = 1 := by kernel_rfl
attribute [go_sem] Try.underlying79
@[go_sem] theorem cellsOf79 : Try.prog.cellsOf 79 = 1 := by kernel_rfl
@[go_sem] theorem isAgg79 : isAggT Try.prog 79 = some false := by kernel_rfl
@[go_sem] theorem ok79 : tyOk Try.prog 79 = true := by kernel_rfl
@[go_sem] theorem bytes79 : Try.prog.bytesOf 79 = 24 := by kernel_rfl
@[go_sem] theorem zero79 : zeroOf Try.prog 79 = some (.nils) := by kernel_rfl
@[go_sem] theorem zeroLen79 : appendA.zeroLen Try.prog 79 = 1 := by kernel_rfl
attribute [go_sem] Try.underlying80
@[go_sem] theorem cellsOf80 : Try.prog.cellsOf 80 = 3 := by kernel_rfl
@[go_sem] theorem isAgg80 : isAggT Try.prog 80 = some true := by kernel_rfl
@[go_sem] theorem ok80 : tyOk Try.prog 80 = true := by kernel_rfl
@[go_sem] theorem bytes80 : Try.prog.bytesOf 80 = 32 := by kernel_rfl
@[go_sem] theorem zero80 : zeroOf Try.prog 80 = some (.p (.agg [(.int .i64 0), (.int .i64 0), (.str [])])) := by kernel_rfl
@[go_sem] theorem zeroLen80 : appendA.zeroLen Try.prog 80 = 3 := by kernel_rfl
@[go_sem] theorem field80_0 : fieldOff Try.prog 80 0 = some 0 := by kernel_rfl
@[go_sem] theorem field80_1 : fieldOff Try.prog 80 1 = some 1 := by kernel_rfl
@[go_sem] theorem field80_2 : fieldOff Try.prog 80 2 = some 2 := by kernel_rfl
@[go_sem] theorem build80 (parts : List (Nat × AV)) : buildA Try.prog 80 parts = (fillG (fun j => [(0, 1), (1, 1), (2, 1)][j]?) [.p (.int .i64 0), .p (.int .i64 0), .p (.str [])] parts).map mkAgg :=
  buildA_eq _ _ zero80 rfl (by kernel_rfl) (by kernel_rfl) (by funext j; exact placesA_eq _ _ (by kernel_rfl) j)
@[go_sem] theorem eqS80 (d : Nat) (xs ys : List PV) : eqT Try.prog (d + 1) 80 xs ys = eqL (eqT Try.prog d) [(3, 0, 1), (2, 1, 1), (9, 2, 1)] xs ys := eqT_struct _ (by kernel_rfl) (by kernel_rfl) (by kernel_rfl) (by kernel_rfl) d xs ys
@[go_sem] theorem eqg80 : Try.prog.eqGuardType Try.prog.depth 80 = false := by kernel_rfl
attribute [go_sem] Try.underlying81
@[go_sem] theorem cellsOf81 : Try.prog.cellsOf 81 = 3 := by kernel_rfl
@[go_sem] theorem isAgg81 : isAggT Try.prog 81 = some true := by kernel_rfl
@[go_sem] theorem ok81 : tyOk Try.prog 81 = true := by kernel_rfl
@[go_sem] theorem bytes81 : Try.prog.bytesOf 81 = 32 := by kernel_rfl
@[go_sem] theorem zero81 : zeroOf Try.prog 81 = some (.p (.agg [(.int .i64 0), (.int .i64 0), (.str [])])) := by kernel_rfl
@[go_sem] theorem zeroLen81 : appendA.zeroLen Try.prog 81 = 3 := by kernel_rfl
@[go_sem] theorem field81_0 : fieldOff Try.prog 81 0 = some 0 := by kernel_rfl
@[go_sem] theorem field81_1 : fieldOff Try.prog 81 1 = some 1 := by kernel_rfl
@[go_sem] theorem field81_2 : fieldOff Try.prog 81 2 = some 2 := by kernel_rfl
@[go_sem] theorem build81 (parts : List (Nat × AV)) : buildA Try.prog 81 parts = (fillG (fun j => [(0, 1), (1, 1), (2, 1)][j]?) [.p (.int .i64 0), .p (.int .i64 0), .p (.str [])] parts).map mkAgg :=
  buildA_eq _ _ zero81 rfl (by kernel_rfl) (by kernel_rfl) (by funext j; exact placesA_eq _ _ (by kernel_rfl) j)
@[go_sem] theorem eqS81 (d : Nat) (xs ys : List PV) : eqT Try.prog (d + 1) 81 xs ys = eqL (eqT Try.prog d) [(3, 0, 1), (2, 1, 1), (9, 2, 1)] xs ys := eqT_struct _ (by kernel_rfl) (by kernel_rfl) (by kernel_rfl) (by kernel_rfl) d xs ys
@[go_sem] theorem eqg81 : Try.prog.eqGuardType Try.prog.depth 81 = false := by kernel_rfl
attribute [go_sem] Try.underlying82
@[go_sem] theorem cellsOf82 : Try.prog.cellsOf 82 = 1 := by kernel_rfl
@[go_sem] theorem isAgg82 : isAggT Try.prog 82 = some false := by kernel_rfl
@[go_sem] theorem ok82 : tyOk Try.prog 82 = true := by kernel_rfl
@[go_sem] theorem bytes82 : Try.prog.bytesOf 82 = 8 := by kernel_rfl
@[go_sem] theorem zero82 : zeroOf Try.prog 82 = some (.p .nilf) := by kernel_rfl
@[go_sem] theorem zeroLen82 : appendA.zeroLen Try.prog 82 = 1 := by kernel_rfl
attribute [go_sem] Try.underlying84
@[go_sem] theorem cellsOf84 : Try.prog.cellsOf 84 = 1 := by kernel_rfl
@[go_sem] theorem isAgg84 : isAggT Try.prog 84 = some false := by kernel_rfl
@[go_sem] theorem ok84 : tyOk Try.prog 84 = true := by kernel_rfl
@[go_sem] theorem bytes84 : Try.prog.bytesOf 84 = 8 := by kernel_rfl
@[go_sem] theorem zero84 : zeroOf Try.prog 84 = some (.p .nilf) := by kernel_rfl
@[go_sem] theorem zeroLen84 : appendA.zeroLen Try.prog 84 = 1 := by kernel_rfl
attribute [go_sem] Try.underlying85
@[go_sem] theorem cellsOf85 : Try.prog.cellsOf 85 = 1 := by kernel_rfl
@[go_sem] theorem isAgg85 : isAggT Try.prog 85 = some false := by kernel_rfl
@[go_sem] theorem ok85 : tyOk Try.prog 85 = true := by kernel_rfl
@[go_sem] theorem bytes85 : Try.prog.bytesOf 85 = 8 := by kernel_rfl
@[go_sem] theorem zero85 : zeroOf Try.prog 85 = some (.p .nilf) := by kernel_rfl
@[go_sem] theorem zeroLen85 : appendA.zeroLen Try.prog 85 = 1 := by kernel_rfl
attribute [go_sem] Try.underlying89
@[go_sem] theorem cellsOf89 : Try.prog.cellsOf 89 = 1 := by kernel_rfl
@[go_sem] theorem isAgg89 : isAggT Try.prog 89 = some false := by kernel_rfl
@[go_sem] theorem ok89 : tyOk Try.prog 89 = true := by kernel_rfl
@[go_sem] theorem bytes89 : Try.prog.bytesOf 89 = 24 := by kernel_rfl
@[go_sem] theorem zero89 : zeroOf Try.prog 89 = some (.nils) := by kernel_rfl
@[go_sem] theorem zeroLen89 : appendA.zeroLen Try.prog 89 = 1 := by kernel_rfl
attribute [go_sem] Try.underlying97
@[go_sem] theorem cellsOf97 : Try.prog.cellsOf 97 = 1 := by kernel_rfl
@[go_sem] theorem isAgg97 : isAggT Try.prog 97 = some false := by kernel_rfl
@[go_sem] theorem ok97 : tyOk Try.prog 97 = true := by kernel_rfl
@[go_sem] theorem bytes97 : Try.prog.bytesOf 97 = 8 := by kernel_rfl
@[go_sem] theorem zero97 : zeroOf Try.prog 97 = some (.p .nilf) := by kernel_rfl
@[go_sem] theorem zeroLen97 : appendA.zeroLen Try.prog 97 = 1 := by kernel_rfl
attribute [go_sem] Try.underlying104
@[go_sem] theorem cellsOf104 : Try.prog.cellsOf 104 = 1 := by kernel_rfl
@[go_sem] theorem isAgg104 : isAggT Try.prog 104 = some false := by kernel_rfl
@[go_sem] theorem ok104 : tyOk Try.prog 104 = true := by kernel_rfl
@[go_sem] theorem bytes104 : Try.prog.bytesOf 104 = 8 := by kernel_rfl
@[go_sem] theorem zero104 : zeroOf Try.prog 104 = some (.p .nilf) := by kernel_rfl
@[go_sem] theorem zeroLen104 : appendA.zeroLen Try.prog 104 = 1 := by kernel_rfl
attribute [go_sem] Try.underlying105
@[go_sem] theorem cellsOf105 : Try.prog.cellsOf 105 = 1 := by kernel_rfl
@[go_sem] theorem isAgg105 : isAggT Try.prog 105 = some false := by kernel_rfl
@[go_sem] theorem ok105 : tyOk Try.prog 105 = true := by kernel_rfl
@[go_sem] theorem bytes105 : Try.prog.bytesOf 105 = 8 := by kernel_rfl
@[go_sem] theorem zero105 : zeroOf Try.prog 105 = some (.p .nilf) := by kernel_rfl
@[go_sem] theorem zeroLen105 : appendA.zeroLen Try.prog 105 = 1 := by kernel_rfl
attribute [go_sem] Try.underlying109
@[go_sem] theorem cellsOf109 : Try.prog.cellsOf 109 = 1 := by kernel_rfl
@[go_sem] theorem isAgg109 : isAggT Try.prog 109 = some false := by kernel_rfl
@[go_sem] theorem ok109 : tyOk Try.prog 109 = true := by kernel_rfl
@[go_sem] theorem bytes109 : Try.prog.bytesOf 109 = 8 := by kernel_rfl
@[go_sem] theorem zero109 : zeroOf Try.prog 109 = some (.p .nilf) := by kernel_rfl
@[go_sem] theorem zeroLen109 : appendA.zeroLen Try.prog 109 = 1 := by kernel_rfl
attribute [go_sem] Try.underlying110
@[go_sem] theorem cellsOf110 : Try.prog.cellsOf 110 = 1 := by kernel_rfl
@[go_sem] theorem isAgg110 : isAggT Try.prog 110 = some false := by kernel_rfl
@[go_sem] theorem ok110 : tyOk Try.prog 110 = true := by kernel_rfl
@[go_sem] theorem bytes110 : Try.prog.bytesOf 110 = 8 := by kernel_rfl
@[go_sem] theorem zero110 : zeroOf Try.prog 110 = some (.p .nilf) := by kernel_rfl
@[go_sem] theorem zeroLen110 : appendA.zeroLen Try.prog 110 = 1 := by kernel_rfl
attribute [go_sem] Try.underlying114
@[go_sem] theorem cellsOf114 : Try.prog.cellsOf 114 = 1 := by kernel_rfl
@[go_sem] theorem isAgg114 : isAggT Try.prog 114 = some false := by kernel_rfl
@[go_sem] theorem ok114 : tyOk Try.prog 114 = true := by kernel_rfl
@[go_sem] theorem bytes114 : Try.prog.bytesOf 114 = 8 := by kernel_rfl
@[go_sem] theorem zero114 : zeroOf Try.prog 114 = some (.p (.int .u64 0)) := by kernel_rfl
@[go_sem] theorem zeroLen114 : appendA.zeroLen Try.prog 114 = 1 := by kernel_rfl
@[go_sem] theorem eqI114 (d : Nat) (k k' : IntKind) (a b : Int) : eqT Try.prog (d + 1) 114 [.int k a] [.int k' b] = if k = k' then some (a == b) else none := eqT_int _ Try.underlying114 d k k' a b
attribute [go_sem] Try.underlying120
@[go_sem] theorem cellsOf120 : Try.prog.cellsOf 120 = 1 := by kernel_rfl
@[go_sem] theorem isAgg120 : isAggT Try.prog 120 = some false := by kernel_rfl
@[go_sem] theorem ok120 : tyOk Try.prog 120 = true := by kernel_rfl
@[go_sem] theorem bytes120 : Try.prog.bytesOf 120 = 8 := by kernel_rfl
@[go_sem] theorem zero120 : zeroOf Try.prog 120 = some (.p .nilf) := by kernel_rfl
@[go_sem] theorem zeroLen120 : appendA.zeroLen Try.prog 120 = 1 := by kernel_rfl
attribute [go_sem] Try.underlying122
@[go_sem] theorem cellsOf122 : Try.prog.cellsOf 122 = 1 := by kernel_rfl
@[go_sem] theorem isAgg122 : isAggT Try.prog 122 = some false := by kernel_rfl
@[go_sem] theorem ok122 : tyOk Try.prog 122 = true := by kernel_rfl
@[go_sem] theorem bytes122 : Try.prog.bytesOf 122 = 8 := by kernel_rfl
@[go_sem] theorem zero122 : zeroOf Try.prog 122 = some (.p (.int .i64 0)) := by kernel_rfl
@[go_sem] theorem zeroLen122 : appendA.zeroLen Try.prog 122 = 1 := by kernel_rfl
@[go_sem] theorem eqI122 (d : Nat) (k k' : IntKind) (a b : Int) : eqT Try.prog (d + 1) 122 [.int k a] [.int k' b] = if k = k' then some (a == b) else none := eqT_int _ Try.underlying122 d k k' a b
attribute [go_sem] Try.underlying124
@[go_sem] theorem cellsOf124 : Try.prog.cellsOf 124 = 1 := by kernel_rfl
@[go_sem] theorem isAgg124 : isAggT Try.prog 124 = some false := by kernel_rfl
@[go_sem] theorem ok124 : tyOk Try.prog 124 = true := by kernel_rfl
@[go_sem] theorem bytes124 : Try.prog.bytesOf 124 = 8 := by kernel_rfl
@[go_sem] theorem zero124 : zeroOf Try.prog 124 = some (.p .nilf) := by kernel_rfl
@[go_sem] theorem zeroLen124 : appendA.zeroLen Try.prog 124 = 1 := by kernel_rfl
attribute [go_sem] Try.underlying125
@[go_sem] theorem cellsOf125 : Try.prog.cellsOf 125 = 1 := by kernel_rfl
@[go_sem] theorem isAgg125 : isAggT Try.prog 125 = some false := by kernel_rfl
@[go_sem] theorem ok125 : tyOk Try.prog 125 = true := by kernel_rfl
@[go_sem] theorem bytes125 : Try.prog.bytesOf 125 = 8 := by kernel_rfl
@[go_sem] theorem zero125 : zeroOf Try.prog 125 = some (.p .nilf) := by kernel_rfl
@[go_sem] theorem zeroLen125 : appendA.zeroLen Try.prog 125 = 1 := by kernel_rfl
attribute [go_sem] Try.underlying130
@[go_sem] theorem cellsOf130 : Try.prog.cellsOf 130 = 1 := by kernel_rfl
@[go_sem] theorem isAgg130 : isAggT Try.prog 130 = some false := by kernel_rfl
@[go_sem] theorem ok130 : tyOk Try.prog 130 = true := by kernel_rfl
@[go_sem] theorem bytes130 : Try.prog.bytesOf 130 = 8 := by kernel_rfl
@[go_sem] theorem zero130 : zeroOf Try.prog 130 = some (.p (.int .u64 0)) := by kernel_rfl
@[go_sem] theorem zeroLen130 : appendA.zeroLen Try.prog 130 = 1 := by kernel_rfl
@[go_sem] theorem eqI130 (d : Nat) (k k' : IntKind) (a b : Int) : eqT Try.prog (d + 1) 130 [.int k a] [.int k' b] = if k = k' then some (a == b) else none := eqT_int _ Try.underlying130 d k k' a b
attribute [go_sem] Try.underlying131
@[go_sem] theorem cellsOf131 : Try.prog.cellsOf 131 = 1 := by kernel_rfl
@[go_sem] theorem isAgg131 : isAggT Try.prog 131 = some false := by kernel_rfl
@[go_sem] theorem ok131 : tyOk Try.prog 131 = true := by kernel_rfl
@[go_sem] theorem bytes131 : Try.prog.bytesOf 131 = 8 := by kernel_rfl
@[go_sem] theorem zero131 : zeroOf Try.prog 131 = some (.p (.int .u64 0)) := by kernel_rfl
@[go_sem] theorem zeroLen131 : appendA.zeroLen Try.prog 131 = 1 := by kernel_rfl
@[go_sem] theorem eqI131 (d : Nat) (k k' : IntKind) (a b : Int) : eqT Try.prog (d + 1) 131 [.int k a] [.int k' b] = if k = k' then some (a == b) else none := eqT_int _ Try.underlying131 d k k' a b
attribute [go_sem] Try.underlying135
@[go_sem] theorem cellsOf135 : Try.prog.cellsOf 135 = 1 := by kernel_rfl
@[go_sem] theorem isAgg135 : isAggT Try.prog 135 = some false := by kernel_rfl
@[go_sem] theorem ok135 : tyOk Try.prog 135 = true := by kernel_rfl
@[go_sem] theorem bytes135 : Try.prog.bytesOf 135 = 8 := by kernel_rfl
@[go_sem] theorem zero135 : zeroOf Try.prog 135 = some (.p .nilp) := by kernel_rfl
@[go_sem] theorem zeroLen135 : appendA.zeroLen Try.prog 135 = 1 := by kernel_rfl
attribute [go_sem] Try.underlying138
@[go_sem] theorem cellsOf138 : Try.prog.cellsOf 138 = 1 := by kernel_rfl
@[go_sem] theorem isAgg138 : isAggT Try.prog 138 = some false := by kernel_rfl
@[go_sem] theorem ok138 : tyOk Try.prog 138 = true := by kernel_rfl
@[go_sem] theorem bytes138 : Try.prog.bytesOf 138 = 8 := by kernel_rfl
@[go_sem] theorem zero138 : zeroOf Try.prog 138 = some (.p .nilp) := by kernel_rfl
@[go_sem] theorem zeroLen138 : appendA.zeroLen Try.prog 138 = 1 := by kernel_rfl
attribute [go_sem] Try.underlying142
@[go_sem] theorem cellsOf142 : Try.prog.cellsOf 142 = 4 := by kernel_rfl
@[go_sem] theorem isAgg142 : isAggT Try.prog 142 = some true := by kernel_rfl
@[go_sem] theorem ok142 : tyOk Try.prog 142 = true := by kernel_rfl
@[go_sem] theorem bytes142 : Try.prog.bytesOf 142 = 40 := by kernel_rfl
@[go_sem] theorem zero142 : zeroOf Try.prog 142 = some (.p (.agg [.nilp, .nilp, .nilp, (.str [])])) := by kernel_rfl
@[go_sem] theorem zeroLen142 : appendA.zeroLen Try.prog 142 = 4 := by kernel_rfl
@[go_sem] theorem field142_0 : fieldOff Try.prog 142 0 = some 0 := by kernel_rfl
@[go_sem] theorem field142_1 : fieldOff Try.prog 142 1 = some 1 := by kernel_rfl
@[go_sem] theorem field142_2 : fieldOff Try.prog 142 2 = some 2 := by kernel_rfl
@[go_sem] theorem field142_3 : fieldOff Try.prog 142 3 = some 3 := by kernel_rfl
@[go_sem] theorem build142 (parts : List (Nat × AV)) : buildA Try.prog 142 parts = (fillG (fun j => [(0, 1), (1, 1), (2, 1), (3, 1)][j]?) [.p .nilp, .p .nilp, .p .nilp, .p (.str [])] parts).map mkAgg :=
  buildA_eq _ _ zero142 rfl (by kernel_rfl) (by kernel_rfl) (by funext j; exact placesA_eq _ _ (by kernel_rfl) j)
attribute [go_sem] Try.underlying143
@[go_sem] theorem cellsOf143 : Try.prog.cellsOf 143 = 4 := by kernel_rfl
@[go_sem] theorem isAgg143 : isAggT Try.prog 143 = some true := by kernel_rfl
@[go_sem] theorem ok143 : tyOk Try.prog 143 = true := by kernel_rfl
@[go_sem] theorem bytes143 : Try.prog.bytesOf 143 = 40 := by kernel_rfl
@[go_sem] theorem zero143 : zeroOf Try.prog 143 = some (.p (.agg [.nilp, .nilp, .nilp, (.str [])])) := by kernel_rfl
@[go_sem] theorem zeroLen143 : appendA.zeroLen Try.prog 143 = 4 := by kernel_rfl
@[go_sem] theorem field143_0 : fieldOff Try.prog 143 0 = some 0 := by kernel_rfl
@[go_sem] theorem field143_1 : fieldOff Try.prog 143 1 = some 1 := by kernel_rfl
@[go_sem] theorem field143_2 : fieldOff Try.prog 143 2 = some 2 := by kernel_rfl
@[go_sem] theorem field143_3 : fieldOff Try.prog 143 3 = some 3 := by kernel_rfl
@[go_sem] theorem build143 (parts : List (Nat × AV)) : buildA Try.prog 143 parts = (fillG (fun j => [(0, 1), (1, 1), (2, 1), (3, 1)][j]?) [.p .nilp, .p .nilp, .p .nilp, .p (.str [])] parts).map mkAgg :=
  buildA_eq _ _ zero143 rfl (by kernel_rfl) (by kernel_rfl) (by funext j; exact placesA_eq _ _ (by kernel_rfl) j)
attribute [go_sem] Try.underlying144
@[go_sem] theorem cellsOf144 : Try.prog.cellsOf 144 = 0 := by kernel_rfl
@[go_sem] theorem isAgg144 : isAggT Try.prog 144 = some true := by kernel_rfl
@[go_sem] theorem ok144 : tyOk Try.prog 144 = true := by kernel_rfl
@[go_sem] theorem bytes144 : Try.prog.bytesOf 144 = 0 := by kernel_rfl
attribute [go_sem] Try.underlying145
@[go_sem] theorem cellsOf145 : Try.prog.cellsOf 145 = 0 := by kernel_rfl
@[go_sem] theorem isAgg145 : isAggT Try.prog 145 = some true := by kernel_rfl
@[go_sem] theorem ok145 : tyOk Try.prog 145 = true := by kernel_rfl
@[go_sem] theorem bytes145 : Try.prog.bytesOf 145 = 0 := by kernel_rfl
attribute [go_sem] Try.underlying146
@[go_sem] theorem cellsOf146 : Try.prog.cellsOf 146 = 0 := by kernel_rfl
@[go_sem] theorem isAgg146 : isAggT Try.prog 146 = some true := by kernel_rfl
@[go_sem] theorem ok146 : tyOk Try.prog 146 = true := by kernel_rfl
@[go_sem] theorem bytes146 : Try.prog.bytesOf 146 = 0 := by kernel_rfl
attribute [go_sem] Try.underlying148
@[go_sem] theorem cellsOf148 : Try.prog.cellsOf 148 = 1 := by kernel_rfl
@[go_sem] theorem isAgg148 : isAggT Try.prog 148 = some false := by kernel_rfl
@[go_sem] theorem ok148 : tyOk Try.prog 148 = true := by kernel_rfl
@[go_sem] theorem bytes148 : Try.prog.bytesOf 148 = 1 := by kernel_rfl
@[go_sem] theorem zero148 : zeroOf Try.prog 148 = some (.p (.int .u8 0)) := by kernel_rfl
@[go_sem] theorem zeroLen148 : appendA.zeroLen Try.prog 148 = 1 := by kernel_rfl
@[go_sem] theorem eqI148 (d : Nat) (k k' : IntKind) (a b : Int) : eqT Try.prog (d + 1) 148 [.int k a] [.int k' b] = if k = k' then some (a == b) else none := eqT_int _ Try.underlying148 d k k' a b
attribute [go_sem] Try.underlying149
@[go_sem] theorem cellsOf149 : Try.prog.cellsOf 149 = 1 := by kernel_rfl
@[go_sem] theorem isAgg149 : isAggT Try.prog 149 = some false := by kernel_rfl
@[go_sem] theorem ok149 : tyOk Try.prog 149 = true := by kernel_rfl
@[go_sem] theorem bytes149 : Try.prog.bytesOf 149 = 1 := by kernel_rfl
@[go_sem] theorem zero149 : zeroOf Try.prog 149 = some (.p (.int .u8 0)) := by kernel_rfl
@[go_sem] theorem zeroLen149 : appendA.zeroLen Try.prog 149 = 1 := by kernel_rfl
@[go_sem] theorem eqI149 (d : Nat) (k k' : IntKind) (a b : Int) : eqT Try.prog (d + 1) 149 [.int k a] [.int k' b] = if k = k' then some (a == b) else none := eqT_int _ Try.underlying149 d k k' a b
attribute [go_sem] Try.underlying150
@[go_sem] theorem cellsOf150 : Try.prog.cellsOf 150 = 1 := by kernel_rfl
@[go_sem] theorem isAgg150 : isAggT Try.prog 150 = some false := by kernel_rfl
@[go_sem] theorem ok150 : tyOk Try.prog 150 = true := by kernel_rfl
@[go_sem] theorem bytes150 : Try.prog.bytesOf 150 = 8 := by kernel_rfl
@[go_sem] theorem zero150 : zeroOf Try.prog 150 = some (.p .nilf) := by kernel_rfl
@[go_sem] theorem zeroLen150 : appendA.zeroLen Try.prog 150 = 1 := by kernel_rfl
attribute [go_sem] Try.underlying151
@[go_sem] theorem cellsOf151 : Try.prog.cellsOf 151 = 1 := by kernel_rfl
@[go_sem] theorem isAgg151 : isAggT Try.prog 151 = some false := by kernel_rfl
@[go_sem] theorem ok151 : tyOk Try.prog 151 = true := by kernel_rfl
@[go_sem] theorem bytes151 : Try.prog.bytesOf 151 = 8 := by kernel_rfl
@[go_sem] theorem zero151 : zeroOf Try.prog 151 = some (.p .nilp) := by kernel_rfl
@[go_sem] theorem zeroLen151 : appendA.zeroLen Try.prog 151 = 1 := by kernel_rfl
attribute [go_sem] Try.underlying152
@[go_sem] theorem cellsOf152 : Try.prog.cellsOf 152 = 1 := by kernel_rfl
@[go_sem] theorem isAgg152 : isAggT Try.prog 152 = some false := by kernel_rfl
@[go_sem] theorem ok152 : tyOk Try.prog 152 = true := by kernel_rfl
@[go_sem] theorem bytes152 : Try.prog.bytesOf 152 = 4 := by kernel_rfl
@[go_sem] theorem zero152 : zeroOf Try.prog 152 = some (.p (.int .i32 0)) := by kernel_rfl
@[go_sem] theorem zeroLen152 : appendA.zeroLen Try.prog 152 = 1 := by kernel_rfl
@[go_sem] theorem eqI152 (d : Nat) (k k' : IntKind) (a b : Int) : eqT Try.prog (d + 1) 152 [.int k a] [.int k' b] = if k = k' then some (a == b) else none := eqT_int _ Try.underlying152 d k k' a b
attribute [go_sem] Try.underlying153
@[go_sem] theorem cellsOf153 : Try.prog.cellsOf 153 = 1 := by kernel_rfl
@[go_sem] theorem isAgg153 : isAggT Try.prog 153 = some false := by kernel_rfl
@[go_sem] theorem ok153 : tyOk Try.prog 153 = true := by kernel_rfl
@[go_sem] theorem bytes153 : Try.prog.bytesOf 153 = 4 := by kernel_rfl
@[go_sem] theorem zero153 : zeroOf Try.prog 153 = some (.p (.int .i32 0)) := by kernel_rfl
@[go_sem] theorem zeroLen153 : appendA.zeroLen Try.prog 153 = 1 := by kernel_rfl
@[go_sem] theorem eqI153 (d : Nat) (k k' : IntKind) (a b : Int) : eqT Try.prog (d + 1) 153 [.int k a] [.int k' b] = if k = k' then some (a == b) else none := eqT_int _ Try.underlying153 d k k' a b
attribute [go_sem] Try.underlying154
@[go_sem] theorem cellsOf154 : Try.prog.cellsOf 154 = 11 := by kernel_rfl
@[go_sem] theorem isAgg154 : isAggT Try.prog 154 = some true := by kernel_rfl
@[go_sem] theorem ok154 : tyOk Try.prog 154 = true := by kernel_rfl
@[go_sem] theorem bytes154 : Try.prog.bytesOf 154 = 48 := by kernel_rfl
@[go_sem] theorem zero154 : zeroOf Try.prog 154 = some (.p (.agg [(.int .u64 0), (.int .u64 0), (.int .u32 0), (.int .u8 0), (.int .u8 0), (.int .u8 0), (.int .u8 0), .nilf, .nilp, (.int .i32 0), (.int .i32 0)])) := by kernel_rfl
@[go_sem] theorem zeroLen154 : appendA.zeroLen Try.prog 154 = 11 := by kernel_rfl
@[go_sem] theorem field154_0 : fieldOff Try.prog 154 0 = some 0 := by kernel_rfl
@[go_sem] theorem field154_1 : fieldOff Try.prog 154 1 = some 1 := by kernel_rfl
@[go_sem] theorem field154_2 : fieldOff Try.prog 154 2 = some 2 := by kernel_rfl
@[go_sem] theorem field154_3 : fieldOff Try.prog 154 3 = some 3 := by kernel_rfl
@[go_sem] theorem field154_4 : fieldOff Try.prog 154 4 = some 4 := by kernel_rfl
@[go_sem] theorem field154_5 : fieldOff Try.prog 154 5 = some 5 := by kernel_rfl
@[go_sem] theorem field154_6 : fieldOff Try.prog 154 6 = some 6 := by kernel_rfl
@[go_sem] theorem field154_7 : fieldOff Try.prog 154 7 = some 7 := by kernel_rfl
@[go_sem] theorem field154_8 : fieldOff Try.prog 154 8 = some 8 := by kernel_rfl
@[go_sem] theorem field154_9 : fieldOff Try.prog 154 9 = some 9 := by kernel_rfl
@[go_sem] theorem field154_10 : fieldOff Try.prog 154 10 = some 10 := by kernel_rfl
@[go_sem] theorem build154 (parts : List (Nat × AV)) : buildA Try.prog 154 parts = (fillG (fun j => [(0, 1), (1, 1), (2, 1), (3, 1), (4, 1), (5, 1), (6, 1), (7, 1), (8, 1), (9, 1), (10, 1)][j]?) [.p (.int .u64 0), .p (.int .u64 0), .p (.int .u32 0), .p (.int .u8 0), .p (.int .u8 0), .p (.int .u8 0), .p (.int .u8 0), .p .nilf, .p .nilp, .p (.int .i32 0), .p (.int .i32 0)] parts).map mkAgg :=
  buildA_eq _ _ zero154 rfl (by kernel_rfl) (by kernel_rfl) (by funext j; exact placesA_eq _ _ (by kernel_rfl) j)
attribute [go_sem] Try.underlying155
@[go_sem] theorem cellsOf155 : Try.prog.cellsOf 155 = 11 := by kernel_rfl
@[go_sem] theorem isAgg155 : isAggT Try.prog 155 = some true := by kernel_rfl
@[go_sem] theorem ok155 : tyOk Try.prog 155 = true := by kernel_rfl
@[go_sem] theorem bytes155 : Try.prog.bytesOf 155 = 48 := by kernel_rfl
@[go_sem] theorem zero155 : zeroOf Try.prog 155 = some (.p (.agg [(.int .u64 0), (.int .u64 0), (.int .u32 0), (.int .u8 0), (.int .u8 0), (.int .u8 0), (.int .u8 0), .nilf, .nilp, (.int .i32 0), (.int .i32 0)])) := by kernel_rfl
@[go_sem] theorem zeroLen155 : appendA.zeroLen Try.prog 155 = 11 := by kernel_rfl
@[go_sem] theorem field155_0 : fieldOff Try.prog 155 0 = some 0 := by kernel_rfl
@[go_sem] theorem field155_1 : fieldOff Try.prog 155 1 = some 1 := by kernel_rfl
@[go_sem] theorem field155_2 : fieldOff Try.prog 155 2 = some 2 := by kernel_rfl
@[go_sem] theorem field155_3 : fieldOff Try.prog 155 3 = some 3 := by kernel_rfl
@[go_sem] theorem field155_4 : fieldOff Try.prog 155 4 = some 4 := by kernel_rfl
@[go_sem] theorem field155_5 : fieldOff Try.prog 155 5 = some 5 := by kernel_rfl
@[go_sem] theorem field155_6 : fieldOff Try.prog 155 6 = some 6 := by kernel_rfl
@[go_sem] theorem field155_7 : fieldOff Try.prog 155 7 = some 7 := by kernel_rfl
@[go_sem] theorem field155_8 : fieldOff Try.prog 155 8 = some 8 := by kernel_rfl
@[go_sem] theorem field155_9 : fieldOff Try.prog 155 9 = some 9 := by kernel_rfl
@[go_sem] theorem field155_10 : fieldOff Try.prog 155 10 = some 10 := by kernel_rfl
@[go_sem] theorem build155 (parts : List (Nat × AV)) : buildA Try.prog 155 parts = (fillG (fun j => [(0, 1), (1, 1), (2, 1), (3, 1), (4, 1), (5, 1), (6, 1), (7, 1), (8, 1), (9, 1), (10, 1)][j]?) [.p (.int .u64 0), .p (.int .u64 0), .p (.int .u32 0), .p (.int .u8 0), .p (.int .u8 0), .p (.int .u8 0), .p (.int .u8 0), .p .nilf, .p .nilp, .p (.int .i32 0), .p (.int .i32 0)] parts).map mkAgg :=
  buildA_eq _ _ zero155 rfl (by kernel_rfl) (by kernel_rfl) (by funext j; exact placesA_eq _ _ (by kernel_rfl) j)
end Go.Proofs.Ythgnkhchpjcboaa.Ty
