/- What the logic asks of the types of the translation. -/
import Derived.Test.YtimfcgdnogjlhaaProg
import Derived.KernelRfl
import Derived.Test.YtimfcgdnogjlhaaA1
/- What the abstract logic asks of the types of the translation; printed by a program of our own (tyfacts.py). -/
namespace Go.Proofs.Ytimfcgdnogjlhaa.Ty
open Go Go.Ab
set_option linter.unusedVariables false

attribute [go_sem] Try.underlying1
@[go_sem] theorem cellsOf1 : Try.prog.cellsOf 1 = 1 := by kernel_rfl
@[go_sem] theorem isAgg1 : isAggT Try.prog 1 = some false := by kernel_rfl
@[go_sem] theorem ok1 : tyOk Try.prog 1 = true := by kernel_rfl
@[go_sem] theorem bytes1 : Try.prog.bytesOf 1 = 8 := by kernel_rfl
@[go_sem] theorem zero1 : zeroOf Try.prog 1 = some (.p .nilf) := by kernel_rfl
@[go_sem] theorem zeroLen1 : appendA.zeroLen Try.prog 1 = 1 := by kernel_rfl
attribute [go_sem] Try.underlying2
@[go_sem] theorem cellsOf2 : Try.prog.cellsOf 2 = 1 := by kernel_rfl
@[go_sem] theorem isAgg2 : isAggT Try.prog 2 = some false := by kernel_rfl
@[go_sem] theorem ok2 : tyOk Try.prog 2 = true := by kernel_rfl
@[go_sem] theorem bytes2 : Try.prog.bytesOf 2 = 8 := by kernel_rfl
@[go_sem] theorem zero2 : zeroOf Try.prog 2 = some (.p (.int .i64 0)) := by kernel_rfl
@[go_sem] theorem zeroLen2 : appendA.zeroLen Try.prog 2 = 1 := by kernel_rfl
@[go_sem] theorem eqI2 (d : Nat) (k k' : IntKind) (a b : Int) : eqT Try.prog (d + 1) 2 [.int k a] [.int k' b] = if k = k' then some (a == b) else none := eqT_int _ Try.underlying2 d k k' a b
attribute [go_sem] Try.underlying3
@[go_sem] theorem cellsOf3 : Try.prog.cellsOf 3 = 1 := by kernel_rfl
@[go_sem] theorem isAgg3 : isAggT Try.prog 3 = some false := by kernel_rfl
@[go_sem] theorem ok3 : tyOk Try.prog 3 = true := by kernel_rfl
@[go_sem] theorem bytes3 : Try.prog.bytesOf 3 = 8 := by kernel_rfl
@[go_sem] theorem zero3 : zeroOf Try.prog 3 = some (.p (.int .i64 0)) := by kernel_rfl
@[go_sem] theorem zeroLen3 : appendA.zeroLen Try.prog 3 = 1 := by kernel_rfl
@[go_sem] theorem eqI3 (d : Nat) (k k' : IntKind) (a b : Int) : eqT Try.prog (d + 1) 3 [.int k a] [.int k' b] = if k = k' then some (a == b) else none := eqT_int _ Try.underlying3 d k k' a b
attribute [go_sem] Try.underlying4
@[go_sem] theorem cellsOf4 : Try.prog.cellsOf 4 = 1 := by kernel_rfl
@[go_sem] theorem isAgg4 : isAggT Try.prog 4 = some false := by kernel_rfl
@[go_sem] theorem ok4 : tyOk Try.prog 4 = true := by kernel_rfl
@[go_sem] theorem bytes4 : Try.prog.bytesOf 4 = 1 := by kernel_rfl
@[go_sem] theorem zero4 : zeroOf Try.prog 4 = some (.p (.bool false)) := by kernel_rfl
@[go_sem] theorem zeroLen4 : appendA.zeroLen Try.prog 4 = 1 := by kernel_rfl
@[go_sem] theorem eqI4 (d : Nat) (a b : Bool) : eqT Try.prog (d + 1) 4 [.bool a] [.bool b] = some (a == b) := eqT_bool _ Try.underlying4 d a b
attribute [go_sem] Try.underlying5
@[go_sem] theorem cellsOf5 : Try.prog.cellsOf 5 = 1 := by kernel_rfl
@[go_sem] theorem isAgg5 : isAggT Try.prog 5 = some false := by kernel_rfl
@[go_sem] theorem ok5 : tyOk Try.prog 5 = true := by kernel_rfl
@[go_sem] theorem bytes5 : Try.prog.bytesOf 5 = 1 := by kernel_rfl
@[go_sem] theorem zero5 : zeroOf Try.prog 5 = some (.p (.int .u8 0)) := by kernel_rfl
@[go_sem] theorem zeroLen5 : appendA.zeroLen Try.prog 5 = 1 := by kernel_rfl
@[go_sem] theorem eqI5 (d : Nat) (k k' : IntKind) (a b : Int) : eqT Try.prog (d + 1) 5 [.int k a] [.int k' b] = if k = k' then some (a == b) else none := eqT_int _ Try.underlying5 d k k' a b
attribute [go_sem] Try.underlying6
@[go_sem] theorem cellsOf6 : Try.prog.cellsOf 6 = 1 := by kernel_rfl
@[go_sem] theorem isAgg6 : isAggT Try.prog 6 = some false := by kernel_rfl
@[go_sem] theorem ok6 : tyOk Try.prog 6 = true := by kernel_rfl
@[go_sem] theorem bytes6 : Try.prog.bytesOf 6 = 1 := by kernel_rfl
@[go_sem] theorem zero6 : zeroOf Try.prog 6 = some (.p (.int .u8 0)) := by kernel_rfl
@[go_sem] theorem zeroLen6 : appendA.zeroLen Try.prog 6 = 1 := by kernel_rfl
@[go_sem] theorem eqI6 (d : Nat) (k k' : IntKind) (a b : Int) : eqT Try.prog (d + 1) 6 [.int k a] [.int k' b] = if k = k' then some (a == b) else none := eqT_int _ Try.underlying6 d k k' a b
attribute [go_sem] Try.underlying7
@[go_sem] theorem cellsOf7 : Try.prog.cellsOf 7 = 4 := by kernel_rfl
@[go_sem] theorem isAgg7 : isAggT Try.prog 7 = some true := by kernel_rfl
@[go_sem] theorem ok7 : tyOk Try.prog 7 = true := by kernel_rfl
@[go_sem] theorem bytes7 : Try.prog.bytesOf 7 = 24 := by kernel_rfl
@[go_sem] theorem zero7 : zeroOf Try.prog 7 = some (.p (.agg [(.int .i64 0), (.int .i64 0), (.bool false), (.int .u8 0)])) := by kernel_rfl
@[go_sem] theorem zeroLen7 : appendA.zeroLen Try.prog 7 = 4 := by kernel_rfl
@[go_sem] theorem field7_0 : fieldOff Try.prog 7 0 = some 0 := by kernel_rfl
@[go_sem] theorem field7_1 : fieldOff Try.prog 7 1 = some 1 := by kernel_rfl
@[go_sem] theorem field7_2 : fieldOff Try.prog 7 2 = some 2 := by kernel_rfl
@[go_sem] theorem field7_3 : fieldOff Try.prog 7 3 = some 3 := by kernel_rfl
@[go_sem] theorem build7 (parts : List (Nat × AV)) : buildA Try.prog 7 parts = (fillG (fun j => [(0, 1), (1, 1), (2, 1), (3, 1)][j]?) [.p (.int .i64 0), .p (.int .i64 0), .p (.bool false), .p (.int .u8 0)] parts).map mkAgg :=
  buildA_eq _ _ zero7 rfl (by kernel_rfl) (by kernel_rfl) (by funext j; exact placesA_eq _ _ (by kernel_rfl) j)
@[go_sem] theorem eqS7 (d : Nat) (xs ys : List PV) : eqT Try.prog (d + 1) 7 xs ys = eqL (eqT Try.prog d) [(2, 0, 1), (3, 1, 1), (4, 2, 1), (6, 3, 1)] xs ys := eqT_struct _ (by kernel_rfl) (by kernel_rfl) (by kernel_rfl) (by kernel_rfl) d xs ys
@[go_sem] theorem eqg7 : Try.prog.eqGuardType Try.prog.depth 7 = false := by kernel_rfl
attribute [go_sem] Try.underlying8
@[go_sem] theorem cellsOf8 : Try.prog.cellsOf 8 = 4 := by kernel_rfl
@[go_sem] theorem isAgg8 : isAggT Try.prog 8 = some true := by kernel_rfl
@[go_sem] theorem ok8 : tyOk Try.prog 8 = true := by kernel_rfl
@[go_sem] theorem bytes8 : Try.prog.bytesOf 8 = 24 := by kernel_rfl
@[go_sem] theorem zero8 : zeroOf Try.prog 8 = some (.p (.agg [(.int .i64 0), (.int .i64 0), (.bool false), (.int .u8 0)])) := by kernel_rfl
@[go_sem] theorem zeroLen8 : appendA.zeroLen Try.prog 8 = 4 := by kernel_rfl
@[go_sem] theorem field8_0 : fieldOff Try.prog 8 0 = some 0 := by kernel_rfl
@[go_sem] theorem field8_1 : fieldOff Try.prog 8 1 = some 1 := by kernel_rfl
@[go_sem] theorem field8_2 : fieldOff Try.prog 8 2 = some 2 := by kernel_rfl
@[go_sem] theorem field8_3 : fieldOff Try.prog 8 3 = some 3 := by kernel_rfl
@[go_sem] theorem build8 (parts : List (Nat × AV)) : buildA Try.prog 8 parts = (fillG (fun j => [(0, 1), (1, 1), (2, 1), (3, 1)][j]?) [.p (.int .i64 0), .p (.int .i64 0), .p (.bool false), .p (.int .u8 0)] parts).map mkAgg :=
  buildA_eq _ _ zero8 rfl (by kernel_rfl) (by kernel_rfl) (by funext j; exact placesA_eq _ _ (by kernel_rfl) j)
@[go_sem] theorem eqS8 (d : Nat) (xs ys : List PV) : eqT Try.prog (d + 1) 8 xs ys = eqL (eqT Try.prog d) [(2, 0, 1), (3, 1, 1), (4, 2, 1), (6, 3, 1)] xs ys := eqT_struct _ (by kernel_rfl) (by kernel_rfl) (by kernel_rfl) (by kernel_rfl) d xs ys
@[go_sem] theorem eqg8 : Try.prog.eqGuardType Try.prog.depth 8 = false := by kernel_rfl
attribute [go_sem] Try.underlying9
@[go_sem] theorem cellsOf9 : Try.prog.cellsOf 9 = 1 := by kernel_rfl
@[go_sem] theorem isAgg9 : isAggT Try.prog 9 = some false := by kernel_rfl
@[go_sem] theorem ok9 : tyOk Try.prog 9 = true := by kernel_rfl
@[go_sem] theorem bytes9 : Try.prog.bytesOf 9 = 16 := by kernel_rfl
@[go_sem] theorem zero9 : zeroOf Try.prog 9 = some (.p (.str [])) := by kernel_rfl
@[go_sem] theorem zeroLen9 : appendA.zeroLen Try.prog 9 = 1 := by kernel_rfl
@[go_sem] theorem eqI9 (d : Nat) (a b : List UInt8) : eqT Try.prog (d + 1) 9 [.str a] [.str b] = some (a == b) := eqT_str _ Try.underlying9 d a b
attribute [go_sem] Try.underlying10
@[go_sem] theorem cellsOf10 : Try.prog.cellsOf 10 = 1 := by kernel_rfl
@[go_sem] theorem isAgg10 : isAggT Try.prog 10 = some false := by kernel_rfl
@[go_sem] theorem ok10 : tyOk Try.prog 10 = true := by kernel_rfl
@[go_sem] theorem bytes10 : Try.prog.bytesOf 10 = 16 := by kernel_rfl
@[go_sem] theorem zero10 : zeroOf Try.prog 10 = some (.p (.str [])) := by kernel_rfl
@[go_sem] theorem zeroLen10 : appendA.zeroLen Try.prog 10 = 1 := by kernel_rfl
@[go_sem] theorem eqI10 (d : Nat) (a b : List UInt8) : eqT Try.prog (d + 1) 10 [.str a] [.str b] = some (a == b) := eqT_str _ Try.underlying10 d a b
attribute [go_sem] Try.underlying11
@[go_sem] theorem cellsOf11 : Try.prog.cellsOf 11 = 1 := by kernel_rfl
@[go_sem] theorem isAgg11 : isAggT Try.prog 11 = some false := by kernel_rfl
@[go_sem] theorem ok11 : tyOk Try.prog 11 = true := by kernel_rfl
@[go_sem] theorem bytes11 : Try.prog.bytesOf 11 = 16 := by kernel_rfl
@[go_sem] theorem zero11 : zeroOf Try.prog 11 = some (.p (.str [])) := by kernel_rfl
@[go_sem] theorem zeroLen11 : appendA.zeroLen Try.prog 11 = 1 := by kernel_rfl
@[go_sem] theorem eqI11 (d : Nat) (a b : List UInt8) : eqT Try.prog (d + 1) 11 [.str a] [.str b] = some (a == b) := eqT_str _ Try.underlying11 d a b
attribute [go_sem] Try.underlying12
@[go_sem] theorem cellsOf12 : Try.prog.cellsOf 12 = 1 := by kernel_rfl
@[go_sem] theorem isAgg12 : isAggT Try.prog 12 = some false := by kernel_rfl
@[go_sem] theorem ok12 : tyOk Try.prog 12 = true := by kernel_rfl
@[go_sem] theorem bytes12 : Try.prog.bytesOf 12 = 8 := by kernel_rfl
@[go_sem] theorem zero12 : zeroOf Try.prog 12 = some (.p (.int .u64 0)) := by kernel_rfl
@[go_sem] theorem zeroLen12 : appendA.zeroLen Try.prog 12 = 1 := by kernel_rfl
@[go_sem] theorem eqI12 (d : Nat) (k k' : IntKind) (a b : Int) : eqT Try.prog (d + 1) 12 [.int k a] [.int k' b] = if k = k' then some (a == b) else none := eqT_int _ Try.underlying12 d k k' a b
attribute [go_sem] Try.underlying13
@[go_sem] theorem cellsOf13 : Try.prog.cellsOf 13 = 2 := by kernel_rfl
@[go_sem] theorem isAgg13 : isAggT Try.prog 13 = some true := by kernel_rfl
@[go_sem] theorem ok13 : tyOk Try.prog 13 = true := by kernel_rfl
@[go_sem] theorem bytes13 : Try.prog.bytesOf 13 = 24 := by kernel_rfl
@[go_sem] theorem zero13 : zeroOf Try.prog 13 = some (.p (.agg [(.str []), (.int .u64 0)])) := by kernel_rfl
@[go_sem] theorem zeroLen13 : appendA.zeroLen Try.prog 13 = 2 := by kernel_rfl
@[go_sem] theorem field13_0 : fieldOff Try.prog 13 0 = some 0 := by kernel_rfl
@[go_sem] theorem field13_1 : fieldOff Try.prog 13 1 = some 1 := by kernel_rfl
@[go_sem] theorem build13 (parts : List (Nat × AV)) : buildA Try.prog 13 parts = (fillG (fun j => [(0, 1), (1, 1)][j]?) [.p (.str []), .p (.int .u64 0)] parts).map mkAgg :=
  buildA_eq _ _ zero13 rfl (by kernel_rfl) (by kernel_rfl) (by funext j; exact placesA_eq _ _ (by kernel_rfl) j)
attribute [go_sem] Try.underlying14
@[go_sem] theorem cellsOf14 : Try.prog.cellsOf 14 = 2 := by kernel_rfl
@[go_sem] theorem isAgg14 : isAggT Try.prog 14 = some true := by kernel_rfl
@[go_sem] theorem ok14 : tyOk Try.prog 14 = true := by kernel_rfl
@[go_sem] theorem bytes14 : Try.prog.bytesOf 14 = 24 := by kernel_rfl
@[go_sem] theorem zero14 : zeroOf Try.prog 14 = some (.p (.agg [(.str []), (.int .u64 0)])) := by kernel_rfl
@[go_sem] theorem zeroLen14 : appendA.zeroLen Try.prog 14 = 2 := by kernel_rfl
@[go_sem] theorem field14_0 : fieldOff Try.prog 14 0 = some 0 := by kernel_rfl
@[go_sem] theorem field14_1 : fieldOff Try.prog 14 1 = some 1 := by kernel_rfl
@[go_sem] theorem build14 (parts : List (Nat × AV)) : buildA Try.prog 14 parts = (fillG (fun j => [(0, 1), (1, 1)][j]?) [.p (.str []), .p (.int .u64 0)] parts).map mkAgg :=
  buildA_eq _ _ zero14 rfl (by kernel_rfl) (by kernel_rfl) (by funext j; exact placesA_eq _ _ (by kernel_rfl) j)
attribute [go_sem] Try.underlying15
@[go_sem] theorem cellsOf15 : Try.prog.cellsOf 15 = 1 := by kernel_rfl
@[go_sem] theorem isAgg15 : isAggT Try.prog 15 = some false := by kernel_rfl
@[go_sem] theorem ok15 : tyOk Try.prog 15 = true := by kernel_rfl
@[go_sem] theorem bytes15 : Try.prog.bytesOf 15 = 8 := by kernel_rfl
@[go_sem] theorem zero15 : zeroOf Try.prog 15 = some (.p .nilp) := by kernel_rfl
@[go_sem] theorem zeroLen15 : appendA.zeroLen Try.prog 15 = 1 := by kernel_rfl
attribute [go_sem] Try.underlying16
@[go_sem] theorem cellsOf16 : Try.prog.cellsOf 16 = 1 := by kernel_rfl
@[go_sem] theorem isAgg16 : isAggT Try.prog 16 = some false := by kernel_rfl
@[go_sem] theorem ok16 : tyOk Try.prog 16 = true := by kernel_rfl
@[go_sem] theorem bytes16 : Try.prog.bytesOf 16 = 8 := by kernel_rfl
@[go_sem] theorem zero16 : zeroOf Try.prog 16 = some (.p .nilp) := by kernel_rfl
@[go_sem] theorem zeroLen16 : appendA.zeroLen Try.prog 16 = 1 := by kernel_rfl
attribute [go_sem] Try.underlying17
@[go_sem] theorem cellsOf17 : Try.prog.cellsOf 17 = 1 := by kernel_rfl
@[go_sem] theorem isAgg17 : isAggT Try.prog 17 = some false := by kernel_rfl
@[go_sem] theorem ok17 : tyOk Try.prog 17 = true := by kernel_rfl
@[go_sem] theorem bytes17 : Try.prog.bytesOf 17 = 8 := by kernel_rfl
@[go_sem] theorem zero17 : zeroOf Try.prog 17 = some (.p .nilp) := by kernel_rfl
@[go_sem] theorem zeroLen17 : appendA.zeroLen Try.prog 17 = 1 := by kernel_rfl
attribute [go_sem] Try.underlying18
@[go_sem] theorem cellsOf18 : Try.prog.cellsOf 18 = 1 := by kernel_rfl
@[go_sem] theorem isAgg18 : isAggT Try.prog 18 = some true := by kernel_rfl
@[go_sem] theorem ok18 : tyOk Try.prog 18 = true := by kernel_rfl
@[go_sem] theorem bytes18 : Try.prog.bytesOf 18 = 8 := by kernel_rfl
@[go_sem] theorem zero18 : zeroOf Try.prog 18 = some (.p (.agg [.nilp])) := by kernel_rfl
@[go_sem] theorem zeroLen18 : appendA.zeroLen Try.prog 18 = 1 := by kernel_rfl
@[go_sem] theorem field18_0 : fieldOff Try.prog 18 0 = some 0 := by kernel_rfl
@[go_sem] theorem build18 (parts : List (Nat × AV)) : buildA Try.prog 18 parts = (fillG (fun j => [(0, 1)][j]?) [.p .nilp] parts).map mkAgg :=
  buildA_eq _ _ zero18 rfl (by kernel_rfl) (by kernel_rfl) (by funext j; exact placesA_eq _ _ (by kernel_rfl) j)
attribute [go_sem] Try.underlying19
@[go_sem] theorem cellsOf19 : Try.prog.cellsOf 19 = 1 := by kernel_rfl
@[go_sem] theorem isAgg19 : isAggT Try.prog 19 = some true := by kernel_rfl
@[go_sem] theorem ok19 : tyOk Try.prog 19 = true := by kernel_rfl
@[go_sem] theorem bytes19 : Try.prog.bytesOf 19 = 8 := by kernel_rfl
@[go_sem] theorem zero19 : zeroOf Try.prog 19 = some (.p (.agg [.nilp])) := by kernel_rfl
@[go_sem] theorem zeroLen19 : appendA.zeroLen Try.prog 19 = 1 := by kernel_rfl
@[go_sem] theorem field19_0 : fieldOff Try.prog 19 0 = some 0 := by kernel_rfl
@[go_sem] theorem build19 (parts : List (Nat × AV)) : buildA Try.prog 19 parts = (fillG (fun j => [(0, 1)][j]?) [.p .nilp] parts).map mkAgg :=
  buildA_eq _ _ zero19 rfl (by kernel_rfl) (by kernel_rfl) (by funext j; exact placesA_eq _ _ (by kernel_rfl) j)
attribute [go_sem] Try.underlying20
@[go_sem] theorem cellsOf20 : Try.prog.cellsOf 20 = 1 := by kernel_rfl
@[go_sem] theorem isAgg20 : isAggT Try.prog 20 = some false := by kernel_rfl
@[go_sem] theorem ok20 : tyOk Try.prog 20 = true := by kernel_rfl
@[go_sem] theorem bytes20 : Try.prog.bytesOf 20 = 16 := by kernel_rfl
@[go_sem] theorem zero20 : zeroOf Try.prog 20 = some (.p .nili) := by kernel_rfl
@[go_sem] theorem zeroLen20 : appendA.zeroLen Try.prog 20 = 1 := by kernel_rfl
attribute [go_sem] Try.underlying21
@[go_sem] theorem cellsOf21 : Try.prog.cellsOf 21 = 1 := by kernel_rfl
@[go_sem] theorem isAgg21 : isAggT Try.prog 21 = some false := by kernel_rfl
@[go_sem] theorem ok21 : tyOk Try.prog 21 = true := by kernel_rfl
@[go_sem] theorem bytes21 : Try.prog.bytesOf 21 = 4 := by kernel_rfl
@[go_sem] theorem zero21 : zeroOf Try.prog 21 = some (.p (.int .i32 0)) := by kernel_rfl
@[go_sem] theorem zeroLen21 : appendA.zeroLen Try.prog 21 = 1 := by kernel_rfl
@[go_sem] theorem eqI21 (d : Nat) (k k' : IntKind) (a b : Int) : eqT Try.prog (d + 1) 21 [.int k a] [.int k' b] = if k = k' then some (a == b) else none := eqT_int _ Try.underlying21 d k k' a b
attribute [go_sem] Try.underlying22
@[go_sem] theorem cellsOf22 : Try.prog.cellsOf 22 = 1 := by kernel_rfl
@[go_sem] theorem isAgg22 : isAggT Try.prog 22 = some false := by kernel_rfl
@[go_sem] theorem ok22 : tyOk Try.prog 22 = true := by kernel_rfl
@[go_sem] theorem bytes22 : Try.prog.bytesOf 22 = 24 := by kernel_rfl
@[go_sem] theorem zero22 : zeroOf Try.prog 22 = some (.nils) := by kernel_rfl
@[go_sem] theorem zeroLen22 : appendA.zeroLen Try.prog 22 = 1 := by kernel_rfl
attribute [go_sem] Try.underlying23
@[go_sem] theorem cellsOf23 : Try.prog.cellsOf 23 = 2 := by kernel_rfl
@[go_sem] theorem isAgg23 : isAggT Try.prog 23 = some true := by kernel_rfl
@[go_sem] theorem ok23 : tyOk Try.prog 23 = true := by kernel_rfl
@[go_sem] theorem bytes23 : Try.prog.bytesOf 23 = 48 := by kernel_rfl
@[go_sem] theorem zero23 : zeroOf Try.prog 23 = some (.agg [.nils, .nils]) := by kernel_rfl
@[go_sem] theorem zeroLen23 : appendA.zeroLen Try.prog 23 = 2 := by kernel_rfl
@[go_sem] theorem field23_0 : fieldOff Try.prog 23 0 = some 0 := by kernel_rfl
@[go_sem] theorem field23_1 : fieldOff Try.prog 23 1 = some 1 := by kernel_rfl
@[go_sem] theorem build23 (parts : List (Nat × AV)) : buildA Try.prog 23 parts = (fillG (fun j => [(0, 1), (1, 1)][j]?) [.nils, .nils] parts).map mkAgg :=
  buildA_eq _ _ zero23 rfl (by kernel_rfl) (by kernel_rfl) (by funext j; exact placesA_eq _ _ (by kernel_rfl) j)
attribute [go_sem] Try.underlying24
@[go_sem] theorem cellsOf24 : Try.prog.cellsOf 24 = 2 := by kernel_rfl
@[go_sem] theorem isAgg24 : isAggT Try.prog 24 = some true := by kernel_rfl
@[go_sem] theorem ok24 : tyOk Try.prog 24 = true := by kernel_rfl
@[go_sem] theorem bytes24 : Try.prog.bytesOf 24 = 48 := by kernel_rfl
@[go_sem] theorem zero24 : zeroOf Try.prog 24 = some (.agg [.nils, .nils]) := by kernel_rfl
@[go_sem] theorem zeroLen24 : appendA.zeroLen Try.prog 24 = 2 := by kernel_rfl
@[go_sem] theorem field24_0 : fieldOff Try.prog 24 0 = some 0 := by kernel_rfl
@[go_sem] theorem field24_1 : fieldOff Try.prog 24 1 = some 1 := by kernel_rfl
@[go_sem] theorem build24 (parts : List (Nat × AV)) : buildA Try.prog 24 parts = (fillG (fun j => [(0, 1), (1, 1)][j]?) [.nils, .nils] parts).map mkAgg :=
  buildA_eq _ _ zero24 rfl (by kernel_rfl) (by kernel_rfl) (by funext j; exact placesA_eq _ _ (by kernel_rfl) j)
attribute [go_sem] Try.underlying25
@[go_sem] theorem cellsOf25 : Try.prog.cellsOf 25 = 1 := by kernel_rfl
@[go_sem] theorem isAgg25 : isAggT Try.prog 25 = some false := by kernel_rfl
@[go_sem] theorem ok25 : tyOk Try.prog 25 = true := by kernel_rfl
@[go_sem] theorem bytes25 : Try.prog.bytesOf 25 = 8 := by kernel_rfl
@[go_sem] theorem zero25 : zeroOf Try.prog 25 = some (.p .nilf) := by kernel_rfl
@[go_sem] theorem zeroLen25 : appendA.zeroLen Try.prog 25 = 1 := by kernel_rfl
attribute [go_sem] Try.underlying26
@[go_sem] theorem cellsOf26 : Try.prog.cellsOf 26 = 1 := by kernel_rfl
@[go_sem] theorem isAgg26 : isAggT Try.prog 26 = some false := by kernel_rfl
@[go_sem] theorem ok26 : tyOk Try.prog 26 = true := by kernel_rfl
@[go_sem] theorem bytes26 : Try.prog.bytesOf 26 = 24 := by kernel_rfl
@[go_sem] theorem zero26 : zeroOf Try.prog 26 = some (.nils) := by kernel_rfl
@[go_sem] theorem zeroLen26 : appendA.zeroLen Try.prog 26 = 1 := by kernel_rfl
attribute [go_sem] Try.underlying27
@[go_sem] theorem cellsOf27 : Try.prog.cellsOf 27 = 1 := by kernel_rfl
@[go_sem] theorem isAgg27 : isAggT Try.prog 27 = some false := by kernel_rfl
@[go_sem] theorem ok27 : tyOk Try.prog 27 = true := by kernel_rfl
@[go_sem] theorem bytes27 : Try.prog.bytesOf 27 = 8 := by kernel_rfl
@[go_sem] theorem zero27 : zeroOf Try.prog 27 = some (.p (.int .i64 0)) := by kernel_rfl
@[go_sem] theorem zeroLen27 : appendA.zeroLen Try.prog 27 = 1 := by kernel_rfl
@[go_sem] theorem eqI27 (d : Nat) (k k' : IntKind) (a b : Int) : eqT Try.prog (d + 1) 27 [.int k a] [.int k' b] = if k = k' then some (a == b) else none := eqT_int _ Try.underlying27 d k k' a b
attribute [go_sem] Try.underlying29
@[go_sem] theorem cellsOf29 : Try.prog.cellsOf 29 = 1 := by kernel_rfl
@[go_sem] theorem isAgg29 : isAggT Try.prog 29 = some false := by kernel_rfl
@[go_sem] theorem ok29 : tyOk Try.prog 29 = true := by kernel_rfl
@[go_sem] theorem bytes29 : Try.prog.bytesOf 29 = 8 := by kernel_rfl
@[go_sem] theorem zero29 : zeroOf Try.prog 29 = some (.p .nilf) := by kernel_rfl
@[go_sem] theorem zeroLen29 : appendA.zeroLen Try.prog 29 = 1 := by kernel_rfl
attribute [go_sem] Try.underlying30
@[go_sem] theorem cellsOf30 : Try.prog.cellsOf 30 = 1 := by kernel_rfl
@[go_sem] theorem isAgg30 : isAggT Try.prog 30 = some false := by kernel_rfl
@[go_sem] theorem ok30 : tyOk Try.prog 30 = true := by kernel_rfl
@[go_sem] theorem bytes30 : Try.prog.bytesOf 30 = 8 := by kernel_rfl
@[go_sem] theorem zero30 : zeroOf Try.prog 30 = some (.p .nilf) := by kernel_rfl
@[go_sem] theorem zeroLen30 : appendA.zeroLen Try.prog 30 = 1 := by kernel_rfl
attribute [go_sem] Try.underlying31
@[go_sem] theorem cellsOf31 : Try.prog.cellsOf 31 = 1 := by kernel_rfl
@[go_sem] theorem isAgg31 : isAggT Try.prog 31 = some false := by kernel_rfl
@[go_sem] theorem ok31 : tyOk Try.prog 31 = true := by kernel_rfl
@[go_sem] theorem bytes31 : Try.prog.bytesOf 31 = 8 := by kernel_rfl
@[go_sem] theorem zero31 : zeroOf Try.prog 31 = some (.p .nilf) := by kernel_rfl
@[go_sem] theorem zeroLen31 : appendA.zeroLen Try.prog 31 = 1 := by kernel_rfl
attribute [go_sem] Try.underlying32
@[go_sem] theorem cellsOf32 : Try.prog.cellsOf 32 = 1 := by kernel_rfl
@[go_sem] theorem isAgg32 : isAggT Try.prog 32 = some false := by kernel_rfl
@[go_sem] theorem ok32 : tyOk Try.prog 32 = true := by kernel_rfl
@[go_sem] theorem bytes32 : Try.prog.bytesOf 32 = 8 := by kernel_rfl
@[go_sem] theorem zero32 : zeroOf Try.prog 32 = some (.p .nilf) := by kernel_rfl
@[go_sem] theorem zeroLen32 : appendA.zeroLen Try.prog 32 = 1 := by kernel_rfl
attribute [go_sem] Try.underlying33
@[go_sem] theorem cellsOf33 : Try.prog.cellsOf 33 = 1 := by kernel_rfl
@[go_sem] theorem isAgg33 : isAggT Try.prog 33 = some false := by kernel_rfl
@[go_sem] theorem ok33 : tyOk Try.prog 33 = true := by kernel_rfl
@[go_sem] theorem bytes33 : Try.prog.bytesOf 33 = 8 := by kernel_rfl
@[go_sem] theorem zero33 : zeroOf Try.prog 33 = some (.p .nilf) := by kernel_rfl
@[go_sem] theorem zeroLen33 : appendA.zeroLen Try.prog 33 = 1 := by kernel_rfl
attribute [go_sem] Try.underlying34
@[go_sem] theorem cellsOf34 : Try.prog.cellsOf 34 = 1 := by kernel_rfl
@[go_sem] theorem isAgg34 : isAggT Try.prog 34 = some false := by kernel_rfl
@[go_sem] theorem ok34 : tyOk Try.prog 34 = true := by kernel_rfl
@[go_sem] theorem bytes34 : Try.prog.bytesOf 34 = 8 := by kernel_rfl
@[go_sem] theorem zero34 : zeroOf Try.prog 34 = some (.p .nilf) := by kernel_rfl
@[go_sem] theorem zeroLen34 : appendA.zeroLen Try.prog 34 = 1 := by kernel_rfl
attribute [go_sem] Try.underlying35
@[go_sem] theorem cellsOf35 : Try.prog.cellsOf 35 = 1 := by kernel_rfl
@[go_sem] theorem isAgg35 : isAggT Try.prog 35 = some false := by kernel_rfl
@[go_sem] theorem ok35 : tyOk Try.prog 35 = true := by kernel_rfl
@[go_sem] theorem bytes35 : Try.prog.bytesOf 35 = 8 := by kernel_rfl
@[go_sem] theorem zero35 : zeroOf Try.prog 35 = some (.p .nilf) := by kernel_rfl
@[go_sem] theorem zeroLen35 : appendA.zeroLen Try.prog 35 = 1 := by kernel_rfl
attribute [go_sem] Try.underlying36
@[go_sem] theorem cellsOf36 : Try.prog.cellsOf 36 = 1 := by kernel_rfl
@[go_sem] theorem isAgg36 : isAggT Try.prog 36 = some false := by kernel_rfl
@[go_sem] theorem ok36 : tyOk Try.prog 36 = true := by kernel_rfl
@[go_sem] theorem bytes36 : Try.prog.bytesOf 36 = 24 := by kernel_rfl
@[go_sem] theorem zero36 : zeroOf Try.prog 36 = some (.nils) := by kernel_rfl
@[go_sem] theorem zeroLen36 : appendA.zeroLen Try.prog 36 = 1 := by kernel_rfl
attribute [go_sem] Try.underlying37
@[go_sem] theorem cellsOf37 : Try.prog.cellsOf 37 = 1 := by kernel_rfl
@[go_sem] theorem isAgg37 : isAggT Try.prog 37 = some false := by kernel_rfl
@[go_sem] theorem ok37 : tyOk Try.prog 37 = true := by kernel_rfl
@[go_sem] theorem bytes37 : Try.prog.bytesOf 37 = 24 := by kernel_rfl
@[go_sem] theorem zero37 : zeroOf Try.prog 37 = some (.nils) := by kernel_rfl
@[go_sem] theorem zeroLen37 : appendA.zeroLen Try.prog 37 = 1 := by kernel_rfl
attribute [go_sem] Try.underlying38
@[go_sem] theorem cellsOf38 : Try.prog.cellsOf 38 = 3 := by kernel_rfl
@[go_sem] theorem isAgg38 : isAggT Try.prog 38 = some true := by kernel_rfl
@[go_sem] theorem ok38 : tyOk Try.prog 38 = true := by kernel_rfl
@[go_sem] theorem bytes38 : Try.prog.bytesOf 38 = 64 := by kernel_rfl
@[go_sem] theorem zero38 : zeroOf Try.prog 38 = some (.agg [.p (.str []), .nils, .nils]) := by kernel_rfl
@[go_sem] theorem zeroLen38 : appendA.zeroLen Try.prog 38 = 3 := by kernel_rfl
@[go_sem] theorem field38_0 : fieldOff Try.prog 38 0 = some 0 := by kernel_rfl
@[go_sem] theorem field38_1 : fieldOff Try.prog 38 1 = some 1 := by kernel_rfl
@[go_sem] theorem field38_2 : fieldOff Try.prog 38 2 = some 2 := by kernel_rfl
@[go_sem] theorem build38 (parts : List (Nat × AV)) : buildA Try.prog 38 parts = (fillG (fun j => [(0, 1), (1, 1), (2, 1)][j]?) [.p (.str []), .nils, .nils] parts).map mkAgg :=
  buildA_eq _ _ zero38 rfl (by kernel_rfl) (by kernel_rfl) (by funext j; exact placesA_eq _ _ (by kernel_rfl) j)
attribute [go_sem] Try.underlying39
@[go_sem] theorem cellsOf39 : Try.prog.cellsOf 39 = 3 := by kernel_rfl
@[go_sem] theorem isAgg39 : isAggT Try.prog 39 = some true := by kernel_rfl
@[go_sem] theorem ok39 : tyOk Try.prog 39 = true := by kernel_rfl
@[go_sem] theorem bytes39 : Try.prog.bytesOf 39 = 64 := by kernel_rfl
@[go_sem] theorem zero39 : zeroOf Try.prog 39 = some (.agg [.p (.str []), .nils, .nils]) := by kernel_rfl
@[go_sem] theorem zeroLen39 : appendA.zeroLen Try.prog 39 = 3 := by kernel_rfl
@[go_sem] theorem field39_0 : fieldOff Try.prog 39 0 = some 0 := by kernel_rfl
@[go_sem] theorem field39_1 : fieldOff Try.prog 39 1 = some 1 := by kernel_rfl
@[go_sem] theorem field39_2 : fieldOff Try.prog 39 2 = some 2 := by kernel_rfl
@[go_sem] theorem build39 (parts : List (Nat × AV)) : buildA Try.prog 39 parts = (fillG (fun j => [(0, 1), (1, 1), (2, 1)][j]?) [.p (.str []), .nils, .nils] parts).map mkAgg :=
  buildA_eq _ _ zero39 rfl (by kernel_rfl) (by kernel_rfl) (by funext j; exact placesA_eq _ _ (by kernel_rfl) j)
attribute [go_sem] Try.underlying40
@[go_sem] theorem cellsOf40 : Try.prog.cellsOf 40 = 1 := by kernel_rfl
@[go_sem] theorem isAgg40 : isAggT Try.prog 40 = some false := by kernel_rfl
@[go_sem] theorem ok40 : tyOk Try.prog 40 = true := by kernel_rfl
@[go_sem] theorem bytes40 : Try.prog.bytesOf 40 = 8 := by kernel_rfl
@[go_sem] theorem zero40 : zeroOf Try.prog 40 = some (.p .nilf) := by kernel_rfl
@[go_sem] theorem zeroLen40 : appendA.zeroLen Try.prog 40 = 1 := by kernel_rfl
attribute [go_sem] Try.underlying41
@[go_sem] theorem cellsOf41 : Try.prog.cellsOf 41 = 1 := by kernel_rfl
@[go_sem] theorem isAgg41 : isAggT Try.prog 41 = some false := by kernel_rfl
@[go_sem] theorem ok41 : tyOk Try.prog 41 = true := by kernel_rfl
@[go_sem] theorem bytes41 : Try.prog.bytesOf 41 = 24 := by kernel_rfl
@[go_sem] theorem zero41 : zeroOf Try.prog 41 = some (.nils) := by kernel_rfl
@[go_sem] theorem zeroLen41 : appendA.zeroLen Try.prog 41 = 1 := by kernel_rfl
attribute [go_sem] Try.underlying43
@[go_sem] theorem cellsOf43 : Try.prog.cellsOf 43 = 1 := by kernel_rfl
@[go_sem] theorem isAgg43 : isAggT Try.prog 43 = some false := by kernel_rfl
@[go_sem] theorem ok43 : tyOk Try.prog 43 = true := by kernel_rfl
@[go_sem] theorem bytes43 : Try.prog.bytesOf 43 = 8 := by kernel_rfl
@[go_sem] theorem zero43 : zeroOf Try.prog 43 = some (.p .nilf) := by kernel_rfl
@[go_sem] theorem zeroLen43 : appendA.zeroLen Try.prog 43 = 1 := by kernel_rfl
attribute [go_sem] Try.underlying44
@[go_sem] theorem cellsOf44 : Try.prog.cellsOf 44 = 1 := by kernel_rfl
@[go_sem] theorem isAgg44 : isAggT Try.prog 44 = some false := by kernel_rfl
@[go_sem] theorem ok44 : tyOk Try.prog 44 = true := by kernel_rfl
@[go_sem] theorem bytes44 : Try.prog.bytesOf 44 = 8 := by kernel_rfl
@[go_sem] theorem zero44 : zeroOf Try.prog 44 = some (.p .nilf) := by kernel_rfl
@[go_sem] theorem zeroLen44 : appendA.zeroLen Try.prog 44 = 1 := by kernel_rfl
attribute [go_sem] Try.underlying46
@[go_sem] theorem cellsOf46 : Try.prog.cellsOf 46 = 1 := by kernel_rfl
@[go_sem] theorem isAgg46 : isAggT Try.prog 46 = some false := by kernel_rfl
@[go_sem] theorem ok46 : tyOk Try.prog 46 = true := by kernel_rfl
@[go_sem] theorem bytes46 : Try.prog.bytesOf 46 = 8 := by kernel_rfl
@[go_sem] theorem zero46 : zeroOf Try.prog 46 = some (.p .nilf) := by kernel_rfl
@[go_sem] theorem zeroLen46 : appendA.zeroLen Try.prog 46 = 1 := by kernel_rfl
attribute [go_sem] Try.underlying48
@[go_sem] theorem cellsOf48 : Try.prog.cellsOf 48 = 1 := by kernel_rfl
@[go_sem] theorem isAgg48 : isAggT Try.prog 48 = some false := by kernel_rfl
@[go_sem] theorem ok48 : tyOk Try.prog 48 = true := by kernel_rfl
@[go_sem] theorem bytes48 : Try.prog.bytesOf 48 = 8 := by kernel_rfl
@[go_sem] theorem zero48 : zeroOf Try.prog 48 = some (.p .nilf) := by kernel_rfl
@[go_sem] theorem zeroLen48 : appendA.zeroLen Try.prog 48 = 1 := by kernel_rfl
attribute [go_sem] Try.underlying49
@[go_sem] theorem cellsOf49 : Try.prog.cellsOf 49 = 1 := by kernel_rfl
@[go_sem] theorem isAgg49 : isAggT Try.prog 49 = some false := by kernel_rfl
@[go_sem] theorem ok49 : tyOk Try.prog 49 = true := by kernel_rfl
@[go_sem] theorem bytes49 : Try.prog.bytesOf 49 = 24 := by kernel_rfl
@[go_sem] theorem zero49 : zeroOf Try.prog 49 = some (.nils) := by kernel_rfl
@[go_sem] theorem zeroLen49 : appendA.zeroLen Try.prog 49 = 1 := by kernel_rfl
attribute [go_sem] Try.underlying50
@[go_sem] theorem cellsOf50 : Try.prog.cellsOf 50 = 1 := by kernel_rfl
@[go_sem] theorem isAgg50 : isAggT Try.prog 50 = some false := by kernel_rfl
@[go_sem] theorem ok50 : tyOk Try.prog 50 = true := by kernel_rfl
@[go_sem] theorem bytes50 : Try.prog.bytesOf 50 = 8 := by kernel_rfl
@[go_sem] theorem zero50 : zeroOf Try.prog 50 = some (.p .nilf) := by kernel_rfl
@[go_sem] theorem zeroLen50 : appendA.zeroLen Try.prog 50 = 1 := by kernel_rfl
attribute [go_sem] Try.underlying51
@[go_sem] theorem cellsOf51 : Try.prog.cellsOf 51 = 1 := by kernel_rfl
@[go_sem] theorem isAgg51 : isAggT Try.prog 51 = some false := by kernel_rfl
@[go_sem] theorem ok51 : tyOk Try.prog 51 = true := by kernel_rfl
@[go_sem] theorem bytes51 : Try.prog.bytesOf 51 = 24 := by kernel_rfl
@[go_sem] theorem zero51 : zeroOf Try.prog 51 = some (.nils) := by kernel_rfl
@[go_sem] theorem zeroLen51 : appendA.zeroLen Try.prog 51 = 1 := by kernel_rfl
attribute [go_sem] Try.underlying52
@[go_sem] theorem cellsOf52 : Try.prog.cellsOf 52 = 2 := by kernel_rfl
@[go_sem] theorem isAgg52 : isAggT Try.prog 52 = some true := by kernel_rfl
@[go_sem] theorem ok52 : tyOk Try.prog 52 = true := by kernel_rfl
@[go_sem] theorem bytes52 : Try.prog.bytesOf 52 = 32 := by kernel_rfl
@[go_sem] theorem zero52 : zeroOf Try.prog 52 = some (.agg [.p (.int .i64 0), .nils]) := by kernel_rfl
@[go_sem] theorem zeroLen52 : appendA.zeroLen Try.prog 52 = 2 := by kernel_rfl
@[go_sem] theorem field52_0 : fieldOff Try.prog 52 0 = some 0 := by kernel_rfl
@[go_sem] theorem field52_1 : fieldOff Try.prog 52 1 = some 1 := by kernel_rfl
@[go_sem] theorem build52 (parts : List (Nat × AV)) : buildA Try.prog 52 parts = (fillG (fun j => [(0, 1), (1, 1)][j]?) [.p (.int .i64 0), .nils] parts).map mkAgg :=
  buildA_eq _ _ zero52 rfl (by kernel_rfl) (by kernel_rfl) (by funext j; exact placesA_eq _ _ (by kernel_rfl) j)
attribute [go_sem] Try.underlying53
@[go_sem] theorem cellsOf53 : Try.prog.cellsOf 53 = 2 := by kernel_rfl
@[go_sem] theorem isAgg53 : isAggT Try.prog 53 = some true := by kernel_rfl
@[go_sem] theorem ok53 : tyOk Try.prog 53 = true := by kernel_rfl
@[go_sem] theorem bytes53 : Try.prog.bytesOf 53 = 32 := by kernel_rfl
@[go_sem] theorem zero53 : zeroOf Try.prog 53 = some (.agg [.p (.int .i64 0), .nils]) := by kernel_rfl
@[go_sem] theorem zeroLen53 : appendA.zeroLen Try.prog 53 = 2 := by kernel_rfl
@[go_sem] theorem field53_0 : fieldOff Try.prog 53 0 = some 0 := by kernel_rfl
@[go_sem] theorem field53_1 : fieldOff Try.prog 53 1 = some 1 := by kernel_rfl
@[go_sem] theorem build53 (parts : List (Nat × AV)) : buildA Try.prog 53 parts = (fillG (fun j => [(0, 1), (1, 1)][j]?) [.p (.int .i64 0), .nils] parts).map mkAgg :=
  buildA_eq _ _ zero53 rfl (by kernel_rfl) (by kernel_rfl) (by funext j; exact placesA_eq _ _ (by kernel_rfl) j)
attribute [go_sem] Try.underlying54
@[go_sem] theorem cellsOf54 : Try.prog.cellsOf 54 = 1 := by kernel_rfl
@[go_sem] theorem isAgg54 : isAggT Try.prog 54 = some false := by kernel_rfl
@[go_sem] theorem ok54 : tyOk Try.prog 54 = true := by kernel_rfl
@[go_sem] theorem bytes54 : Try.prog.bytesOf 54 = 24 := by kernel_rfl
@[go_sem] theorem zero54 : zeroOf Try.prog 54 = some (.nils) := by kernel_rfl
@[go_sem] theorem zeroLen54 : appendA.zeroLen Try.prog 54 = 1 := by kernel_rfl
attribute [go_sem] Try.underlying55
@[go_sem] theorem cellsOf55 : Try.prog.cellsOf 55 = 3 := by kernel_rfl
@[go_sem] theorem isAgg55 : isAggT Try.prog 55 = some true := by kernel_rfl
@[go_sem] theorem ok55 : tyOk Try.prog 55 = true := by kernel_rfl
@[go_sem] theorem bytes55 : Try.prog.bytesOf 55 = 32 := by kernel_rfl
@[go_sem] theorem zero55 : zeroOf Try.prog 55 = some (.agg [.p (.int .u8 0), .p (.int .u8 0), .nils]) := by kernel_rfl
@[go_sem] theorem zeroLen55 : appendA.zeroLen Try.prog 55 = 3 := by kernel_rfl
@[go_sem] theorem field55_0 : fieldOff Try.prog 55 0 = some 0 := by kernel_rfl
@[go_sem] theorem field55_1 : fieldOff Try.prog 55 1 = some 1 := by kernel_rfl
@[go_sem] theorem field55_2 : fieldOff Try.prog 55 2 = some 2 := by kernel_rfl
@[go_sem] theorem build55 (parts : List (Nat × AV)) : buildA Try.prog 55 parts = (fillG (fun j => [(0, 1), (1, 1), (2, 1)][j]?) [.p (.int .u8 0), .p (.int .u8 0), .nils] parts).map mkAgg :=
  buildA_eq _ _ zero55 rfl (by kernel_rfl) (by kernel_rfl) (by funext j; exact placesA_eq _ _ (by kernel_rfl) j)
attribute [go_sem] Try.underlying56
@[go_sem] theorem cellsOf56 : Try.prog.cellsOf 56 = 3 := by kernel_rfl
@[go_sem] theorem isAgg56 : isAggT Try.prog 56 = some true := by kernel_rfl
@[go_sem] theorem ok56 : tyOk Try.prog 56 = true := by kernel_rfl
@[go_sem] theorem bytes56 : Try.prog.bytesOf 56 = 32 := by kernel_rfl
@[go_sem] theorem zero56 : zeroOf Try.prog 56 = some (.agg [.p (.int .u8 0), .p (.int .u8 0), .nils]) := by kernel_rfl
@[go_sem] theorem zeroLen56 : appendA.zeroLen Try.prog 56 = 3 := by kernel_rfl
@[go_sem] theorem field56_0 : fieldOff Try.prog 56 0 = some 0 := by kernel_rfl
@[go_sem] theorem field56_1 : fieldOff Try.prog 56 1 = some 1 := by kernel_rfl
@[go_sem] theorem field56_2 : fieldOff Try.prog 56 2 = some 2 := by kernel_rfl
@[go_sem] theorem build56 (parts : List (Nat × AV)) : buildA Try.prog 56 parts = (fillG (fun j => [(0, 1), (1, 1), (2, 1)][j]?) [.p (.int .u8 0), .p (.int .u8 0), .nils] parts).map mkAgg :=
  buildA_eq _ _ zero56 rfl (by kernel_rfl) (by kernel_rfl) (by funext j; exact placesA_eq _ _ (by kernel_rfl) j)
attribute [go_sem] Try.underlying57
@[go_sem] theorem cellsOf57 : Try.prog.cellsOf 57 = 1 := by kernel_rfl
@[go_sem] theorem isAgg57 : isAggT Try.prog 57 = some false := by kernel_rfl
@[go_sem] theorem ok57 : tyOk Try.prog 57 = true := by kernel_rfl
@[go_sem] theorem bytes57 : Try.prog.bytesOf 57 = 24 := by kernel_rfl
@[go_sem] theorem zero57 : zeroOf Try.prog 57 = some (.nils) := by kernel_rfl
@[go_sem] theorem zeroLen57 : appendA.zeroLen Try.prog 57 = 1 := by kernel_rfl
attribute [go_sem] Try.underlying58
@[go_sem] theorem cellsOf58 : Try.prog.cellsOf 58 = 2 := by kernel_rfl
@[go_sem] theorem isAgg58 : isAggT Try.prog 58 = some true := by kernel_rfl
@[go_sem] theorem ok58 : tyOk Try.prog 58 = true := by kernel_rfl
@[go_sem] theorem bytes58 : Try.prog.bytesOf 58 = 48 := by kernel_rfl
@[go_sem] theorem zero58 : zeroOf Try.prog 58 = some (.agg [.nils, .nils]) := by kernel_rfl
@[go_sem] theorem zeroLen58 : appendA.zeroLen Try.prog 58 = 2 := by kernel_rfl
@[go_sem] theorem field58_0 : fieldOff Try.prog 58 0 = some 0 := by kernel_rfl
@[go_sem] theorem field58_1 : fieldOff Try.prog 58 1 = some 1 := by kernel_rfl
@[go_sem] theorem build58 (parts : List (Nat × AV)) : buildA Try.prog 58 parts = (fillG (fun j => [(0, 1), (1, 1)][j]?) [.nils, .nils] parts).map mkAgg :=
  buildA_eq _ _ zero58 rfl (by kernel_rfl) (by kernel_rfl) (by funext j; exact placesA_eq _ _ (by kernel_rfl) j)
attribute [go_sem] Try.underlying59
@[go_sem] theorem cellsOf59 : Try.prog.cellsOf 59 = 2 := by kernel_rfl
@[go_sem] theorem isAgg59 : isAggT Try.prog 59 = some true := by kernel_rfl
@[go_sem] theorem ok59 : tyOk Try.prog 59 = true := by kernel_rfl
@[go_sem] theorem bytes59 : Try.prog.bytesOf 59 = 48 := by kernel_rfl
@[go_sem] theorem zero59 : zeroOf Try.prog 59 = some (.agg [.nils, .nils]) := by kernel_rfl
@[go_sem] theorem zeroLen59 : appendA.zeroLen Try.prog 59 = 2 := by kernel_rfl
@[go_sem] theorem field59_0 : fieldOff Try.prog 59 0 = some 0 := by kernel_rfl
@[go_sem] theorem field59_1 : fieldOff Try.prog 59 1 = some 1 := by kernel_rfl
@[go_sem] theorem build59 (parts : List (Nat × AV)) : buildA Try.prog 59 parts = (fillG (fun j => [(0, 1), (1, 1)][j]?) [.nils, .nils] parts).map mkAgg :=
  buildA_eq _ _ zero59 rfl (by kernel_rfl) (by kernel_rfl) (by funext j; exact placesA_eq _ _ (by kernel_rfl) j)
attribute [go_sem] Try.underlying61
@[go_sem] theorem cellsOf61 : Try.prog.cellsOf 61 = 1 := by kernel_rfl
@[go_sem] theorem isAgg61 : isAggT Try.prog 61 = some false := by kernel_rfl
@[go_sem] theorem ok61 : tyOk Try.prog 61 = true := by kernel_rfl
@[go_sem] theorem bytes61 : Try.prog.bytesOf 61 = 8 := by kernel_rfl
@[go_sem] theorem zero61 : zeroOf Try.prog 61 = some (.p .nilf) := by kernel_rfl
@[go_sem] theorem zeroLen61 : appendA.zeroLen Try.prog 61 = 1 := by kernel_rfl
attribute [go_sem] Try.underlying62
@[go_sem] theorem cellsOf62 : Try.prog.cellsOf 62 = 1 := by kernel_rfl
@[go_sem] theorem isAgg62 : isAggT Try.prog 62 = some false := by kernel_rfl
@[go_sem] theorem ok62 : tyOk Try.prog 62 = true := by kernel_rfl
@[go_sem] theorem bytes62 : Try.prog.bytesOf 62 = 8 := by kernel_rfl
@[go_sem] theorem zero62 : zeroOf Try.prog 62 = some (.p .nilf) := by kernel_rfl
@[go_sem] theorem zeroLen62 : appendA.zeroLen Try.prog 62 = 1 := by kernel_rfl
attribute [go_sem] Try.underlying64
@[go_sem] theorem cellsOf64 : Try.prog.cellsOf 64 = 1 := by kernel_rfl
@[go_sem] theorem isAgg64 : isAggT Try.prog 64 = some false := by kernel_rfl
@[go_sem] theorem ok64 : tyOk Try.prog 64 = true := by kernel_rfl
@[go_sem] theorem bytes64 : Try.prog.bytesOf 64 = 8 := by kernel_rfl
@[go_sem] theorem zero64 : zeroOf Try.prog 64 = some (.p .nilf) := by kernel_rfl
@[go_sem] theorem zeroLen64 : appendA.zeroLen Try.prog 64 = 1 := by kernel_rfl
attribute [go_sem] Try.underlying65
@[go_sem] theorem cellsOf65 : Try.prog.cellsOf 65 = 1 := by kernel_rfl
@[go_sem] theorem isAgg65 : isAggT Try.prog 65 = some false := by kernel_rfl
@[go_sem] theorem ok65 : tyOk Try.prog 65 = true := by kernel_rfl
@[go_sem] theorem bytes65 : Try.prog.bytesOf 65 = 8 := by kernel_rfl
@[go_sem] theorem zero65 : zeroOf Try.prog 65 = some (.p .nilf) := by kernel_rfl
@[go_sem] theorem zeroLen65 : appendA.zeroLen Try.prog 65 = 1 := by kernel_rfl
attribute [go_sem] Try.underlying66
@[go_sem] theorem cellsOf66 : Try.prog.cellsOf 66 = 1 := by kernel_rfl
@[go_sem] theorem isAgg66 : isAggT Try.prog 66 = some false := by kernel_rfl
@[go_sem] theorem ok66 : tyOk Try.prog 66 = true := by kernel_rfl
@[go_sem] theorem bytes66 : Try.prog.bytesOf 66 = 4 := by kernel_rfl
@[go_sem] theorem zero66 : zeroOf Try.prog 66 = some (.p (.int .u32 0)) := by kernel_rfl
@[go_sem] theorem zeroLen66 : appendA.zeroLen Try.prog 66 = 1 := by kernel_rfl
@[go_sem] theorem eqI66 (d : Nat) (k k' : IntKind) (a b : Int) : eqT Try.prog (d + 1) 66 [.int k a] [.int k' b] = if k = k' then some (a == b) else none := eqT_int _ Try.underlying66 d k k' a b
attribute [go_sem] Try.underlying67
@[go_sem] theorem cellsOf67 : Try.prog.cellsOf 67 = 1 := by kernel_rfl
@[go_sem] theorem isAgg67 : isAggT Try.prog 67 = some false := by kernel_rfl
@[go_sem] theorem ok67 : tyOk Try.prog 67 = true := by kernel_rfl
@[go_sem] theorem bytes67 : Try.prog.bytesOf 67 = 4 := by kernel_rfl
@[go_sem] theorem zero67 : zeroOf Try.prog 67 = some (.p (.int .u32 0)) := by kernel_rfl
@[go_sem] theorem zeroLen67 : appendA.zeroLen Try.prog 67 = 1 := by kernel_rfl
@[go_sem] theorem eqI67 (d : Nat) (k k' : IntKind) (a b : Int) : eqT Try.prog (d + 1) 67 [.int k a] [.int k' b] = if k = k' then some (a == b) else none := eqT_int _ Try.underlying67 d k k' a b
attribute [go_sem] Try.underlying68
@[go_sem] theorem cellsOf68 : Try.prog.cellsOf 68 = 3 := by kernel_rfl
@[go_sem] theorem isAgg68 : isAggT Try.prog 68 = some true := by kernel_rfl
@[go_sem] theorem ok68 : tyOk Try.prog 68 = true := by kernel_rfl
@[go_sem] theorem bytes68 : Try.prog.bytesOf 68 = 24 := by kernel_rfl
@[go_sem] theorem zero68 : zeroOf Try.prog 68 = some (.p (.agg [(.int .u32 0), (.int .i64 0), (.int .i64 0)])) := by kernel_rfl
@[go_sem] theorem zeroLen68 : appendA.zeroLen Try.prog 68 = 3 := by kernel_rfl
@[go_sem] theorem field68_0 : fieldOff Try.prog 68 0 = some 0 := by kernel_rfl
@[go_sem] theorem field68_1 : fieldOff Try.prog 68 1 = some 1 := by kernel_rfl
@[go_sem] theorem field68_2 : fieldOff Try.prog 68 2 = some 2 := by kernel_rfl
@[go_sem] theorem build68 (parts : List (Nat × AV)) : buildA Try.prog 68 parts = (fillG (fun j => [(0, 1), (1, 1), (2, 1)][j]?) [.p (.int .u32 0), .p (.int .i64 0), .p (.int .i64 0)] parts).map mkAgg :=
  buildA_eq _ _ zero68 rfl (by kernel_rfl) (by kernel_rfl) (by funext j; exact placesA_eq _ _ (by kernel_rfl) j)
@[go_sem] theorem eqS68 (d : Nat) (xs ys : List PV) : eqT Try.prog (d + 1) 68 xs ys = eqL (eqT Try.prog d) [(67, 0, 1), (3, 1, 1), (3, 2, 1)] xs ys := eqT_struct _ (by kernel_rfl) (by kernel_rfl) (by kernel_rfl) (by kernel_rfl) d xs ys
@[go_sem] theorem eqg68 : Try.prog.eqGuardType Try.prog.depth 68 = false := by kernel_rfl
attribute [go_sem] Try.underlying69
@[go_sem] theorem cellsOf69 : Try.prog.cellsOf 69 = 3 := by kernel_rfl
@[go_sem] theorem isAgg69 : isAggT Try.prog 69 = some true := by kernel_rfl
@[go_sem] theorem ok69 : tyOk Try.prog 69 = true := by kernel_rfl
@[go_sem] theorem bytes69 : Try.prog.bytesOf 69 = 24 := by kernel_rfl
@[go_sem] theorem zero69 : zeroOf Try.prog 69 = some (.p (.agg [(.int .u32 0), (.int .i64 0), (.int .i64 0)])) := by kernel_rfl
@[go_sem] theorem zeroLen69 : appendA.zeroLen Try.prog 69 = 3 := by kernel_rfl
@[go_sem] theorem field69_0 : fieldOff Try.prog 69 0 = some 0 := by kernel_rfl
@[go_sem] theorem field69_1 : fieldOff Try.prog 69 1 = some 1 := by kernel_rfl
@[go_sem] theorem field69_2 : fieldOff Try.prog 69 2 = some 2 := by kernel_rfl
@[go_sem] theorem build69 (parts : List (Nat × AV)) : buildA Try.prog 69 parts = (fillG (fun j => [(0, 1), (1, 1), (2, 1)][j]?) [.p (.int .u32 0), .p (.int .i64 0), .p (.int .i64 0)] parts).map mkAgg :=
  buildA_eq _ _ zero69 rfl (by kernel_rfl) (by kernel_rfl) (by funext j; exact placesA_eq _ _ (by kernel_rfl) j)
@[go_sem] theorem eqS69 (d : Nat) (xs ys : List PV) : eqT Try.prog (d + 1) 69 xs ys = eqL (eqT Try.prog d) [(67, 0, 1), (3, 1, 1), (3, 2, 1)] xs ys := eqT_struct _ (by kernel_rfl) (by kernel_rfl) (by kernel_rfl) (by kernel_rfl) d xs ys
@[go_sem] theorem eqg69 : Try.prog.eqGuardType Try.prog.depth 69 = false := by kernel_rfl
attribute [go_sem] Try.underlying72
@[go_sem] theorem cellsOf72 : Try.prog.cellsOf 72 = 1 := by kernel_rfl
@[go_sem] theorem isAgg72 : isAggT Try.prog 72 = some false := by kernel_rfl
@[go_sem] theorem ok72 : tyOk Try.prog 72 = true := by kernel_rfl
@[go_sem] theorem bytes72 : Try.prog.bytesOf 72 = 8 := by kernel_rfl
@[go_sem] theorem zero72 : zeroOf Try.prog 72 = some (.p .nilf) := by kernel_rfl
@[go_sem] theorem zeroLen72 : appendA.zeroLen Try.prog 72 = 1 := by kernel_rfl
attribute [go_sem] Try.underlying75
@[go_sem] theorem cellsOf75 : Try.prog.cellsOf 75 = 1 := by kernel_rfl
@[go_sem] theorem isAgg75 : isAggT Try.prog 75 = some false := by kernel_rfl
@[go_sem] theorem ok75 : tyOk Try.prog 75 = true := by kernel_rfl
@[go_sem] theorem bytes75 : Try.prog.bytesOf 75 = 8 := by kernel_rfl
@[go_sem] theorem zero75 : zeroOf Try.prog 75 = some (.p .nilf) := by kernel_rfl
@[go_sem] theorem zeroLen75 : appendA.zeroLen Try.prog 75 = 1 := by kernel_rfl
attribute [go_sem] Try.underlying77
@[go_sem] theorem cellsOf77 : Try.prog.cellsOf 77 = 1 := by kernel_rfl
@[go_sem] theorem isAgg77 : isAggT Try.prog 77 = some false := by kernel_rfl
@[go_sem] theorem ok77 : tyOk Try.prog 77 = true := by kernel_rfl
@[go_sem] theorem bytes77 : Try.prog.bytesOf 77 = 8 := by kernel_rfl
@[go_sem] theorem zero77 : zeroOf Try.prog 77 = some (.p .nilf) := by kernel_rfl
@[go_sem] theorem zeroLen77 : appendA.zeroLen Try.prog 77 = 1 := by kernel_rfl
attribute [go_sem] Try.underlying78
@[go_sem] theorem cellsOf78 : Try.prog.cellsOf 78 = 1 := by kernel_rfl
@[go_sem] theorem isAgg78 : isAggT Try.prog 78 = some false := by kernel_rfl
@[go_sem] theorem ok78 : tyOk Try.prog 78 = true := by kernel_rfl
@[go_sem] theorem bytes78 : Try.prog.bytesOf 78 = 8 := by kernel_rfl
@[go_sem] theorem zero78 : zeroOf Try.prog 78 = some (.p .nilf) := by kernel_rfl
@[go_sem] theorem zeroLen78 : appendA.zeroLen Try.prog 78 = 1 := by kernel_rfl
attribute [go_sem] Try.underlying86
@[go_sem] theorem cellsOf86 : Try.prog.cellsOf 86 = 1 := by kernel_rfl
@[go_sem] theorem isAgg86 : isAggT Try.prog 86 = some false := by kernel_rfl
@[go_sem] theorem ok86 : tyOk Try.prog 86 = true := by kernel_rfl
@[go_sem] theorem bytes86 : Try.prog.bytesOf 86 = 8 := by kernel_rfl
@[go_sem] theorem zero86 : zeroOf Try.prog 86 = some (.p .nilf) := by kernel_rfl
@[go_sem] theorem zeroLen86 : appendA.zeroLen Try.prog 86 = 1 := by kernel_rfl
attribute [go_sem] Try.underlying87
@[go_sem] theorem cellsOf87 : Try.prog.cellsOf 87 = 1 := by kernel_rfl
@[go_sem] theorem isAgg87 : isAggT Try.prog 87 = some false := by kernel_rfl
@[go_sem] theorem ok87 : tyOk Try.prog 87 = true := by kernel_rfl
@[go_sem] theorem bytes87 : Try.prog.bytesOf 87 = 8 := by kernel_rfl
@[go_sem] theorem zero87 : zeroOf Try.prog 87 = some (.p .nilf) := by kernel_rfl
@[go_sem] theorem zeroLen87 : appendA.zeroLen Try.prog 87 = 1 := by kernel_rfl
attribute [go_sem] Try.underlying93
@[go_sem] theorem cellsOf93 : Try.prog.cellsOf 93 = 3 := by kernel_rfl
@[go_sem] theorem isAgg93 : isAggT Try.prog 93 = some true := by kernel_rfl
@[go_sem] theorem ok93 : tyOk Try.prog 93 = true := by kernel_rfl
@[go_sem] theorem bytes93 : Try.prog.bytesOf 93 = 32 := by kernel_rfl
@[go_sem] theorem zero93 : zeroOf Try.prog 93 = some (.p (.agg [(.int .i64 0), (.int .i64 0), (.str [])])) := by kernel_rfl
@[go_sem] theorem zeroLen93 : appendA.zeroLen Try.prog 93 = 3 := by kernel_rfl
@[go_sem] theorem field93_0 : fieldOff Try.prog 93 0 = some 0 := by kernel_rfl
@[go_sem] theorem field93_1 : fieldOff Try.prog 93 1 = some 1 := by kernel_rfl
@[go_sem] theorem field93_2 : fieldOff Try.prog 93 2 = some 2 := by kernel_rfl
@[go_sem] theorem build93 (parts : List (Nat × AV)) : buildA Try.prog 93 parts = (fillG (fun j => [(0, 1), (1, 1), (2, 1)][j]?) [.p (.int .i64 0), .p (.int .i64 0), .p (.str [])] parts).map mkAgg :=
  buildA_eq _ _ zero93 rfl (by kernel_rfl) (by kernel_rfl) (by funext j; exact placesA_eq _ _ (by kernel_rfl) j)
@[go_sem] theorem eqS93 (d : Nat) (xs ys : List PV) : eqT Try.prog (d + 1) 93 xs ys = eqL (eqT Try.prog d) [(3, 0, 1), (2, 1, 1), (9, 2, 1)] xs ys := eqT_struct _ (by kernel_rfl) (by kernel_rfl) (by kernel_rfl) (by kernel_rfl) d xs ys
@[go_sem] theorem eqg93 : Try.prog.eqGuardType Try.prog.depth 93 = false := by kernel_rfl
attribute [go_sem] Try.underlying94
@[go_sem] theorem cellsOf94 : Try.prog.cellsOf 94 = 3 := by kernel_rfl
@[go_sem] theorem isAgg94 : isAggT Try.prog 94 = some true := by kernel_rfl
@[go_sem] theorem ok94 : tyOk Try.prog 94 = true := by kernel_rfl
@[go_sem] theorem bytes94 : Try.prog.bytesOf 94 = 32 := by kernel_rfl
@[go_sem] theorem zero94 : zeroOf Try.prog 94 = some (.p (.agg [(.int .i64 0), (.int .i64 0), (.str [])])) := by kernel_rfl
@[go_sem] theorem zeroLen94 : appendA.zeroLen Try.prog 94 = 3 := by kernel_rfl
@[go_sem] theorem field94_0 : fieldOff Try.prog 94 0 = some 0 := by kernel_rfl
@[go_sem] theorem field94_1 : fieldOff Try.prog 94 1 = some 1 := by kernel_rfl
@[go_sem] theorem field94_2 : fieldOff Try.prog 94 2 = some 2 := by kernel_rfl
@[go_sem] theorem build94 (parts : List (Nat × AV)) : buildA Try.prog 94 parts = (fillG (fun j => [(0, 1), (1, 1), (2, 1)][j]?) [.p (.int .i64 0), .p (.int .i64 0), .p (.str [])] parts).map mkAgg :=
  buildA_eq _ _ zero94 rfl (by kernel_rfl) (by kernel_rfl) (by funext j; exact placesA_eq _ _ (by kernel_rfl) j)
@[go_sem] theorem eqS94 (d : Nat) (xs ys : List PV) : eqT Try.prog (d + 1) 94 xs ys = eqL (eqT Try.prog d) [(3, 0, 1), (2, 1, 1), (9, 2, 1)] xs ys := eqT_struct _ (by kernel_rfl) (by kernel_rfl) (by kernel_rfl) (by kernel_rfl) d xs ys
@[go_sem] theorem eqg94 : Try.prog.eqGuardType Try.prog.depth 94 = false := by kernel_rfl
attribute [go_sem] Try.underlying95
@[go_sem] theorem cellsOf95 : Try.prog.cellsOf 95 = 1 := by kernel_rfl
@[go_sem] theorem isAgg95 : isAggT Try.prog 95 = some false := by kernel_rfl
@[go_sem] theorem ok95 : tyOk Try.prog 95 = true := by kernel_rfl
@[go_sem] theorem bytes95 : Try.prog.bytesOf 95 = 24 := by kernel_rfl
@[go_sem] theorem zero95 : zeroOf Try.prog 95 = some (.nils) := by kernel_rfl
@[go_sem] theorem zeroLen95 : appendA.zeroLen Try.prog 95 = 1 := by kernel_rfl
attribute [go_sem] Try.underlying98
@[go_sem] theorem cellsOf98 : Try.prog.cellsOf 98 = 1 := by kernel_rfl
@[go_sem] theorem isAgg98 : isAggT Try.prog 98 = some false := by kernel_rfl
@[go_sem] theorem ok98 : tyOk Try.prog 98 = true := by kernel_rfl
@[go_sem] theorem bytes98 : Try.prog.bytesOf 98 = 8 := by kernel_rfl
@[go_sem] theorem zero98 : zeroOf Try.prog 98 = some (.p .nilf) := by kernel_rfl
@[go_sem] theorem zeroLen98 : appendA.zeroLen Try.prog 98 = 1 := by kernel_rfl
attribute [go_sem] Try.underlying103
@[go_sem] theorem cellsOf103 : Try.prog.cellsOf 103 = 1 := by kernel_rfl
@[go_sem] theorem isAgg103 : isAggT Try.prog 103 = some false := by kernel_rfl
@[go_sem] theorem ok103 : tyOk Try.prog 103 = true := by kernel_rfl
@[go_sem] theorem bytes103 : Try.prog.bytesOf 103 = 8 := by kernel_rfl
@[go_sem] theorem zero103 : zeroOf Try.prog 103 = some (.p .nilf) := by kernel_rfl
@[go_sem] theorem zeroLen103 : appendA.zeroLen Try.prog 103 = 1 := by kernel_rfl
attribute [go_sem] Try.underlying112
@[go_sem] theorem cellsOf112 : Try.prog.cellsOf 112 = 1 := by kernel_rfl
@[go_sem] theorem isAgg112 : isAggT Try.prog 112 = some false := by kernel_rfl
@[go_sem] theorem ok112 : tyOk Try.prog 112 = true := by kernel_rfl
@[go_sem] theorem bytes112 : Try.prog.bytesOf 112 = 8 := by kernel_rfl
@[go_sem] theorem zero112 : zeroOf Try.prog 112 = some (.p (.int .u64 0)) := by kernel_rfl
@[go_sem] theorem zeroLen112 : appendA.zeroLen Try.prog 112 = 1 := by kernel_rfl
@[go_sem] theorem eqI112 (d : Nat) (k k' : IntKind) (a b : Int) : eqT Try.prog (d + 1) 112 [.int k a] [.int k' b] = if k = k' then some (a == b) else none := eqT_int _ Try.underlying112 d k k' a b
attribute [go_sem] Try.underlying113
@[go_sem] theorem cellsOf113 : Try.prog.cellsOf 113 = 1 := by kernel_rfl
@[go_sem] theorem isAgg113 : isAggT Try.prog 113 = some false := by kernel_rfl
@[go_sem] theorem ok113 : tyOk Try.prog 113 = true := by kernel_rfl
@[go_sem] theorem bytes113 : Try.prog.bytesOf 113 = 8 := by kernel_rfl
@[go_sem] theorem zero113 : zeroOf Try.prog 113 = some (.p .nilf) := by kernel_rfl
@[go_sem] theorem zeroLen113 : appendA.zeroLen Try.prog 113 = 1 := by kernel_rfl
attribute [go_sem] Try.underlying116
@[go_sem] theorem cellsOf116 : Try.prog.cellsOf 116 = 1 := by kernel_rfl
@[go_sem] theorem isAgg116 : isAggT Try.prog 116 = some false := by kernel_rfl
@[go_sem] theorem ok116 : tyOk Try.prog 116 = true := by kernel_rfl
@[go_sem] theorem bytes116 : Try.prog.bytesOf 116 = 8 := by kernel_rfl
@[go_sem] theorem zero116 : zeroOf Try.prog 116 = some (.p .nilf) := by kernel_rfl
@[go_sem] theorem zeroLen116 : appendA.zeroLen Try.prog 116 = 1 := by kernel_rfl
attribute [go_sem] Try.underlying120
@[go_sem] theorem cellsOf120 : Try.prog.cellsOf 120 = 1 := by kernel_rfl
@[go_sem] theorem isAgg120 : isAggT Try.prog 120 = some false := by kernel_rfl
@[go_sem] theorem ok120 : tyOk Try.prog 120 = true := by kernel_rfl
@[go_sem] theorem bytes120 : Try.prog.bytesOf 120 = 8 := by kernel_rfl
@[go_sem] theorem zero120 : zeroOf Try.prog 120 = some (.p (.int .i64 0)) := by kernel_rfl
@[go_sem] theorem zeroLen120 : appendA.zeroLen Try.prog 120 = 1 := by kernel_rfl
@[go_sem] theorem eqI120 (d : Nat) (k k' : IntKind) (a b : Int) : eqT Try.prog (d + 1) 120 [.int k a] [.int k' b] = if k = k' then some (a == b) else none := eqT_int _ Try.underlying120 d k k' a b
attribute [go_sem] Try.underlying129
@[go_sem] theorem cellsOf129 : Try.prog.cellsOf 129 = 1 := by kernel_rfl
@[go_sem] theorem isAgg129 : isAggT Try.prog 129 = some false := by kernel_rfl
@[go_sem] theorem ok129 : tyOk Try.prog 129 = true := by kernel_rfl
@[go_sem] theorem bytes129 : Try.prog.bytesOf 129 = 8 := by kernel_rfl
@[go_sem] theorem zero129 : zeroOf Try.prog 129 = some (.p (.int .u64 0)) := by kernel_rfl
@[go_sem] theorem zeroLen129 : appendA.zeroLen Try.prog 129 = 1 := by kernel_rfl
@[go_sem] theorem eqI129 (d : Nat) (k k' : IntKind) (a b : Int) : eqT Try.prog (d + 1) 129 [.int k a] [.int k' b] = if k = k' then some (a == b) else none := eqT_int _ Try.underlying129 d k k' a b
attribute [go_sem] Try.underlying132
@[go_sem] theorem cellsOf132 : Try.prog.cellsOf 132 = 1 := by kernel_rfl
@[go_sem] theorem isAgg132 : isAggT Try.prog 132 = some false := by kernel_rfl
@[go_sem] theorem ok132 : tyOk Try.prog 132 = true := by kernel_rfl
@[go_sem] theorem bytes132 : Try.prog.bytesOf 132 = 8 := by kernel_rfl
@[go_sem] theorem zero132 : zeroOf Try.prog 132 = some (.p .nilf) := by kernel_rfl
@[go_sem] theorem zeroLen132 : appendA.zeroLen Try.prog 132 = 1 := by kernel_rfl
attribute [go_sem] Try.underlying134
@[go_sem] theorem cellsOf134 : Try.prog.cellsOf 134 = 1 := by kernel_rfl
@[go_sem] theorem isAgg134 : isAggT Try.prog 134 = some false := by kernel_rfl
@[go_sem] theorem ok134 : tyOk Try.prog 134 = true := by kernel_rfl
@[go_sem] theorem bytes134 : Try.prog.bytesOf 134 = 8 := by kernel_rfl
@[go_sem] theorem zero134 : zeroOf Try.prog 134 = some (.p (.int .u64 0)) := by kernel_rfl
@[go_sem] theorem zeroLen134 : appendA.zeroLen Try.prog 134 = 1 := by kernel_rfl
@[go_sem] theorem eqI134 (d : Nat) (k k' : IntKind) (a b : Int) : eqT Try.prog (d + 1) 134 [.int k a] [.int k' b] = if k = k' then some (a == b) else none := eqT_int _ Try.underlying134 d k k' a b
attribute [go_sem] Try.underlying138
@[go_sem] theorem cellsOf138 : Try.prog.cellsOf 138 = 1 := by kernel_rfl
@[go_sem] theorem isAgg138 : isAggT Try.prog 138 = some false := by kernel_rfl
@[go_sem] theorem ok138 : tyOk Try.prog 138 = true := by kernel_rfl
@[go_sem] theorem bytes138 : Try.prog.bytesOf 138 = 8 := by kernel_rfl
@[go_sem] theorem zero138 : zeroOf Try.prog 138 = some (.p .nilp) := by kernel_rfl
@[go_sem] theorem zeroLen138 : appendA.zeroLen Try.prog 138 = 1 := by kernel_rfl
attribute [go_sem] Try.underlying141
@[go_sem] theorem cellsOf141 : Try.prog.cellsOf 141 = 1 := by kernel_rfl
@[go_sem] theorem isAgg141 : isAggT Try.prog 141 = some false := by kernel_rfl
@[go_sem] theorem ok141 : tyOk Try.prog 141 = true := by kernel_rfl
@[go_sem] theorem bytes141 : Try.prog.bytesOf 141 = 8 := by kernel_rfl
@[go_sem] theorem zero141 : zeroOf Try.prog 141 = some (.p .nilp) := by kernel_rfl
@[go_sem] theorem zeroLen141 : appendA.zeroLen Try.prog 141 = 1 := by kernel_rfl
attribute [go_sem] Try.underlying145
@[go_sem] theorem cellsOf145 : Try.prog.cellsOf 145 = 4 := by kernel_rfl
@[go_sem] theorem isAgg145 : isAggT Try.prog 145 = some true := by kernel_rfl
@[go_sem] theorem ok145 : tyOk Try.prog 145 = true := by kernel_rfl
@[go_sem] theorem bytes145 : Try.prog.bytesOf 145 = 40 := by kernel_rfl
@[go_sem] theorem zero145 : zeroOf Try.prog 145 = some (.p (.agg [.nilp, .nilp, .nilp, (.str [])])) := by kernel_rfl
@[go_sem] theorem zeroLen145 : appendA.zeroLen Try.prog 145 = 4 := by kernel_rfl
@[go_sem] theorem field145_0 : fieldOff Try.prog 145 0 = some 0 := by kernel_rfl
@[go_sem] theorem field145_1 : fieldOff Try.prog 145 1 = some 1 := by kernel_rfl
@[go_sem] theorem field145_2 : fieldOff Try.prog 145 2 = some 2 := by kernel_rfl
@[go_sem] theorem field145_3 : fieldOff Try.prog 145 3 = some 3 := by kernel_rfl
@[go_sem] theorem build145 (parts : List (Nat × AV)) : buildA Try.prog 145 parts = (fillG (fun j => [(0, 1), (1, 1), (2, 1), (3, 1)][j]?) [.p .nilp, .p .nilp, .p .nilp, .p (.str [])] parts).map mkAgg :=
  buildA_eq _ _ zero145 rfl (by kernel_rfl) (by kernel_rfl) (by funext j; exact placesA_eq _ _ (by kernel_rfl) j)
attribute [go_sem] Try.underlying146
@[go_sem] theorem cellsOf146 : Try.prog.cellsOf 146 = 4 := by kernel_rfl
@[go_sem] theorem isAgg146 : isAggT Try.prog 146 = some true := by kernel_rfl
@[go_sem] theorem ok146 : tyOk Try.prog 146 = true := by kernel_rfl
@[go_sem] theorem bytes146 : Try.prog.bytesOf 146 = 40 := by kernel_rfl
@[go_sem] theorem zero146 : zeroOf Try.prog 146 = some (.p (.agg [.nilp, .nilp, .nilp, (.str [])])) := by kernel_rfl
@[go_sem] theorem zeroLen146 : appendA.zeroLen Try.prog 146 = 4 := by kernel_rfl
@[go_sem] theorem field146_0 : fieldOff Try.prog 146 0 = some 0 := by kernel_rfl
@[go_sem] theorem field146_1 : fieldOff Try.prog 146 1 = some 1 := by kernel_rfl
@[go_sem] theorem field146_2 : fieldOff Try.prog 146 2 = some 2 := by kernel_rfl
@[go_sem] theorem field146_3 : fieldOff Try.prog 146 3 = some 3 := by kernel_rfl
@[go_sem] theorem build146 (parts : List (Nat × AV)) : buildA Try.prog 146 parts = (fillG (fun j => [(0, 1), (1, 1), (2, 1), (3, 1)][j]?) [.p .nilp, .p .nilp, .p .nilp, .p (.str [])] parts).map mkAgg :=
  buildA_eq _ _ zero146 rfl (by kernel_rfl) (by kernel_rfl) (by funext j; exact placesA_eq _ _ (by kernel_rfl) j)
attribute [go_sem] Try.underlying147
@[go_sem] theorem cellsOf147 : Try.prog.cellsOf 147 = 0 := by kernel_rfl
@[go_sem] theorem isAgg147 : isAggT Try.prog 147 = some true := by kernel_rfl
@[go_sem] theorem ok147 : tyOk Try.prog 147 = true := by kernel_rfl
@[go_sem] theorem bytes147 : Try.prog.bytesOf 147 = 0 := by kernel_rfl
attribute [go_sem] Try.underlying148
@[go_sem] theorem cellsOf148 : Try.prog.cellsOf 148 = 0 := by kernel_rfl
@[go_sem] theorem isAgg148 : isAggT Try.prog 148 = some true := by kernel_rfl
@[go_sem] theorem ok148 : tyOk Try.prog 148 = true := by kernel_rfl
@[go_sem] theorem bytes148 : Try.prog.bytesOf 148 = 0 := by kernel_rfl
attribute [go_sem] Try.underlying149
@[go_sem] theorem cellsOf149 : Try.prog.cellsOf 149 = 0 := by kernel_rfl
@[go_sem] theorem isAgg149 : isAggT Try.prog 149 = some true := by kernel_rfl
@[go_sem] theorem ok149 : tyOk Try.prog 149 = true := by kernel_rfl
@[go_sem] theorem bytes149 : Try.prog.bytesOf 149 = 0 := by kernel_rfl
attribute [go_sem] Try.underlying151
@[go_sem] theorem cellsOf151 : Try.prog.cellsOf 151 = 1 := by kernel_rfl
@[go_sem] theorem isAgg151 : isAggT Try.prog 151 = some false := by kernel_rfl
@[go_sem] theorem ok151 : tyOk Try.prog 151 = true := by kernel_rfl
@[go_sem] theorem bytes151 : Try.prog.bytesOf 151 = 1 := by kernel_rfl
@[go_sem] theorem zero151 : zeroOf Try.prog 151 = some (.p (.int .u8 0)) := by kernel_rfl
@[go_sem] theorem zeroLen151 : appendA.zeroLen Try.prog 151 = 1 := by kernel_rfl
@[go_sem] theorem eqI151 (d : Nat) (k k' : IntKind) (a b : Int) : eqT Try.prog (d + 1) 151 [.int k a] [.int k' b] = if k = k' then some (a == b) else none := eqT_int _ Try.underlying151 d k k' a b
attribute [go_sem] Try.underlying152
@[go_sem] theorem cellsOf152 : Try.prog.cellsOf 152 = 1 := by kernel_rfl
@[go_sem] theorem isAgg152 : isAggT Try.prog 152 = some false := by kernel_rfl
@[go_sem] theorem ok152 : tyOk Try.prog 152 = true := by kernel_rfl
@[go_sem] theorem bytes152 : Try.prog.bytesOf 152 = 1 := by kernel_rfl
@[go_sem] theorem zero152 : zeroOf Try.prog 152 = some (.p (.int .u8 0)) := by kernel_rfl
@[go_sem] theorem zeroLen152 : appendA.zeroLen Try.prog 152 = 1 := by kernel_rfl
@[go_sem] theorem eqI152 (d : Nat) (k k' : IntKind) (a b : Int) : eqT Try.prog (d + 1) 152 [.int k a] [.int k' b] = if k = k' then some (a == b) else none := eqT_int _ Try.underlying152 d k k' a b
attribute [go_sem] Try.underlying153
@[go_sem] theorem cellsOf153 : Try.prog.cellsOf 153 = 1 := by kernel_rfl
@[go_sem] theorem isAgg153 : isAggT Try.prog 153 = some false := by kernel_rfl
@[go_sem] theorem ok153 : tyOk Try.prog 153 = true := by kernel_rfl
@[go_sem] theorem bytes153 : Try.prog.bytesOf 153 = 8 := by kernel_rfl
@[go_sem] theorem zero153 : zeroOf Try.prog 153 = some (.p .nilf) := by kernel_rfl
@[go_sem] theorem zeroLen153 : appendA.zeroLen Try.prog 153 = 1 := by kernel_rfl
attribute [go_sem] Try.underlying154
@[go_sem] theorem cellsOf154 : Try.prog.cellsOf 154 = 1 := by kernel_rfl
@[go_sem] theorem isAgg154 : isAggT Try.prog 154 = some false := by kernel_rfl
@[go_sem] theorem ok154 : tyOk Try.prog 154 = true := by kernel_rfl
@[go_sem] theorem bytes154 : Try.prog.bytesOf 154 = 8 := by kernel_rfl
@[go_sem] theorem zero154 : zeroOf Try.prog 154 = some (.p .nilp) := by kernel_rfl
@[go_sem] theorem zeroLen154 : appendA.zeroLen Try.prog 154 = 1 := by kernel_rfl
attribute [go_sem] Try.underlying155
@[go_sem] theorem cellsOf155 : Try.prog.cellsOf 155 = 1 := by kernel_rfl
@[go_sem] theorem isAgg155 : isAggT Try.prog 155 = some false := by kernel_rfl
@[go_sem] theorem ok155 : tyOk Try.prog 155 = true := by kernel_rfl
@[go_sem] theorem bytes155 : Try.prog.bytesOf 155 = 4 := by kernel_rfl
@[go_sem] theorem zero155 : zeroOf Try.prog 155 = some (.p (.int .i32 0)) := by kernel_rfl
@[go_sem] theorem zeroLen155 : appendA.zeroLen Try.prog 155 = 1 := by kernel_rfl
@[go_sem] theorem eqI155 (d : Nat) (k k' : IntKind) (a b : Int) : eqT Try.prog (d + 1) 155 [.int k a] [.int k' b] = if k = k' then some (a == b) else none := eqT_int _ Try.underlying155 d k k' a b
attribute [go_sem] Try.underlying156
@[go_sem] theorem cellsOf156 : Try.prog.cellsOf 156 = 1 := by kernel_rfl
@[go_sem] theorem isAgg156 : isAggT Try.prog 156 = some false := by kernel_rfl
@[go_sem] theorem ok156 : tyOk Try.prog 156 = true := by kernel_rfl
@[go_sem] theorem bytes156 : Try.prog.bytesOf 156 = 4 := by kernel_rfl
@[go_sem] theorem zero156 : zeroOf Try.prog 156 = some (.p (.int .i32 0)) := by kernel_rfl
@[go_sem] theorem zeroLen156 : appendA.zeroLen Try.prog 156 = 1 := by kernel_rfl
@[go_sem] theorem eqI156 (d : Nat) (k k' : IntKind) (a b : Int) : eqT Try.prog (d + 1) 156 [.int k a] [.int k' b] = if k = k' then some (a == b) else none := eqT_int _ Try.underlying156 d k k' a b
attribute [go_sem] Try.underlying157
@[go_sem] theorem cellsOf157 : Try.prog.cellsOf 157 = 11 := by kernel_rfl
@[go_sem] theorem isAgg157 : isAggT Try.prog 157 = some true := by kernel_rfl
@[go_sem] theorem ok157 : tyOk Try.prog 157 = true := by kernel_rfl
@[go_sem] theorem bytes157 : Try.prog.bytesOf 157 = 48 := by kernel_rfl
@[go_sem] theorem zero157 : zeroOf Try.prog 157 = some (.p (.agg [(.int .u64 0), (.int .u64 0), (.int .u32 0), (.int .u8 0), (.int .u8 0), (.int .u8 0), (.int .u8 0), .nilf, .nilp, (.int .i32 0), (.int .i32 0)])) := by kernel_rfl
@[go_sem] theorem zeroLen157 : appendA.zeroLen Try.prog 157 = 11 := by kernel_rfl
@[go_sem] theorem field157_0 : fieldOff Try.prog 157 0 = some 0 := by kernel_rfl
@[go_sem] theorem field157_1 : fieldOff Try.prog 157 1 = some 1 := by kernel_rfl
@[go_sem] theorem field157_2 : fieldOff Try.prog 157 2 = some 2 := by kernel_rfl
@[go_sem] theorem field157_3 : fieldOff Try.prog 157 3 = some 3 := by kernel_rfl
@[go_sem] theorem field157_4 : fieldOff Try.prog 157 4 = some 4 := by kernel_rfl
@[go_sem] theorem field157_5 : fieldOff Try.prog 157 5 = some 5 := by kernel_rfl
@[go_sem] theorem field157_6 : fieldOff Try.prog 157 6 = some 6 := by kernel_rfl
@[go_sem] theorem field157_7 : fieldOff Try.prog 157 7 = some 7 := by kernel_rfl
@[go_sem] theorem field157_8 : fieldOff Try.prog 157 8 = some 8 := by kernel_rfl
@[go_sem] theorem field157_9 : fieldOff Try.prog 157 9 = some 9 := by kernel_rfl
@[go_sem] theorem field157_10 : fieldOff Try.prog 157 10 = some 10 := by kernel_rfl
@[go_sem] theorem build157 (parts : List (Nat × AV)) : buildA Try.prog 157 parts = (fillG (fun j => [(0, 1), (1, 1), (2, 1), (3, 1), (4, 1), (5, 1), (6, 1), (7, 1), (8, 1), (9, 1), (10, 1)][j]?) [.p (.int .u64 0), .p (.int .u64 0), .p (.int .u32 0), .p (.int .u8 0), .p (.int .u8 0), .p (.int .u8 0), .p (.int .u8 0), .p .nilf, .p .nilp, .p (.int .i32 0), .p (.int .i32 0)] parts).map mkAgg :=
  buildA_eq _ _ zero157 rfl (by kernel_rfl) (by kernel_rfl) (by funext j; exact placesA_eq _ _ (by kernel_rfl) j)
attribute [go_sem] Try.underlying158
@[go_sem] theorem cellsOf158 : Try.prog.cellsOf 158 = 11 := by kernel_rfl
@[go_sem] theorem isAgg158 : isAggT Try.prog 158 = some true := by kernel_rfl
@[go_sem] theorem ok158 : tyOk Try.prog 158 = true := by kernel_rfl
@[go_sem] theorem bytes158 : Try.prog.bytesOf 158 = 48 := by kernel_rfl
@[go_sem] theorem zero158 : zeroOf Try.prog 158 = some (.p (.agg [(.int .u64 0), (.int .u64 0), (.int .u32 0), (.int .u8 0), (.int .u8 0), (.int .u8 0), (.int .u8 0), .nilf, .nilp, (.int .i32 0), (.int .i32 0)])) := by kernel_rfl
@[go_sem] theorem zeroLen158 : appendA.zeroLen Try.prog 158 = 11 := by kernel_rfl
@[go_sem] theorem field158_0 : fieldOff Try.prog 158 0 = some 0 := by kernel_rfl
@[go_sem] theorem field158_1 : fieldOff Try.prog 158 1 = some 1 := by kernel_rfl
@[go_sem] theorem field158_2 : fieldOff Try.prog 158 2 = some 2 := by kernel_rfl
@[go_sem] theorem field158_3 : fieldOff Try.prog 158 3 = some 3 := by kernel_rfl
@[go_sem] theorem field158_4 : fieldOff Try.prog 158 4 = some 4 := by kernel_rfl
@[go_sem] theorem field158_5 : fieldOff Try.prog 158 5 = some 5 := by kernel_rfl
@[go_sem] theorem field158_6 : fieldOff Try.prog 158 6 = some 6 := by kernel_rfl
@[go_sem] theorem field158_7 : fieldOff Try.prog 158 7 = some 7 := by kernel_rfl
@[go_sem] theorem field158_8 : fieldOff Try.prog 158 8 = some 8 := by kernel_rfl
@[go_sem] theorem field158_9 : fieldOff Try.prog 158 9 = some 9 := by kernel_rfl
@[go_sem] theorem field158_10 : fieldOff Try.prog 158 10 = some 10 := by kernel_rfl
@[go_sem] theorem build158 (parts : List (Nat × AV)) : buildA Try.prog 158 parts = (fillG (fun j => [(0, 1), (1, 1), (2, 1), (3, 1), (4, 1), (5, 1), (6, 1), (7, 1), (8, 1), (9, 1), (10, 1)][j]?) [.p (.int .u64 0), .p (.int .u64 0), .p (.int .u32 0), .p (.int .u8 0), .p (.int .u8 0), .p (.int .u8 0), .p (.int .u8 0), .p .nilf, .p .nilp, .p (.int .i32 0), .p (.int .i32 0)] parts).map mkAgg :=
  buildA_eq _ _ zero158 rfl (by kernel_rfl) (by kernel_rfl) (by funext j; exact placesA_eq _ _ (by kernel_rfl) j)
end Go.Proofs.Ytimfcgdnogjlhaa.Ty
