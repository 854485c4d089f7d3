/- What the logic asks of the types of the translation. -/
import Derived.Test.YtlaodgbkpmdhoaaGreatDoorProg
import Derived.KernelRfl
import Derived.Test.YtlaodgbkpmdhoaaGreatDoorA2
/- What the abstract logic asks of the types of the translation; printed by a program of our own (tyfacts.py). -/
namespace Go.Proofs.YtlaodgbkpmdhoaaGreatDoor.Ty
open Go Go.Ab
set_option linter.unusedVariables false

attribute [go_sem] Tryz.underlying1
@[go_sem] theorem cellsOf1 : Tryz.prog.cellsOf 1 = 1 := by kernel_rfl
@[go_sem] theorem isAgg1 : isAggT Tryz.prog 1 = some false := by kernel_rfl
@[go_sem] theorem ok1 : tyOk Tryz.prog 1 = true := by kernel_rfl
@[go_sem] theorem bytes1 : Tryz.prog.bytesOf 1 = 8 := by kernel_rfl
@[go_sem] theorem zero1 : zeroOf Tryz.prog 1 = some (.p .nilf) := by kernel_rfl
@[go_sem] theorem zeroLen1 : appendA.zeroLen Tryz.prog 1 = 1 := by kernel_rfl
attribute [go_sem] Tryz.underlying2
@[go_sem] theorem cellsOf2 : Tryz.prog.cellsOf 2 = 1 := by kernel_rfl
@[go_sem] theorem isAgg2 : isAggT Tryz.prog 2 = some false := by kernel_rfl
@[go_sem] theorem ok2 : tyOk Tryz.prog 2 = true := by kernel_rfl
@[go_sem] theorem bytes2 : Tryz.prog.bytesOf 2 = 8 := by kernel_rfl
@[go_sem] theorem zero2 : zeroOf Tryz.prog 2 = some (.p (.int .i64 0)) := by kernel_rfl
@[go_sem] theorem zeroLen2 : appendA.zeroLen Tryz.prog 2 = 1 := by kernel_rfl
@[go_sem] theorem eqI2 (d : Nat) (k k' : IntKind) (a b : Int) : eqT Tryz.prog (d + 1) 2 [.int k a] [.int k' b] = if k = k' then some (a == b) else none := eqT_int _ Tryz.underlying2 d k k' a b
attribute [go_sem] Tryz.underlying3
@[go_sem] theorem cellsOf3 : Tryz.prog.cellsOf 3 = 1 := by kernel_rfl
@[go_sem] theorem isAgg3 : isAggT Tryz.prog 3 = some false := by kernel_rfl
@[go_sem] theorem ok3 : tyOk Tryz.prog 3 = true := by kernel_rfl
@[go_sem] theorem bytes3 : Tryz.prog.bytesOf 3 = 8 := by kernel_rfl
@[go_sem] theorem zero3 : zeroOf Tryz.prog 3 = some (.p (.int .i64 0)) := by kernel_rfl
@[go_sem] theorem zeroLen3 : appendA.zeroLen Tryz.prog 3 = 1 := by kernel_rfl
@[go_sem] theorem eqI3 (d : Nat) (k k' : IntKind) (a b : Int) : eqT Tryz.prog (d + 1) 3 [.int k a] [.int k' b] = if k = k' then some (a == b) else none := eqT_int _ Tryz.underlying3 d k k' a b
attribute [go_sem] Tryz.underlying4
@[go_sem] theorem cellsOf4 : Tryz.prog.cellsOf 4 = 1 := by kernel_rfl
@[go_sem] theorem isAgg4 : isAggT Tryz.prog 4 = some false := by kernel_rfl
@[go_sem] theorem ok4 : tyOk Tryz.prog 4 = true := by kernel_rfl
@[go_sem] theorem bytes4 : Tryz.prog.bytesOf 4 = 1 := by kernel_rfl
@[go_sem] theorem zero4 : zeroOf Tryz.prog 4 = some (.p (.bool false)) := by kernel_rfl
@[go_sem] theorem zeroLen4 : appendA.zeroLen Tryz.prog 4 = 1 := by kernel_rfl
@[go_sem] theorem eqI4 (d : Nat) (a b : Bool) : eqT Tryz.prog (d + 1) 4 [.bool a] [.bool b] = some (a == b) := eqT_bool _ Tryz.underlying4 d a b
attribute [go_sem] Tryz.underlying5
@[go_sem] theorem cellsOf5 : Tryz.prog.cellsOf 5 = 1 := by kernel_rfl
@[go_sem] theorem isAgg5 : isAggT Tryz.prog 5 = some false := by kernel_rfl
@[go_sem] theorem ok5 : tyOk Tryz.prog 5 = true := by kernel_rfl
@[go_sem] theorem bytes5 : Tryz.prog.bytesOf 5 = 1 := by kernel_rfl
@[go_sem] theorem zero5 : zeroOf Tryz.prog 5 = some (.p (.int .u8 0)) := by kernel_rfl
@[go_sem] theorem zeroLen5 : appendA.zeroLen Tryz.prog 5 = 1 := by kernel_rfl
@[go_sem] theorem eqI5 (d : Nat) (k k' : IntKind) (a b : Int) : eqT Tryz.prog (d + 1) 5 [.int k a] [.int k' b] = if k = k' then some (a == b) else none := eqT_int _ Tryz.underlying5 d k k' a b
attribute [go_sem] Tryz.underlying6
@[go_sem] theorem cellsOf6 : Tryz.prog.cellsOf 6 = 1 := by kernel_rfl
@[go_sem] theorem isAgg6 : isAggT Tryz.prog 6 = some false := by kernel_rfl
@[go_sem] theorem ok6 : tyOk Tryz.prog 6 = true := by kernel_rfl
@[go_sem] theorem bytes6 : Tryz.prog.bytesOf 6 = 1 := by kernel_rfl
@[go_sem] theorem zero6 : zeroOf Tryz.prog 6 = some (.p (.int .u8 0)) := by kernel_rfl
@[go_sem] theorem zeroLen6 : appendA.zeroLen Tryz.prog 6 = 1 := by kernel_rfl
@[go_sem] theorem eqI6 (d : Nat) (k k' : IntKind) (a b : Int) : eqT Tryz.prog (d + 1) 6 [.int k a] [.int k' b] = if k = k' then some (a == b) else none := eqT_int _ Tryz.underlying6 d k k' a b
attribute [go_sem] Tryz.underlying7
@[go_sem] theorem cellsOf7 : Tryz.prog.cellsOf 7 = 4 := by kernel_rfl
@[go_sem] theorem isAgg7 : isAggT Tryz.prog 7 = some true := by kernel_rfl
@[go_sem] theorem ok7 : tyOk Tryz.prog 7 = true := by kernel_rfl
@[go_sem] theorem bytes7 : Tryz.prog.bytesOf 7 = 24 := by kernel_rfl
@[go_sem] theorem zero7 : zeroOf Tryz.prog 7 = some (.p (.agg [(.int .i64 0), (.int .i64 0), (.bool false), (.int .u8 0)])) := by kernel_rfl
@[go_sem] theorem zeroLen7 : appendA.zeroLen Tryz.prog 7 = 4 := by kernel_rfl
@[go_sem] theorem field7_0 : fieldOff Tryz.prog 7 0 = some 0 := by kernel_rfl
@[go_sem] theorem field7_1 : fieldOff Tryz.prog 7 1 = some 1 := by kernel_rfl
@[go_sem] theorem field7_2 : fieldOff Tryz.prog 7 2 = some 2 := by kernel_rfl
@[go_sem] theorem field7_3 : fieldOff Tryz.prog 7 3 = some 3 := by kernel_rfl
@[go_sem] theorem build7 (parts : List (Nat × AV)) : buildA Tryz.prog 7 parts = (fillG (fun j => [(0, 1), (1, 1), (2, 1), (3, 1)][j]?) [.p (.int .i64 0), .p (.int .i64 0), .p (.bool false), .p (.int .u8 0)] parts).map mkAgg :=
  buildA_eq _ _ zero7 rfl (by kernel_rfl) (by kernel_rfl) (by funext j; exact placesA_eq _ _ (by kernel_rfl) j)
@[go_sem] theorem eqS7 (d : Nat) (xs ys : List PV) : eqT Tryz.prog (d + 1) 7 xs ys = eqL (eqT Tryz.prog d) [(2, 0, 1), (3, 1, 1), (4, 2, 1), (6, 3, 1)] xs ys := eqT_struct _ (by kernel_rfl) (by kernel_rfl) (by kernel_rfl) (by kernel_rfl) d xs ys
@[go_sem] theorem eqg7 : Tryz.prog.eqGuardType Tryz.prog.depth 7 = false := by kernel_rfl
attribute [go_sem] Tryz.underlying8
@[go_sem] theorem cellsOf8 : Tryz.prog.cellsOf 8 = 4 := by kernel_rfl
@[go_sem] theorem isAgg8 : isAggT Tryz.prog 8 = some true := by kernel_rfl
@[go_sem] theorem ok8 : tyOk Tryz.prog 8 = true := by kernel_rfl
@[go_sem] theorem bytes8 : Tryz.prog.bytesOf 8 = 24 := by kernel_rfl
@[go_sem] theorem zero8 : zeroOf Tryz.prog 8 = some (.p (.agg [(.int .i64 0), (.int .i64 0), (.bool false), (.int .u8 0)])) := by kernel_rfl
@[go_sem] theorem zeroLen8 : appendA.zeroLen Tryz.prog 8 = 4 := by kernel_rfl
@[go_sem] theorem field8_0 : fieldOff Tryz.prog 8 0 = some 0 := by kernel_rfl
@[go_sem] theorem field8_1 : fieldOff Tryz.prog 8 1 = some 1 := by kernel_rfl
@[go_sem] theorem field8_2 : fieldOff Tryz.prog 8 2 = some 2 := by kernel_rfl
@[go_sem] theorem field8_3 : fieldOff Tryz.prog 8 3 = some 3 := by kernel_rfl
@[go_sem] theorem build8 (parts : List (Nat × AV)) : buildA Tryz.prog 8 parts = (fillG (fun j => [(0, 1), (1, 1), (2, 1), (3, 1)][j]?) [.p (.int .i64 0), .p (.int .i64 0), .p (.bool false), .p (.int .u8 0)] parts).map mkAgg :=
  buildA_eq _ _ zero8 rfl (by kernel_rfl) (by kernel_rfl) (by funext j; exact placesA_eq _ _ (by kernel_rfl) j)
@[go_sem] theorem eqS8 (d : Nat) (xs ys : List PV) : eqT Tryz.prog (d + 1) 8 xs ys = eqL (eqT Tryz.prog d) [(2, 0, 1), (3, 1, 1), (4, 2, 1), (6, 3, 1)] xs ys := eqT_struct _ (by kernel_rfl) (by kernel_rfl) (by kernel_rfl) (by kernel_rfl) d xs ys
@[go_sem] theorem eqg8 : Tryz.prog.eqGuardType Tryz.prog.depth 8 = false := by kernel_rfl
attribute [go_sem] Tryz.underlying9
@[go_sem] theorem cellsOf9 : Tryz.prog.cellsOf 9 = 1 := by kernel_rfl
@[go_sem] theorem isAgg9 : isAggT Tryz.prog 9 = some false := by kernel_rfl
@[go_sem] theorem ok9 : tyOk Tryz.prog 9 = true := by kernel_rfl
@[go_sem] theorem bytes9 : Tryz.prog.bytesOf 9 = 16 := by kernel_rfl
@[go_sem] theorem zero9 : zeroOf Tryz.prog 9 = some (.p (.str [])) := by kernel_rfl
@[go_sem] theorem zeroLen9 : appendA.zeroLen Tryz.prog 9 = 1 := by kernel_rfl
@[go_sem] theorem eqI9 (d : Nat) (a b : List UInt8) : eqT Tryz.prog (d + 1) 9 [.str a] [.str b] = some (a == b) := eqT_str _ Tryz.underlying9 d a b
attribute [go_sem] Tryz.underlying10
@[go_sem] theorem cellsOf10 : Tryz.prog.cellsOf 10 = 1 := by kernel_rfl
@[go_sem] theorem isAgg10 : isAggT Tryz.prog 10 = some false := by kernel_rfl
@[go_sem] theorem ok10 : tyOk Tryz.prog 10 = true := by kernel_rfl
@[go_sem] theorem bytes10 : Tryz.prog.bytesOf 10 = 16 := by kernel_rfl
@[go_sem] theorem zero10 : zeroOf Tryz.prog 10 = some (.p (.str [])) := by kernel_rfl
@[go_sem] theorem zeroLen10 : appendA.zeroLen Tryz.prog 10 = 1 := by kernel_rfl
@[go_sem] theorem eqI10 (d : Nat) (a b : List UInt8) : eqT Tryz.prog (d + 1) 10 [.str a] [.str b] = some (a == b) := eqT_str _ Tryz.underlying10 d a b
attribute [go_sem] Tryz.underlying11
@[go_sem] theorem cellsOf11 : Tryz.prog.cellsOf 11 = 1 := by kernel_rfl
@[go_sem] theorem isAgg11 : isAggT Tryz.prog 11 = some false := by kernel_rfl
@[go_sem] theorem ok11 : tyOk Tryz.prog 11 = true := by kernel_rfl
@[go_sem] theorem bytes11 : Tryz.prog.bytesOf 11 = 16 := by kernel_rfl
@[go_sem] theorem zero11 : zeroOf Tryz.prog 11 = some (.p (.str [])) := by kernel_rfl
@[go_sem] theorem zeroLen11 : appendA.zeroLen Tryz.prog 11 = 1 := by kernel_rfl
@[go_sem] theorem eqI11 (d : Nat) (a b : List UInt8) : eqT Tryz.prog (d + 1) 11 [.str a] [.str b] = some (a == b) := eqT_str _ Tryz.underlying11 d a b
attribute [go_sem] Tryz.underlying12
@[go_sem] theorem cellsOf12 : Tryz.prog.cellsOf 12 = 1 := by kernel_rfl
@[go_sem] theorem isAgg12 : isAggT Tryz.prog 12 = some false := by kernel_rfl
@[go_sem] theorem ok12 : tyOk Tryz.prog 12 = true := by kernel_rfl
@[go_sem] theorem bytes12 : Tryz.prog.bytesOf 12 = 8 := by kernel_rfl
@[go_sem] theorem zero12 : zeroOf Tryz.prog 12 = some (.p (.int .u64 0)) := by kernel_rfl
@[go_sem] theorem zeroLen12 : appendA.zeroLen Tryz.prog 12 = 1 := by kernel_rfl
@[go_sem] theorem eqI12 (d : Nat) (k k' : IntKind) (a b : Int) : eqT Tryz.prog (d + 1) 12 [.int k a] [.int k' b] = if k = k' then some (a == b) else none := eqT_int _ Tryz.underlying12 d k k' a b
attribute [go_sem] Tryz.underlying13
@[go_sem] theorem cellsOf13 : Tryz.prog.cellsOf 13 = 2 := by kernel_rfl
@[go_sem] theorem isAgg13 : isAggT Tryz.prog 13 = some true := by kernel_rfl
@[go_sem] theorem ok13 : tyOk Tryz.prog 13 = true := by kernel_rfl
@[go_sem] theorem bytes13 : Tryz.prog.bytesOf 13 = 24 := by kernel_rfl
@[go_sem] theorem zero13 : zeroOf Tryz.prog 13 = some (.p (.agg [(.str []), (.int .u64 0)])) := by kernel_rfl
@[go_sem] theorem zeroLen13 : appendA.zeroLen Tryz.prog 13 = 2 := by kernel_rfl
@[go_sem] theorem field13_0 : fieldOff Tryz.prog 13 0 = some 0 := by kernel_rfl
@[go_sem] theorem field13_1 : fieldOff Tryz.prog 13 1 = some 1 := by kernel_rfl
@[go_sem] theorem build13 (parts : List (Nat × AV)) : buildA Tryz.prog 13 parts = (fillG (fun j => [(0, 1), (1, 1)][j]?) [.p (.str []), .p (.int .u64 0)] parts).map mkAgg :=
  buildA_eq _ _ zero13 rfl (by kernel_rfl) (by kernel_rfl) (by funext j; exact placesA_eq _ _ (by kernel_rfl) j)
attribute [go_sem] Tryz.underlying14
@[go_sem] theorem cellsOf14 : Tryz.prog.cellsOf 14 = 2 := by kernel_rfl
@[go_sem] theorem isAgg14 : isAggT Tryz.prog 14 = some true := by kernel_rfl
@[go_sem] theorem ok14 : tyOk Tryz.prog 14 = true := by kernel_rfl
@[go_sem] theorem bytes14 : Tryz.prog.bytesOf 14 = 24 := by kernel_rfl
@[go_sem] theorem zero14 : zeroOf Tryz.prog 14 = some (.p (.agg [(.str []), (.int .u64 0)])) := by kernel_rfl
@[go_sem] theorem zeroLen14 : appendA.zeroLen Tryz.prog 14 = 2 := by kernel_rfl
@[go_sem] theorem field14_0 : fieldOff Tryz.prog 14 0 = some 0 := by kernel_rfl
@[go_sem] theorem field14_1 : fieldOff Tryz.prog 14 1 = some 1 := by kernel_rfl
@[go_sem] theorem build14 (parts : List (Nat × AV)) : buildA Tryz.prog 14 parts = (fillG (fun j => [(0, 1), (1, 1)][j]?) [.p (.str []), .p (.int .u64 0)] parts).map mkAgg :=
  buildA_eq _ _ zero14 rfl (by kernel_rfl) (by kernel_rfl) (by funext j; exact placesA_eq _ _ (by kernel_rfl) j)
attribute [go_sem] Tryz.underlying15
@[go_sem] theorem cellsOf15 : Tryz.prog.cellsOf 15 = 1 := by kernel_rfl
@[go_sem] theorem isAgg15 : isAggT Tryz.prog 15 = some false := by kernel_rfl
@[go_sem] theorem ok15 : tyOk Tryz.prog 15 = true := by kernel_rfl
@[go_sem] theorem bytes15 : Tryz.prog.bytesOf 15 = 8 := by kernel_rfl
@[go_sem] theorem zero15 : zeroOf Tryz.prog 15 = some (.p .nilp) := by kernel_rfl
@[go_sem] theorem zeroLen15 : appendA.zeroLen Tryz.prog 15 = 1 := by kernel_rfl
attribute [go_sem] Tryz.underlying16
@[go_sem] theorem cellsOf16 : Tryz.prog.cellsOf 16 = 1 := by kernel_rfl
@[go_sem] theorem isAgg16 : isAggT Tryz.prog 16 = some false := by kernel_rfl
@[go_sem] theorem ok16 : tyOk Tryz.prog 16 = true := by kernel_rfl
@[go_sem] theorem bytes16 : Tryz.prog.bytesOf 16 = 8 := by kernel_rfl
@[go_sem] theorem zero16 : zeroOf Tryz.prog 16 = some (.p .nilp) := by kernel_rfl
@[go_sem] theorem zeroLen16 : appendA.zeroLen Tryz.prog 16 = 1 := by kernel_rfl
attribute [go_sem] Tryz.underlying17
@[go_sem] theorem cellsOf17 : Tryz.prog.cellsOf 17 = 1 := by kernel_rfl
@[go_sem] theorem isAgg17 : isAggT Tryz.prog 17 = some false := by kernel_rfl
@[go_sem] theorem ok17 : tyOk Tryz.prog 17 = true := by kernel_rfl
@[go_sem] theorem bytes17 : Tryz.prog.bytesOf 17 = 8 := by kernel_rfl
@[go_sem] theorem zero17 : zeroOf Tryz.prog 17 = some (.p .nilp) := by kernel_rfl
@[go_sem] theorem zeroLen17 : appendA.zeroLen Tryz.prog 17 = 1 := by kernel_rfl
attribute [go_sem] Tryz.underlying18
@[go_sem] theorem cellsOf18 : Tryz.prog.cellsOf 18 = 1 := by kernel_rfl
@[go_sem] theorem isAgg18 : isAggT Tryz.prog 18 = some true := by kernel_rfl
@[go_sem] theorem ok18 : tyOk Tryz.prog 18 = true := by kernel_rfl
@[go_sem] theorem bytes18 : Tryz.prog.bytesOf 18 = 8 := by kernel_rfl
@[go_sem] theorem zero18 : zeroOf Tryz.prog 18 = some (.p (.agg [.nilp])) := by kernel_rfl
@[go_sem] theorem zeroLen18 : appendA.zeroLen Tryz.prog 18 = 1 := by kernel_rfl
@[go_sem] theorem field18_0 : fieldOff Tryz.prog 18 0 = some 0 := by kernel_rfl
@[go_sem] theorem build18 (parts : List (Nat × AV)) : buildA Tryz.prog 18 parts = (fillG (fun j => [(0, 1)][j]?) [.p .nilp] parts).map mkAgg :=
  buildA_eq _ _ zero18 rfl (by kernel_rfl) (by kernel_rfl) (by funext j; exact placesA_eq _ _ (by kernel_rfl) j)
attribute [go_sem] Tryz.underlying19
@[go_sem] theorem cellsOf19 : Tryz.prog.cellsOf 19 = 1 := by kernel_rfl
@[go_sem] theorem isAgg19 : isAggT Tryz.prog 19 = some true := by kernel_rfl
@[go_sem] theorem ok19 : tyOk Tryz.prog 19 = true := by kernel_rfl
@[go_sem] theorem bytes19 : Tryz.prog.bytesOf 19 = 8 := by kernel_rfl
@[go_sem] theorem zero19 : zeroOf Tryz.prog 19 = some (.p (.agg [.nilp])) := by kernel_rfl
@[go_sem] theorem zeroLen19 : appendA.zeroLen Tryz.prog 19 = 1 := by kernel_rfl
@[go_sem] theorem field19_0 : fieldOff Tryz.prog 19 0 = some 0 := by kernel_rfl
@[go_sem] theorem build19 (parts : List (Nat × AV)) : buildA Tryz.prog 19 parts = (fillG (fun j => [(0, 1)][j]?) [.p .nilp] parts).map mkAgg :=
  buildA_eq _ _ zero19 rfl (by kernel_rfl) (by kernel_rfl) (by funext j; exact placesA_eq _ _ (by kernel_rfl) j)
attribute [go_sem] Tryz.underlying20
@[go_sem] theorem cellsOf20 : Tryz.prog.cellsOf 20 = 1 := by kernel_rfl
@[go_sem] theorem isAgg20 : isAggT Tryz.prog 20 = some false := by kernel_rfl
@[go_sem] theorem ok20 : tyOk Tryz.prog 20 = true := by kernel_rfl
@[go_sem] theorem bytes20 : Tryz.prog.bytesOf 20 = 16 := by kernel_rfl
@[go_sem] theorem zero20 : zeroOf Tryz.prog 20 = some (.p .nili) := by kernel_rfl
@[go_sem] theorem zeroLen20 : appendA.zeroLen Tryz.prog 20 = 1 := by kernel_rfl
attribute [go_sem] Tryz.underlying21
@[go_sem] theorem cellsOf21 : Tryz.prog.cellsOf 21 = 1 := by kernel_rfl
@[go_sem] theorem isAgg21 : isAggT Tryz.prog 21 = some false := by kernel_rfl
@[go_sem] theorem ok21 : tyOk Tryz.prog 21 = true := by kernel_rfl
@[go_sem] theorem bytes21 : Tryz.prog.bytesOf 21 = 4 := by kernel_rfl
@[go_sem] theorem zero21 : zeroOf Tryz.prog 21 = some (.p (.int .i32 0)) := by kernel_rfl
@[go_sem] theorem zeroLen21 : appendA.zeroLen Tryz.prog 21 = 1 := by kernel_rfl
@[go_sem] theorem eqI21 (d : Nat) (k k' : IntKind) (a b : Int) : eqT Tryz.prog (d + 1) 21 [.int k a] [.int k' b] = if k = k' then some (a == b) else none := eqT_int _ Tryz.underlying21 d k k' a b
attribute [go_sem] Tryz.underlying22
@[go_sem] theorem cellsOf22 : Tryz.prog.cellsOf 22 = 1 := by kernel_rfl
@[go_sem] theorem isAgg22 : isAggT Tryz.prog 22 = some false := by kernel_rfl
@[go_sem] theorem ok22 : tyOk Tryz.prog 22 = true := by kernel_rfl
@[go_sem] theorem bytes22 : Tryz.prog.bytesOf 22 = 24 := by kernel_rfl
@[go_sem] theorem zero22 : zeroOf Tryz.prog 22 = some (.nils) := by kernel_rfl
@[go_sem] theorem zeroLen22 : appendA.zeroLen Tryz.prog 22 = 1 := by kernel_rfl
attribute [go_sem] Tryz.underlying23
@[go_sem] theorem cellsOf23 : Tryz.prog.cellsOf 23 = 2 := by kernel_rfl
@[go_sem] theorem isAgg23 : isAggT Tryz.prog 23 = some true := by kernel_rfl
@[go_sem] theorem ok23 : tyOk Tryz.prog 23 = true := by kernel_rfl
@[go_sem] theorem bytes23 : Tryz.prog.bytesOf 23 = 32 := by kernel_rfl
@[go_sem] theorem zero23 : zeroOf Tryz.prog 23 = some (.agg [.p (.int .i64 0), .nils]) := by kernel_rfl
@[go_sem] theorem zeroLen23 : appendA.zeroLen Tryz.prog 23 = 2 := by kernel_rfl
@[go_sem] theorem field23_0 : fieldOff Tryz.prog 23 0 = some 0 := by kernel_rfl
@[go_sem] theorem field23_1 : fieldOff Tryz.prog 23 1 = some 1 := by kernel_rfl
@[go_sem] theorem build23 (parts : List (Nat × AV)) : buildA Tryz.prog 23 parts = (fillG (fun j => [(0, 1), (1, 1)][j]?) [.p (.int .i64 0), .nils] parts).map mkAgg :=
  buildA_eq _ _ zero23 rfl (by kernel_rfl) (by kernel_rfl) (by funext j; exact placesA_eq _ _ (by kernel_rfl) j)
attribute [go_sem] Tryz.underlying24
@[go_sem] theorem cellsOf24 : Tryz.prog.cellsOf 24 = 2 := by kernel_rfl
@[go_sem] theorem isAgg24 : isAggT Tryz.prog 24 = some true := by kernel_rfl
@[go_sem] theorem ok24 : tyOk Tryz.prog 24 = true := by kernel_rfl
@[go_sem] theorem bytes24 : Tryz.prog.bytesOf 24 = 32 := by kernel_rfl
@[go_sem] theorem zero24 : zeroOf Tryz.prog 24 = some (.agg [.p (.int .i64 0), .nils]) := by kernel_rfl
@[go_sem] theorem zeroLen24 : appendA.zeroLen Tryz.prog 24 = 2 := by kernel_rfl
@[go_sem] theorem field24_0 : fieldOff Tryz.prog 24 0 = some 0 := by kernel_rfl
@[go_sem] theorem field24_1 : fieldOff Tryz.prog 24 1 = some 1 := by kernel_rfl
@[go_sem] theorem build24 (parts : List (Nat × AV)) : buildA Tryz.prog 24 parts = (fillG (fun j => [(0, 1), (1, 1)][j]?) [.p (.int .i64 0), .nils] parts).map mkAgg :=
  buildA_eq _ _ zero24 rfl (by kernel_rfl) (by kernel_rfl) (by funext j; exact placesA_eq _ _ (by kernel_rfl) j)
attribute [go_sem] Tryz.underlying25
@[go_sem] theorem cellsOf25 : Tryz.prog.cellsOf 25 = 1 := by kernel_rfl
@[go_sem] theorem isAgg25 : isAggT Tryz.prog 25 = some false := by kernel_rfl
@[go_sem] theorem ok25 : tyOk Tryz.prog 25 = true := by kernel_rfl
@[go_sem] theorem bytes25 : Tryz.prog.bytesOf 25 = 8 := by kernel_rfl
@[go_sem] theorem zero25 : zeroOf Tryz.prog 25 = some (.p .nilf) := by kernel_rfl
@[go_sem] theorem zeroLen25 : appendA.zeroLen Tryz.prog 25 = 1 := by kernel_rfl
attribute [go_sem] Tryz.underlying26
@[go_sem] theorem cellsOf26 : Tryz.prog.cellsOf 26 = 3 := by kernel_rfl
@[go_sem] theorem isAgg26 : isAggT Tryz.prog 26 = some true := by kernel_rfl
@[go_sem] theorem ok26 : tyOk Tryz.prog 26 = true := by kernel_rfl
@[go_sem] theorem bytes26 : Tryz.prog.bytesOf 26 = 32 := by kernel_rfl
@[go_sem] theorem zero26 : zeroOf Tryz.prog 26 = some (.p (.agg [(.int .i64 0), (.int .i64 0), (.str [])])) := by kernel_rfl
@[go_sem] theorem zeroLen26 : appendA.zeroLen Tryz.prog 26 = 3 := by kernel_rfl
@[go_sem] theorem field26_0 : fieldOff Tryz.prog 26 0 = some 0 := by kernel_rfl
@[go_sem] theorem field26_1 : fieldOff Tryz.prog 26 1 = some 1 := by kernel_rfl
@[go_sem] theorem field26_2 : fieldOff Tryz.prog 26 2 = some 2 := by kernel_rfl
@[go_sem] theorem build26 (parts : List (Nat × AV)) : buildA Tryz.prog 26 parts = (fillG (fun j => [(0, 1), (1, 1), (2, 1)][j]?) [.p (.int .i64 0), .p (.int .i64 0), .p (.str [])] parts).map mkAgg :=
  buildA_eq _ _ zero26 rfl (by kernel_rfl) (by kernel_rfl) (by funext j; exact placesA_eq _ _ (by kernel_rfl) j)
@[go_sem] theorem eqS26 (d : Nat) (xs ys : List PV) : eqT Tryz.prog (d + 1) 26 xs ys = eqL (eqT Tryz.prog d) [(3, 0, 1), (2, 1, 1), (9, 2, 1)] xs ys := eqT_struct _ (by kernel_rfl) (by kernel_rfl) (by kernel_rfl) (by kernel_rfl) d xs ys
@[go_sem] theorem eqg26 : Tryz.prog.eqGuardType Tryz.prog.depth 26 = false := by kernel_rfl
attribute [go_sem] Tryz.underlying27
@[go_sem] theorem cellsOf27 : Tryz.prog.cellsOf 27 = 3 := by kernel_rfl
@[go_sem] theorem isAgg27 : isAggT Tryz.prog 27 = some true := by kernel_rfl
@[go_sem] theorem ok27 : tyOk Tryz.prog 27 = true := by kernel_rfl
@[go_sem] theorem bytes27 : Tryz.prog.bytesOf 27 = 32 := by kernel_rfl
@[go_sem] theorem zero27 : zeroOf Tryz.prog 27 = some (.p (.agg [(.int .i64 0), (.int .i64 0), (.str [])])) := by kernel_rfl
@[go_sem] theorem zeroLen27 : appendA.zeroLen Tryz.prog 27 = 3 := by kernel_rfl
@[go_sem] theorem field27_0 : fieldOff Tryz.prog 27 0 = some 0 := by kernel_rfl
@[go_sem] theorem field27_1 : fieldOff Tryz.prog 27 1 = some 1 := by kernel_rfl
@[go_sem] theorem field27_2 : fieldOff Tryz.prog 27 2 = some 2 := by kernel_rfl
@[go_sem] theorem build27 (parts : List (Nat × AV)) : buildA Tryz.prog 27 parts = (fillG (fun j => [(0, 1), (1, 1), (2, 1)][j]?) [.p (.int .i64 0), .p (.int .i64 0), .p (.str [])] parts).map mkAgg :=
  buildA_eq _ _ zero27 rfl (by kernel_rfl) (by kernel_rfl) (by funext j; exact placesA_eq _ _ (by kernel_rfl) j)
@[go_sem] theorem eqS27 (d : Nat) (xs ys : List PV) : eqT Tryz.prog (d + 1) 27 xs ys = eqL (eqT Tryz.prog d) [(3, 0, 1), (2, 1, 1), (9, 2, 1)] xs ys := eqT_struct _ (by kernel_rfl) (by kernel_rfl) (by kernel_rfl) (by kernel_rfl) d xs ys
@[go_sem] theorem eqg27 : Tryz.prog.eqGuardType Tryz.prog.depth 27 = false := by kernel_rfl
attribute [go_sem] Tryz.underlying28
@[go_sem] theorem cellsOf28 : Tryz.prog.cellsOf 28 = 5 := by kernel_rfl
@[go_sem] theorem isAgg28 : isAggT Tryz.prog 28 = some true := by kernel_rfl
@[go_sem] theorem ok28 : tyOk Tryz.prog 28 = true := by kernel_rfl
@[go_sem] theorem bytes28 : Tryz.prog.bytesOf 28 = 48 := by kernel_rfl
@[go_sem] theorem zero28 : zeroOf Tryz.prog 28 = some (.p (.agg [(.int .i64 0), (.int .i64 0), (.int .i64 0), (.int .i64 0), (.str [])])) := by kernel_rfl
@[go_sem] theorem zeroLen28 : appendA.zeroLen Tryz.prog 28 = 5 := by kernel_rfl
@[go_sem] theorem field28_0 : fieldOff Tryz.prog 28 0 = some 0 := by kernel_rfl
@[go_sem] theorem field28_1 : fieldOff Tryz.prog 28 1 = some 1 := by kernel_rfl
@[go_sem] theorem field28_2 : fieldOff Tryz.prog 28 2 = some 2 := by kernel_rfl
@[go_sem] theorem build28 (parts : List (Nat × AV)) : buildA Tryz.prog 28 parts = (fillG (fun j => [(0, 1), (1, 1), (2, 3)][j]?) [.p (.int .i64 0), .p (.int .i64 0), .p (.int .i64 0), .p (.int .i64 0), .p (.str [])] parts).map mkAgg :=
  buildA_eq _ _ zero28 rfl (by kernel_rfl) (by kernel_rfl) (by funext j; exact placesA_eq _ _ (by kernel_rfl) j)
@[go_sem] theorem eqS28 (d : Nat) (xs ys : List PV) : eqT Tryz.prog (d + 1) 28 xs ys = eqL (eqT Tryz.prog d) [(3, 0, 1), (3, 1, 1), (27, 2, 3)] xs ys := eqT_struct _ (by kernel_rfl) (by kernel_rfl) (by kernel_rfl) (by kernel_rfl) d xs ys
@[go_sem] theorem eqg28 : Tryz.prog.eqGuardType Tryz.prog.depth 28 = false := by kernel_rfl
attribute [go_sem] Tryz.underlying29
@[go_sem] theorem cellsOf29 : Tryz.prog.cellsOf 29 = 5 := by kernel_rfl
@[go_sem] theorem isAgg29 : isAggT Tryz.prog 29 = some true := by kernel_rfl
@[go_sem] theorem ok29 : tyOk Tryz.prog 29 = true := by kernel_rfl
@[go_sem] theorem bytes29 : Tryz.prog.bytesOf 29 = 48 := by kernel_rfl
@[go_sem] theorem zero29 : zeroOf Tryz.prog 29 = some (.p (.agg [(.int .i64 0), (.int .i64 0), (.int .i64 0), (.int .i64 0), (.str [])])) := by kernel_rfl
@[go_sem] theorem zeroLen29 : appendA.zeroLen Tryz.prog 29 = 5 := by kernel_rfl
@[go_sem] theorem field29_0 : fieldOff Tryz.prog 29 0 = some 0 := by kernel_rfl
@[go_sem] theorem field29_1 : fieldOff Tryz.prog 29 1 = some 1 := by kernel_rfl
@[go_sem] theorem field29_2 : fieldOff Tryz.prog 29 2 = some 2 := by kernel_rfl
@[go_sem] theorem build29 (parts : List (Nat × AV)) : buildA Tryz.prog 29 parts = (fillG (fun j => [(0, 1), (1, 1), (2, 3)][j]?) [.p (.int .i64 0), .p (.int .i64 0), .p (.int .i64 0), .p (.int .i64 0), .p (.str [])] parts).map mkAgg :=
  buildA_eq _ _ zero29 rfl (by kernel_rfl) (by kernel_rfl) (by funext j; exact placesA_eq _ _ (by kernel_rfl) j)
@[go_sem] theorem eqS29 (d : Nat) (xs ys : List PV) : eqT Tryz.prog (d + 1) 29 xs ys = eqL (eqT Tryz.prog d) [(3, 0, 1), (3, 1, 1), (27, 2, 3)] xs ys := eqT_struct _ (by kernel_rfl) (by kernel_rfl) (by kernel_rfl) (by kernel_rfl) d xs ys
@[go_sem] theorem eqg29 : Tryz.prog.eqGuardType Tryz.prog.depth 29 = false := by kernel_rfl
attribute [go_sem] Tryz.underlying30
@[go_sem] theorem cellsOf30 : Tryz.prog.cellsOf 30 = 11 := by kernel_rfl
@[go_sem] theorem isAgg30 : isAggT Tryz.prog 30 = some true := by kernel_rfl
@[go_sem] theorem ok30 : tyOk Tryz.prog 30 = true := by kernel_rfl
@[go_sem] theorem bytes30 : Tryz.prog.bytesOf 30 = 104 := by kernel_rfl
@[go_sem] theorem zero30 : zeroOf Tryz.prog 30 = some (.p (.agg [(.int .i64 0), (.int .i64 0), (.int .i64 0), (.int .i64 0), (.str []), (.int .i64 0), (.int .i64 0), (.int .i64 0), (.int .i64 0), (.int .i64 0), (.str [])])) := by kernel_rfl
@[go_sem] theorem zeroLen30 : appendA.zeroLen Tryz.prog 30 = 11 := by kernel_rfl
@[go_sem] theorem field30_0 : fieldOff Tryz.prog 30 0 = some 0 := by kernel_rfl
@[go_sem] theorem field30_1 : fieldOff Tryz.prog 30 1 = some 5 := by kernel_rfl
@[go_sem] theorem field30_2 : fieldOff Tryz.prog 30 2 = some 6 := by kernel_rfl
@[go_sem] theorem build30 (parts : List (Nat × AV)) : buildA Tryz.prog 30 parts = (fillG (fun j => [(0, 5), (5, 1), (6, 5)][j]?) [.p (.int .i64 0), .p (.int .i64 0), .p (.int .i64 0), .p (.int .i64 0), .p (.str []), .p (.int .i64 0), .p (.int .i64 0), .p (.int .i64 0), .p (.int .i64 0), .p (.int .i64 0), .p (.str [])] parts).map mkAgg :=
  buildA_eq _ _ zero30 rfl (by kernel_rfl) (by kernel_rfl) (by funext j; exact placesA_eq _ _ (by kernel_rfl) j)
@[go_sem] theorem eqS30 (d : Nat) (xs ys : List PV) : eqT Tryz.prog (d + 1) 30 xs ys = eqL (eqT Tryz.prog d) [(29, 0, 5), (3, 5, 1), (29, 6, 5)] xs ys := eqT_struct _ (by kernel_rfl) (by kernel_rfl) (by kernel_rfl) (by kernel_rfl) d xs ys
@[go_sem] theorem eqg30 : Tryz.prog.eqGuardType Tryz.prog.depth 30 = false := by kernel_rfl
attribute [go_sem] Tryz.underlying31
@[go_sem] theorem cellsOf31 : Tryz.prog.cellsOf 31 = 11 := by kernel_rfl
@[go_sem] theorem isAgg31 : isAggT Tryz.prog 31 = some true := by kernel_rfl
@[go_sem] theorem ok31 : tyOk Tryz.prog 31 = true := by kernel_rfl
@[go_sem] theorem bytes31 : Tryz.prog.bytesOf 31 = 104 := by kernel_rfl
@[go_sem] theorem zero31 : zeroOf Tryz.prog 31 = some (.p (.agg [(.int .i64 0), (.int .i64 0), (.int .i64 0), (.int .i64 0), (.str []), (.int .i64 0), (.int .i64 0), (.int .i64 0), (.int .i64 0), (.int .i64 0), (.str [])])) := by kernel_rfl
@[go_sem] theorem zeroLen31 : appendA.zeroLen Tryz.prog 31 = 11 := by kernel_rfl
@[go_sem] theorem field31_0 : fieldOff Tryz.prog 31 0 = some 0 := by kernel_rfl
@[go_sem] theorem field31_1 : fieldOff Tryz.prog 31 1 = some 5 := by kernel_rfl
@[go_sem] theorem field31_2 : fieldOff Tryz.prog 31 2 = some 6 := by kernel_rfl
@[go_sem] theorem build31 (parts : List (Nat × AV)) : buildA Tryz.prog 31 parts = (fillG (fun j => [(0, 5), (5, 1), (6, 5)][j]?) [.p (.int .i64 0), .p (.int .i64 0), .p (.int .i64 0), .p (.int .i64 0), .p (.str []), .p (.int .i64 0), .p (.int .i64 0), .p (.int .i64 0), .p (.int .i64 0), .p (.int .i64 0), .p (.str [])] parts).map mkAgg :=
  buildA_eq _ _ zero31 rfl (by kernel_rfl) (by kernel_rfl) (by funext j; exact placesA_eq _ _ (by kernel_rfl) j)
@[go_sem] theorem eqS31 (d : Nat) (xs ys : List PV) : eqT Tryz.prog (d + 1) 31 xs ys = eqL (eqT Tryz.prog d) [(29, 0, 5), (3, 5, 1), (29, 6, 5)] xs ys := eqT_struct _ (by kernel_rfl) (by kernel_rfl) (by kernel_rfl) (by kernel_rfl) d xs ys
@[go_sem] theorem eqg31 : Tryz.prog.eqGuardType Tryz.prog.depth 31 = false := by kernel_rfl
attribute [go_sem] Tryz.underlying32
@[go_sem] theorem cellsOf32 : Tryz.prog.cellsOf 32 = 1 := by kernel_rfl
@[go_sem] theorem isAgg32 : isAggT Tryz.prog 32 = some false := by kernel_rfl
@[go_sem] theorem ok32 : tyOk Tryz.prog 32 = true := by kernel_rfl
@[go_sem] theorem bytes32 : Tryz.prog.bytesOf 32 = 8 := by kernel_rfl
@[go_sem] theorem zero32 : zeroOf Tryz.prog 32 = some (.p .nilf) := by kernel_rfl
@[go_sem] theorem zeroLen32 : appendA.zeroLen Tryz.prog 32 = 1 := by kernel_rfl
attribute [go_sem] Tryz.underlying33
@[go_sem] theorem cellsOf33 : Tryz.prog.cellsOf 33 = 1 := by kernel_rfl
@[go_sem] theorem isAgg33 : isAggT Tryz.prog 33 = some false := by kernel_rfl
@[go_sem] theorem ok33 : tyOk Tryz.prog 33 = true := by kernel_rfl
@[go_sem] theorem bytes33 : Tryz.prog.bytesOf 33 = 8 := by kernel_rfl
@[go_sem] theorem zero33 : zeroOf Tryz.prog 33 = some (.p .nilf) := by kernel_rfl
@[go_sem] theorem zeroLen33 : appendA.zeroLen Tryz.prog 33 = 1 := by kernel_rfl
attribute [go_sem] Tryz.underlying34
@[go_sem] theorem cellsOf34 : Tryz.prog.cellsOf 34 = 1 := by kernel_rfl
@[go_sem] theorem isAgg34 : isAggT Tryz.prog 34 = some false := by kernel_rfl
@[go_sem] theorem ok34 : tyOk Tryz.prog 34 = true := by kernel_rfl
@[go_sem] theorem bytes34 : Tryz.prog.bytesOf 34 = 24 := by kernel_rfl
@[go_sem] theorem zero34 : zeroOf Tryz.prog 34 = some (.nils) := by kernel_rfl
@[go_sem] theorem zeroLen34 : appendA.zeroLen Tryz.prog 34 = 1 := by kernel_rfl
attribute [go_sem] Tryz.underlying35
@[go_sem] theorem cellsOf35 : Tryz.prog.cellsOf 35 = 3 := by kernel_rfl
@[go_sem] theorem isAgg35 : isAggT Tryz.prog 35 = some true := by kernel_rfl
@[go_sem] theorem ok35 : tyOk Tryz.prog 35 = true := by kernel_rfl
@[go_sem] theorem bytes35 : Tryz.prog.bytesOf 35 = 32 := by kernel_rfl
@[go_sem] theorem zero35 : zeroOf Tryz.prog 35 = some (.agg [.p (.int .u8 0), .p (.int .u8 0), .nils]) := by kernel_rfl
@[go_sem] theorem zeroLen35 : appendA.zeroLen Tryz.prog 35 = 3 := by kernel_rfl
@[go_sem] theorem field35_0 : fieldOff Tryz.prog 35 0 = some 0 := by kernel_rfl
@[go_sem] theorem field35_1 : fieldOff Tryz.prog 35 1 = some 1 := by kernel_rfl
@[go_sem] theorem field35_2 : fieldOff Tryz.prog 35 2 = some 2 := by kernel_rfl
@[go_sem] theorem build35 (parts : List (Nat × AV)) : buildA Tryz.prog 35 parts = (fillG (fun j => [(0, 1), (1, 1), (2, 1)][j]?) [.p (.int .u8 0), .p (.int .u8 0), .nils] parts).map mkAgg :=
  buildA_eq _ _ zero35 rfl (by kernel_rfl) (by kernel_rfl) (by funext j; exact placesA_eq _ _ (by kernel_rfl) j)
attribute [go_sem] Tryz.underlying36
@[go_sem] theorem cellsOf36 : Tryz.prog.cellsOf 36 = 3 := by kernel_rfl
@[go_sem] theorem isAgg36 : isAggT Tryz.prog 36 = some true := by kernel_rfl
@[go_sem] theorem ok36 : tyOk Tryz.prog 36 = true := by kernel_rfl
@[go_sem] theorem bytes36 : Tryz.prog.bytesOf 36 = 32 := by kernel_rfl
@[go_sem] theorem zero36 : zeroOf Tryz.prog 36 = some (.agg [.p (.int .u8 0), .p (.int .u8 0), .nils]) := by kernel_rfl
@[go_sem] theorem zeroLen36 : appendA.zeroLen Tryz.prog 36 = 3 := by kernel_rfl
@[go_sem] theorem field36_0 : fieldOff Tryz.prog 36 0 = some 0 := by kernel_rfl
@[go_sem] theorem field36_1 : fieldOff Tryz.prog 36 1 = some 1 := by kernel_rfl
@[go_sem] theorem field36_2 : fieldOff Tryz.prog 36 2 = some 2 := by kernel_rfl
@[go_sem] theorem build36 (parts : List (Nat × AV)) : buildA Tryz.prog 36 parts = (fillG (fun j => [(0, 1), (1, 1), (2, 1)][j]?) [.p (.int .u8 0), .p (.int .u8 0), .nils] parts).map mkAgg :=
  buildA_eq _ _ zero36 rfl (by kernel_rfl) (by kernel_rfl) (by funext j; exact placesA_eq _ _ (by kernel_rfl) j)
attribute [go_sem] Tryz.underlying37
@[go_sem] theorem cellsOf37 : Tryz.prog.cellsOf 37 = 1 := by kernel_rfl
@[go_sem] theorem isAgg37 : isAggT Tryz.prog 37 = some false := by kernel_rfl
@[go_sem] theorem ok37 : tyOk Tryz.prog 37 = true := by kernel_rfl
@[go_sem] theorem bytes37 : Tryz.prog.bytesOf 37 = 4 := by kernel_rfl
@[go_sem] theorem zero37 : zeroOf Tryz.prog 37 = some (.p (.int .u32 0)) := by kernel_rfl
@[go_sem] theorem zeroLen37 : appendA.zeroLen Tryz.prog 37 = 1 := by kernel_rfl
@[go_sem] theorem eqI37 (d : Nat) (k k' : IntKind) (a b : Int) : eqT Tryz.prog (d + 1) 37 [.int k a] [.int k' b] = if k = k' then some (a == b) else none := eqT_int _ Tryz.underlying37 d k k' a b
attribute [go_sem] Tryz.underlying38
@[go_sem] theorem cellsOf38 : Tryz.prog.cellsOf 38 = 1 := by kernel_rfl
@[go_sem] theorem isAgg38 : isAggT Tryz.prog 38 = some false := by kernel_rfl
@[go_sem] theorem ok38 : tyOk Tryz.prog 38 = true := by kernel_rfl
@[go_sem] theorem bytes38 : Tryz.prog.bytesOf 38 = 24 := by kernel_rfl
@[go_sem] theorem zero38 : zeroOf Tryz.prog 38 = some (.nils) := by kernel_rfl
@[go_sem] theorem zeroLen38 : appendA.zeroLen Tryz.prog 38 = 1 := by kernel_rfl
attribute [go_sem] Tryz.underlying39
@[go_sem] theorem cellsOf39 : Tryz.prog.cellsOf 39 = 1 := by kernel_rfl
@[go_sem] theorem isAgg39 : isAggT Tryz.prog 39 = some false := by kernel_rfl
@[go_sem] theorem ok39 : tyOk Tryz.prog 39 = true := by kernel_rfl
@[go_sem] theorem bytes39 : Tryz.prog.bytesOf 39 = 24 := by kernel_rfl
@[go_sem] theorem zero39 : zeroOf Tryz.prog 39 = some (.nils) := by kernel_rfl
@[go_sem] theorem zeroLen39 : appendA.zeroLen Tryz.prog 39 = 1 := by kernel_rfl
attribute [go_sem] Tryz.underlying40
@[go_sem] theorem cellsOf40 : Tryz.prog.cellsOf 40 = 3 := by kernel_rfl
@[go_sem] theorem isAgg40 : isAggT Tryz.prog 40 = some true := by kernel_rfl
@[go_sem] theorem ok40 : tyOk Tryz.prog 40 = true := by kernel_rfl
@[go_sem] theorem bytes40 : Tryz.prog.bytesOf 40 = 64 := by kernel_rfl
@[go_sem] theorem zero40 : zeroOf Tryz.prog 40 = some (.agg [.p (.str []), .nils, .nils]) := by kernel_rfl
@[go_sem] theorem zeroLen40 : appendA.zeroLen Tryz.prog 40 = 3 := by kernel_rfl
@[go_sem] theorem field40_0 : fieldOff Tryz.prog 40 0 = some 0 := by kernel_rfl
@[go_sem] theorem field40_1 : fieldOff Tryz.prog 40 1 = some 1 := by kernel_rfl
@[go_sem] theorem field40_2 : fieldOff Tryz.prog 40 2 = some 2 := by kernel_rfl
@[go_sem] theorem build40 (parts : List (Nat × AV)) : buildA Tryz.prog 40 parts = (fillG (fun j => [(0, 1), (1, 1), (2, 1)][j]?) [.p (.str []), .nils, .nils] parts).map mkAgg :=
  buildA_eq _ _ zero40 rfl (by kernel_rfl) (by kernel_rfl) (by funext j; exact placesA_eq _ _ (by kernel_rfl) j)
attribute [go_sem] Tryz.underlying41
@[go_sem] theorem cellsOf41 : Tryz.prog.cellsOf 41 = 3 := by kernel_rfl
@[go_sem] theorem isAgg41 : isAggT Tryz.prog 41 = some true := by kernel_rfl
@[go_sem] theorem ok41 : tyOk Tryz.prog 41 = true := by kernel_rfl
@[go_sem] theorem bytes41 : Tryz.prog.bytesOf 41 = 64 := by kernel_rfl
@[go_sem] theorem zero41 : zeroOf Tryz.prog 41 = some (.agg [.p (.str []), .nils, .nils]) := by kernel_rfl
@[go_sem] theorem zeroLen41 : appendA.zeroLen Tryz.prog 41 = 3 := by kernel_rfl
@[go_sem] theorem field41_0 : fieldOff Tryz.prog 41 0 = some 0 := by kernel_rfl
@[go_sem] theorem field41_1 : fieldOff Tryz.prog 41 1 = some 1 := by kernel_rfl
@[go_sem] theorem field41_2 : fieldOff Tryz.prog 41 2 = some 2 := by kernel_rfl
@[go_sem] theorem build41 (parts : List (Nat × AV)) : buildA Tryz.prog 41 parts = (fillG (fun j => [(0, 1), (1, 1), (2, 1)][j]?) [.p (.str []), .nils, .nils] parts).map mkAgg :=
  buildA_eq _ _ zero41 rfl (by kernel_rfl) (by kernel_rfl) (by funext j; exact placesA_eq _ _ (by kernel_rfl) j)
attribute [go_sem] Tryz.underlying43
@[go_sem] theorem cellsOf43 : Tryz.prog.cellsOf 43 = 1 := by kernel_rfl
@[go_sem] theorem isAgg43 : isAggT Tryz.prog 43 = some false := by kernel_rfl
@[go_sem] theorem ok43 : tyOk Tryz.prog 43 = true := by kernel_rfl
@[go_sem] theorem bytes43 : Tryz.prog.bytesOf 43 = 8 := by kernel_rfl
@[go_sem] theorem zero43 : zeroOf Tryz.prog 43 = some (.p .nilf) := by kernel_rfl
@[go_sem] theorem zeroLen43 : appendA.zeroLen Tryz.prog 43 = 1 := by kernel_rfl
attribute [go_sem] Tryz.underlying44
@[go_sem] theorem cellsOf44 : Tryz.prog.cellsOf 44 = 1 := by kernel_rfl
@[go_sem] theorem isAgg44 : isAggT Tryz.prog 44 = some false := by kernel_rfl
@[go_sem] theorem ok44 : tyOk Tryz.prog 44 = true := by kernel_rfl
@[go_sem] theorem bytes44 : Tryz.prog.bytesOf 44 = 4 := by kernel_rfl
@[go_sem] theorem zero44 : zeroOf Tryz.prog 44 = some (.p (.int .u32 0)) := by kernel_rfl
@[go_sem] theorem zeroLen44 : appendA.zeroLen Tryz.prog 44 = 1 := by kernel_rfl
@[go_sem] theorem eqI44 (d : Nat) (k k' : IntKind) (a b : Int) : eqT Tryz.prog (d + 1) 44 [.int k a] [.int k' b] = if k = k' then some (a == b) else none := eqT_int _ Tryz.underlying44 d k k' a b
attribute [go_sem] Tryz.underlying45
@[go_sem] theorem cellsOf45 : Tryz.prog.cellsOf 45 = 2 := by kernel_rfl
@[go_sem] theorem isAgg45 : isAggT Tryz.prog 45 = some true := by kernel_rfl
@[go_sem] theorem ok45 : tyOk Tryz.prog 45 = true := by kernel_rfl
@[go_sem] theorem bytes45 : Tryz.prog.bytesOf 45 = 8 := by kernel_rfl
@[go_sem] theorem zero45 : zeroOf Tryz.prog 45 = some (.p (.agg [(.int .u32 0), (.int .u32 0)])) := by kernel_rfl
@[go_sem] theorem zeroLen45 : appendA.zeroLen Tryz.prog 45 = 2 := by kernel_rfl
@[go_sem] theorem field45_0 : fieldOff Tryz.prog 45 0 = some 0 := by kernel_rfl
@[go_sem] theorem field45_1 : fieldOff Tryz.prog 45 1 = some 1 := by kernel_rfl
@[go_sem] theorem build45 (parts : List (Nat × AV)) : buildA Tryz.prog 45 parts = (fillG (fun j => [(0, 1), (1, 1)][j]?) [.p (.int .u32 0), .p (.int .u32 0)] parts).map mkAgg :=
  buildA_eq _ _ zero45 rfl (by kernel_rfl) (by kernel_rfl) (by funext j; exact placesA_eq _ _ (by kernel_rfl) j)
@[go_sem] theorem eqS45 (d : Nat) (xs ys : List PV) : eqT Tryz.prog (d + 1) 45 xs ys = eqL (eqT Tryz.prog d) [(44, 0, 1), (44, 1, 1)] xs ys := eqT_struct _ (by kernel_rfl) (by kernel_rfl) (by kernel_rfl) (by kernel_rfl) d xs ys
@[go_sem] theorem eqg45 : Tryz.prog.eqGuardType Tryz.prog.depth 45 = false := by kernel_rfl
attribute [go_sem] Tryz.underlying46
@[go_sem] theorem cellsOf46 : Tryz.prog.cellsOf 46 = 2 := by kernel_rfl
@[go_sem] theorem isAgg46 : isAggT Tryz.prog 46 = some true := by kernel_rfl
@[go_sem] theorem ok46 : tyOk Tryz.prog 46 = true := by kernel_rfl
@[go_sem] theorem bytes46 : Tryz.prog.bytesOf 46 = 8 := by kernel_rfl
@[go_sem] theorem zero46 : zeroOf Tryz.prog 46 = some (.p (.agg [(.int .u32 0), (.int .u32 0)])) := by kernel_rfl
@[go_sem] theorem zeroLen46 : appendA.zeroLen Tryz.prog 46 = 2 := by kernel_rfl
@[go_sem] theorem field46_0 : fieldOff Tryz.prog 46 0 = some 0 := by kernel_rfl
@[go_sem] theorem field46_1 : fieldOff Tryz.prog 46 1 = some 1 := by kernel_rfl
@[go_sem] theorem build46 (parts : List (Nat × AV)) : buildA Tryz.prog 46 parts = (fillG (fun j => [(0, 1), (1, 1)][j]?) [.p (.int .u32 0), .p (.int .u32 0)] parts).map mkAgg :=
  buildA_eq _ _ zero46 rfl (by kernel_rfl) (by kernel_rfl) (by funext j; exact placesA_eq _ _ (by kernel_rfl) j)
@[go_sem] theorem eqS46 (d : Nat) (xs ys : List PV) : eqT Tryz.prog (d + 1) 46 xs ys = eqL (eqT Tryz.prog d) [(44, 0, 1), (44, 1, 1)] xs ys := eqT_struct _ (by kernel_rfl) (by kernel_rfl) (by kernel_rfl) (by kernel_rfl) d xs ys
@[go_sem] theorem eqg46 : Tryz.prog.eqGuardType Tryz.prog.depth 46 = false := by kernel_rfl
attribute [go_sem] Tryz.underlying47
@[go_sem] theorem cellsOf47 : Tryz.prog.cellsOf 47 = 1 := by kernel_rfl
@[go_sem] theorem isAgg47 : isAggT Tryz.prog 47 = some false := by kernel_rfl
@[go_sem] theorem ok47 : tyOk Tryz.prog 47 = true := by kernel_rfl
@[go_sem] theorem bytes47 : Tryz.prog.bytesOf 47 = 24 := by kernel_rfl
@[go_sem] theorem zero47 : zeroOf Tryz.prog 47 = some (.nils) := by kernel_rfl
@[go_sem] theorem zeroLen47 : appendA.zeroLen Tryz.prog 47 = 1 := by kernel_rfl
attribute [go_sem] Tryz.underlying48
@[go_sem] theorem cellsOf48 : Tryz.prog.cellsOf 48 = 1 := by kernel_rfl
@[go_sem] theorem isAgg48 : isAggT Tryz.prog 48 = some false := by kernel_rfl
@[go_sem] theorem ok48 : tyOk Tryz.prog 48 = true := by kernel_rfl
@[go_sem] theorem bytes48 : Tryz.prog.bytesOf 48 = 8 := by kernel_rfl
@[go_sem] theorem zero48 : zeroOf Tryz.prog 48 = some (.p (.int .i64 0)) := by kernel_rfl
@[go_sem] theorem zeroLen48 : appendA.zeroLen Tryz.prog 48 = 1 := by kernel_rfl
@[go_sem] theorem eqI48 (d : Nat) (k k' : IntKind) (a b : Int) : eqT Tryz.prog (d + 1) 48 [.int k a] [.int k' b] = if k = k' then some (a == b) else none := eqT_int _ Tryz.underlying48 d k k' a b
attribute [go_sem] Tryz.underlying50
@[go_sem] theorem cellsOf50 : Tryz.prog.cellsOf 50 = 1 := by kernel_rfl
@[go_sem] theorem isAgg50 : isAggT Tryz.prog 50 = some false := by kernel_rfl
@[go_sem] theorem ok50 : tyOk Tryz.prog 50 = true := by kernel_rfl
@[go_sem] theorem bytes50 : Tryz.prog.bytesOf 50 = 8 := by kernel_rfl
@[go_sem] theorem zero50 : zeroOf Tryz.prog 50 = some (.p .nilf) := by kernel_rfl
@[go_sem] theorem zeroLen50 : appendA.zeroLen Tryz.prog 50 = 1 := by kernel_rfl
attribute [go_sem] Tryz.underlying51
@[go_sem] theorem cellsOf51 : Tryz.prog.cellsOf 51 = 1 := by kernel_rfl
@[go_sem] theorem isAgg51 : isAggT Tryz.prog 51 = some false := by kernel_rfl
@[go_sem] theorem ok51 : tyOk Tryz.prog 51 = true := by kernel_rfl
@[go_sem] theorem bytes51 : Tryz.prog.bytesOf 51 = 8 := by kernel_rfl
@[go_sem] theorem zero51 : zeroOf Tryz.prog 51 = some (.p .nilf) := by kernel_rfl
@[go_sem] theorem zeroLen51 : appendA.zeroLen Tryz.prog 51 = 1 := by kernel_rfl
attribute [go_sem] Tryz.underlying52
@[go_sem] theorem cellsOf52 : Tryz.prog.cellsOf 52 = 1 := by kernel_rfl
@[go_sem] theorem isAgg52 : isAggT Tryz.prog 52 = some false := by kernel_rfl
@[go_sem] theorem ok52 : tyOk Tryz.prog 52 = true := by kernel_rfl
@[go_sem] theorem bytes52 : Tryz.prog.bytesOf 52 = 24 := by kernel_rfl
@[go_sem] theorem zero52 : zeroOf Tryz.prog 52 = some (.nils) := by kernel_rfl
@[go_sem] theorem zeroLen52 : appendA.zeroLen Tryz.prog 52 = 1 := by kernel_rfl
attribute [go_sem] Tryz.underlying53
@[go_sem] theorem cellsOf53 : Tryz.prog.cellsOf 53 = 1 := by kernel_rfl
@[go_sem] theorem isAgg53 : isAggT Tryz.prog 53 = some false := by kernel_rfl
@[go_sem] theorem ok53 : tyOk Tryz.prog 53 = true := by kernel_rfl
@[go_sem] theorem bytes53 : Tryz.prog.bytesOf 53 = 24 := by kernel_rfl
@[go_sem] theorem zero53 : zeroOf Tryz.prog 53 = some (.nils) := by kernel_rfl
@[go_sem] theorem zeroLen53 : appendA.zeroLen Tryz.prog 53 = 1 := by kernel_rfl
attribute [go_sem] Tryz.underlying54
@[go_sem] theorem cellsOf54 : Tryz.prog.cellsOf 54 = 2 := by kernel_rfl
@[go_sem] theorem isAgg54 : isAggT Tryz.prog 54 = some true := by kernel_rfl
@[go_sem] theorem ok54 : tyOk Tryz.prog 54 = true := by kernel_rfl
@[go_sem] theorem bytes54 : Tryz.prog.bytesOf 54 = 32 := by kernel_rfl
@[go_sem] theorem zero54 : zeroOf Tryz.prog 54 = some (.agg [.p (.int .i64 0), .nils]) := by kernel_rfl
@[go_sem] theorem zeroLen54 : appendA.zeroLen Tryz.prog 54 = 2 := by kernel_rfl
@[go_sem] theorem field54_0 : fieldOff Tryz.prog 54 0 = some 0 := by kernel_rfl
@[go_sem] theorem field54_1 : fieldOff Tryz.prog 54 1 = some 1 := by kernel_rfl
@[go_sem] theorem build54 (parts : List (Nat × AV)) : buildA Tryz.prog 54 parts = (fillG (fun j => [(0, 1), (1, 1)][j]?) [.p (.int .i64 0), .nils] parts).map mkAgg :=
  buildA_eq _ _ zero54 rfl (by kernel_rfl) (by kernel_rfl) (by funext j; exact placesA_eq _ _ (by kernel_rfl) j)
attribute [go_sem] Tryz.underlying55
@[go_sem] theorem cellsOf55 : Tryz.prog.cellsOf 55 = 2 := by kernel_rfl
@[go_sem] theorem isAgg55 : isAggT Tryz.prog 55 = some true := by kernel_rfl
@[go_sem] theorem ok55 : tyOk Tryz.prog 55 = true := by kernel_rfl
@[go_sem] theorem bytes55 : Tryz.prog.bytesOf 55 = 32 := by kernel_rfl
@[go_sem] theorem zero55 : zeroOf Tryz.prog 55 = some (.agg [.p (.int .i64 0), .nils]) := by kernel_rfl
@[go_sem] theorem zeroLen55 : appendA.zeroLen Tryz.prog 55 = 2 := by kernel_rfl
@[go_sem] theorem field55_0 : fieldOff Tryz.prog 55 0 = some 0 := by kernel_rfl
@[go_sem] theorem field55_1 : fieldOff Tryz.prog 55 1 = some 1 := by kernel_rfl
@[go_sem] theorem build55 (parts : List (Nat × AV)) : buildA Tryz.prog 55 parts = (fillG (fun j => [(0, 1), (1, 1)][j]?) [.p (.int .i64 0), .nils] parts).map mkAgg :=
  buildA_eq _ _ zero55 rfl (by kernel_rfl) (by kernel_rfl) (by funext j; exact placesA_eq _ _ (by kernel_rfl) j)
attribute [go_sem] Tryz.underlying56
@[go_sem] theorem cellsOf56 : Tryz.prog.cellsOf 56 = 1 := by kernel_rfl
@[go_sem] theorem isAgg56 : isAggT Tryz.prog 56 = some false := by kernel_rfl
@[go_sem] theorem ok56 : tyOk Tryz.prog 56 = true := by kernel_rfl
@[go_sem] theorem bytes56 : Tryz.prog.bytesOf 56 = 8 := by kernel_rfl
@[go_sem] theorem zero56 : zeroOf Tryz.prog 56 = some (.p .nilf) := by kernel_rfl
@[go_sem] theorem zeroLen56 : appendA.zeroLen Tryz.prog 56 = 1 := by kernel_rfl
attribute [go_sem] Tryz.underlying57
@[go_sem] theorem cellsOf57 : Tryz.prog.cellsOf 57 = 1 := by kernel_rfl
@[go_sem] theorem isAgg57 : isAggT Tryz.prog 57 = some false := by kernel_rfl
@[go_sem] theorem ok57 : tyOk Tryz.prog 57 = true := by kernel_rfl
@[go_sem] theorem bytes57 : Tryz.prog.bytesOf 57 = 24 := by kernel_rfl
@[go_sem] theorem zero57 : zeroOf Tryz.prog 57 = some (.nils) := by kernel_rfl
@[go_sem] theorem zeroLen57 : appendA.zeroLen Tryz.prog 57 = 1 := by kernel_rfl
attribute [go_sem] Tryz.underlying59
@[go_sem] theorem cellsOf59 : Tryz.prog.cellsOf 59 = 1 := by kernel_rfl
@[go_sem] theorem isAgg59 : isAggT Tryz.prog 59 = some false := by kernel_rfl
@[go_sem] theorem ok59 : tyOk Tryz.prog 59 = true := by kernel_rfl
@[go_sem] theorem bytes59 : Tryz.prog.bytesOf 59 = 8 := by kernel_rfl
@[go_sem] theorem zero59 : zeroOf Tryz.prog 59 = some (.p .nilf) := by kernel_rfl
@[go_sem] theorem zeroLen59 : appendA.zeroLen Tryz.prog 59 = 1 := by kernel_rfl
attribute [go_sem] Tryz.underlying60
@[go_sem] theorem cellsOf60 : Tryz.prog.cellsOf 60 = 1 := by kernel_rfl
@[go_sem] theorem isAgg60 : isAggT Tryz.prog 60 = some false := by kernel_rfl
@[go_sem] theorem ok60 : tyOk Tryz.prog 60 = true := by kernel_rfl
@[go_sem] theorem bytes60 : Tryz.prog.bytesOf 60 = 8 := by kernel_rfl
@[go_sem] theorem zero60 : zeroOf Tryz.prog 60 = some (.p .nilf) := by kernel_rfl
@[go_sem] theorem zeroLen60 : appendA.zeroLen Tryz.prog 60 = 1 := by kernel_rfl
attribute [go_sem] Tryz.underlying61
@[go_sem] theorem cellsOf61 : Tryz.prog.cellsOf 61 = 1 := by kernel_rfl
@[go_sem] theorem isAgg61 : isAggT Tryz.prog 61 = some false := by kernel_rfl
@[go_sem] theorem ok61 : tyOk Tryz.prog 61 = true := by kernel_rfl
@[go_sem] theorem bytes61 : Tryz.prog.bytesOf 61 = 8 := by kernel_rfl
@[go_sem] theorem zero61 : zeroOf Tryz.prog 61 = some (.p .nilf) := by kernel_rfl
@[go_sem] theorem zeroLen61 : appendA.zeroLen Tryz.prog 61 = 1 := by kernel_rfl
attribute [go_sem] Tryz.underlying62
@[go_sem] theorem cellsOf62 : Tryz.prog.cellsOf 62 = 1 := by kernel_rfl
@[go_sem] theorem isAgg62 : isAggT Tryz.prog 62 = some false := by kernel_rfl
@[go_sem] theorem ok62 : tyOk Tryz.prog 62 = true := by kernel_rfl
@[go_sem] theorem bytes62 : Tryz.prog.bytesOf 62 = 24 := by kernel_rfl
@[go_sem] theorem zero62 : zeroOf Tryz.prog 62 = some (.nils) := by kernel_rfl
@[go_sem] theorem zeroLen62 : appendA.zeroLen Tryz.prog 62 = 1 := by kernel_rfl
attribute [go_sem] Tryz.underlying63
@[go_sem] theorem cellsOf63 : Tryz.prog.cellsOf 63 = 2 := by kernel_rfl
@[go_sem] theorem isAgg63 : isAggT Tryz.prog 63 = some true := by kernel_rfl
@[go_sem] theorem ok63 : tyOk Tryz.prog 63 = true := by kernel_rfl
@[go_sem] theorem bytes63 : Tryz.prog.bytesOf 63 = 48 := by kernel_rfl
@[go_sem] theorem zero63 : zeroOf Tryz.prog 63 = some (.agg [.nils, .nils]) := by kernel_rfl
@[go_sem] theorem zeroLen63 : appendA.zeroLen Tryz.prog 63 = 2 := by kernel_rfl
@[go_sem] theorem field63_0 : fieldOff Tryz.prog 63 0 = some 0 := by kernel_rfl
@[go_sem] theorem field63_1 : fieldOff Tryz.prog 63 1 = some 1 := by kernel_rfl
@[go_sem] theorem build63 (parts : List (Nat × AV)) : buildA Tryz.prog 63 parts = (fillG (fun j => [(0, 1), (1, 1)][j]?) [.nils, .nils] parts).map mkAgg :=
  buildA_eq _ _ zero63 rfl (by kernel_rfl) (by kernel_rfl) (by funext j; exact placesA_eq _ _ (by kernel_rfl) j)
attribute [go_sem] Tryz.underlying64
@[go_sem] theorem cellsOf64 : Tryz.prog.cellsOf 64 = 2 := by kernel_rfl
@[go_sem] theorem isAgg64 : isAggT Tryz.prog 64 = some true := by kernel_rfl
@[go_sem] theorem ok64 : tyOk Tryz.prog 64 = true := by kernel_rfl
@[go_sem] theorem bytes64 : Tryz.prog.bytesOf 64 = 48 := by kernel_rfl
@[go_sem] theorem zero64 : zeroOf Tryz.prog 64 = some (.agg [.nils, .nils]) := by kernel_rfl
@[go_sem] theorem zeroLen64 : appendA.zeroLen Tryz.prog 64 = 2 := by kernel_rfl
@[go_sem] theorem field64_0 : fieldOff Tryz.prog 64 0 = some 0 := by kernel_rfl
@[go_sem] theorem field64_1 : fieldOff Tryz.prog 64 1 = some 1 := by kernel_rfl
@[go_sem] theorem build64 (parts : List (Nat × AV)) : buildA Tryz.prog 64 parts = (fillG (fun j => [(0, 1), (1, 1)][j]?) [.nils, .nils] parts).map mkAgg :=
  buildA_eq _ _ zero64 rfl (by kernel_rfl) (by kernel_rfl) (by funext j; exact placesA_eq _ _ (by kernel_rfl) j)
attribute [go_sem] Tryz.underlying65
@[go_sem] theorem cellsOf65 : Tryz.prog.cellsOf 65 = 1 := by kernel_rfl
@[go_sem] theorem isAgg65 : isAggT Tryz.prog 65 = some false := by kernel_rfl
@[go_sem] theorem ok65 : tyOk Tryz.prog 65 = true := by kernel_rfl
@[go_sem] theorem bytes65 : Tryz.prog.bytesOf 65 = 8 := by kernel_rfl
@[go_sem] theorem zero65 : zeroOf Tryz.prog 65 = some (.p .nilf) := by kernel_rfl
@[go_sem] theorem zeroLen65 : appendA.zeroLen Tryz.prog 65 = 1 := by kernel_rfl
attribute [go_sem] Tryz.underlying66
@[go_sem] theorem cellsOf66 : Tryz.prog.cellsOf 66 = 1 := by kernel_rfl
@[go_sem] theorem isAgg66 : isAggT Tryz.prog 66 = some false := by kernel_rfl
@[go_sem] theorem ok66 : tyOk Tryz.prog 66 = true := by kernel_rfl
@[go_sem] theorem bytes66 : Tryz.prog.bytesOf 66 = 8 := by kernel_rfl
@[go_sem] theorem zero66 : zeroOf Tryz.prog 66 = some (.p .nilf) := by kernel_rfl
@[go_sem] theorem zeroLen66 : appendA.zeroLen Tryz.prog 66 = 1 := by kernel_rfl
attribute [go_sem] Tryz.underlying68
@[go_sem] theorem cellsOf68 : Tryz.prog.cellsOf 68 = 1 := by kernel_rfl
@[go_sem] theorem isAgg68 : isAggT Tryz.prog 68 = some false := by kernel_rfl
@[go_sem] theorem ok68 : tyOk Tryz.prog 68 = true := by kernel_rfl
@[go_sem] theorem bytes68 : Tryz.prog.bytesOf 68 = 8 := by kernel_rfl
@[go_sem] theorem zero68 : zeroOf Tryz.prog 68 = some (.p .nilf) := by kernel_rfl
@[go_sem] theorem zeroLen68 : appendA.zeroLen Tryz.prog 68 = 1 := by kernel_rfl
attribute [go_sem] Tryz.underlying69
@[go_sem] theorem cellsOf69 : Tryz.prog.cellsOf 69 = 1 := by kernel_rfl
@[go_sem] theorem isAgg69 : isAggT Tryz.prog 69 = some false := by kernel_rfl
@[go_sem] theorem ok69 : tyOk Tryz.prog 69 = true := by kernel_rfl
@[go_sem] theorem bytes69 : Tryz.prog.bytesOf 69 = 8 := by kernel_rfl
@[go_sem] theorem zero69 : zeroOf Tryz.prog 69 = some (.p .nilf) := by kernel_rfl
@[go_sem] theorem zeroLen69 : appendA.zeroLen Tryz.prog 69 = 1 := by kernel_rfl
attribute [go_sem] Tryz.underlying70
@[go_sem] theorem cellsOf70 : Tryz.prog.cellsOf 70 = 1 := by kernel_rfl
@[go_sem] theorem isAgg70 : isAggT Tryz.prog 70 = some false := by kernel_rfl
@[go_sem] theorem ok70 : tyOk Tryz.prog 70 = true := by kernel_rfl
@[go_sem] theorem bytes70 : Tryz.prog.bytesOf 70 = 24 := by kernel_rfl
@[go_sem] theorem zero70 : zeroOf Tryz.prog 70 = some (.nils) := by kernel_rfl
@[go_sem] theorem zeroLen70 : appendA.zeroLen Tryz.prog 70 = 1 := by kernel_rfl
attribute [go_sem] Tryz.underlying71
@[go_sem] theorem cellsOf71 : Tryz.prog.cellsOf 71 = 2 := by kernel_rfl
@[go_sem] theorem isAgg71 : isAggT Tryz.prog 71 = some true := by kernel_rfl
@[go_sem] theorem ok71 : tyOk Tryz.prog 71 = true := by kernel_rfl
@[go_sem] theorem bytes71 : Tryz.prog.bytesOf 71 = 32 := by kernel_rfl
@[go_sem] theorem zero71 : zeroOf Tryz.prog 71 = some (.agg [.p (.int .u8 0), .nils]) := by kernel_rfl
@[go_sem] theorem zeroLen71 : appendA.zeroLen Tryz.prog 71 = 2 := by kernel_rfl
@[go_sem] theorem field71_0 : fieldOff Tryz.prog 71 0 = some 0 := by kernel_rfl
@[go_sem] theorem field71_1 : fieldOff Tryz.prog 71 1 = some 1 := by kernel_rfl
@[go_sem] theorem build71 (parts : List (Nat × AV)) : buildA Tryz.prog 71 parts = (fillG (fun j => [(0, 1), (1, 1)][j]?) [.p (.int .u8 0), .nils] parts).map mkAgg :=
  buildA_eq _ _ zero71 rfl (by kernel_rfl) (by kernel_rfl) (by funext j; exact placesA_eq _ _ (by kernel_rfl) j)
attribute [go_sem] Tryz.underlying72
@[go_sem] theorem cellsOf72 : Tryz.prog.cellsOf 72 = 2 := by kernel_rfl
@[go_sem] theorem isAgg72 : isAggT Tryz.prog 72 = some true := by kernel_rfl
@[go_sem] theorem ok72 : tyOk Tryz.prog 72 = true := by kernel_rfl
@[go_sem] theorem bytes72 : Tryz.prog.bytesOf 72 = 32 := by kernel_rfl
@[go_sem] theorem zero72 : zeroOf Tryz.prog 72 = some (.agg [.p (.int .u8 0), .nils]) := by kernel_rfl
@[go_sem] theorem zeroLen72 : appendA.zeroLen Tryz.prog 72 = 2 := by kernel_rfl
@[go_sem] theorem field72_0 : fieldOff Tryz.prog 72 0 = some 0 := by kernel_rfl
@[go_sem] theorem field72_1 : fieldOff Tryz.prog 72 1 = some 1 := by kernel_rfl
@[go_sem] theorem build72 (parts : List (Nat × AV)) : buildA Tryz.prog 72 parts = (fillG (fun j => [(0, 1), (1, 1)][j]?) [.p (.int .u8 0), .nils] parts).map mkAgg :=
  buildA_eq _ _ zero72 rfl (by kernel_rfl) (by kernel_rfl) (by funext j; exact placesA_eq _ _ (by kernel_rfl) j)
attribute [go_sem] Tryz.underlying75
@[go_sem] theorem cellsOf75 : Tryz.prog.cellsOf 75 = 1 := by kernel_rfl
@[go_sem] theorem isAgg75 : isAggT Tryz.prog 75 = some false := by kernel_rfl
@[go_sem] theorem ok75 : tyOk Tryz.prog 75 = true := by kernel_rfl
@[go_sem] theorem bytes75 : Tryz.prog.bytesOf 75 = 8 := by kernel_rfl
@[go_sem] theorem zero75 : zeroOf Tryz.prog 75 = some (.p .nilf) := by kernel_rfl
@[go_sem] theorem zeroLen75 : appendA.zeroLen Tryz.prog 75 = 1 := by kernel_rfl
attribute [go_sem] Tryz.underlying78
@[go_sem] theorem cellsOf78 : Tryz.prog.cellsOf 78 = 1 := by kernel_rfl
@[go_sem] theorem isAgg78 : isAggT Tryz.prog 78 = some false := by kernel_rfl
@[go_sem] theorem ok78 : tyOk Tryz.prog 78 = true := by kernel_rfl
@[go_sem] theorem bytes78 : Tryz.prog.bytesOf 78 = 8 := by kernel_rfl
@[go_sem] theorem zero78 : zeroOf Tryz.prog 78 = some (.p .nilf) := by kernel_rfl
@[go_sem] theorem zeroLen78 : appendA.zeroLen Tryz.prog 78 = 1 := by kernel_rfl
attribute [go_sem] Tryz.underlying80
@[go_sem] theorem cellsOf80 : Tryz.prog.cellsOf 80 = 1 := by kernel_rfl
@[go_sem] theorem isAgg80 : isAggT Tryz.prog 80 = some false := by kernel_rfl
@[go_sem] theorem ok80 : tyOk Tryz.prog 80 = true := by kernel_rfl
@[go_sem] theorem bytes80 : Tryz.prog.bytesOf 80 = 8 := by kernel_rfl
@[go_sem] theorem zero80 : zeroOf Tryz.prog 80 = some (.p .nilf) := by kernel_rfl
@[go_sem] theorem zeroLen80 : appendA.zeroLen Tryz.prog 80 = 1 := by kernel_rfl
attribute [go_sem] Tryz.underlying84
@[go_sem] theorem cellsOf84 : Tryz.prog.cellsOf 84 = 1 := by kernel_rfl
@[go_sem] theorem isAgg84 : isAggT Tryz.prog 84 = some false := by kernel_rfl
@[go_sem] theorem ok84 : tyOk Tryz.prog 84 = true := by kernel_rfl
@[go_sem] theorem bytes84 : Tryz.prog.bytesOf 84 = 8 := by kernel_rfl
@[go_sem] theorem zero84 : zeroOf Tryz.prog 84 = some (.p .nilf) := by kernel_rfl
@[go_sem] theorem zeroLen84 : appendA.zeroLen Tryz.prog 84 = 1 := by kernel_rfl
attribute [go_sem] Tryz.underlying87
@[go_sem] theorem cellsOf87 : Tryz.prog.cellsOf 87 = 1 := by kernel_rfl
@[go_sem] theorem isAgg87 : isAggT Tryz.prog 87 = some false := by kernel_rfl
@[go_sem] theorem ok87 : tyOk Tryz.prog 87 = true := by kernel_rfl
@[go_sem] theorem bytes87 : Tryz.prog.bytesOf 87 = 8 := by kernel_rfl
@[go_sem] theorem zero87 : zeroOf Tryz.prog 87 = some (.p .nilf) := by kernel_rfl
@[go_sem] theorem zeroLen87 : appendA.zeroLen Tryz.prog 87 = 1 := by kernel_rfl
attribute [go_sem] Tryz.underlying89
@[go_sem] theorem cellsOf89 : Tryz.prog.cellsOf 89 = 1 := by kernel_rfl
@[go_sem] theorem isAgg89 : isAggT Tryz.prog 89 = some false := by kernel_rfl
@[go_sem] theorem ok89 : tyOk Tryz.prog 89 = true := by kernel_rfl
@[go_sem] theorem bytes89 : Tryz.prog.bytesOf 89 = 24 := by kernel_rfl
@[go_sem] theorem zero89 : zeroOf Tryz.prog 89 = some (.nils) := by kernel_rfl
@[go_sem] theorem zeroLen89 : appendA.zeroLen Tryz.prog 89 = 1 := by kernel_rfl
attribute [go_sem] Tryz.underlying90
@[go_sem] theorem cellsOf90 : Tryz.prog.cellsOf 90 = 3 := by kernel_rfl
@[go_sem] theorem isAgg90 : isAggT Tryz.prog 90 = some true := by kernel_rfl
@[go_sem] theorem ok90 : tyOk Tryz.prog 90 = true := by kernel_rfl
@[go_sem] theorem bytes90 : Tryz.prog.bytesOf 90 = 56 := by kernel_rfl
@[go_sem] theorem zero90 : zeroOf Tryz.prog 90 = some (.agg [.nils, .p (.int .i64 0), .nils]) := by kernel_rfl
@[go_sem] theorem zeroLen90 : appendA.zeroLen Tryz.prog 90 = 3 := by kernel_rfl
@[go_sem] theorem field90_0 : fieldOff Tryz.prog 90 0 = some 0 := by kernel_rfl
@[go_sem] theorem field90_1 : fieldOff Tryz.prog 90 1 = some 1 := by kernel_rfl
@[go_sem] theorem field90_2 : fieldOff Tryz.prog 90 2 = some 2 := by kernel_rfl
@[go_sem] theorem build90 (parts : List (Nat × AV)) : buildA Tryz.prog 90 parts = (fillG (fun j => [(0, 1), (1, 1), (2, 1)][j]?) [.nils, .p (.int .i64 0), .nils] parts).map mkAgg :=
  buildA_eq _ _ zero90 rfl (by kernel_rfl) (by kernel_rfl) (by funext j; exact placesA_eq _ _ (by kernel_rfl) j)
attribute [go_sem] Tryz.underlying91
@[go_sem] theorem cellsOf91 : Tryz.prog.cellsOf 91 = 3 := by kernel_rfl
@[go_sem] theorem isAgg91 : isAggT Tryz.prog 91 = some true := by kernel_rfl
@[go_sem] theorem ok91 : tyOk Tryz.prog 91 = true := by kernel_rfl
@[go_sem] theorem bytes91 : Tryz.prog.bytesOf 91 = 56 := by kernel_rfl
@[go_sem] theorem zero91 : zeroOf Tryz.prog 91 = some (.agg [.nils, .p (.int .i64 0), .nils]) := by kernel_rfl
@[go_sem] theorem zeroLen91 : appendA.zeroLen Tryz.prog 91 = 3 := by kernel_rfl
@[go_sem] theorem field91_0 : fieldOff Tryz.prog 91 0 = some 0 := by kernel_rfl
@[go_sem] theorem field91_1 : fieldOff Tryz.prog 91 1 = some 1 := by kernel_rfl
@[go_sem] theorem field91_2 : fieldOff Tryz.prog 91 2 = some 2 := by kernel_rfl
@[go_sem] theorem build91 (parts : List (Nat × AV)) : buildA Tryz.prog 91 parts = (fillG (fun j => [(0, 1), (1, 1), (2, 1)][j]?) [.nils, .p (.int .i64 0), .nils] parts).map mkAgg :=
  buildA_eq _ _ zero91 rfl (by kernel_rfl) (by kernel_rfl) (by funext j; exact placesA_eq _ _ (by kernel_rfl) j)
attribute [go_sem] Tryz.underlying92
@[go_sem] theorem cellsOf92 : Tryz.prog.cellsOf 92 = 4 := by kernel_rfl
@[go_sem] theorem isAgg92 : isAggT Tryz.prog 92 = some true := by kernel_rfl
@[go_sem] theorem ok92 : tyOk Tryz.prog 92 = true := by kernel_rfl
@[go_sem] theorem bytes92 : Tryz.prog.bytesOf 92 = 40 := by kernel_rfl
@[go_sem] theorem zero92 : zeroOf Tryz.prog 92 = some (.p (.agg [(.bool false), (.int .i64 0), (.int .i64 0), (.str [])])) := by kernel_rfl
@[go_sem] theorem zeroLen92 : appendA.zeroLen Tryz.prog 92 = 4 := by kernel_rfl
@[go_sem] theorem field92_0 : fieldOff Tryz.prog 92 0 = some 0 := by kernel_rfl
@[go_sem] theorem field92_1 : fieldOff Tryz.prog 92 1 = some 1 := by kernel_rfl
@[go_sem] theorem build92 (parts : List (Nat × AV)) : buildA Tryz.prog 92 parts = (fillG (fun j => [(0, 1), (1, 3)][j]?) [.p (.bool false), .p (.int .i64 0), .p (.int .i64 0), .p (.str [])] parts).map mkAgg :=
  buildA_eq _ _ zero92 rfl (by kernel_rfl) (by kernel_rfl) (by funext j; exact placesA_eq _ _ (by kernel_rfl) j)
@[go_sem] theorem eqS92 (d : Nat) (xs ys : List PV) : eqT Tryz.prog (d + 1) 92 xs ys = eqL (eqT Tryz.prog d) [(4, 0, 1), (27, 1, 3)] xs ys := eqT_struct _ (by kernel_rfl) (by kernel_rfl) (by kernel_rfl) (by kernel_rfl) d xs ys
@[go_sem] theorem eqg92 : Tryz.prog.eqGuardType Tryz.prog.depth 92 = false := by kernel_rfl
attribute [go_sem] Tryz.underlying93
@[go_sem] theorem cellsOf93 : Tryz.prog.cellsOf 93 = 4 := by kernel_rfl
@[go_sem] theorem isAgg93 : isAggT Tryz.prog 93 = some true := by kernel_rfl
@[go_sem] theorem ok93 : tyOk Tryz.prog 93 = true := by kernel_rfl
@[go_sem] theorem bytes93 : Tryz.prog.bytesOf 93 = 40 := by kernel_rfl
@[go_sem] theorem zero93 : zeroOf Tryz.prog 93 = some (.p (.agg [(.bool false), (.int .i64 0), (.int .i64 0), (.str [])])) := by kernel_rfl
@[go_sem] theorem zeroLen93 : appendA.zeroLen Tryz.prog 93 = 4 := by kernel_rfl
@[go_sem] theorem field93_0 : fieldOff Tryz.prog 93 0 = some 0 := by kernel_rfl
@[go_sem] theorem field93_1 : fieldOff Tryz.prog 93 1 = some 1 := by kernel_rfl
@[go_sem] theorem build93 (parts : List (Nat × AV)) : buildA Tryz.prog 93 parts = (fillG (fun j => [(0, 1), (1, 3)][j]?) [.p (.bool false), .p (.int .i64 0), .p (.int .i64 0), .p (.str [])] parts).map mkAgg :=
  buildA_eq _ _ zero93 rfl (by kernel_rfl) (by kernel_rfl) (by funext j; exact placesA_eq _ _ (by kernel_rfl) j)
@[go_sem] theorem eqS93 (d : Nat) (xs ys : List PV) : eqT Tryz.prog (d + 1) 93 xs ys = eqL (eqT Tryz.prog d) [(4, 0, 1), (27, 1, 3)] xs ys := eqT_struct _ (by kernel_rfl) (by kernel_rfl) (by kernel_rfl) (by kernel_rfl) d xs ys
@[go_sem] theorem eqg93 : Tryz.prog.eqGuardType Tryz.prog.depth 93 = false := by kernel_rfl
attribute [go_sem] Tryz.underlying95
@[go_sem] theorem cellsOf95 : Tryz.prog.cellsOf 95 = 1 := by kernel_rfl
@[go_sem] theorem isAgg95 : isAggT Tryz.prog 95 = some false := by kernel_rfl
@[go_sem] theorem ok95 : tyOk Tryz.prog 95 = true := by kernel_rfl
@[go_sem] theorem bytes95 : Tryz.prog.bytesOf 95 = 8 := by kernel_rfl
@[go_sem] theorem zero95 : zeroOf Tryz.prog 95 = some (.p .nilf) := by kernel_rfl
@[go_sem] theorem zeroLen95 : appendA.zeroLen Tryz.prog 95 = 1 := by kernel_rfl
attribute [go_sem] Tryz.underlying97
@[go_sem] theorem cellsOf97 : Tryz.prog.cellsOf 97 = 1 := by kernel_rfl
@[go_sem] theorem isAgg97 : isAggT Tryz.prog 97 = some false := by kernel_rfl
@[go_sem] theorem ok97 : tyOk Tryz.prog 97 = true := by kernel_rfl
@[go_sem] theorem bytes97 : Tryz.prog.bytesOf 97 = 8 := by kernel_rfl
@[go_sem] theorem zero97 : zeroOf Tryz.prog 97 = some (.p .nilf) := by kernel_rfl
@[go_sem] theorem zeroLen97 : appendA.zeroLen Tryz.prog 97 = 1 := by kernel_rfl
attribute [go_sem] Tryz.underlying98
@[go_sem] theorem cellsOf98 : Tryz.prog.cellsOf 98 = 1 := by kernel_rfl
@[go_sem] theorem isAgg98 : isAggT Tryz.prog 98 = some false := by kernel_rfl
@[go_sem] theorem ok98 : tyOk Tryz.prog 98 = true := by kernel_rfl
@[go_sem] theorem bytes98 : Tryz.prog.bytesOf 98 = 8 := by kernel_rfl
@[go_sem] theorem zero98 : zeroOf Tryz.prog 98 = some (.p .nilf) := by kernel_rfl
@[go_sem] theorem zeroLen98 : appendA.zeroLen Tryz.prog 98 = 1 := by kernel_rfl
attribute [go_sem] Tryz.underlying99
@[go_sem] theorem cellsOf99 : Tryz.prog.cellsOf 99 = 1 := by kernel_rfl
@[go_sem] theorem isAgg99 : isAggT Tryz.prog 99 = some false := by kernel_rfl
@[go_sem] theorem ok99 : tyOk Tryz.prog 99 = true := by kernel_rfl
@[go_sem] theorem bytes99 : Tryz.prog.bytesOf 99 = 8 := by kernel_rfl
@[go_sem] theorem zero99 : zeroOf Tryz.prog 99 = some (.p .nilf) := by kernel_rfl
@[go_sem] theorem zeroLen99 : appendA.zeroLen Tryz.prog 99 = 1 := by kernel_rfl
attribute [go_sem] Tryz.underlying102
@[go_sem] theorem cellsOf102 : Tryz.prog.cellsOf 102 = 1 := by kernel_rfl
@[go_sem] theorem isAgg102 : isAggT Tryz.prog 102 = some false := by kernel_rfl
@[go_sem] theorem ok102 : tyOk Tryz.prog 102 = true := by kernel_rfl
@[go_sem] theorem bytes102 : Tryz.prog.bytesOf 102 = 24 := by kernel_rfl
@[go_sem] theorem zero102 : zeroOf Tryz.prog 102 = some (.nils) := by kernel_rfl
@[go_sem] theorem zeroLen102 : appendA.zeroLen Tryz.prog 102 = 1 := by kernel_rfl
attribute [go_sem] Tryz.underlying103
@[go_sem] theorem cellsOf103 : Tryz.prog.cellsOf 103 = 1 := by kernel_rfl
@[go_sem] theorem isAgg103 : isAggT Tryz.prog 103 = some false := by kernel_rfl
@[go_sem] theorem ok103 : tyOk Tryz.prog 103 = true := by kernel_rfl
@[go_sem] theorem bytes103 : Tryz.prog.bytesOf 103 = 8 := by kernel_rfl
@[go_sem] theorem zero103 : zeroOf Tryz.prog 103 = some (.p .nilf) := by kernel_rfl
@[go_sem] theorem zeroLen103 : appendA.zeroLen Tryz.prog 103 = 1 := by kernel_rfl
attribute [go_sem] Tryz.underlying104
@[go_sem] theorem cellsOf104 : Tryz.prog.cellsOf 104 = 1 := by kernel_rfl
@[go_sem] theorem isAgg104 : isAggT Tryz.prog 104 = some false := by kernel_rfl
@[go_sem] theorem ok104 : tyOk Tryz.prog 104 = true := by kernel_rfl
@[go_sem] theorem bytes104 : Tryz.prog.bytesOf 104 = 8 := by kernel_rfl
@[go_sem] theorem zero104 : zeroOf Tryz.prog 104 = some (.p .nilf) := by kernel_rfl
@[go_sem] theorem zeroLen104 : appendA.zeroLen Tryz.prog 104 = 1 := by kernel_rfl
attribute [go_sem] Tryz.underlying107
@[go_sem] theorem cellsOf107 : Tryz.prog.cellsOf 107 = 1 := by kernel_rfl
@[go_sem] theorem isAgg107 : isAggT Tryz.prog 107 = some false := by kernel_rfl
@[go_sem] theorem ok107 : tyOk Tryz.prog 107 = true := by kernel_rfl
@[go_sem] theorem bytes107 : Tryz.prog.bytesOf 107 = 8 := by kernel_rfl
@[go_sem] theorem zero107 : zeroOf Tryz.prog 107 = some (.p .nilf) := by kernel_rfl
@[go_sem] theorem zeroLen107 : appendA.zeroLen Tryz.prog 107 = 1 := by kernel_rfl
attribute [go_sem] Tryz.underlying109
@[go_sem] theorem cellsOf109 : Tryz.prog.cellsOf 109 = 1 := by kernel_rfl
@[go_sem] theorem isAgg109 : isAggT Tryz.prog 109 = some false := by kernel_rfl
@[go_sem] theorem ok109 : tyOk Tryz.prog 109 = true := by kernel_rfl
@[go_sem] theorem bytes109 : Tryz.prog.bytesOf 109 = 24 := by kernel_rfl
@[go_sem] theorem zero109 : zeroOf Tryz.prog 109 = some (.nils) := by kernel_rfl
@[go_sem] theorem zeroLen109 : appendA.zeroLen Tryz.prog 109 = 1 := by kernel_rfl
attribute [go_sem] Tryz.underlying112
@[go_sem] theorem cellsOf112 : Tryz.prog.cellsOf 112 = 1 := by kernel_rfl
@[go_sem] theorem isAgg112 : isAggT Tryz.prog 112 = some false := by kernel_rfl
@[go_sem] theorem ok112 : tyOk Tryz.prog 112 = true := by kernel_rfl
@[go_sem] theorem bytes112 : Tryz.prog.bytesOf 112 = 8 := by kernel_rfl
@[go_sem] theorem zero112 : zeroOf Tryz.prog 112 = some (.p .nilf) := by kernel_rfl
@[go_sem] theorem zeroLen112 : appendA.zeroLen Tryz.prog 112 = 1 := by kernel_rfl
attribute [go_sem] Tryz.underlying113
@[go_sem] theorem cellsOf113 : Tryz.prog.cellsOf 113 = 1 := by kernel_rfl
@[go_sem] theorem isAgg113 : isAggT Tryz.prog 113 = some false := by kernel_rfl
@[go_sem] theorem ok113 : tyOk Tryz.prog 113 = true := by kernel_rfl
@[go_sem] theorem bytes113 : Tryz.prog.bytesOf 113 = 8 := by kernel_rfl
@[go_sem] theorem zero113 : zeroOf Tryz.prog 113 = some (.p .nilf) := by kernel_rfl
@[go_sem] theorem zeroLen113 : appendA.zeroLen Tryz.prog 113 = 1 := by kernel_rfl
attribute [go_sem] Tryz.underlying116
@[go_sem] theorem cellsOf116 : Tryz.prog.cellsOf 116 = 1 := by kernel_rfl
@[go_sem] theorem isAgg116 : isAggT Tryz.prog 116 = some false := by kernel_rfl
@[go_sem] theorem ok116 : tyOk Tryz.prog 116 = true := by kernel_rfl
@[go_sem] theorem bytes116 : Tryz.prog.bytesOf 116 = 8 := by kernel_rfl
@[go_sem] theorem zero116 : zeroOf Tryz.prog 116 = some (.p .nilf) := by kernel_rfl
@[go_sem] theorem zeroLen116 : appendA.zeroLen Tryz.prog 116 = 1 := by kernel_rfl
attribute [go_sem] Tryz.underlying120
@[go_sem] theorem cellsOf120 : Tryz.prog.cellsOf 120 = 1 := by kernel_rfl
@[go_sem] theorem isAgg120 : isAggT Tryz.prog 120 = some false := by kernel_rfl
@[go_sem] theorem ok120 : tyOk Tryz.prog 120 = true := by kernel_rfl
@[go_sem] theorem bytes120 : Tryz.prog.bytesOf 120 = 8 := by kernel_rfl
@[go_sem] theorem zero120 : zeroOf Tryz.prog 120 = some (.p .nilf) := by kernel_rfl
@[go_sem] theorem zeroLen120 : appendA.zeroLen Tryz.prog 120 = 1 := by kernel_rfl
attribute [go_sem] Tryz.underlying121
@[go_sem] theorem cellsOf121 : Tryz.prog.cellsOf 121 = 2 := by kernel_rfl
@[go_sem] theorem isAgg121 : isAggT Tryz.prog 121 = some true := by kernel_rfl
@[go_sem] theorem ok121 : tyOk Tryz.prog 121 = true := by kernel_rfl
@[go_sem] theorem bytes121 : Tryz.prog.bytesOf 121 = 2 := by kernel_rfl
@[go_sem] theorem zero121 : zeroOf Tryz.prog 121 = some (.p (.agg [(.int .u8 0), (.int .u8 0)])) := by kernel_rfl
@[go_sem] theorem zeroLen121 : appendA.zeroLen Tryz.prog 121 = 2 := by kernel_rfl
@[go_sem] theorem field121_0 : fieldOff Tryz.prog 121 0 = some 0 := by kernel_rfl
@[go_sem] theorem field121_1 : fieldOff Tryz.prog 121 1 = some 1 := by kernel_rfl
@[go_sem] theorem build121 (parts : List (Nat × AV)) : buildA Tryz.prog 121 parts = (fillG (fun j => [(0, 1), (1, 1)][j]?) [.p (.int .u8 0), .p (.int .u8 0)] parts).map mkAgg :=
  buildA_eq _ _ zero121 rfl (by kernel_rfl) (by kernel_rfl) (by funext j; exact placesA_eq _ _ (by kernel_rfl) j)
@[go_sem] theorem eqS121 (d : Nat) (xs ys : List PV) : eqT Tryz.prog (d + 1) 121 xs ys = eqL (eqT Tryz.prog d) [(5, 0, 1), (5, 1, 1)] xs ys := eqT_struct _ (by kernel_rfl) (by kernel_rfl) (by kernel_rfl) (by kernel_rfl) d xs ys
@[go_sem] theorem eqg121 : Tryz.prog.eqGuardType Tryz.prog.depth 121 = false := by kernel_rfl
attribute [go_sem] Tryz.underlying122
@[go_sem] theorem cellsOf122 : Tryz.prog.cellsOf 122 = 2 := by kernel_rfl
@[go_sem] theorem isAgg122 : isAggT Tryz.prog 122 = some true := by kernel_rfl
@[go_sem] theorem ok122 : tyOk Tryz.prog 122 = true := by kernel_rfl
@[go_sem] theorem bytes122 : Tryz.prog.bytesOf 122 = 2 := by kernel_rfl
@[go_sem] theorem zero122 : zeroOf Tryz.prog 122 = some (.p (.agg [(.int .u8 0), (.int .u8 0)])) := by kernel_rfl
@[go_sem] theorem zeroLen122 : appendA.zeroLen Tryz.prog 122 = 2 := by kernel_rfl
@[go_sem] theorem field122_0 : fieldOff Tryz.prog 122 0 = some 0 := by kernel_rfl
@[go_sem] theorem field122_1 : fieldOff Tryz.prog 122 1 = some 1 := by kernel_rfl
@[go_sem] theorem build122 (parts : List (Nat × AV)) : buildA Tryz.prog 122 parts = (fillG (fun j => [(0, 1), (1, 1)][j]?) [.p (.int .u8 0), .p (.int .u8 0)] parts).map mkAgg :=
  buildA_eq _ _ zero122 rfl (by kernel_rfl) (by kernel_rfl) (by funext j; exact placesA_eq _ _ (by kernel_rfl) j)
@[go_sem] theorem eqS122 (d : Nat) (xs ys : List PV) : eqT Tryz.prog (d + 1) 122 xs ys = eqL (eqT Tryz.prog d) [(5, 0, 1), (5, 1, 1)] xs ys := eqT_struct _ (by kernel_rfl) (by kernel_rfl) (by kernel_rfl) (by kernel_rfl) d xs ys
@[go_sem] theorem eqg122 : Tryz.prog.eqGuardType Tryz.prog.depth 122 = false := by kernel_rfl
attribute [go_sem] Tryz.underlying123
@[go_sem] theorem cellsOf123 : Tryz.prog.cellsOf 123 = 5 := by kernel_rfl
@[go_sem] theorem isAgg123 : isAggT Tryz.prog 123 = some true := by kernel_rfl
@[go_sem] theorem ok123 : tyOk Tryz.prog 123 = true := by kernel_rfl
@[go_sem] theorem bytes123 : Tryz.prog.bytesOf 123 = 5 := by kernel_rfl
@[go_sem] theorem zero123 : zeroOf Tryz.prog 123 = some (.p (.agg [(.int .u8 0), (.int .u8 0), (.int .u8 0), (.int .u8 0), (.int .u8 0)])) := by kernel_rfl
@[go_sem] theorem zeroLen123 : appendA.zeroLen Tryz.prog 123 = 5 := by kernel_rfl
@[go_sem] theorem field123_0 : fieldOff Tryz.prog 123 0 = some 0 := by kernel_rfl
@[go_sem] theorem field123_1 : fieldOff Tryz.prog 123 1 = some 2 := by kernel_rfl
@[go_sem] theorem field123_2 : fieldOff Tryz.prog 123 2 = some 3 := by kernel_rfl
@[go_sem] theorem build123 (parts : List (Nat × AV)) : buildA Tryz.prog 123 parts = (fillG (fun j => [(0, 2), (2, 1), (3, 2)][j]?) [.p (.int .u8 0), .p (.int .u8 0), .p (.int .u8 0), .p (.int .u8 0), .p (.int .u8 0)] parts).map mkAgg :=
  buildA_eq _ _ zero123 rfl (by kernel_rfl) (by kernel_rfl) (by funext j; exact placesA_eq _ _ (by kernel_rfl) j)
@[go_sem] theorem eqS123 (d : Nat) (xs ys : List PV) : eqT Tryz.prog (d + 1) 123 xs ys = eqL (eqT Tryz.prog d) [(122, 0, 2), (5, 2, 1), (122, 3, 2)] xs ys := eqT_struct _ (by kernel_rfl) (by kernel_rfl) (by kernel_rfl) (by kernel_rfl) d xs ys
@[go_sem] theorem eqg123 : Tryz.prog.eqGuardType Tryz.prog.depth 123 = false := by kernel_rfl
attribute [go_sem] Tryz.underlying124
@[go_sem] theorem cellsOf124 : Tryz.prog.cellsOf 124 = 5 := by kernel_rfl
@[go_sem] theorem isAgg124 : isAggT Tryz.prog 124 = some true := by kernel_rfl
@[go_sem] theorem ok124 : tyOk Tryz.prog 124 = true := by kernel_rfl
@[go_sem] theorem bytes124 : Tryz.prog.bytesOf 124 = 5 := by kernel_rfl
@[go_sem] theorem zero124 : zeroOf Tryz.prog 124 = some (.p (.agg [(.int .u8 0), (.int .u8 0), (.int .u8 0), (.int .u8 0), (.int .u8 0)])) := by kernel_rfl
@[go_sem] theorem zeroLen124 : appendA.zeroLen Tryz.prog 124 = 5 := by kernel_rfl
@[go_sem] theorem field124_0 : fieldOff Tryz.prog 124 0 = some 0 := by kernel_rfl
@[go_sem] theorem field124_1 : fieldOff Tryz.prog 124 1 = some 2 := by kernel_rfl
@[go_sem] theorem field124_2 : fieldOff Tryz.prog 124 2 = some 3 := by kernel_rfl
@[go_sem] theorem build124 (parts : List (Nat × AV)) : buildA Tryz.prog 124 parts = (fillG (fun j => [(0, 2), (2, 1), (3, 2)][j]?) [.p (.int .u8 0), .p (.int .u8 0), .p (.int .u8 0), .p (.int .u8 0), .p (.int .u8 0)] parts).map mkAgg :=
  buildA_eq _ _ zero124 rfl (by kernel_rfl) (by kernel_rfl) (by funext j; exact placesA_eq _ _ (by kernel_rfl) j)
@[go_sem] theorem eqS124 (d : Nat) (xs ys : List PV) : eqT Tryz.prog (d + 1) 124 xs ys = eqL (eqT Tryz.prog d) [(122, 0, 2), (5, 2, 1), (122, 3, 2)] xs ys := eqT_struct _ (by kernel_rfl) (by kernel_rfl) (by kernel_rfl) (by kernel_rfl) d xs ys
@[go_sem] theorem eqg124 : Tryz.prog.eqGuardType Tryz.prog.depth 124 = false := by kernel_rfl
attribute [go_sem] Tryz.underlying125
@[go_sem] theorem cellsOf125 : Tryz.prog.cellsOf 125 = 1 := by kernel_rfl
@[go_sem] theorem isAgg125 : isAggT Tryz.prog 125 = some false := by kernel_rfl
@[go_sem] theorem ok125 : tyOk Tryz.prog 125 = true := by kernel_rfl
@[go_sem] theorem bytes125 : Tryz.prog.bytesOf 125 = 8 := by kernel_rfl
@[go_sem] theorem zero125 : zeroOf Tryz.prog 125 = some (.p .nilf) := by kernel_rfl
@[go_sem] theorem zeroLen125 : appendA.zeroLen Tryz.prog 125 = 1 := by kernel_rfl
attribute [go_sem] Tryz.underlying126
@[go_sem] theorem cellsOf126 : Tryz.prog.cellsOf 126 = 1 := by kernel_rfl
@[go_sem] theorem isAgg126 : isAggT Tryz.prog 126 = some false := by kernel_rfl
@[go_sem] theorem ok126 : tyOk Tryz.prog 126 = true := by kernel_rfl
@[go_sem] theorem bytes126 : Tryz.prog.bytesOf 126 = 8 := by kernel_rfl
@[go_sem] theorem zero126 : zeroOf Tryz.prog 126 = some (.p .nilp) := by kernel_rfl
@[go_sem] theorem zeroLen126 : appendA.zeroLen Tryz.prog 126 = 1 := by kernel_rfl
attribute [go_sem] Tryz.underlying127
@[go_sem] theorem cellsOf127 : Tryz.prog.cellsOf 127 = 1 := by kernel_rfl
@[go_sem] theorem isAgg127 : isAggT Tryz.prog 127 = some false := by kernel_rfl
@[go_sem] theorem ok127 : tyOk Tryz.prog 127 = true := by kernel_rfl
@[go_sem] theorem bytes127 : Tryz.prog.bytesOf 127 = 24 := by kernel_rfl
@[go_sem] theorem zero127 : zeroOf Tryz.prog 127 = some (.nils) := by kernel_rfl
@[go_sem] theorem zeroLen127 : appendA.zeroLen Tryz.prog 127 = 1 := by kernel_rfl
attribute [go_sem] Tryz.underlying128
@[go_sem] theorem cellsOf128 : Tryz.prog.cellsOf 128 = 1 := by kernel_rfl
@[go_sem] theorem isAgg128 : isAggT Tryz.prog 128 = some false := by kernel_rfl
@[go_sem] theorem ok128 : tyOk Tryz.prog 128 = true := by kernel_rfl
@[go_sem] theorem bytes128 : Tryz.prog.bytesOf 128 = 24 := by kernel_rfl
@[go_sem] theorem zero128 : zeroOf Tryz.prog 128 = some (.nils) := by kernel_rfl
@[go_sem] theorem zeroLen128 : appendA.zeroLen Tryz.prog 128 = 1 := by kernel_rfl
attribute [go_sem] Tryz.underlying129
@[go_sem] theorem cellsOf129 : Tryz.prog.cellsOf 129 = 2 := by kernel_rfl
@[go_sem] theorem isAgg129 : isAggT Tryz.prog 129 = some true := by kernel_rfl
@[go_sem] theorem ok129 : tyOk Tryz.prog 129 = true := by kernel_rfl
@[go_sem] theorem bytes129 : Tryz.prog.bytesOf 129 = 48 := by kernel_rfl
@[go_sem] theorem zero129 : zeroOf Tryz.prog 129 = some (.agg [.nils, .nils]) := by kernel_rfl
@[go_sem] theorem zeroLen129 : appendA.zeroLen Tryz.prog 129 = 2 := by kernel_rfl
@[go_sem] theorem field129_0 : fieldOff Tryz.prog 129 0 = some 0 := by kernel_rfl
@[go_sem] theorem field129_1 : fieldOff Tryz.prog 129 1 = some 1 := by kernel_rfl
@[go_sem] theorem build129 (parts : List (Nat × AV)) : buildA Tryz.prog 129 parts = (fillG (fun j => [(0, 1), (1, 1)][j]?) [.nils, .nils] parts).map mkAgg :=
  buildA_eq _ _ zero129 rfl (by kernel_rfl) (by kernel_rfl) (by funext j; exact placesA_eq _ _ (by kernel_rfl) j)
attribute [go_sem] Tryz.underlying130
@[go_sem] theorem cellsOf130 : Tryz.prog.cellsOf 130 = 2 := by kernel_rfl
@[go_sem] theorem isAgg130 : isAggT Tryz.prog 130 = some true := by kernel_rfl
@[go_sem] theorem ok130 : tyOk Tryz.prog 130 = true := by kernel_rfl
@[go_sem] theorem bytes130 : Tryz.prog.bytesOf 130 = 48 := by kernel_rfl
@[go_sem] theorem zero130 : zeroOf Tryz.prog 130 = some (.agg [.nils, .nils]) := by kernel_rfl
@[go_sem] theorem zeroLen130 : appendA.zeroLen Tryz.prog 130 = 2 := by kernel_rfl
@[go_sem] theorem field130_0 : fieldOff Tryz.prog 130 0 = some 0 := by kernel_rfl
@[go_sem] theorem field130_1 : fieldOff Tryz.prog 130 1 = some 1 := by kernel_rfl
@[go_sem] theorem build130 (parts : List (Nat × AV)) : buildA Tryz.prog 130 parts = (fillG (fun j => [(0, 1), (1, 1)][j]?) [.nils, .nils] parts).map mkAgg :=
  buildA_eq _ _ zero130 rfl (by kernel_rfl) (by kernel_rfl) (by funext j; exact placesA_eq _ _ (by kernel_rfl) j)
attribute [go_sem] Tryz.underlying134
@[go_sem] theorem cellsOf134 : Tryz.prog.cellsOf 134 = 1 := by kernel_rfl
@[go_sem] theorem isAgg134 : isAggT Tryz.prog 134 = some false := by kernel_rfl
@[go_sem] theorem ok134 : tyOk Tryz.prog 134 = true := by kernel_rfl
@[go_sem] theorem bytes134 : Tryz.prog.bytesOf 134 = 8 := by kernel_rfl
@[go_sem] theorem zero134 : zeroOf Tryz.prog 134 = some (.p (.mapv [] [])) := by kernel_rfl
@[go_sem] theorem zeroLen134 : appendA.zeroLen Tryz.prog 134 = 1 := by kernel_rfl
attribute [go_sem] Tryz.underlying137
@[go_sem] theorem cellsOf137 : Tryz.prog.cellsOf 137 = 3 := by kernel_rfl
@[go_sem] theorem isAgg137 : isAggT Tryz.prog 137 = some true := by kernel_rfl
@[go_sem] theorem ok137 : tyOk Tryz.prog 137 = true := by kernel_rfl
@[go_sem] theorem bytes137 : Tryz.prog.bytesOf 137 = 24 := by kernel_rfl
@[go_sem] theorem zero137 : zeroOf Tryz.prog 137 = some (.p (.agg [(.int .i64 0), (.int .i64 0), (.int .i64 0)])) := by kernel_rfl
@[go_sem] theorem zeroLen137 : appendA.zeroLen Tryz.prog 137 = 3 := by kernel_rfl
@[go_sem] theorem build137 (parts : List (Nat × AV)) : buildA Tryz.prog 137 parts = (fillG (fun i => some (i * 1, 1)) [.p (.int .i64 0), .p (.int .i64 0), .p (.int .i64 0)] parts).map mkAgg :=
  buildA_arr _ _ zero137 rfl Tryz.underlying137 (by kernel_rfl) (by kernel_rfl)
@[go_sem] theorem eqS137 (d : Nat) (xs ys : List PV) : eqT Tryz.prog (d + 1) 137 xs ys = eqL (eqT Tryz.prog d) [(2, 0, 1), (2, 1, 1), (2, 2, 1)] xs ys := eqT_array _ Tryz.underlying137 (by kernel_rfl) (by kernel_rfl) d xs ys
@[go_sem] theorem eqg137 : Tryz.prog.eqGuardType Tryz.prog.depth 137 = false := by kernel_rfl
attribute [go_sem] Tryz.underlying138
@[go_sem] theorem cellsOf138 : Tryz.prog.cellsOf 138 = 1 := by kernel_rfl
@[go_sem] theorem isAgg138 : isAggT Tryz.prog 138 = some false := by kernel_rfl
@[go_sem] theorem ok138 : tyOk Tryz.prog 138 = true := by kernel_rfl
@[go_sem] theorem bytes138 : Tryz.prog.bytesOf 138 = 8 := by kernel_rfl
@[go_sem] theorem zero138 : zeroOf Tryz.prog 138 = some (.p .nilf) := by kernel_rfl
@[go_sem] theorem zeroLen138 : appendA.zeroLen Tryz.prog 138 = 1 := by kernel_rfl
attribute [go_sem] Tryz.underlying139
@[go_sem] theorem cellsOf139 : Tryz.prog.cellsOf 139 = 1 := by kernel_rfl
@[go_sem] theorem isAgg139 : isAggT Tryz.prog 139 = some false := by kernel_rfl
@[go_sem] theorem ok139 : tyOk Tryz.prog 139 = true := by kernel_rfl
@[go_sem] theorem bytes139 : Tryz.prog.bytesOf 139 = 8 := by kernel_rfl
@[go_sem] theorem zero139 : zeroOf Tryz.prog 139 = some (.p .nilf) := by kernel_rfl
@[go_sem] theorem zeroLen139 : appendA.zeroLen Tryz.prog 139 = 1 := by kernel_rfl
attribute [go_sem] Tryz.underlying140
@[go_sem] theorem cellsOf140 : Tryz.prog.cellsOf 140 = 1 := by kernel_rfl
@[go_sem] theorem isAgg140 : isAggT Tryz.prog 140 = some false := by kernel_rfl
@[go_sem] theorem ok140 : tyOk Tryz.prog 140 = true := by kernel_rfl
@[go_sem] theorem bytes140 : Tryz.prog.bytesOf 140 = 8 := by kernel_rfl
@[go_sem] theorem zero140 : zeroOf Tryz.prog 140 = some (.p .nilf) := by kernel_rfl
@[go_sem] theorem zeroLen140 : appendA.zeroLen Tryz.prog 140 = 1 := by kernel_rfl
attribute [go_sem] Tryz.underlying144
@[go_sem] theorem cellsOf144 : Tryz.prog.cellsOf 144 = 3 := by kernel_rfl
@[go_sem] theorem isAgg144 : isAggT Tryz.prog 144 = some true := by kernel_rfl
@[go_sem] theorem ok144 : tyOk Tryz.prog 144 = true := by kernel_rfl
@[go_sem] theorem bytes144 : Tryz.prog.bytesOf 144 = 24 := by kernel_rfl
@[go_sem] theorem zero144 : zeroOf Tryz.prog 144 = some (.p (.agg [(.int .i64 0), (.int .i64 0), (.int .i64 0)])) := by kernel_rfl
@[go_sem] theorem zeroLen144 : appendA.zeroLen Tryz.prog 144 = 3 := by kernel_rfl
@[go_sem] theorem build144 (parts : List (Nat × AV)) : buildA Tryz.prog 144 parts = (fillG (fun i => some (i * 1, 1)) [.p (.int .i64 0), .p (.int .i64 0), .p (.int .i64 0)] parts).map mkAgg :=
  buildA_arr _ _ zero144 rfl Tryz.underlying144 (by kernel_rfl) (by kernel_rfl)
@[go_sem] theorem eqS144 (d : Nat) (xs ys : List PV) : eqT Tryz.prog (d + 1) 144 xs ys = eqL (eqT Tryz.prog d) [(3, 0, 1), (3, 1, 1), (3, 2, 1)] xs ys := eqT_array _ Tryz.underlying144 (by kernel_rfl) (by kernel_rfl) d xs ys
@[go_sem] theorem eqg144 : Tryz.prog.eqGuardType Tryz.prog.depth 144 = false := by kernel_rfl
attribute [go_sem] Tryz.underlying162
@[go_sem] theorem cellsOf162 : Tryz.prog.cellsOf 162 = 1 := by kernel_rfl
@[go_sem] theorem isAgg162 : isAggT Tryz.prog 162 = some false := by kernel_rfl
@[go_sem] theorem ok162 : tyOk Tryz.prog 162 = true := by kernel_rfl
@[go_sem] theorem bytes162 : Tryz.prog.bytesOf 162 = 8 := by kernel_rfl
@[go_sem] theorem zero162 : zeroOf Tryz.prog 162 = some (.p .nilf) := by kernel_rfl
@[go_sem] theorem zeroLen162 : appendA.zeroLen Tryz.prog 162 = 1 := by kernel_rfl
attribute [go_sem] Tryz.underlying175
@[go_sem] theorem cellsOf175 : Tryz.prog.cellsOf 175 = 1 := by kernel_rfl
@[go_sem] theorem isAgg175 : isAggT Tryz.prog 175 = some false := by kernel_rfl
@[go_sem] theorem ok175 : tyOk Tryz.prog 175 = true := by kernel_rfl
@[go_sem] theorem bytes175 : Tryz.prog.bytesOf 175 = 8 := by kernel_rfl
@[go_sem] theorem zero175 : zeroOf Tryz.prog 175 = some (.p .nilf) := by kernel_rfl
@[go_sem] theorem zeroLen175 : appendA.zeroLen Tryz.prog 175 = 1 := by kernel_rfl
attribute [go_sem] Tryz.underlying179
@[go_sem] theorem cellsOf179 : Tryz.prog.cellsOf 179 = 1 := by kernel_rfl
@[go_sem] theorem isAgg179 : isAggT Tryz.prog 179 = some false := by kernel_rfl
@[go_sem] theorem ok179 : tyOk Tryz.prog 179 = true := by kernel_rfl
@[go_sem] theorem bytes179 : Tryz.prog.bytesOf 179 = 8 := by kernel_rfl
@[go_sem] theorem zero179 : zeroOf Tryz.prog 179 = some (.p (.int .u64 0)) := by kernel_rfl
@[go_sem] theorem zeroLen179 : appendA.zeroLen Tryz.prog 179 = 1 := by kernel_rfl
@[go_sem] theorem eqI179 (d : Nat) (k k' : IntKind) (a b : Int) : eqT Tryz.prog (d + 1) 179 [.int k a] [.int k' b] = if k = k' then some (a == b) else none := eqT_int _ Tryz.underlying179 d k k' a b
attribute [go_sem] Tryz.underlying188
@[go_sem] theorem cellsOf188 : Tryz.prog.cellsOf 188 = 32 := by kernel_rfl
@[go_sem] theorem isAgg188 : isAggT Tryz.prog 188 = some true := by kernel_rfl
@[go_sem] theorem ok188 : tyOk Tryz.prog 188 = true := by kernel_rfl
@[go_sem] theorem bytes188 : Tryz.prog.bytesOf 188 = 32 := by kernel_rfl
@[go_sem] theorem zero188 : zeroOf Tryz.prog 188 = some (.p (.agg [(.int .u8 0), (.int .u8 0), (.int .u8 0), (.int .u8 0), (.int .u8 0), (.int .u8 0), (.int .u8 0), (.int .u8 0), (.int .u8 0), (.int .u8 0), (.int .u8 0), (.int .u8 0), (.int .u8 0), (.int .u8 0), (.int .u8 0), (.int .u8 0), (.int .u8 0), (.int .u8 0), (.int .u8 0), (.int .u8 0), (.int .u8 0), (.int .u8 0), (.int .u8 0), (.int .u8 0), (.int .u8 0), (.int .u8 0), (.int .u8 0), (.int .u8 0), (.int .u8 0), (.int .u8 0), (.int .u8 0), (.int .u8 0)])) := by kernel_rfl
@[go_sem] theorem zeroLen188 : appendA.zeroLen Tryz.prog 188 = 32 := by kernel_rfl
attribute [go_sem] Tryz.underlying195
@[go_sem] theorem cellsOf195 : Tryz.prog.cellsOf 195 = 1 := by kernel_rfl
@[go_sem] theorem isAgg195 : isAggT Tryz.prog 195 = some false := by kernel_rfl
@[go_sem] theorem ok195 : tyOk Tryz.prog 195 = true := by kernel_rfl
@[go_sem] theorem bytes195 : Tryz.prog.bytesOf 195 = 8 := by kernel_rfl
@[go_sem] theorem zero195 : zeroOf Tryz.prog 195 = some (.p (.int .i64 0)) := by kernel_rfl
@[go_sem] theorem zeroLen195 : appendA.zeroLen Tryz.prog 195 = 1 := by kernel_rfl
@[go_sem] theorem eqI195 (d : Nat) (k k' : IntKind) (a b : Int) : eqT Tryz.prog (d + 1) 195 [.int k a] [.int k' b] = if k = k' then some (a == b) else none := eqT_int _ Tryz.underlying195 d k k' a b
attribute [go_sem] Tryz.underlying203
@[go_sem] theorem cellsOf203 : Tryz.prog.cellsOf 203 = 1 := by kernel_rfl
@[go_sem] theorem isAgg203 : isAggT Tryz.prog 203 = some false := by kernel_rfl
@[go_sem] theorem ok203 : tyOk Tryz.prog 203 = true := by kernel_rfl
@[go_sem] theorem bytes203 : Tryz.prog.bytesOf 203 = 8 := by kernel_rfl
@[go_sem] theorem zero203 : zeroOf Tryz.prog 203 = some (.p (.int .u64 0)) := by kernel_rfl
@[go_sem] theorem zeroLen203 : appendA.zeroLen Tryz.prog 203 = 1 := by kernel_rfl
@[go_sem] theorem eqI203 (d : Nat) (k k' : IntKind) (a b : Int) : eqT Tryz.prog (d + 1) 203 [.int k a] [.int k' b] = if k = k' then some (a == b) else none := eqT_int _ Tryz.underlying203 d k k' a b
attribute [go_sem] Tryz.underlying214
@[go_sem] theorem cellsOf214 : Tryz.prog.cellsOf 214 = 1 := by kernel_rfl
@[go_sem] theorem isAgg214 : isAggT Tryz.prog 214 = some false := by kernel_rfl
@[go_sem] theorem ok214 : tyOk Tryz.prog 214 = true := by kernel_rfl
@[go_sem] theorem bytes214 : Tryz.prog.bytesOf 214 = 8 := by kernel_rfl
@[go_sem] theorem zero214 : zeroOf Tryz.prog 214 = some (.p (.int .u64 0)) := by kernel_rfl
@[go_sem] theorem zeroLen214 : appendA.zeroLen Tryz.prog 214 = 1 := by kernel_rfl
@[go_sem] theorem eqI214 (d : Nat) (k k' : IntKind) (a b : Int) : eqT Tryz.prog (d + 1) 214 [.int k a] [.int k' b] = if k = k' then some (a == b) else none := eqT_int _ Tryz.underlying214 d k k' a b
attribute [go_sem] Tryz.underlying218
@[go_sem] theorem cellsOf218 : Tryz.prog.cellsOf 218 = 1 := by kernel_rfl
@[go_sem] theorem isAgg218 : isAggT Tryz.prog 218 = some false := by kernel_rfl
@[go_sem] theorem ok218 : tyOk Tryz.prog 218 = true := by kernel_rfl
@[go_sem] theorem bytes218 : Tryz.prog.bytesOf 218 = 8 := by kernel_rfl
@[go_sem] theorem zero218 : zeroOf Tryz.prog 218 = some (.p .nilp) := by kernel_rfl
@[go_sem] theorem zeroLen218 : appendA.zeroLen Tryz.prog 218 = 1 := by kernel_rfl
attribute [go_sem] Tryz.underlying223
@[go_sem] theorem cellsOf223 : Tryz.prog.cellsOf 223 = 1 := by kernel_rfl
@[go_sem] theorem isAgg223 : isAggT Tryz.prog 223 = some false := by kernel_rfl
@[go_sem] theorem ok223 : tyOk Tryz.prog 223 = true := by kernel_rfl
@[go_sem] theorem bytes223 : Tryz.prog.bytesOf 223 = 8 := by kernel_rfl
@[go_sem] theorem zero223 : zeroOf Tryz.prog 223 = some (.p .nilp) := by kernel_rfl
@[go_sem] theorem zeroLen223 : appendA.zeroLen Tryz.prog 223 = 1 := by kernel_rfl
attribute [go_sem] Tryz.underlying228
@[go_sem] theorem cellsOf228 : Tryz.prog.cellsOf 228 = 4 := by kernel_rfl
@[go_sem] theorem isAgg228 : isAggT Tryz.prog 228 = some true := by kernel_rfl
@[go_sem] theorem ok228 : tyOk Tryz.prog 228 = true := by kernel_rfl
@[go_sem] theorem bytes228 : Tryz.prog.bytesOf 228 = 40 := by kernel_rfl
@[go_sem] theorem zero228 : zeroOf Tryz.prog 228 = some (.p (.agg [.nilp, .nilp, .nilp, (.str [])])) := by kernel_rfl
@[go_sem] theorem zeroLen228 : appendA.zeroLen Tryz.prog 228 = 4 := by kernel_rfl
@[go_sem] theorem field228_0 : fieldOff Tryz.prog 228 0 = some 0 := by kernel_rfl
@[go_sem] theorem field228_1 : fieldOff Tryz.prog 228 1 = some 1 := by kernel_rfl
@[go_sem] theorem field228_2 : fieldOff Tryz.prog 228 2 = some 2 := by kernel_rfl
@[go_sem] theorem field228_3 : fieldOff Tryz.prog 228 3 = some 3 := by kernel_rfl
@[go_sem] theorem build228 (parts : List (Nat × AV)) : buildA Tryz.prog 228 parts = (fillG (fun j => [(0, 1), (1, 1), (2, 1), (3, 1)][j]?) [.p .nilp, .p .nilp, .p .nilp, .p (.str [])] parts).map mkAgg :=
  buildA_eq _ _ zero228 rfl (by kernel_rfl) (by kernel_rfl) (by funext j; exact placesA_eq _ _ (by kernel_rfl) j)
attribute [go_sem] Tryz.underlying229
@[go_sem] theorem cellsOf229 : Tryz.prog.cellsOf 229 = 4 := by kernel_rfl
@[go_sem] theorem isAgg229 : isAggT Tryz.prog 229 = some true := by kernel_rfl
@[go_sem] theorem ok229 : tyOk Tryz.prog 229 = true := by kernel_rfl
@[go_sem] theorem bytes229 : Tryz.prog.bytesOf 229 = 40 := by kernel_rfl
@[go_sem] theorem zero229 : zeroOf Tryz.prog 229 = some (.p (.agg [.nilp, .nilp, .nilp, (.str [])])) := by kernel_rfl
@[go_sem] theorem zeroLen229 : appendA.zeroLen Tryz.prog 229 = 4 := by kernel_rfl
@[go_sem] theorem field229_0 : fieldOff Tryz.prog 229 0 = some 0 := by kernel_rfl
@[go_sem] theorem field229_1 : fieldOff Tryz.prog 229 1 = some 1 := by kernel_rfl
@[go_sem] theorem field229_2 : fieldOff Tryz.prog 229 2 = some 2 := by kernel_rfl
@[go_sem] theorem field229_3 : fieldOff Tryz.prog 229 3 = some 3 := by kernel_rfl
@[go_sem] theorem build229 (parts : List (Nat × AV)) : buildA Tryz.prog 229 parts = (fillG (fun j => [(0, 1), (1, 1), (2, 1), (3, 1)][j]?) [.p .nilp, .p .nilp, .p .nilp, .p (.str [])] parts).map mkAgg :=
  buildA_eq _ _ zero229 rfl (by kernel_rfl) (by kernel_rfl) (by funext j; exact placesA_eq _ _ (by kernel_rfl) j)
attribute [go_sem] Tryz.underlying230
@[go_sem] theorem cellsOf230 : Tryz.prog.cellsOf 230 = 0 := by kernel_rfl
@[go_sem] theorem isAgg230 : isAggT Tryz.prog 230 = some true := by kernel_rfl
@[go_sem] theorem ok230 : tyOk Tryz.prog 230 = true := by kernel_rfl
@[go_sem] theorem bytes230 : Tryz.prog.bytesOf 230 = 0 := by kernel_rfl
@[go_sem] theorem zero230 : zeroOf Tryz.prog 230 = some (.p (.agg [])) := by kernel_rfl
@[go_sem] theorem zeroLen230 : appendA.zeroLen Tryz.prog 230 = 0 := by kernel_rfl
attribute [go_sem] Tryz.underlying231
@[go_sem] theorem cellsOf231 : Tryz.prog.cellsOf 231 = 0 := by kernel_rfl
@[go_sem] theorem isAgg231 : isAggT Tryz.prog 231 = some true := by kernel_rfl
@[go_sem] theorem ok231 : tyOk Tryz.prog 231 = true := by kernel_rfl
@[go_sem] theorem bytes231 : Tryz.prog.bytesOf 231 = 0 := by kernel_rfl
@[go_sem] theorem zero231 : zeroOf Tryz.prog 231 = some (.p (.agg [])) := by kernel_rfl
@[go_sem] theorem zeroLen231 : appendA.zeroLen Tryz.prog 231 = 0 := by kernel_rfl
@[go_sem] theorem build231 (parts : List (Nat × AV)) : buildA Tryz.prog 231 parts = (fillG (fun j => [(0, 0)][j]?) [] parts).map mkAgg :=
  buildA_eq _ _ zero231 rfl (by kernel_rfl) (by kernel_rfl) (by funext j; exact placesA_eq _ _ (by kernel_rfl) j)
attribute [go_sem] Tryz.underlying232
@[go_sem] theorem cellsOf232 : Tryz.prog.cellsOf 232 = 0 := by kernel_rfl
@[go_sem] theorem isAgg232 : isAggT Tryz.prog 232 = some true := by kernel_rfl
@[go_sem] theorem ok232 : tyOk Tryz.prog 232 = true := by kernel_rfl
@[go_sem] theorem bytes232 : Tryz.prog.bytesOf 232 = 0 := by kernel_rfl
@[go_sem] theorem zero232 : zeroOf Tryz.prog 232 = some (.p (.agg [])) := by kernel_rfl
@[go_sem] theorem zeroLen232 : appendA.zeroLen Tryz.prog 232 = 0 := by kernel_rfl
@[go_sem] theorem build232 (parts : List (Nat × AV)) : buildA Tryz.prog 232 parts = (fillG (fun j => [(0, 0)][j]?) [] parts).map mkAgg :=
  buildA_eq _ _ zero232 rfl (by kernel_rfl) (by kernel_rfl) (by funext j; exact placesA_eq _ _ (by kernel_rfl) j)
attribute [go_sem] Tryz.underlying234
@[go_sem] theorem cellsOf234 : Tryz.prog.cellsOf 234 = 1 := by kernel_rfl
@[go_sem] theorem isAgg234 : isAggT Tryz.prog 234 = some false := by kernel_rfl
@[go_sem] theorem ok234 : tyOk Tryz.prog 234 = true := by kernel_rfl
@[go_sem] theorem bytes234 : Tryz.prog.bytesOf 234 = 1 := by kernel_rfl
@[go_sem] theorem zero234 : zeroOf Tryz.prog 234 = some (.p (.int .u8 0)) := by kernel_rfl
@[go_sem] theorem zeroLen234 : appendA.zeroLen Tryz.prog 234 = 1 := by kernel_rfl
@[go_sem] theorem eqI234 (d : Nat) (k k' : IntKind) (a b : Int) : eqT Tryz.prog (d + 1) 234 [.int k a] [.int k' b] = if k = k' then some (a == b) else none := eqT_int _ Tryz.underlying234 d k k' a b
attribute [go_sem] Tryz.underlying235
@[go_sem] theorem cellsOf235 : Tryz.prog.cellsOf 235 = 1 := by kernel_rfl
@[go_sem] theorem isAgg235 : isAggT Tryz.prog 235 = some false := by kernel_rfl
@[go_sem] theorem ok235 : tyOk Tryz.prog 235 = true := by kernel_rfl
@[go_sem] theorem bytes235 : Tryz.prog.bytesOf 235 = 1 := by kernel_rfl
@[go_sem] theorem zero235 : zeroOf Tryz.prog 235 = some (.p (.int .u8 0)) := by kernel_rfl
@[go_sem] theorem zeroLen235 : appendA.zeroLen Tryz.prog 235 = 1 := by kernel_rfl
@[go_sem] theorem eqI235 (d : Nat) (k k' : IntKind) (a b : Int) : eqT Tryz.prog (d + 1) 235 [.int k a] [.int k' b] = if k = k' then some (a == b) else none := eqT_int _ Tryz.underlying235 d k k' a b
attribute [go_sem] Tryz.underlying236
@[go_sem] theorem cellsOf236 : Tryz.prog.cellsOf 236 = 1 := by kernel_rfl
@[go_sem] theorem isAgg236 : isAggT Tryz.prog 236 = some false := by kernel_rfl
@[go_sem] theorem ok236 : tyOk Tryz.prog 236 = true := by kernel_rfl
@[go_sem] theorem bytes236 : Tryz.prog.bytesOf 236 = 8 := by kernel_rfl
@[go_sem] theorem zero236 : zeroOf Tryz.prog 236 = some (.p .nilf) := by kernel_rfl
@[go_sem] theorem zeroLen236 : appendA.zeroLen Tryz.prog 236 = 1 := by kernel_rfl
attribute [go_sem] Tryz.underlying237
@[go_sem] theorem cellsOf237 : Tryz.prog.cellsOf 237 = 1 := by kernel_rfl
@[go_sem] theorem isAgg237 : isAggT Tryz.prog 237 = some false := by kernel_rfl
@[go_sem] theorem ok237 : tyOk Tryz.prog 237 = true := by kernel_rfl
@[go_sem] theorem bytes237 : Tryz.prog.bytesOf 237 = 8 := by kernel_rfl
@[go_sem] theorem zero237 : zeroOf Tryz.prog 237 = some (.p .nilp) := by kernel_rfl
@[go_sem] theorem zeroLen237 : appendA.zeroLen Tryz.prog 237 = 1 := by kernel_rfl
attribute [go_sem] Tryz.underlying238
@[go_sem] theorem cellsOf238 : Tryz.prog.cellsOf 238 = 1 := by kernel_rfl
@[go_sem] theorem isAgg238 : isAggT Tryz.prog 238 = some false := by kernel_rfl
@[go_sem] theorem ok238 : tyOk Tryz.prog 238 = true := by kernel_rfl
@[go_sem] theorem bytes238 : Tryz.prog.bytesOf 238 = 4 := by kernel_rfl
@[go_sem] theorem zero238 : zeroOf Tryz.prog 238 = some (.p (.int .i32 0)) := by kernel_rfl
@[go_sem] theorem zeroLen238 : appendA.zeroLen Tryz.prog 238 = 1 := by kernel_rfl
@[go_sem] theorem eqI238 (d : Nat) (k k' : IntKind) (a b : Int) : eqT Tryz.prog (d + 1) 238 [.int k a] [.int k' b] = if k = k' then some (a == b) else none := eqT_int _ Tryz.underlying238 d k k' a b
attribute [go_sem] Tryz.underlying239
@[go_sem] theorem cellsOf239 : Tryz.prog.cellsOf 239 = 1 := by kernel_rfl
@[go_sem] theorem isAgg239 : isAggT Tryz.prog 239 = some false := by kernel_rfl
@[go_sem] theorem ok239 : tyOk Tryz.prog 239 = true := by kernel_rfl
@[go_sem] theorem bytes239 : Tryz.prog.bytesOf 239 = 4 := by kernel_rfl
@[go_sem] theorem zero239 : zeroOf Tryz.prog 239 = some (.p (.int .i32 0)) := by kernel_rfl
@[go_sem] theorem zeroLen239 : appendA.zeroLen Tryz.prog 239 = 1 := by kernel_rfl
@[go_sem] theorem eqI239 (d : Nat) (k k' : IntKind) (a b : Int) : eqT Tryz.prog (d + 1) 239 [.int k a] [.int k' b] = if k = k' then some (a == b) else none := eqT_int _ Tryz.underlying239 d k k' a b
attribute [go_sem] Tryz.underlying240
@[go_sem] theorem cellsOf240 : Tryz.prog.cellsOf 240 = 11 := by kernel_rfl
@[go_sem] theorem isAgg240 : isAggT Tryz.prog 240 = some true := by kernel_rfl
@[go_sem] theorem ok240 : tyOk Tryz.prog 240 = true := by kernel_rfl
@[go_sem] theorem bytes240 : Tryz.prog.bytesOf 240 = 48 := by kernel_rfl
@[go_sem] theorem zero240 : zeroOf Tryz.prog 240 = some (.p (.agg [(.int .u64 0), (.int .u64 0), (.int .u32 0), (.int .u8 0), (.int .u8 0), (.int .u8 0), (.int .u8 0), .nilf, .nilp, (.int .i32 0), (.int .i32 0)])) := by kernel_rfl
@[go_sem] theorem zeroLen240 : appendA.zeroLen Tryz.prog 240 = 11 := by kernel_rfl
@[go_sem] theorem field240_0 : fieldOff Tryz.prog 240 0 = some 0 := by kernel_rfl
@[go_sem] theorem field240_1 : fieldOff Tryz.prog 240 1 = some 1 := by kernel_rfl
@[go_sem] theorem field240_2 : fieldOff Tryz.prog 240 2 = some 2 := by kernel_rfl
@[go_sem] theorem field240_3 : fieldOff Tryz.prog 240 3 = some 3 := by kernel_rfl
@[go_sem] theorem field240_4 : fieldOff Tryz.prog 240 4 = some 4 := by kernel_rfl
@[go_sem] theorem field240_5 : fieldOff Tryz.prog 240 5 = some 5 := by kernel_rfl
@[go_sem] theorem field240_6 : fieldOff Tryz.prog 240 6 = some 6 := by kernel_rfl
@[go_sem] theorem field240_7 : fieldOff Tryz.prog 240 7 = some 7 := by kernel_rfl
@[go_sem] theorem field240_8 : fieldOff Tryz.prog 240 8 = some 8 := by kernel_rfl
@[go_sem] theorem field240_9 : fieldOff Tryz.prog 240 9 = some 9 := by kernel_rfl
@[go_sem] theorem field240_10 : fieldOff Tryz.prog 240 10 = some 10 := by kernel_rfl
@[go_sem] theorem build240 (parts : List (Nat × AV)) : buildA Tryz.prog 240 parts = (fillG (fun j => [(0, 1), (1, 1), (2, 1), (3, 1), (4, 1), (5, 1), (6, 1), (7, 1), (8, 1), (9, 1), (10, 1)][j]?) [.p (.int .u64 0), .p (.int .u64 0), .p (.int .u32 0), .p (.int .u8 0), .p (.int .u8 0), .p (.int .u8 0), .p (.int .u8 0), .p .nilf, .p .nilp, .p (.int .i32 0), .p (.int .i32 0)] parts).map mkAgg :=
  buildA_eq _ _ zero240 rfl (by kernel_rfl) (by kernel_rfl) (by funext j; exact placesA_eq _ _ (by kernel_rfl) j)
attribute [go_sem] Tryz.underlying241
@[go_sem] theorem cellsOf241 : Tryz.prog.cellsOf 241 = 11 := by kernel_rfl
@[go_sem] theorem isAgg241 : isAggT Tryz.prog 241 = some true := by kernel_rfl
@[go_sem] theorem ok241 : tyOk Tryz.prog 241 = true := by kernel_rfl
@[go_sem] theorem bytes241 : Tryz.prog.bytesOf 241 = 48 := by kernel_rfl
@[go_sem] theorem zero241 : zeroOf Tryz.prog 241 = some (.p (.agg [(.int .u64 0), (.int .u64 0), (.int .u32 0), (.int .u8 0), (.int .u8 0), (.int .u8 0), (.int .u8 0), .nilf, .nilp, (.int .i32 0), (.int .i32 0)])) := by kernel_rfl
@[go_sem] theorem zeroLen241 : appendA.zeroLen Tryz.prog 241 = 11 := by kernel_rfl
@[go_sem] theorem field241_0 : fieldOff Tryz.prog 241 0 = some 0 := by kernel_rfl
@[go_sem] theorem field241_1 : fieldOff Tryz.prog 241 1 = some 1 := by kernel_rfl
@[go_sem] theorem field241_2 : fieldOff Tryz.prog 241 2 = some 2 := by kernel_rfl
@[go_sem] theorem field241_3 : fieldOff Tryz.prog 241 3 = some 3 := by kernel_rfl
@[go_sem] theorem field241_4 : fieldOff Tryz.prog 241 4 = some 4 := by kernel_rfl
@[go_sem] theorem field241_5 : fieldOff Tryz.prog 241 5 = some 5 := by kernel_rfl
@[go_sem] theorem field241_6 : fieldOff Tryz.prog 241 6 = some 6 := by kernel_rfl
@[go_sem] theorem field241_7 : fieldOff Tryz.prog 241 7 = some 7 := by kernel_rfl
@[go_sem] theorem field241_8 : fieldOff Tryz.prog 241 8 = some 8 := by kernel_rfl
@[go_sem] theorem field241_9 : fieldOff Tryz.prog 241 9 = some 9 := by kernel_rfl
@[go_sem] theorem field241_10 : fieldOff Tryz.prog 241 10 = some 10 := by kernel_rfl
@[go_sem] theorem build241 (parts : List (Nat × AV)) : buildA Tryz.prog 241 parts = (fillG (fun j => [(0, 1), (1, 1), (2, 1), (3, 1), (4, 1), (5, 1), (6, 1), (7, 1), (8, 1), (9, 1), (10, 1)][j]?) [.p (.int .u64 0), .p (.int .u64 0), .p (.int .u32 0), .p (.int .u8 0), .p (.int .u8 0), .p (.int .u8 0), .p (.int .u8 0), .p .nilf, .p .nilp, .p (.int .i32 0), .p (.int .i32 0)] parts).map mkAgg :=
  buildA_eq _ _ zero241 rfl (by kernel_rfl) (by kernel_rfl) (by funext j; exact placesA_eq _ _ (by kernel_rfl) j)
end Go.Proofs.YtlaodgbkpmdhoaaGreatDoor.Ty
