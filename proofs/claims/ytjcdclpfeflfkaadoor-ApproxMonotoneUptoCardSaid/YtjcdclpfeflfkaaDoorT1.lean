/- What the logic asks of the types of the translation. -/
import Derived.Test.YtjcdclpfeflfkaaDoorProg
import Derived.KernelRfl
import Derived.Test.YtjcdclpfeflfkaaDoorA2
/- What the abstract logic asks of the types of the translation; printed by a program of our own (tyfacts.py). -/
namespace Go.Proofs.YtjcdclpfeflfkaaDoor.Ty
open Go Go.Ab
set_option linter.unusedVariables false

attribute [go_sem] Tryd.underlying1
@[go_sem] theorem cellsOf1 : Tryd.prog.cellsOf 1 = 1 := by kernel_rfl
@[go_sem] theorem isAgg1 : isAggT Tryd.prog 1 = some false := by kernel_rfl
@[go_sem] theorem ok1 : tyOk Tryd.prog 1 = true := by kernel_rfl
@[go_sem] theorem bytes1 : Tryd.prog.bytesOf 1 = 8 := by kernel_rfl
@[go_sem] theorem zero1 : zeroOf Tryd.prog 1 = some (.p .nilf) := by kernel_rfl
@[go_sem] theorem zeroLen1 : appendA.zeroLen Tryd.prog 1 = 1 := by kernel_rfl
attribute [go_sem] Tryd.underlying2
@[go_sem] theorem cellsOf2 : Tryd.prog.cellsOf 2 = 1 := by kernel_rfl
@[go_sem] theorem isAgg2 : isAggT Tryd.prog 2 = some false := by kernel_rfl
@[go_sem] theorem ok2 : tyOk Tryd.prog 2 = true := by kernel_rfl
@[go_sem] theorem bytes2 : Tryd.prog.bytesOf 2 = 8 := by kernel_rfl
@[go_sem] theorem zero2 : zeroOf Tryd.prog 2 = some (.p (.int .i64 0)) := by kernel_rfl
@[go_sem] theorem zeroLen2 : appendA.zeroLen Tryd.prog 2 = 1 := by kernel_rfl
@[go_sem] theorem eqI2 (d : Nat) (k k' : IntKind) (a b : Int) : eqT Tryd.prog (d + 1) 2 [.int k a] [.int k' b] = if k = k' then some (a == b) else none := eqT_int _ Tryd.underlying2 d k k' a b
attribute [go_sem] Tryd.underlying3
@[go_sem] theorem cellsOf3 : Tryd.prog.cellsOf 3 = 1 := by kernel_rfl
@[go_sem] theorem isAgg3 : isAggT Tryd.prog 3 = some false := by kernel_rfl
@[go_sem] theorem ok3 : tyOk Tryd.prog 3 = true := by kernel_rfl
@[go_sem] theorem bytes3 : Tryd.prog.bytesOf 3 = 8 := by kernel_rfl
@[go_sem] theorem zero3 : zeroOf Tryd.prog 3 = some (.p (.int .i64 0)) := by kernel_rfl
@[go_sem] theorem zeroLen3 : appendA.zeroLen Tryd.prog 3 = 1 := by kernel_rfl
@[go_sem] theorem eqI3 (d : Nat) (k k' : IntKind) (a b : Int) : eqT Tryd.prog (d + 1) 3 [.int k a] [.int k' b] = if k = k' then some (a == b) else none := eqT_int _ Tryd.underlying3 d k k' a b
attribute [go_sem] Tryd.underlying4
@[go_sem] theorem cellsOf4 : Tryd.prog.cellsOf 4 = 1 := by kernel_rfl
@[go_sem] theorem isAgg4 : isAggT Tryd.prog 4 = some false := by kernel_rfl
@[go_sem] theorem ok4 : tyOk Tryd.prog 4 = true := by kernel_rfl
@[go_sem] theorem bytes4 : Tryd.prog.bytesOf 4 = 1 := by kernel_rfl
@[go_sem] theorem zero4 : zeroOf Tryd.prog 4 = some (.p (.bool false)) := by kernel_rfl
@[go_sem] theorem zeroLen4 : appendA.zeroLen Tryd.prog 4 = 1 := by kernel_rfl
@[go_sem] theorem eqI4 (d : Nat) (a b : Bool) : eqT Tryd.prog (d + 1) 4 [.bool a] [.bool b] = some (a == b) := eqT_bool _ Tryd.underlying4 d a b
attribute [go_sem] Tryd.underlying5
@[go_sem] theorem cellsOf5 : Tryd.prog.cellsOf 5 = 1 := by kernel_rfl
@[go_sem] theorem isAgg5 : isAggT Tryd.prog 5 = some false := by kernel_rfl
@[go_sem] theorem ok5 : tyOk Tryd.prog 5 = true := by kernel_rfl
@[go_sem] theorem bytes5 : Tryd.prog.bytesOf 5 = 1 := by kernel_rfl
@[go_sem] theorem zero5 : zeroOf Tryd.prog 5 = some (.p (.int .u8 0)) := by kernel_rfl
@[go_sem] theorem zeroLen5 : appendA.zeroLen Tryd.prog 5 = 1 := by kernel_rfl
@[go_sem] theorem eqI5 (d : Nat) (k k' : IntKind) (a b : Int) : eqT Tryd.prog (d + 1) 5 [.int k a] [.int k' b] = if k = k' then some (a == b) else none := eqT_int _ Tryd.underlying5 d k k' a b
attribute [go_sem] Tryd.underlying6
@[go_sem] theorem cellsOf6 : Tryd.prog.cellsOf 6 = 1 := by kernel_rfl
@[go_sem] theorem isAgg6 : isAggT Tryd.prog 6 = some false := by kernel_rfl
@[go_sem] theorem ok6 : tyOk Tryd.prog 6 = true := by kernel_rfl
@[go_sem] theorem bytes6 : Tryd.prog.bytesOf 6 = 1 := by kernel_rfl
@[go_sem] theorem zero6 : zeroOf Tryd.prog 6 = some (.p (.int .u8 0)) := by kernel_rfl
@[go_sem] theorem zeroLen6 : appendA.zeroLen Tryd.prog 6 = 1 := by kernel_rfl
@[go_sem] theorem eqI6 (d : Nat) (k k' : IntKind) (a b : Int) : eqT Tryd.prog (d + 1) 6 [.int k a] [.int k' b] = if k = k' then some (a == b) else none := eqT_int _ Tryd.underlying6 d k k' a b
attribute [go_sem] Tryd.underlying7
@[go_sem] theorem cellsOf7 : Tryd.prog.cellsOf 7 = 4 := by kernel_rfl
@[go_sem] theorem isAgg7 : isAggT Tryd.prog 7 = some true := by kernel_rfl
@[go_sem] theorem ok7 : tyOk Tryd.prog 7 = true := by kernel_rfl
@[go_sem] theorem bytes7 : Tryd.prog.bytesOf 7 = 24 := by kernel_rfl
@[go_sem] theorem zero7 : zeroOf Tryd.prog 7 = some (.p (.agg [(.int .i64 0), (.int .i64 0), (.bool false), (.int .u8 0)])) := by kernel_rfl
@[go_sem] theorem zeroLen7 : appendA.zeroLen Tryd.prog 7 = 4 := by kernel_rfl
@[go_sem] theorem field7_0 : fieldOff Tryd.prog 7 0 = some 0 := by kernel_rfl
@[go_sem] theorem field7_1 : fieldOff Tryd.prog 7 1 = some 1 := by kernel_rfl
@[go_sem] theorem field7_2 : fieldOff Tryd.prog 7 2 = some 2 := by kernel_rfl
@[go_sem] theorem field7_3 : fieldOff Tryd.prog 7 3 = some 3 := by kernel_rfl
@[go_sem] theorem build7 (parts : List (Nat × AV)) : buildA Tryd.prog 7 parts = (fillG (fun j => [(0, 1), (1, 1), (2, 1), (3, 1)][j]?) [.p (.int .i64 0), .p (.int .i64 0), .p (.bool false), .p (.int .u8 0)] parts).map mkAgg :=
  buildA_eq _ _ zero7 rfl (by kernel_rfl) (by kernel_rfl) (by funext j; exact placesA_eq _ _ (by kernel_rfl) j)
@[go_sem] theorem eqS7 (d : Nat) (xs ys : List PV) : eqT Tryd.prog (d + 1) 7 xs ys = eqL (eqT Tryd.prog d) [(2, 0, 1), (3, 1, 1), (4, 2, 1), (6, 3, 1)] xs ys := eqT_struct _ (by kernel_rfl) (by kernel_rfl) (by kernel_rfl) (by kernel_rfl) d xs ys
@[go_sem] theorem eqg7 : Tryd.prog.eqGuardType Tryd.prog.depth 7 = false := by kernel_rfl
attribute [go_sem] Tryd.underlying8
@[go_sem] theorem cellsOf8 : Tryd.prog.cellsOf 8 = 4 := by kernel_rfl
@[go_sem] theorem isAgg8 : isAggT Tryd.prog 8 = some true := by kernel_rfl
@[go_sem] theorem ok8 : tyOk Tryd.prog 8 = true := by kernel_rfl
@[go_sem] theorem bytes8 : Tryd.prog.bytesOf 8 = 24 := by kernel_rfl
@[go_sem] theorem zero8 : zeroOf Tryd.prog 8 = some (.p (.agg [(.int .i64 0), (.int .i64 0), (.bool false), (.int .u8 0)])) := by kernel_rfl
@[go_sem] theorem zeroLen8 : appendA.zeroLen Tryd.prog 8 = 4 := by kernel_rfl
@[go_sem] theorem field8_0 : fieldOff Tryd.prog 8 0 = some 0 := by kernel_rfl
@[go_sem] theorem field8_1 : fieldOff Tryd.prog 8 1 = some 1 := by kernel_rfl
@[go_sem] theorem field8_2 : fieldOff Tryd.prog 8 2 = some 2 := by kernel_rfl
@[go_sem] theorem field8_3 : fieldOff Tryd.prog 8 3 = some 3 := by kernel_rfl
@[go_sem] theorem build8 (parts : List (Nat × AV)) : buildA Tryd.prog 8 parts = (fillG (fun j => [(0, 1), (1, 1), (2, 1), (3, 1)][j]?) [.p (.int .i64 0), .p (.int .i64 0), .p (.bool false), .p (.int .u8 0)] parts).map mkAgg :=
  buildA_eq _ _ zero8 rfl (by kernel_rfl) (by kernel_rfl) (by funext j; exact placesA_eq _ _ (by kernel_rfl) j)
@[go_sem] theorem eqS8 (d : Nat) (xs ys : List PV) : eqT Tryd.prog (d + 1) 8 xs ys = eqL (eqT Tryd.prog d) [(2, 0, 1), (3, 1, 1), (4, 2, 1), (6, 3, 1)] xs ys := eqT_struct _ (by kernel_rfl) (by kernel_rfl) (by kernel_rfl) (by kernel_rfl) d xs ys
@[go_sem] theorem eqg8 : Tryd.prog.eqGuardType Tryd.prog.depth 8 = false := by kernel_rfl
attribute [go_sem] Tryd.underlying9
@[go_sem] theorem cellsOf9 : Tryd.prog.cellsOf 9 = 1 := by kernel_rfl
@[go_sem] theorem isAgg9 : isAggT Tryd.prog 9 = some false := by kernel_rfl
@[go_sem] theorem ok9 : tyOk Tryd.prog 9 = true := by kernel_rfl
@[go_sem] theorem bytes9 : Tryd.prog.bytesOf 9 = 16 := by kernel_rfl
@[go_sem] theorem zero9 : zeroOf Tryd.prog 9 = some (.p (.str [])) := by kernel_rfl
@[go_sem] theorem zeroLen9 : appendA.zeroLen Tryd.prog 9 = 1 := by kernel_rfl
@[go_sem] theorem eqI9 (d : Nat) (a b : List UInt8) : eqT Tryd.prog (d + 1) 9 [.str a] [.str b] = some (a == b) := eqT_str _ Tryd.underlying9 d a b
attribute [go_sem] Tryd.underlying10
@[go_sem] theorem cellsOf10 : Tryd.prog.cellsOf 10 = 1 := by kernel_rfl
@[go_sem] theorem isAgg10 : isAggT Tryd.prog 10 = some false := by kernel_rfl
@[go_sem] theorem ok10 : tyOk Tryd.prog 10 = true := by kernel_rfl
@[go_sem] theorem bytes10 : Tryd.prog.bytesOf 10 = 16 := by kernel_rfl
@[go_sem] theorem zero10 : zeroOf Tryd.prog 10 = some (.p (.str [])) := by kernel_rfl
@[go_sem] theorem zeroLen10 : appendA.zeroLen Tryd.prog 10 = 1 := by kernel_rfl
@[go_sem] theorem eqI10 (d : Nat) (a b : List UInt8) : eqT Tryd.prog (d + 1) 10 [.str a] [.str b] = some (a == b) := eqT_str _ Tryd.underlying10 d a b
attribute [go_sem] Tryd.underlying11
@[go_sem] theorem cellsOf11 : Tryd.prog.cellsOf 11 = 1 := by kernel_rfl
@[go_sem] theorem isAgg11 : isAggT Tryd.prog 11 = some false := by kernel_rfl
@[go_sem] theorem ok11 : tyOk Tryd.prog 11 = true := by kernel_rfl
@[go_sem] theorem bytes11 : Tryd.prog.bytesOf 11 = 16 := by kernel_rfl
@[go_sem] theorem zero11 : zeroOf Tryd.prog 11 = some (.p (.str [])) := by kernel_rfl
@[go_sem] theorem zeroLen11 : appendA.zeroLen Tryd.prog 11 = 1 := by kernel_rfl
@[go_sem] theorem eqI11 (d : Nat) (a b : List UInt8) : eqT Tryd.prog (d + 1) 11 [.str a] [.str b] = some (a == b) := eqT_str _ Tryd.underlying11 d a b
attribute [go_sem] Tryd.underlying12
@[go_sem] theorem cellsOf12 : Tryd.prog.cellsOf 12 = 1 := by kernel_rfl
@[go_sem] theorem isAgg12 : isAggT Tryd.prog 12 = some false := by kernel_rfl
@[go_sem] theorem ok12 : tyOk Tryd.prog 12 = true := by kernel_rfl
@[go_sem] theorem bytes12 : Tryd.prog.bytesOf 12 = 8 := by kernel_rfl
@[go_sem] theorem zero12 : zeroOf Tryd.prog 12 = some (.p (.int .u64 0)) := by kernel_rfl
@[go_sem] theorem zeroLen12 : appendA.zeroLen Tryd.prog 12 = 1 := by kernel_rfl
@[go_sem] theorem eqI12 (d : Nat) (k k' : IntKind) (a b : Int) : eqT Tryd.prog (d + 1) 12 [.int k a] [.int k' b] = if k = k' then some (a == b) else none := eqT_int _ Tryd.underlying12 d k k' a b
attribute [go_sem] Tryd.underlying13
@[go_sem] theorem cellsOf13 : Tryd.prog.cellsOf 13 = 2 := by kernel_rfl
@[go_sem] theorem isAgg13 : isAggT Tryd.prog 13 = some true := by kernel_rfl
@[go_sem] theorem ok13 : tyOk Tryd.prog 13 = true := by kernel_rfl
@[go_sem] theorem bytes13 : Tryd.prog.bytesOf 13 = 24 := by kernel_rfl
@[go_sem] theorem zero13 : zeroOf Tryd.prog 13 = some (.p (.agg [(.str []), (.int .u64 0)])) := by kernel_rfl
@[go_sem] theorem zeroLen13 : appendA.zeroLen Tryd.prog 13 = 2 := by kernel_rfl
@[go_sem] theorem field13_0 : fieldOff Tryd.prog 13 0 = some 0 := by kernel_rfl
@[go_sem] theorem field13_1 : fieldOff Tryd.prog 13 1 = some 1 := by kernel_rfl
@[go_sem] theorem build13 (parts : List (Nat × AV)) : buildA Tryd.prog 13 parts = (fillG (fun j => [(0, 1), (1, 1)][j]?) [.p (.str []), .p (.int .u64 0)] parts).map mkAgg :=
  buildA_eq _ _ zero13 rfl (by kernel_rfl) (by kernel_rfl) (by funext j; exact placesA_eq _ _ (by kernel_rfl) j)
attribute [go_sem] Tryd.underlying14
@[go_sem] theorem cellsOf14 : Tryd.prog.cellsOf 14 = 2 := by kernel_rfl
@[go_sem] theorem isAgg14 : isAggT Tryd.prog 14 = some true := by kernel_rfl
@[go_sem] theorem ok14 : tyOk Tryd.prog 14 = true := by kernel_rfl
@[go_sem] theorem bytes14 : Tryd.prog.bytesOf 14 = 24 := by kernel_rfl
@[go_sem] theorem zero14 : zeroOf Tryd.prog 14 = some (.p (.agg [(.str []), (.int .u64 0)])) := by kernel_rfl
@[go_sem] theorem zeroLen14 : appendA.zeroLen Tryd.prog 14 = 2 := by kernel_rfl
@[go_sem] theorem field14_0 : fieldOff Tryd.prog 14 0 = some 0 := by kernel_rfl
@[go_sem] theorem field14_1 : fieldOff Tryd.prog 14 1 = some 1 := by kernel_rfl
@[go_sem] theorem build14 (parts : List (Nat × AV)) : buildA Tryd.prog 14 parts = (fillG (fun j => [(0, 1), (1, 1)][j]?) [.p (.str []), .p (.int .u64 0)] parts).map mkAgg :=
  buildA_eq _ _ zero14 rfl (by kernel_rfl) (by kernel_rfl) (by funext j; exact placesA_eq _ _ (by kernel_rfl) j)
attribute [go_sem] Tryd.underlying15
@[go_sem] theorem cellsOf15 : Tryd.prog.cellsOf 15 = 1 := by kernel_rfl
@[go_sem] theorem isAgg15 : isAggT Tryd.prog 15 = some false := by kernel_rfl
@[go_sem] theorem ok15 : tyOk Tryd.prog 15 = true := by kernel_rfl
@[go_sem] theorem bytes15 : Tryd.prog.bytesOf 15 = 8 := by kernel_rfl
@[go_sem] theorem zero15 : zeroOf Tryd.prog 15 = some (.p .nilp) := by kernel_rfl
@[go_sem] theorem zeroLen15 : appendA.zeroLen Tryd.prog 15 = 1 := by kernel_rfl
attribute [go_sem] Tryd.underlying16
@[go_sem] theorem cellsOf16 : Tryd.prog.cellsOf 16 = 1 := by kernel_rfl
@[go_sem] theorem isAgg16 : isAggT Tryd.prog 16 = some false := by kernel_rfl
@[go_sem] theorem ok16 : tyOk Tryd.prog 16 = true := by kernel_rfl
@[go_sem] theorem bytes16 : Tryd.prog.bytesOf 16 = 8 := by kernel_rfl
@[go_sem] theorem zero16 : zeroOf Tryd.prog 16 = some (.p .nilp) := by kernel_rfl
@[go_sem] theorem zeroLen16 : appendA.zeroLen Tryd.prog 16 = 1 := by kernel_rfl
attribute [go_sem] Tryd.underlying17
@[go_sem] theorem cellsOf17 : Tryd.prog.cellsOf 17 = 1 := by kernel_rfl
@[go_sem] theorem isAgg17 : isAggT Tryd.prog 17 = some false := by kernel_rfl
@[go_sem] theorem ok17 : tyOk Tryd.prog 17 = true := by kernel_rfl
@[go_sem] theorem bytes17 : Tryd.prog.bytesOf 17 = 8 := by kernel_rfl
@[go_sem] theorem zero17 : zeroOf Tryd.prog 17 = some (.p .nilp) := by kernel_rfl
@[go_sem] theorem zeroLen17 : appendA.zeroLen Tryd.prog 17 = 1 := by kernel_rfl
attribute [go_sem] Tryd.underlying18
@[go_sem] theorem cellsOf18 : Tryd.prog.cellsOf 18 = 1 := by kernel_rfl
@[go_sem] theorem isAgg18 : isAggT Tryd.prog 18 = some true := by kernel_rfl
@[go_sem] theorem ok18 : tyOk Tryd.prog 18 = true := by kernel_rfl
@[go_sem] theorem bytes18 : Tryd.prog.bytesOf 18 = 8 := by kernel_rfl
@[go_sem] theorem zero18 : zeroOf Tryd.prog 18 = some (.p (.agg [.nilp])) := by kernel_rfl
@[go_sem] theorem zeroLen18 : appendA.zeroLen Tryd.prog 18 = 1 := by kernel_rfl
@[go_sem] theorem field18_0 : fieldOff Tryd.prog 18 0 = some 0 := by kernel_rfl
@[go_sem] theorem build18 (parts : List (Nat × AV)) : buildA Tryd.prog 18 parts = (fillG (fun j => [(0, 1)][j]?) [.p .nilp] parts).map mkAgg :=
  buildA_eq _ _ zero18 rfl (by kernel_rfl) (by kernel_rfl) (by funext j; exact placesA_eq _ _ (by kernel_rfl) j)
attribute [go_sem] Tryd.underlying19
@[go_sem] theorem cellsOf19 : Tryd.prog.cellsOf 19 = 1 := by kernel_rfl
@[go_sem] theorem isAgg19 : isAggT Tryd.prog 19 = some true := by kernel_rfl
@[go_sem] theorem ok19 : tyOk Tryd.prog 19 = true := by kernel_rfl
@[go_sem] theorem bytes19 : Tryd.prog.bytesOf 19 = 8 := by kernel_rfl
@[go_sem] theorem zero19 : zeroOf Tryd.prog 19 = some (.p (.agg [.nilp])) := by kernel_rfl
@[go_sem] theorem zeroLen19 : appendA.zeroLen Tryd.prog 19 = 1 := by kernel_rfl
@[go_sem] theorem field19_0 : fieldOff Tryd.prog 19 0 = some 0 := by kernel_rfl
@[go_sem] theorem build19 (parts : List (Nat × AV)) : buildA Tryd.prog 19 parts = (fillG (fun j => [(0, 1)][j]?) [.p .nilp] parts).map mkAgg :=
  buildA_eq _ _ zero19 rfl (by kernel_rfl) (by kernel_rfl) (by funext j; exact placesA_eq _ _ (by kernel_rfl) j)
attribute [go_sem] Tryd.underlying20
@[go_sem] theorem cellsOf20 : Tryd.prog.cellsOf 20 = 1 := by kernel_rfl
@[go_sem] theorem isAgg20 : isAggT Tryd.prog 20 = some false := by kernel_rfl
@[go_sem] theorem ok20 : tyOk Tryd.prog 20 = true := by kernel_rfl
@[go_sem] theorem bytes20 : Tryd.prog.bytesOf 20 = 16 := by kernel_rfl
@[go_sem] theorem zero20 : zeroOf Tryd.prog 20 = some (.p .nili) := by kernel_rfl
@[go_sem] theorem zeroLen20 : appendA.zeroLen Tryd.prog 20 = 1 := by kernel_rfl
attribute [go_sem] Tryd.underlying21
@[go_sem] theorem cellsOf21 : Tryd.prog.cellsOf 21 = 1 := by kernel_rfl
@[go_sem] theorem isAgg21 : isAggT Tryd.prog 21 = some false := by kernel_rfl
@[go_sem] theorem ok21 : tyOk Tryd.prog 21 = true := by kernel_rfl
@[go_sem] theorem bytes21 : Tryd.prog.bytesOf 21 = 4 := by kernel_rfl
@[go_sem] theorem zero21 : zeroOf Tryd.prog 21 = some (.p (.int .i32 0)) := by kernel_rfl
@[go_sem] theorem zeroLen21 : appendA.zeroLen Tryd.prog 21 = 1 := by kernel_rfl
@[go_sem] theorem eqI21 (d : Nat) (k k' : IntKind) (a b : Int) : eqT Tryd.prog (d + 1) 21 [.int k a] [.int k' b] = if k = k' then some (a == b) else none := eqT_int _ Tryd.underlying21 d k k' a b
attribute [go_sem] Tryd.underlying22
@[go_sem] theorem cellsOf22 : Tryd.prog.cellsOf 22 = 1 := by kernel_rfl
@[go_sem] theorem isAgg22 : isAggT Tryd.prog 22 = some false := by kernel_rfl
@[go_sem] theorem ok22 : tyOk Tryd.prog 22 = true := by kernel_rfl
@[go_sem] theorem bytes22 : Tryd.prog.bytesOf 22 = 24 := by kernel_rfl
@[go_sem] theorem zero22 : zeroOf Tryd.prog 22 = some (.nils) := by kernel_rfl
@[go_sem] theorem zeroLen22 : appendA.zeroLen Tryd.prog 22 = 1 := by kernel_rfl
attribute [go_sem] Tryd.underlying23
@[go_sem] theorem cellsOf23 : Tryd.prog.cellsOf 23 = 3 := by kernel_rfl
@[go_sem] theorem isAgg23 : isAggT Tryd.prog 23 = some true := by kernel_rfl
@[go_sem] theorem ok23 : tyOk Tryd.prog 23 = true := by kernel_rfl
@[go_sem] theorem bytes23 : Tryd.prog.bytesOf 23 = 32 := by kernel_rfl
@[go_sem] theorem zero23 : zeroOf Tryd.prog 23 = some (.agg [.p (.int .u8 0), .p (.int .u8 0), .nils]) := by kernel_rfl
@[go_sem] theorem zeroLen23 : appendA.zeroLen Tryd.prog 23 = 3 := by kernel_rfl
@[go_sem] theorem field23_0 : fieldOff Tryd.prog 23 0 = some 0 := by kernel_rfl
@[go_sem] theorem field23_1 : fieldOff Tryd.prog 23 1 = some 1 := by kernel_rfl
@[go_sem] theorem field23_2 : fieldOff Tryd.prog 23 2 = some 2 := by kernel_rfl
@[go_sem] theorem build23 (parts : List (Nat × AV)) : buildA Tryd.prog 23 parts = (fillG (fun j => [(0, 1), (1, 1), (2, 1)][j]?) [.p (.int .u8 0), .p (.int .u8 0), .nils] parts).map mkAgg :=
  buildA_eq _ _ zero23 rfl (by kernel_rfl) (by kernel_rfl) (by funext j; exact placesA_eq _ _ (by kernel_rfl) j)
attribute [go_sem] Tryd.underlying24
@[go_sem] theorem cellsOf24 : Tryd.prog.cellsOf 24 = 3 := by kernel_rfl
@[go_sem] theorem isAgg24 : isAggT Tryd.prog 24 = some true := by kernel_rfl
@[go_sem] theorem ok24 : tyOk Tryd.prog 24 = true := by kernel_rfl
@[go_sem] theorem bytes24 : Tryd.prog.bytesOf 24 = 32 := by kernel_rfl
@[go_sem] theorem zero24 : zeroOf Tryd.prog 24 = some (.agg [.p (.int .u8 0), .p (.int .u8 0), .nils]) := by kernel_rfl
@[go_sem] theorem zeroLen24 : appendA.zeroLen Tryd.prog 24 = 3 := by kernel_rfl
@[go_sem] theorem field24_0 : fieldOff Tryd.prog 24 0 = some 0 := by kernel_rfl
@[go_sem] theorem field24_1 : fieldOff Tryd.prog 24 1 = some 1 := by kernel_rfl
@[go_sem] theorem field24_2 : fieldOff Tryd.prog 24 2 = some 2 := by kernel_rfl
@[go_sem] theorem build24 (parts : List (Nat × AV)) : buildA Tryd.prog 24 parts = (fillG (fun j => [(0, 1), (1, 1), (2, 1)][j]?) [.p (.int .u8 0), .p (.int .u8 0), .nils] parts).map mkAgg :=
  buildA_eq _ _ zero24 rfl (by kernel_rfl) (by kernel_rfl) (by funext j; exact placesA_eq _ _ (by kernel_rfl) j)
attribute [go_sem] Tryd.underlying25
@[go_sem] theorem cellsOf25 : Tryd.prog.cellsOf 25 = 1 := by kernel_rfl
@[go_sem] theorem isAgg25 : isAggT Tryd.prog 25 = some false := by kernel_rfl
@[go_sem] theorem ok25 : tyOk Tryd.prog 25 = true := by kernel_rfl
@[go_sem] theorem bytes25 : Tryd.prog.bytesOf 25 = 24 := by kernel_rfl
@[go_sem] theorem zero25 : zeroOf Tryd.prog 25 = some (.nils) := by kernel_rfl
@[go_sem] theorem zeroLen25 : appendA.zeroLen Tryd.prog 25 = 1 := by kernel_rfl
attribute [go_sem] Tryd.underlying26
@[go_sem] theorem cellsOf26 : Tryd.prog.cellsOf 26 = 1 := by kernel_rfl
@[go_sem] theorem isAgg26 : isAggT Tryd.prog 26 = some false := by kernel_rfl
@[go_sem] theorem ok26 : tyOk Tryd.prog 26 = true := by kernel_rfl
@[go_sem] theorem bytes26 : Tryd.prog.bytesOf 26 = 24 := by kernel_rfl
@[go_sem] theorem zero26 : zeroOf Tryd.prog 26 = some (.nils) := by kernel_rfl
@[go_sem] theorem zeroLen26 : appendA.zeroLen Tryd.prog 26 = 1 := by kernel_rfl
attribute [go_sem] Tryd.underlying27
@[go_sem] theorem cellsOf27 : Tryd.prog.cellsOf 27 = 3 := by kernel_rfl
@[go_sem] theorem isAgg27 : isAggT Tryd.prog 27 = some true := by kernel_rfl
@[go_sem] theorem ok27 : tyOk Tryd.prog 27 = true := by kernel_rfl
@[go_sem] theorem bytes27 : Tryd.prog.bytesOf 27 = 64 := by kernel_rfl
@[go_sem] theorem zero27 : zeroOf Tryd.prog 27 = some (.agg [.p (.str []), .nils, .nils]) := by kernel_rfl
@[go_sem] theorem zeroLen27 : appendA.zeroLen Tryd.prog 27 = 3 := by kernel_rfl
@[go_sem] theorem field27_0 : fieldOff Tryd.prog 27 0 = some 0 := by kernel_rfl
@[go_sem] theorem field27_1 : fieldOff Tryd.prog 27 1 = some 1 := by kernel_rfl
@[go_sem] theorem field27_2 : fieldOff Tryd.prog 27 2 = some 2 := by kernel_rfl
@[go_sem] theorem build27 (parts : List (Nat × AV)) : buildA Tryd.prog 27 parts = (fillG (fun j => [(0, 1), (1, 1), (2, 1)][j]?) [.p (.str []), .nils, .nils] parts).map mkAgg :=
  buildA_eq _ _ zero27 rfl (by kernel_rfl) (by kernel_rfl) (by funext j; exact placesA_eq _ _ (by kernel_rfl) j)
attribute [go_sem] Tryd.underlying28
@[go_sem] theorem cellsOf28 : Tryd.prog.cellsOf 28 = 3 := by kernel_rfl
@[go_sem] theorem isAgg28 : isAggT Tryd.prog 28 = some true := by kernel_rfl
@[go_sem] theorem ok28 : tyOk Tryd.prog 28 = true := by kernel_rfl
@[go_sem] theorem bytes28 : Tryd.prog.bytesOf 28 = 64 := by kernel_rfl
@[go_sem] theorem zero28 : zeroOf Tryd.prog 28 = some (.agg [.p (.str []), .nils, .nils]) := by kernel_rfl
@[go_sem] theorem zeroLen28 : appendA.zeroLen Tryd.prog 28 = 3 := by kernel_rfl
@[go_sem] theorem field28_0 : fieldOff Tryd.prog 28 0 = some 0 := by kernel_rfl
@[go_sem] theorem field28_1 : fieldOff Tryd.prog 28 1 = some 1 := by kernel_rfl
@[go_sem] theorem field28_2 : fieldOff Tryd.prog 28 2 = some 2 := by kernel_rfl
@[go_sem] theorem build28 (parts : List (Nat × AV)) : buildA Tryd.prog 28 parts = (fillG (fun j => [(0, 1), (1, 1), (2, 1)][j]?) [.p (.str []), .nils, .nils] parts).map mkAgg :=
  buildA_eq _ _ zero28 rfl (by kernel_rfl) (by kernel_rfl) (by funext j; exact placesA_eq _ _ (by kernel_rfl) j)
attribute [go_sem] Tryd.underlying30
@[go_sem] theorem cellsOf30 : Tryd.prog.cellsOf 30 = 1 := by kernel_rfl
@[go_sem] theorem isAgg30 : isAggT Tryd.prog 30 = some false := by kernel_rfl
@[go_sem] theorem ok30 : tyOk Tryd.prog 30 = true := by kernel_rfl
@[go_sem] theorem bytes30 : Tryd.prog.bytesOf 30 = 8 := by kernel_rfl
@[go_sem] theorem zero30 : zeroOf Tryd.prog 30 = some (.p .nilf) := by kernel_rfl
@[go_sem] theorem zeroLen30 : appendA.zeroLen Tryd.prog 30 = 1 := by kernel_rfl
attribute [go_sem] Tryd.underlying31
@[go_sem] theorem cellsOf31 : Tryd.prog.cellsOf 31 = 1 := by kernel_rfl
@[go_sem] theorem isAgg31 : isAggT Tryd.prog 31 = some false := by kernel_rfl
@[go_sem] theorem ok31 : tyOk Tryd.prog 31 = true := by kernel_rfl
@[go_sem] theorem bytes31 : Tryd.prog.bytesOf 31 = 8 := by kernel_rfl
@[go_sem] theorem zero31 : zeroOf Tryd.prog 31 = some (.p .nilf) := by kernel_rfl
@[go_sem] theorem zeroLen31 : appendA.zeroLen Tryd.prog 31 = 1 := by kernel_rfl
attribute [go_sem] Tryd.underlying32
@[go_sem] theorem cellsOf32 : Tryd.prog.cellsOf 32 = 1 := by kernel_rfl
@[go_sem] theorem isAgg32 : isAggT Tryd.prog 32 = some false := by kernel_rfl
@[go_sem] theorem ok32 : tyOk Tryd.prog 32 = true := by kernel_rfl
@[go_sem] theorem bytes32 : Tryd.prog.bytesOf 32 = 4 := by kernel_rfl
@[go_sem] theorem zero32 : zeroOf Tryd.prog 32 = some (.p (.int .u32 0)) := by kernel_rfl
@[go_sem] theorem zeroLen32 : appendA.zeroLen Tryd.prog 32 = 1 := by kernel_rfl
@[go_sem] theorem eqI32 (d : Nat) (k k' : IntKind) (a b : Int) : eqT Tryd.prog (d + 1) 32 [.int k a] [.int k' b] = if k = k' then some (a == b) else none := eqT_int _ Tryd.underlying32 d k k' a b
attribute [go_sem] Tryd.underlying33
@[go_sem] theorem cellsOf33 : Tryd.prog.cellsOf 33 = 1 := by kernel_rfl
@[go_sem] theorem isAgg33 : isAggT Tryd.prog 33 = some false := by kernel_rfl
@[go_sem] theorem ok33 : tyOk Tryd.prog 33 = true := by kernel_rfl
@[go_sem] theorem bytes33 : Tryd.prog.bytesOf 33 = 4 := by kernel_rfl
@[go_sem] theorem zero33 : zeroOf Tryd.prog 33 = some (.p (.int .u32 0)) := by kernel_rfl
@[go_sem] theorem zeroLen33 : appendA.zeroLen Tryd.prog 33 = 1 := by kernel_rfl
@[go_sem] theorem eqI33 (d : Nat) (k k' : IntKind) (a b : Int) : eqT Tryd.prog (d + 1) 33 [.int k a] [.int k' b] = if k = k' then some (a == b) else none := eqT_int _ Tryd.underlying33 d k k' a b
attribute [go_sem] Tryd.underlying34
@[go_sem] theorem cellsOf34 : Tryd.prog.cellsOf 34 = 1 := by kernel_rfl
@[go_sem] theorem isAgg34 : isAggT Tryd.prog 34 = some false := by kernel_rfl
@[go_sem] theorem ok34 : tyOk Tryd.prog 34 = true := by kernel_rfl
@[go_sem] theorem bytes34 : Tryd.prog.bytesOf 34 = 8 := by kernel_rfl
@[go_sem] theorem zero34 : zeroOf Tryd.prog 34 = some (.p .nilf) := by kernel_rfl
@[go_sem] theorem zeroLen34 : appendA.zeroLen Tryd.prog 34 = 1 := by kernel_rfl
attribute [go_sem] Tryd.underlying35
@[go_sem] theorem cellsOf35 : Tryd.prog.cellsOf 35 = 2 := by kernel_rfl
@[go_sem] theorem isAgg35 : isAggT Tryd.prog 35 = some true := by kernel_rfl
@[go_sem] theorem ok35 : tyOk Tryd.prog 35 = true := by kernel_rfl
@[go_sem] theorem bytes35 : Tryd.prog.bytesOf 35 = 8 := by kernel_rfl
@[go_sem] theorem zero35 : zeroOf Tryd.prog 35 = some (.p (.agg [(.int .u32 0), (.int .u32 0)])) := by kernel_rfl
@[go_sem] theorem zeroLen35 : appendA.zeroLen Tryd.prog 35 = 2 := by kernel_rfl
@[go_sem] theorem field35_0 : fieldOff Tryd.prog 35 0 = some 0 := by kernel_rfl
@[go_sem] theorem field35_1 : fieldOff Tryd.prog 35 1 = some 1 := by kernel_rfl
@[go_sem] theorem build35 (parts : List (Nat × AV)) : buildA Tryd.prog 35 parts = (fillG (fun j => [(0, 1), (1, 1)][j]?) [.p (.int .u32 0), .p (.int .u32 0)] parts).map mkAgg :=
  buildA_eq _ _ zero35 rfl (by kernel_rfl) (by kernel_rfl) (by funext j; exact placesA_eq _ _ (by kernel_rfl) j)
@[go_sem] theorem eqS35 (d : Nat) (xs ys : List PV) : eqT Tryd.prog (d + 1) 35 xs ys = eqL (eqT Tryd.prog d) [(33, 0, 1), (33, 1, 1)] xs ys := eqT_struct _ (by kernel_rfl) (by kernel_rfl) (by kernel_rfl) (by kernel_rfl) d xs ys
@[go_sem] theorem eqg35 : Tryd.prog.eqGuardType Tryd.prog.depth 35 = false := by kernel_rfl
attribute [go_sem] Tryd.underlying36
@[go_sem] theorem cellsOf36 : Tryd.prog.cellsOf 36 = 2 := by kernel_rfl
@[go_sem] theorem isAgg36 : isAggT Tryd.prog 36 = some true := by kernel_rfl
@[go_sem] theorem ok36 : tyOk Tryd.prog 36 = true := by kernel_rfl
@[go_sem] theorem bytes36 : Tryd.prog.bytesOf 36 = 8 := by kernel_rfl
@[go_sem] theorem zero36 : zeroOf Tryd.prog 36 = some (.p (.agg [(.int .u32 0), (.int .u32 0)])) := by kernel_rfl
@[go_sem] theorem zeroLen36 : appendA.zeroLen Tryd.prog 36 = 2 := by kernel_rfl
@[go_sem] theorem field36_0 : fieldOff Tryd.prog 36 0 = some 0 := by kernel_rfl
@[go_sem] theorem field36_1 : fieldOff Tryd.prog 36 1 = some 1 := by kernel_rfl
@[go_sem] theorem build36 (parts : List (Nat × AV)) : buildA Tryd.prog 36 parts = (fillG (fun j => [(0, 1), (1, 1)][j]?) [.p (.int .u32 0), .p (.int .u32 0)] parts).map mkAgg :=
  buildA_eq _ _ zero36 rfl (by kernel_rfl) (by kernel_rfl) (by funext j; exact placesA_eq _ _ (by kernel_rfl) j)
@[go_sem] theorem eqS36 (d : Nat) (xs ys : List PV) : eqT Tryd.prog (d + 1) 36 xs ys = eqL (eqT Tryd.prog d) [(33, 0, 1), (33, 1, 1)] xs ys := eqT_struct _ (by kernel_rfl) (by kernel_rfl) (by kernel_rfl) (by kernel_rfl) d xs ys
@[go_sem] theorem eqg36 : Tryd.prog.eqGuardType Tryd.prog.depth 36 = false := by kernel_rfl
attribute [go_sem] Tryd.underlying37
@[go_sem] theorem cellsOf37 : Tryd.prog.cellsOf 37 = 1 := by kernel_rfl
@[go_sem] theorem isAgg37 : isAggT Tryd.prog 37 = some false := by kernel_rfl
@[go_sem] theorem ok37 : tyOk Tryd.prog 37 = true := by kernel_rfl
@[go_sem] theorem bytes37 : Tryd.prog.bytesOf 37 = 24 := by kernel_rfl
@[go_sem] theorem zero37 : zeroOf Tryd.prog 37 = some (.nils) := by kernel_rfl
@[go_sem] theorem zeroLen37 : appendA.zeroLen Tryd.prog 37 = 1 := by kernel_rfl
attribute [go_sem] Tryd.underlying38
@[go_sem] theorem cellsOf38 : Tryd.prog.cellsOf 38 = 1 := by kernel_rfl
@[go_sem] theorem isAgg38 : isAggT Tryd.prog 38 = some false := by kernel_rfl
@[go_sem] theorem ok38 : tyOk Tryd.prog 38 = true := by kernel_rfl
@[go_sem] theorem bytes38 : Tryd.prog.bytesOf 38 = 24 := by kernel_rfl
@[go_sem] theorem zero38 : zeroOf Tryd.prog 38 = some (.nils) := by kernel_rfl
@[go_sem] theorem zeroLen38 : appendA.zeroLen Tryd.prog 38 = 1 := by kernel_rfl
attribute [go_sem] Tryd.underlying39
@[go_sem] theorem cellsOf39 : Tryd.prog.cellsOf 39 = 2 := by kernel_rfl
@[go_sem] theorem isAgg39 : isAggT Tryd.prog 39 = some true := by kernel_rfl
@[go_sem] theorem ok39 : tyOk Tryd.prog 39 = true := by kernel_rfl
@[go_sem] theorem bytes39 : Tryd.prog.bytesOf 39 = 32 := by kernel_rfl
@[go_sem] theorem zero39 : zeroOf Tryd.prog 39 = some (.agg [.p (.int .i64 0), .nils]) := by kernel_rfl
@[go_sem] theorem zeroLen39 : appendA.zeroLen Tryd.prog 39 = 2 := by kernel_rfl
@[go_sem] theorem field39_0 : fieldOff Tryd.prog 39 0 = some 0 := by kernel_rfl
@[go_sem] theorem field39_1 : fieldOff Tryd.prog 39 1 = some 1 := by kernel_rfl
@[go_sem] theorem build39 (parts : List (Nat × AV)) : buildA Tryd.prog 39 parts = (fillG (fun j => [(0, 1), (1, 1)][j]?) [.p (.int .i64 0), .nils] parts).map mkAgg :=
  buildA_eq _ _ zero39 rfl (by kernel_rfl) (by kernel_rfl) (by funext j; exact placesA_eq _ _ (by kernel_rfl) j)
attribute [go_sem] Tryd.underlying40
@[go_sem] theorem cellsOf40 : Tryd.prog.cellsOf 40 = 2 := by kernel_rfl
@[go_sem] theorem isAgg40 : isAggT Tryd.prog 40 = some true := by kernel_rfl
@[go_sem] theorem ok40 : tyOk Tryd.prog 40 = true := by kernel_rfl
@[go_sem] theorem bytes40 : Tryd.prog.bytesOf 40 = 32 := by kernel_rfl
@[go_sem] theorem zero40 : zeroOf Tryd.prog 40 = some (.agg [.p (.int .i64 0), .nils]) := by kernel_rfl
@[go_sem] theorem zeroLen40 : appendA.zeroLen Tryd.prog 40 = 2 := by kernel_rfl
@[go_sem] theorem field40_0 : fieldOff Tryd.prog 40 0 = some 0 := by kernel_rfl
@[go_sem] theorem field40_1 : fieldOff Tryd.prog 40 1 = some 1 := by kernel_rfl
@[go_sem] theorem build40 (parts : List (Nat × AV)) : buildA Tryd.prog 40 parts = (fillG (fun j => [(0, 1), (1, 1)][j]?) [.p (.int .i64 0), .nils] parts).map mkAgg :=
  buildA_eq _ _ zero40 rfl (by kernel_rfl) (by kernel_rfl) (by funext j; exact placesA_eq _ _ (by kernel_rfl) j)
attribute [go_sem] Tryd.underlying41
@[go_sem] theorem cellsOf41 : Tryd.prog.cellsOf 41 = 1 := by kernel_rfl
@[go_sem] theorem isAgg41 : isAggT Tryd.prog 41 = some false := by kernel_rfl
@[go_sem] theorem ok41 : tyOk Tryd.prog 41 = true := by kernel_rfl
@[go_sem] theorem bytes41 : Tryd.prog.bytesOf 41 = 8 := by kernel_rfl
@[go_sem] theorem zero41 : zeroOf Tryd.prog 41 = some (.p .nilf) := by kernel_rfl
@[go_sem] theorem zeroLen41 : appendA.zeroLen Tryd.prog 41 = 1 := by kernel_rfl
attribute [go_sem] Tryd.underlying42
@[go_sem] theorem cellsOf42 : Tryd.prog.cellsOf 42 = 1 := by kernel_rfl
@[go_sem] theorem isAgg42 : isAggT Tryd.prog 42 = some false := by kernel_rfl
@[go_sem] theorem ok42 : tyOk Tryd.prog 42 = true := by kernel_rfl
@[go_sem] theorem bytes42 : Tryd.prog.bytesOf 42 = 8 := by kernel_rfl
@[go_sem] theorem zero42 : zeroOf Tryd.prog 42 = some (.p .nilf) := by kernel_rfl
@[go_sem] theorem zeroLen42 : appendA.zeroLen Tryd.prog 42 = 1 := by kernel_rfl
attribute [go_sem] Tryd.underlying43
@[go_sem] theorem cellsOf43 : Tryd.prog.cellsOf 43 = 1 := by kernel_rfl
@[go_sem] theorem isAgg43 : isAggT Tryd.prog 43 = some false := by kernel_rfl
@[go_sem] theorem ok43 : tyOk Tryd.prog 43 = true := by kernel_rfl
@[go_sem] theorem bytes43 : Tryd.prog.bytesOf 43 = 8 := by kernel_rfl
@[go_sem] theorem zero43 : zeroOf Tryd.prog 43 = some (.p (.int .i64 0)) := by kernel_rfl
@[go_sem] theorem zeroLen43 : appendA.zeroLen Tryd.prog 43 = 1 := by kernel_rfl
@[go_sem] theorem eqI43 (d : Nat) (k k' : IntKind) (a b : Int) : eqT Tryd.prog (d + 1) 43 [.int k a] [.int k' b] = if k = k' then some (a == b) else none := eqT_int _ Tryd.underlying43 d k k' a b
attribute [go_sem] Tryd.underlying45
@[go_sem] theorem cellsOf45 : Tryd.prog.cellsOf 45 = 1 := by kernel_rfl
@[go_sem] theorem isAgg45 : isAggT Tryd.prog 45 = some false := by kernel_rfl
@[go_sem] theorem ok45 : tyOk Tryd.prog 45 = true := by kernel_rfl
@[go_sem] theorem bytes45 : Tryd.prog.bytesOf 45 = 8 := by kernel_rfl
@[go_sem] theorem zero45 : zeroOf Tryd.prog 45 = some (.p .nilf) := by kernel_rfl
@[go_sem] theorem zeroLen45 : appendA.zeroLen Tryd.prog 45 = 1 := by kernel_rfl
attribute [go_sem] Tryd.underlying46
@[go_sem] theorem cellsOf46 : Tryd.prog.cellsOf 46 = 1 := by kernel_rfl
@[go_sem] theorem isAgg46 : isAggT Tryd.prog 46 = some false := by kernel_rfl
@[go_sem] theorem ok46 : tyOk Tryd.prog 46 = true := by kernel_rfl
@[go_sem] theorem bytes46 : Tryd.prog.bytesOf 46 = 8 := by kernel_rfl
@[go_sem] theorem zero46 : zeroOf Tryd.prog 46 = some (.p .nilf) := by kernel_rfl
@[go_sem] theorem zeroLen46 : appendA.zeroLen Tryd.prog 46 = 1 := by kernel_rfl
attribute [go_sem] Tryd.underlying47
@[go_sem] theorem cellsOf47 : Tryd.prog.cellsOf 47 = 2 := by kernel_rfl
@[go_sem] theorem isAgg47 : isAggT Tryd.prog 47 = some true := by kernel_rfl
@[go_sem] theorem ok47 : tyOk Tryd.prog 47 = true := by kernel_rfl
@[go_sem] theorem bytes47 : Tryd.prog.bytesOf 47 = 16 := by kernel_rfl
@[go_sem] theorem zero47 : zeroOf Tryd.prog 47 = some (.p (.agg [(.int .i64 0), (.int .i64 0)])) := by kernel_rfl
@[go_sem] theorem zeroLen47 : appendA.zeroLen Tryd.prog 47 = 2 := by kernel_rfl
@[go_sem] theorem field47_0 : fieldOff Tryd.prog 47 0 = some 0 := by kernel_rfl
@[go_sem] theorem field47_1 : fieldOff Tryd.prog 47 1 = some 1 := by kernel_rfl
@[go_sem] theorem build47 (parts : List (Nat × AV)) : buildA Tryd.prog 47 parts = (fillG (fun j => [(0, 1), (1, 1)][j]?) [.p (.int .i64 0), .p (.int .i64 0)] parts).map mkAgg :=
  buildA_eq _ _ zero47 rfl (by kernel_rfl) (by kernel_rfl) (by funext j; exact placesA_eq _ _ (by kernel_rfl) j)
@[go_sem] theorem eqS47 (d : Nat) (xs ys : List PV) : eqT Tryd.prog (d + 1) 47 xs ys = eqL (eqT Tryd.prog d) [(2, 0, 1), (2, 1, 1)] xs ys := eqT_struct _ (by kernel_rfl) (by kernel_rfl) (by kernel_rfl) (by kernel_rfl) d xs ys
@[go_sem] theorem eqg47 : Tryd.prog.eqGuardType Tryd.prog.depth 47 = false := by kernel_rfl
attribute [go_sem] Tryd.underlying48
@[go_sem] theorem cellsOf48 : Tryd.prog.cellsOf 48 = 2 := by kernel_rfl
@[go_sem] theorem isAgg48 : isAggT Tryd.prog 48 = some true := by kernel_rfl
@[go_sem] theorem ok48 : tyOk Tryd.prog 48 = true := by kernel_rfl
@[go_sem] theorem bytes48 : Tryd.prog.bytesOf 48 = 16 := by kernel_rfl
@[go_sem] theorem zero48 : zeroOf Tryd.prog 48 = some (.p (.agg [(.int .i64 0), (.int .i64 0)])) := by kernel_rfl
@[go_sem] theorem zeroLen48 : appendA.zeroLen Tryd.prog 48 = 2 := by kernel_rfl
@[go_sem] theorem field48_0 : fieldOff Tryd.prog 48 0 = some 0 := by kernel_rfl
@[go_sem] theorem field48_1 : fieldOff Tryd.prog 48 1 = some 1 := by kernel_rfl
@[go_sem] theorem build48 (parts : List (Nat × AV)) : buildA Tryd.prog 48 parts = (fillG (fun j => [(0, 1), (1, 1)][j]?) [.p (.int .i64 0), .p (.int .i64 0)] parts).map mkAgg :=
  buildA_eq _ _ zero48 rfl (by kernel_rfl) (by kernel_rfl) (by funext j; exact placesA_eq _ _ (by kernel_rfl) j)
@[go_sem] theorem eqS48 (d : Nat) (xs ys : List PV) : eqT Tryd.prog (d + 1) 48 xs ys = eqL (eqT Tryd.prog d) [(2, 0, 1), (2, 1, 1)] xs ys := eqT_struct _ (by kernel_rfl) (by kernel_rfl) (by kernel_rfl) (by kernel_rfl) d xs ys
@[go_sem] theorem eqg48 : Tryd.prog.eqGuardType Tryd.prog.depth 48 = false := by kernel_rfl
attribute [go_sem] Tryd.underlying50
@[go_sem] theorem cellsOf50 : Tryd.prog.cellsOf 50 = 1 := by kernel_rfl
@[go_sem] theorem isAgg50 : isAggT Tryd.prog 50 = some false := by kernel_rfl
@[go_sem] theorem ok50 : tyOk Tryd.prog 50 = true := by kernel_rfl
@[go_sem] theorem bytes50 : Tryd.prog.bytesOf 50 = 8 := by kernel_rfl
@[go_sem] theorem zero50 : zeroOf Tryd.prog 50 = some (.p .nilf) := by kernel_rfl
@[go_sem] theorem zeroLen50 : appendA.zeroLen Tryd.prog 50 = 1 := by kernel_rfl
attribute [go_sem] Tryd.underlying51
@[go_sem] theorem cellsOf51 : Tryd.prog.cellsOf 51 = 1 := by kernel_rfl
@[go_sem] theorem isAgg51 : isAggT Tryd.prog 51 = some false := by kernel_rfl
@[go_sem] theorem ok51 : tyOk Tryd.prog 51 = true := by kernel_rfl
@[go_sem] theorem bytes51 : Tryd.prog.bytesOf 51 = 8 := by kernel_rfl
@[go_sem] theorem zero51 : zeroOf Tryd.prog 51 = some (.p .nilf) := by kernel_rfl
@[go_sem] theorem zeroLen51 : appendA.zeroLen Tryd.prog 51 = 1 := by kernel_rfl
attribute [go_sem] Tryd.underlying52
@[go_sem] theorem cellsOf52 : Tryd.prog.cellsOf 52 = 1 := by kernel_rfl
@[go_sem] theorem isAgg52 : isAggT Tryd.prog 52 = some false := by kernel_rfl
@[go_sem] theorem ok52 : tyOk Tryd.prog 52 = true := by kernel_rfl
@[go_sem] theorem bytes52 : Tryd.prog.bytesOf 52 = 8 := by kernel_rfl
@[go_sem] theorem zero52 : zeroOf Tryd.prog 52 = some (.p .nilf) := by kernel_rfl
@[go_sem] theorem zeroLen52 : appendA.zeroLen Tryd.prog 52 = 1 := by kernel_rfl
attribute [go_sem] Tryd.underlying54
@[go_sem] theorem cellsOf54 : Tryd.prog.cellsOf 54 = 4 := by kernel_rfl
@[go_sem] theorem isAgg54 : isAggT Tryd.prog 54 = some true := by kernel_rfl
@[go_sem] theorem ok54 : tyOk Tryd.prog 54 = true := by kernel_rfl
@[go_sem] theorem bytes54 : Tryd.prog.bytesOf 54 = 4 := by kernel_rfl
@[go_sem] theorem zero54 : zeroOf Tryd.prog 54 = some (.p (.agg [(.int .u8 0), (.int .u8 0), (.int .u8 0), (.int .u8 0)])) := by kernel_rfl
@[go_sem] theorem zeroLen54 : appendA.zeroLen Tryd.prog 54 = 4 := by kernel_rfl
@[go_sem] theorem build54 (parts : List (Nat × AV)) : buildA Tryd.prog 54 parts = (fillG (fun i => some (i * 1, 1)) [.p (.int .u8 0), .p (.int .u8 0), .p (.int .u8 0), .p (.int .u8 0)] parts).map mkAgg :=
  buildA_arr _ _ zero54 rfl Tryd.underlying54 (by kernel_rfl) (by kernel_rfl)
@[go_sem] theorem eqS54 (d : Nat) (xs ys : List PV) : eqT Tryd.prog (d + 1) 54 xs ys = eqL (eqT Tryd.prog d) [(5, 0, 1), (5, 1, 1), (5, 2, 1), (5, 3, 1)] xs ys := eqT_array _ Tryd.underlying54 (by kernel_rfl) (by kernel_rfl) d xs ys
@[go_sem] theorem eqg54 : Tryd.prog.eqGuardType Tryd.prog.depth 54 = false := by kernel_rfl
attribute [go_sem] Tryd.underlying55
@[go_sem] theorem cellsOf55 : Tryd.prog.cellsOf 55 = 1 := by kernel_rfl
@[go_sem] theorem isAgg55 : isAggT Tryd.prog 55 = some false := by kernel_rfl
@[go_sem] theorem ok55 : tyOk Tryd.prog 55 = true := by kernel_rfl
@[go_sem] theorem bytes55 : Tryd.prog.bytesOf 55 = 8 := by kernel_rfl
@[go_sem] theorem zero55 : zeroOf Tryd.prog 55 = some (.p .nilf) := by kernel_rfl
@[go_sem] theorem zeroLen55 : appendA.zeroLen Tryd.prog 55 = 1 := by kernel_rfl
attribute [go_sem] Tryd.underlying56
@[go_sem] theorem cellsOf56 : Tryd.prog.cellsOf 56 = 1 := by kernel_rfl
@[go_sem] theorem isAgg56 : isAggT Tryd.prog 56 = some false := by kernel_rfl
@[go_sem] theorem ok56 : tyOk Tryd.prog 56 = true := by kernel_rfl
@[go_sem] theorem bytes56 : Tryd.prog.bytesOf 56 = 8 := by kernel_rfl
@[go_sem] theorem zero56 : zeroOf Tryd.prog 56 = some (.p .nilf) := by kernel_rfl
@[go_sem] theorem zeroLen56 : appendA.zeroLen Tryd.prog 56 = 1 := by kernel_rfl
attribute [go_sem] Tryd.underlying59
@[go_sem] theorem cellsOf59 : Tryd.prog.cellsOf 59 = 1 := by kernel_rfl
@[go_sem] theorem isAgg59 : isAggT Tryd.prog 59 = some false := by kernel_rfl
@[go_sem] theorem ok59 : tyOk Tryd.prog 59 = true := by kernel_rfl
@[go_sem] theorem bytes59 : Tryd.prog.bytesOf 59 = 8 := by kernel_rfl
@[go_sem] theorem zero59 : zeroOf Tryd.prog 59 = some (.p .nilf) := by kernel_rfl
@[go_sem] theorem zeroLen59 : appendA.zeroLen Tryd.prog 59 = 1 := by kernel_rfl
attribute [go_sem] Tryd.underlying60
@[go_sem] theorem cellsOf60 : Tryd.prog.cellsOf 60 = 1 := by kernel_rfl
@[go_sem] theorem isAgg60 : isAggT Tryd.prog 60 = some false := by kernel_rfl
@[go_sem] theorem ok60 : tyOk Tryd.prog 60 = true := by kernel_rfl
@[go_sem] theorem bytes60 : Tryd.prog.bytesOf 60 = 8 := by kernel_rfl
@[go_sem] theorem zero60 : zeroOf Tryd.prog 60 = some (.p .nilf) := by kernel_rfl
@[go_sem] theorem zeroLen60 : appendA.zeroLen Tryd.prog 60 = 1 := by kernel_rfl
attribute [go_sem] Tryd.underlying61
@[go_sem] theorem cellsOf61 : Tryd.prog.cellsOf 61 = 1 := by kernel_rfl
@[go_sem] theorem isAgg61 : isAggT Tryd.prog 61 = some false := by kernel_rfl
@[go_sem] theorem ok61 : tyOk Tryd.prog 61 = true := by kernel_rfl
@[go_sem] theorem bytes61 : Tryd.prog.bytesOf 61 = 8 := by kernel_rfl
@[go_sem] theorem zero61 : zeroOf Tryd.prog 61 = some (.p .nilf) := by kernel_rfl
@[go_sem] theorem zeroLen61 : appendA.zeroLen Tryd.prog 61 = 1 := by kernel_rfl
attribute [go_sem] Tryd.underlying62
@[go_sem] theorem cellsOf62 : Tryd.prog.cellsOf 62 = 1 := by kernel_rfl
@[go_sem] theorem isAgg62 : isAggT Tryd.prog 62 = some false := by kernel_rfl
@[go_sem] theorem ok62 : tyOk Tryd.prog 62 = true := by kernel_rfl
@[go_sem] theorem bytes62 : Tryd.prog.bytesOf 62 = 8 := by kernel_rfl
@[go_sem] theorem zero62 : zeroOf Tryd.prog 62 = some (.p .nilf) := by kernel_rfl
@[go_sem] theorem zeroLen62 : appendA.zeroLen Tryd.prog 62 = 1 := by kernel_rfl
attribute [go_sem] Tryd.underlying64
@[go_sem] theorem cellsOf64 : Tryd.prog.cellsOf 64 = 1 := by kernel_rfl
@[go_sem] theorem isAgg64 : isAggT Tryd.prog 64 = some false := by kernel_rfl
@[go_sem] theorem ok64 : tyOk Tryd.prog 64 = true := by kernel_rfl
@[go_sem] theorem bytes64 : Tryd.prog.bytesOf 64 = 24 := by kernel_rfl
@[go_sem] theorem zero64 : zeroOf Tryd.prog 64 = some (.nils) := by kernel_rfl
@[go_sem] theorem zeroLen64 : appendA.zeroLen Tryd.prog 64 = 1 := by kernel_rfl
attribute [go_sem] Tryd.underlying65
@[go_sem] theorem cellsOf65 : Tryd.prog.cellsOf 65 = 1 := by kernel_rfl
@[go_sem] theorem isAgg65 : isAggT Tryd.prog 65 = some false := by kernel_rfl
@[go_sem] theorem ok65 : tyOk Tryd.prog 65 = true := by kernel_rfl
@[go_sem] theorem bytes65 : Tryd.prog.bytesOf 65 = 8 := by kernel_rfl
@[go_sem] theorem zero65 : zeroOf Tryd.prog 65 = some (.p .nilf) := by kernel_rfl
@[go_sem] theorem zeroLen65 : appendA.zeroLen Tryd.prog 65 = 1 := by kernel_rfl
attribute [go_sem] Tryd.underlying66
@[go_sem] theorem cellsOf66 : Tryd.prog.cellsOf 66 = 1 := by kernel_rfl
@[go_sem] theorem isAgg66 : isAggT Tryd.prog 66 = some false := by kernel_rfl
@[go_sem] theorem ok66 : tyOk Tryd.prog 66 = true := by kernel_rfl
@[go_sem] theorem bytes66 : Tryd.prog.bytesOf 66 = 24 := by kernel_rfl
@[go_sem] theorem zero66 : zeroOf Tryd.prog 66 = some (.nils) := by kernel_rfl
@[go_sem] theorem zeroLen66 : appendA.zeroLen Tryd.prog 66 = 1 := by kernel_rfl
attribute [go_sem] Tryd.underlying67
@[go_sem] theorem cellsOf67 : Tryd.prog.cellsOf 67 = 1 := by kernel_rfl
@[go_sem] theorem isAgg67 : isAggT Tryd.prog 67 = some false := by kernel_rfl
@[go_sem] theorem ok67 : tyOk Tryd.prog 67 = true := by kernel_rfl
@[go_sem] theorem bytes67 : Tryd.prog.bytesOf 67 = 24 := by kernel_rfl
@[go_sem] theorem zero67 : zeroOf Tryd.prog 67 = some (.nils) := by kernel_rfl
@[go_sem] theorem zeroLen67 : appendA.zeroLen Tryd.prog 67 = 1 := by kernel_rfl
attribute [go_sem] Tryd.underlying68
@[go_sem] theorem cellsOf68 : Tryd.prog.cellsOf 68 = 1 := by kernel_rfl
@[go_sem] theorem isAgg68 : isAggT Tryd.prog 68 = some false := by kernel_rfl
@[go_sem] theorem ok68 : tyOk Tryd.prog 68 = true := by kernel_rfl
@[go_sem] theorem bytes68 : Tryd.prog.bytesOf 68 = 8 := by kernel_rfl
@[go_sem] theorem zero68 : zeroOf Tryd.prog 68 = some (.p .nilf) := by kernel_rfl
@[go_sem] theorem zeroLen68 : appendA.zeroLen Tryd.prog 68 = 1 := by kernel_rfl
attribute [go_sem] Tryd.underlying69
@[go_sem] theorem cellsOf69 : Tryd.prog.cellsOf 69 = 1 := by kernel_rfl
@[go_sem] theorem isAgg69 : isAggT Tryd.prog 69 = some false := by kernel_rfl
@[go_sem] theorem ok69 : tyOk Tryd.prog 69 = true := by kernel_rfl
@[go_sem] theorem bytes69 : Tryd.prog.bytesOf 69 = 24 := by kernel_rfl
@[go_sem] theorem zero69 : zeroOf Tryd.prog 69 = some (.nils) := by kernel_rfl
@[go_sem] theorem zeroLen69 : appendA.zeroLen Tryd.prog 69 = 1 := by kernel_rfl
attribute [go_sem] Tryd.underlying70
@[go_sem] theorem cellsOf70 : Tryd.prog.cellsOf 70 = 1 := by kernel_rfl
@[go_sem] theorem isAgg70 : isAggT Tryd.prog 70 = some false := by kernel_rfl
@[go_sem] theorem ok70 : tyOk Tryd.prog 70 = true := by kernel_rfl
@[go_sem] theorem bytes70 : Tryd.prog.bytesOf 70 = 8 := by kernel_rfl
@[go_sem] theorem zero70 : zeroOf Tryd.prog 70 = some (.p .nilf) := by kernel_rfl
@[go_sem] theorem zeroLen70 : appendA.zeroLen Tryd.prog 70 = 1 := by kernel_rfl
attribute [go_sem] Tryd.underlying72
@[go_sem] theorem cellsOf72 : Tryd.prog.cellsOf 72 = 1 := by kernel_rfl
@[go_sem] theorem isAgg72 : isAggT Tryd.prog 72 = some false := by kernel_rfl
@[go_sem] theorem ok72 : tyOk Tryd.prog 72 = true := by kernel_rfl
@[go_sem] theorem bytes72 : Tryd.prog.bytesOf 72 = 8 := by kernel_rfl
@[go_sem] theorem zero72 : zeroOf Tryd.prog 72 = some (.p .nilf) := by kernel_rfl
@[go_sem] theorem zeroLen72 : appendA.zeroLen Tryd.prog 72 = 1 := by kernel_rfl
attribute [go_sem] Tryd.underlying75
@[go_sem] theorem cellsOf75 : Tryd.prog.cellsOf 75 = 1 := by kernel_rfl
@[go_sem] theorem isAgg75 : isAggT Tryd.prog 75 = some false := by kernel_rfl
@[go_sem] theorem ok75 : tyOk Tryd.prog 75 = true := by kernel_rfl
@[go_sem] theorem bytes75 : Tryd.prog.bytesOf 75 = 8 := by kernel_rfl
@[go_sem] theorem zero75 : zeroOf Tryd.prog 75 = some (.p (.int .u64 0)) := by kernel_rfl
@[go_sem] theorem zeroLen75 : appendA.zeroLen Tryd.prog 75 = 1 := by kernel_rfl
@[go_sem] theorem eqI75 (d : Nat) (k k' : IntKind) (a b : Int) : eqT Tryd.prog (d + 1) 75 [.int k a] [.int k' b] = if k = k' then some (a == b) else none := eqT_int _ Tryd.underlying75 d k k' a b
attribute [go_sem] Tryd.underlying76
@[go_sem] theorem cellsOf76 : Tryd.prog.cellsOf 76 = 2 := by kernel_rfl
@[go_sem] theorem isAgg76 : isAggT Tryd.prog 76 = some true := by kernel_rfl
@[go_sem] theorem ok76 : tyOk Tryd.prog 76 = true := by kernel_rfl
@[go_sem] theorem bytes76 : Tryd.prog.bytesOf 76 = 16 := by kernel_rfl
@[go_sem] theorem zero76 : zeroOf Tryd.prog 76 = some (.p (.agg [(.int .u64 0), (.int .u64 0)])) := by kernel_rfl
@[go_sem] theorem zeroLen76 : appendA.zeroLen Tryd.prog 76 = 2 := by kernel_rfl
@[go_sem] theorem field76_0 : fieldOff Tryd.prog 76 0 = some 0 := by kernel_rfl
@[go_sem] theorem field76_1 : fieldOff Tryd.prog 76 1 = some 1 := by kernel_rfl
@[go_sem] theorem build76 (parts : List (Nat × AV)) : buildA Tryd.prog 76 parts = (fillG (fun j => [(0, 1), (1, 1)][j]?) [.p (.int .u64 0), .p (.int .u64 0)] parts).map mkAgg :=
  buildA_eq _ _ zero76 rfl (by kernel_rfl) (by kernel_rfl) (by funext j; exact placesA_eq _ _ (by kernel_rfl) j)
@[go_sem] theorem eqS76 (d : Nat) (xs ys : List PV) : eqT Tryd.prog (d + 1) 76 xs ys = eqL (eqT Tryd.prog d) [(75, 0, 1), (75, 1, 1)] xs ys := eqT_struct _ (by kernel_rfl) (by kernel_rfl) (by kernel_rfl) (by kernel_rfl) d xs ys
@[go_sem] theorem eqg76 : Tryd.prog.eqGuardType Tryd.prog.depth 76 = false := by kernel_rfl
attribute [go_sem] Tryd.underlying77
@[go_sem] theorem cellsOf77 : Tryd.prog.cellsOf 77 = 2 := by kernel_rfl
@[go_sem] theorem isAgg77 : isAggT Tryd.prog 77 = some true := by kernel_rfl
@[go_sem] theorem ok77 : tyOk Tryd.prog 77 = true := by kernel_rfl
@[go_sem] theorem bytes77 : Tryd.prog.bytesOf 77 = 16 := by kernel_rfl
@[go_sem] theorem zero77 : zeroOf Tryd.prog 77 = some (.p (.agg [(.int .u64 0), (.int .u64 0)])) := by kernel_rfl
@[go_sem] theorem zeroLen77 : appendA.zeroLen Tryd.prog 77 = 2 := by kernel_rfl
@[go_sem] theorem field77_0 : fieldOff Tryd.prog 77 0 = some 0 := by kernel_rfl
@[go_sem] theorem field77_1 : fieldOff Tryd.prog 77 1 = some 1 := by kernel_rfl
@[go_sem] theorem build77 (parts : List (Nat × AV)) : buildA Tryd.prog 77 parts = (fillG (fun j => [(0, 1), (1, 1)][j]?) [.p (.int .u64 0), .p (.int .u64 0)] parts).map mkAgg :=
  buildA_eq _ _ zero77 rfl (by kernel_rfl) (by kernel_rfl) (by funext j; exact placesA_eq _ _ (by kernel_rfl) j)
@[go_sem] theorem eqS77 (d : Nat) (xs ys : List PV) : eqT Tryd.prog (d + 1) 77 xs ys = eqL (eqT Tryd.prog d) [(75, 0, 1), (75, 1, 1)] xs ys := eqT_struct _ (by kernel_rfl) (by kernel_rfl) (by kernel_rfl) (by kernel_rfl) d xs ys
@[go_sem] theorem eqg77 : Tryd.prog.eqGuardType Tryd.prog.depth 77 = false := by kernel_rfl
attribute [go_sem] Tryd.underlying78
@[go_sem] theorem cellsOf78 : Tryd.prog.cellsOf 78 = 1 := by kernel_rfl
@[go_sem] theorem isAgg78 : isAggT Tryd.prog 78 = some false := by kernel_rfl
@[go_sem] theorem ok78 : tyOk Tryd.prog 78 = true := by kernel_rfl
@[go_sem] theorem bytes78 : Tryd.prog.bytesOf 78 = 8 := by kernel_rfl
@[go_sem] theorem zero78 : zeroOf Tryd.prog 78 = some (.p .nilf) := by kernel_rfl
@[go_sem] theorem zeroLen78 : appendA.zeroLen Tryd.prog 78 = 1 := by kernel_rfl
attribute [go_sem] Tryd.underlying80
@[go_sem] theorem cellsOf80 : Tryd.prog.cellsOf 80 = 1 := by kernel_rfl
@[go_sem] theorem isAgg80 : isAggT Tryd.prog 80 = some false := by kernel_rfl
@[go_sem] theorem ok80 : tyOk Tryd.prog 80 = true := by kernel_rfl
@[go_sem] theorem bytes80 : Tryd.prog.bytesOf 80 = 8 := by kernel_rfl
@[go_sem] theorem zero80 : zeroOf Tryd.prog 80 = some (.p .nilf) := by kernel_rfl
@[go_sem] theorem zeroLen80 : appendA.zeroLen Tryd.prog 80 = 1 := by kernel_rfl
attribute [go_sem] Tryd.underlying81
@[go_sem] theorem cellsOf81 : Tryd.prog.cellsOf 81 = 1 := by kernel_rfl
@[go_sem] theorem isAgg81 : isAggT Tryd.prog 81 = some false := by kernel_rfl
@[go_sem] theorem ok81 : tyOk Tryd.prog 81 = true := by kernel_rfl
@[go_sem] theorem bytes81 : Tryd.prog.bytesOf 81 = 24 := by kernel_rfl
@[go_sem] theorem zero81 : zeroOf Tryd.prog 81 = some (.nils) := by kernel_rfl
@[go_sem] theorem zeroLen81 : appendA.zeroLen Tryd.prog 81 = 1 := by kernel_rfl
attribute [go_sem] Tryd.underlying82
@[go_sem] theorem cellsOf82 : Tryd.prog.cellsOf 82 = 3 := by kernel_rfl
@[go_sem] theorem isAgg82 : isAggT Tryd.prog 82 = some true := by kernel_rfl
@[go_sem] theorem ok82 : tyOk Tryd.prog 82 = true := by kernel_rfl
@[go_sem] theorem bytes82 : Tryd.prog.bytesOf 82 = 32 := by kernel_rfl
@[go_sem] theorem zero82 : zeroOf Tryd.prog 82 = some (.p (.agg [(.int .i64 0), (.int .i64 0), (.str [])])) := by kernel_rfl
@[go_sem] theorem zeroLen82 : appendA.zeroLen Tryd.prog 82 = 3 := by kernel_rfl
@[go_sem] theorem field82_0 : fieldOff Tryd.prog 82 0 = some 0 := by kernel_rfl
@[go_sem] theorem field82_1 : fieldOff Tryd.prog 82 1 = some 1 := by kernel_rfl
@[go_sem] theorem field82_2 : fieldOff Tryd.prog 82 2 = some 2 := by kernel_rfl
@[go_sem] theorem build82 (parts : List (Nat × AV)) : buildA Tryd.prog 82 parts = (fillG (fun j => [(0, 1), (1, 1), (2, 1)][j]?) [.p (.int .i64 0), .p (.int .i64 0), .p (.str [])] parts).map mkAgg :=
  buildA_eq _ _ zero82 rfl (by kernel_rfl) (by kernel_rfl) (by funext j; exact placesA_eq _ _ (by kernel_rfl) j)
@[go_sem] theorem eqS82 (d : Nat) (xs ys : List PV) : eqT Tryd.prog (d + 1) 82 xs ys = eqL (eqT Tryd.prog d) [(3, 0, 1), (2, 1, 1), (9, 2, 1)] xs ys := eqT_struct _ (by kernel_rfl) (by kernel_rfl) (by kernel_rfl) (by kernel_rfl) d xs ys
@[go_sem] theorem eqg82 : Tryd.prog.eqGuardType Tryd.prog.depth 82 = false := by kernel_rfl
attribute [go_sem] Tryd.underlying83
@[go_sem] theorem cellsOf83 : Tryd.prog.cellsOf 83 = 3 := by kernel_rfl
@[go_sem] theorem isAgg83 : isAggT Tryd.prog 83 = some true := by kernel_rfl
@[go_sem] theorem ok83 : tyOk Tryd.prog 83 = true := by kernel_rfl
@[go_sem] theorem bytes83 : Tryd.prog.bytesOf 83 = 32 := by kernel_rfl
@[go_sem] theorem zero83 : zeroOf Tryd.prog 83 = some (.p (.agg [(.int .i64 0), (.int .i64 0), (.str [])])) := by kernel_rfl
@[go_sem] theorem zeroLen83 : appendA.zeroLen Tryd.prog 83 = 3 := by kernel_rfl
@[go_sem] theorem field83_0 : fieldOff Tryd.prog 83 0 = some 0 := by kernel_rfl
@[go_sem] theorem field83_1 : fieldOff Tryd.prog 83 1 = some 1 := by kernel_rfl
@[go_sem] theorem field83_2 : fieldOff Tryd.prog 83 2 = some 2 := by kernel_rfl
@[go_sem] theorem build83 (parts : List (Nat × AV)) : buildA Tryd.prog 83 parts = (fillG (fun j => [(0, 1), (1, 1), (2, 1)][j]?) [.p (.int .i64 0), .p (.int .i64 0), .p (.str [])] parts).map mkAgg :=
  buildA_eq _ _ zero83 rfl (by kernel_rfl) (by kernel_rfl) (by funext j; exact placesA_eq _ _ (by kernel_rfl) j)
@[go_sem] theorem eqS83 (d : Nat) (xs ys : List PV) : eqT Tryd.prog (d + 1) 83 xs ys = eqL (eqT Tryd.prog d) [(3, 0, 1), (2, 1, 1), (9, 2, 1)] xs ys := eqT_struct _ (by kernel_rfl) (by kernel_rfl) (by kernel_rfl) (by kernel_rfl) d xs ys
@[go_sem] theorem eqg83 : Tryd.prog.eqGuardType Tryd.prog.depth 83 = false := by kernel_rfl
attribute [go_sem] Tryd.underlying87
@[go_sem] theorem cellsOf87 : Tryd.prog.cellsOf 87 = 1 := by kernel_rfl
@[go_sem] theorem isAgg87 : isAggT Tryd.prog 87 = some false := by kernel_rfl
@[go_sem] theorem ok87 : tyOk Tryd.prog 87 = true := by kernel_rfl
@[go_sem] theorem bytes87 : Tryd.prog.bytesOf 87 = 8 := by kernel_rfl
@[go_sem] theorem zero87 : zeroOf Tryd.prog 87 = some (.p .nilf) := by kernel_rfl
@[go_sem] theorem zeroLen87 : appendA.zeroLen Tryd.prog 87 = 1 := by kernel_rfl
attribute [go_sem] Tryd.underlying90
@[go_sem] theorem cellsOf90 : Tryd.prog.cellsOf 90 = 1 := by kernel_rfl
@[go_sem] theorem isAgg90 : isAggT Tryd.prog 90 = some false := by kernel_rfl
@[go_sem] theorem ok90 : tyOk Tryd.prog 90 = true := by kernel_rfl
@[go_sem] theorem bytes90 : Tryd.prog.bytesOf 90 = 24 := by kernel_rfl
@[go_sem] theorem zero90 : zeroOf Tryd.prog 90 = some (.nils) := by kernel_rfl
@[go_sem] theorem zeroLen90 : appendA.zeroLen Tryd.prog 90 = 1 := by kernel_rfl
attribute [go_sem] Tryd.underlying92
@[go_sem] theorem cellsOf92 : Tryd.prog.cellsOf 92 = 2 := by kernel_rfl
@[go_sem] theorem isAgg92 : isAggT Tryd.prog 92 = some true := by kernel_rfl
@[go_sem] theorem ok92 : tyOk Tryd.prog 92 = true := by kernel_rfl
@[go_sem] theorem bytes92 : Tryd.prog.bytesOf 92 = 32 := by kernel_rfl
@[go_sem] theorem zero92 : zeroOf Tryd.prog 92 = some (.agg [.p (.int .i64 0), .nils]) := by kernel_rfl
@[go_sem] theorem zeroLen92 : appendA.zeroLen Tryd.prog 92 = 2 := by kernel_rfl
@[go_sem] theorem field92_0 : fieldOff Tryd.prog 92 0 = some 0 := by kernel_rfl
@[go_sem] theorem field92_1 : fieldOff Tryd.prog 92 1 = some 1 := by kernel_rfl
@[go_sem] theorem build92 (parts : List (Nat × AV)) : buildA Tryd.prog 92 parts = (fillG (fun j => [(0, 1), (1, 1)][j]?) [.p (.int .i64 0), .nils] parts).map mkAgg :=
  buildA_eq _ _ zero92 rfl (by kernel_rfl) (by kernel_rfl) (by funext j; exact placesA_eq _ _ (by kernel_rfl) j)
attribute [go_sem] Tryd.underlying93
@[go_sem] theorem cellsOf93 : Tryd.prog.cellsOf 93 = 2 := by kernel_rfl
@[go_sem] theorem isAgg93 : isAggT Tryd.prog 93 = some true := by kernel_rfl
@[go_sem] theorem ok93 : tyOk Tryd.prog 93 = true := by kernel_rfl
@[go_sem] theorem bytes93 : Tryd.prog.bytesOf 93 = 32 := by kernel_rfl
@[go_sem] theorem zero93 : zeroOf Tryd.prog 93 = some (.agg [.p (.int .i64 0), .nils]) := by kernel_rfl
@[go_sem] theorem zeroLen93 : appendA.zeroLen Tryd.prog 93 = 2 := by kernel_rfl
@[go_sem] theorem field93_0 : fieldOff Tryd.prog 93 0 = some 0 := by kernel_rfl
@[go_sem] theorem field93_1 : fieldOff Tryd.prog 93 1 = some 1 := by kernel_rfl
@[go_sem] theorem build93 (parts : List (Nat × AV)) : buildA Tryd.prog 93 parts = (fillG (fun j => [(0, 1), (1, 1)][j]?) [.p (.int .i64 0), .nils] parts).map mkAgg :=
  buildA_eq _ _ zero93 rfl (by kernel_rfl) (by kernel_rfl) (by funext j; exact placesA_eq _ _ (by kernel_rfl) j)
attribute [go_sem] Tryd.underlying96
@[go_sem] theorem cellsOf96 : Tryd.prog.cellsOf 96 = 1 := by kernel_rfl
@[go_sem] theorem isAgg96 : isAggT Tryd.prog 96 = some false := by kernel_rfl
@[go_sem] theorem ok96 : tyOk Tryd.prog 96 = true := by kernel_rfl
@[go_sem] theorem bytes96 : Tryd.prog.bytesOf 96 = 8 := by kernel_rfl
@[go_sem] theorem zero96 : zeroOf Tryd.prog 96 = some (.p (.mapv [] [])) := by kernel_rfl
@[go_sem] theorem zeroLen96 : appendA.zeroLen Tryd.prog 96 = 1 := by kernel_rfl
attribute [go_sem] Tryd.underlying98
@[go_sem] theorem cellsOf98 : Tryd.prog.cellsOf 98 = 1 := by kernel_rfl
@[go_sem] theorem isAgg98 : isAggT Tryd.prog 98 = some false := by kernel_rfl
@[go_sem] theorem ok98 : tyOk Tryd.prog 98 = true := by kernel_rfl
@[go_sem] theorem bytes98 : Tryd.prog.bytesOf 98 = 8 := by kernel_rfl
@[go_sem] theorem zero98 : zeroOf Tryd.prog 98 = some (.p .nilf) := by kernel_rfl
@[go_sem] theorem zeroLen98 : appendA.zeroLen Tryd.prog 98 = 1 := by kernel_rfl
attribute [go_sem] Tryd.underlying100
@[go_sem] theorem cellsOf100 : Tryd.prog.cellsOf 100 = 1 := by kernel_rfl
@[go_sem] theorem isAgg100 : isAggT Tryd.prog 100 = some false := by kernel_rfl
@[go_sem] theorem ok100 : tyOk Tryd.prog 100 = true := by kernel_rfl
@[go_sem] theorem bytes100 : Tryd.prog.bytesOf 100 = 8 := by kernel_rfl
@[go_sem] theorem zero100 : zeroOf Tryd.prog 100 = some (.p (.int .u64 0)) := by kernel_rfl
@[go_sem] theorem zeroLen100 : appendA.zeroLen Tryd.prog 100 = 1 := by kernel_rfl
@[go_sem] theorem eqI100 (d : Nat) (k k' : IntKind) (a b : Int) : eqT Tryd.prog (d + 1) 100 [.int k a] [.int k' b] = if k = k' then some (a == b) else none := eqT_int _ Tryd.underlying100 d k k' a b
attribute [go_sem] Tryd.underlying103
@[go_sem] theorem cellsOf103 : Tryd.prog.cellsOf 103 = 1 := by kernel_rfl
@[go_sem] theorem isAgg103 : isAggT Tryd.prog 103 = some false := by kernel_rfl
@[go_sem] theorem ok103 : tyOk Tryd.prog 103 = true := by kernel_rfl
@[go_sem] theorem bytes103 : Tryd.prog.bytesOf 103 = 8 := by kernel_rfl
@[go_sem] theorem zero103 : zeroOf Tryd.prog 103 = some (.p .nilf) := by kernel_rfl
@[go_sem] theorem zeroLen103 : appendA.zeroLen Tryd.prog 103 = 1 := by kernel_rfl
attribute [go_sem] Tryd.underlying112
@[go_sem] theorem cellsOf112 : Tryd.prog.cellsOf 112 = 1 := by kernel_rfl
@[go_sem] theorem isAgg112 : isAggT Tryd.prog 112 = some false := by kernel_rfl
@[go_sem] theorem ok112 : tyOk Tryd.prog 112 = true := by kernel_rfl
@[go_sem] theorem bytes112 : Tryd.prog.bytesOf 112 = 8 := by kernel_rfl
@[go_sem] theorem zero112 : zeroOf Tryd.prog 112 = some (.p .nilf) := by kernel_rfl
@[go_sem] theorem zeroLen112 : appendA.zeroLen Tryd.prog 112 = 1 := by kernel_rfl
attribute [go_sem] Tryd.underlying113
@[go_sem] theorem cellsOf113 : Tryd.prog.cellsOf 113 = 1 := by kernel_rfl
@[go_sem] theorem isAgg113 : isAggT Tryd.prog 113 = some false := by kernel_rfl
@[go_sem] theorem ok113 : tyOk Tryd.prog 113 = true := by kernel_rfl
@[go_sem] theorem bytes113 : Tryd.prog.bytesOf 113 = 8 := by kernel_rfl
@[go_sem] theorem zero113 : zeroOf Tryd.prog 113 = some (.p (.int .i64 0)) := by kernel_rfl
@[go_sem] theorem zeroLen113 : appendA.zeroLen Tryd.prog 113 = 1 := by kernel_rfl
@[go_sem] theorem eqI113 (d : Nat) (k k' : IntKind) (a b : Int) : eqT Tryd.prog (d + 1) 113 [.int k a] [.int k' b] = if k = k' then some (a == b) else none := eqT_int _ Tryd.underlying113 d k k' a b
attribute [go_sem] Tryd.underlying116
@[go_sem] theorem cellsOf116 : Tryd.prog.cellsOf 116 = 1 := by kernel_rfl
@[go_sem] theorem isAgg116 : isAggT Tryd.prog 116 = some false := by kernel_rfl
@[go_sem] theorem ok116 : tyOk Tryd.prog 116 = true := by kernel_rfl
@[go_sem] theorem bytes116 : Tryd.prog.bytesOf 116 = 8 := by kernel_rfl
@[go_sem] theorem zero116 : zeroOf Tryd.prog 116 = some (.p .nilf) := by kernel_rfl
@[go_sem] theorem zeroLen116 : appendA.zeroLen Tryd.prog 116 = 1 := by kernel_rfl
attribute [go_sem] Tryd.underlying129
@[go_sem] theorem cellsOf129 : Tryd.prog.cellsOf 129 = 1 := by kernel_rfl
@[go_sem] theorem isAgg129 : isAggT Tryd.prog 129 = some false := by kernel_rfl
@[go_sem] theorem ok129 : tyOk Tryd.prog 129 = true := by kernel_rfl
@[go_sem] theorem bytes129 : Tryd.prog.bytesOf 129 = 8 := by kernel_rfl
@[go_sem] theorem zero129 : zeroOf Tryd.prog 129 = some (.p .nilf) := by kernel_rfl
@[go_sem] theorem zeroLen129 : appendA.zeroLen Tryd.prog 129 = 1 := by kernel_rfl
attribute [go_sem] Tryd.underlying133
@[go_sem] theorem cellsOf133 : Tryd.prog.cellsOf 133 = 1 := by kernel_rfl
@[go_sem] theorem isAgg133 : isAggT Tryd.prog 133 = some false := by kernel_rfl
@[go_sem] theorem ok133 : tyOk Tryd.prog 133 = true := by kernel_rfl
@[go_sem] theorem bytes133 : Tryd.prog.bytesOf 133 = 8 := by kernel_rfl
@[go_sem] theorem zero133 : zeroOf Tryd.prog 133 = some (.p .nilf) := by kernel_rfl
@[go_sem] theorem zeroLen133 : appendA.zeroLen Tryd.prog 133 = 1 := by kernel_rfl
attribute [go_sem] Tryd.underlying134
@[go_sem] theorem cellsOf134 : Tryd.prog.cellsOf 134 = 1 := by kernel_rfl
@[go_sem] theorem isAgg134 : isAggT Tryd.prog 134 = some false := by kernel_rfl
@[go_sem] theorem ok134 : tyOk Tryd.prog 134 = true := by kernel_rfl
@[go_sem] theorem bytes134 : Tryd.prog.bytesOf 134 = 8 := by kernel_rfl
@[go_sem] theorem zero134 : zeroOf Tryd.prog 134 = some (.p .nilf) := by kernel_rfl
@[go_sem] theorem zeroLen134 : appendA.zeroLen Tryd.prog 134 = 1 := by kernel_rfl
attribute [go_sem] Tryd.underlying135
@[go_sem] theorem cellsOf135 : Tryd.prog.cellsOf 135 = 1 := by kernel_rfl
@[go_sem] theorem isAgg135 : isAggT Tryd.prog 135 = some false := by kernel_rfl
@[go_sem] theorem ok135 : tyOk Tryd.prog 135 = true := by kernel_rfl
@[go_sem] theorem bytes135 : Tryd.prog.bytesOf 135 = 8 := by kernel_rfl
@[go_sem] theorem zero135 : zeroOf Tryd.prog 135 = some (.p .nilp) := by kernel_rfl
@[go_sem] theorem zeroLen135 : appendA.zeroLen Tryd.prog 135 = 1 := by kernel_rfl
attribute [go_sem] Tryd.underlying136
@[go_sem] theorem cellsOf136 : Tryd.prog.cellsOf 136 = 2 := by kernel_rfl
@[go_sem] theorem isAgg136 : isAggT Tryd.prog 136 = some true := by kernel_rfl
@[go_sem] theorem ok136 : tyOk Tryd.prog 136 = true := by kernel_rfl
@[go_sem] theorem bytes136 : Tryd.prog.bytesOf 136 = 32 := by kernel_rfl
@[go_sem] theorem zero136 : zeroOf Tryd.prog 136 = some (.agg [.p .nilp, .nils]) := by kernel_rfl
@[go_sem] theorem zeroLen136 : appendA.zeroLen Tryd.prog 136 = 2 := by kernel_rfl
@[go_sem] theorem field136_0 : fieldOff Tryd.prog 136 0 = some 0 := by kernel_rfl
@[go_sem] theorem field136_1 : fieldOff Tryd.prog 136 1 = some 1 := by kernel_rfl
@[go_sem] theorem build136 (parts : List (Nat × AV)) : buildA Tryd.prog 136 parts = (fillG (fun j => [(0, 1), (1, 1)][j]?) [.p .nilp, .nils] parts).map mkAgg :=
  buildA_eq _ _ zero136 rfl (by kernel_rfl) (by kernel_rfl) (by funext j; exact placesA_eq _ _ (by kernel_rfl) j)
attribute [go_sem] Tryd.underlying137
@[go_sem] theorem cellsOf137 : Tryd.prog.cellsOf 137 = 2 := by kernel_rfl
@[go_sem] theorem isAgg137 : isAggT Tryd.prog 137 = some true := by kernel_rfl
@[go_sem] theorem ok137 : tyOk Tryd.prog 137 = true := by kernel_rfl
@[go_sem] theorem bytes137 : Tryd.prog.bytesOf 137 = 32 := by kernel_rfl
@[go_sem] theorem zero137 : zeroOf Tryd.prog 137 = some (.agg [.p .nilp, .nils]) := by kernel_rfl
@[go_sem] theorem zeroLen137 : appendA.zeroLen Tryd.prog 137 = 2 := by kernel_rfl
@[go_sem] theorem field137_0 : fieldOff Tryd.prog 137 0 = some 0 := by kernel_rfl
@[go_sem] theorem field137_1 : fieldOff Tryd.prog 137 1 = some 1 := by kernel_rfl
@[go_sem] theorem build137 (parts : List (Nat × AV)) : buildA Tryd.prog 137 parts = (fillG (fun j => [(0, 1), (1, 1)][j]?) [.p .nilp, .nils] parts).map mkAgg :=
  buildA_eq _ _ zero137 rfl (by kernel_rfl) (by kernel_rfl) (by funext j; exact placesA_eq _ _ (by kernel_rfl) j)
attribute [go_sem] Tryd.underlying140
@[go_sem] theorem cellsOf140 : Tryd.prog.cellsOf 140 = 1 := by kernel_rfl
@[go_sem] theorem isAgg140 : isAggT Tryd.prog 140 = some false := by kernel_rfl
@[go_sem] theorem ok140 : tyOk Tryd.prog 140 = true := by kernel_rfl
@[go_sem] theorem bytes140 : Tryd.prog.bytesOf 140 = 16 := by kernel_rfl
@[go_sem] theorem zero140 : zeroOf Tryd.prog 140 = some (.p .nili) := by kernel_rfl
@[go_sem] theorem zeroLen140 : appendA.zeroLen Tryd.prog 140 = 1 := by kernel_rfl
attribute [go_sem] Tryd.underlying141
@[go_sem] theorem cellsOf141 : Tryd.prog.cellsOf 141 = 1 := by kernel_rfl
@[go_sem] theorem isAgg141 : isAggT Tryd.prog 141 = some false := by kernel_rfl
@[go_sem] theorem ok141 : tyOk Tryd.prog 141 = true := by kernel_rfl
@[go_sem] theorem bytes141 : Tryd.prog.bytesOf 141 = 16 := by kernel_rfl
@[go_sem] theorem zero141 : zeroOf Tryd.prog 141 = some (.p .nili) := by kernel_rfl
@[go_sem] theorem zeroLen141 : appendA.zeroLen Tryd.prog 141 = 1 := by kernel_rfl
attribute [go_sem] Tryd.underlying146
@[go_sem] theorem cellsOf146 : Tryd.prog.cellsOf 146 = 1 := by kernel_rfl
@[go_sem] theorem isAgg146 : isAggT Tryd.prog 146 = some false := by kernel_rfl
@[go_sem] theorem ok146 : tyOk Tryd.prog 146 = true := by kernel_rfl
@[go_sem] theorem bytes146 : Tryd.prog.bytesOf 146 = 8 := by kernel_rfl
@[go_sem] theorem zero146 : zeroOf Tryd.prog 146 = some (.p (.int .u64 0)) := by kernel_rfl
@[go_sem] theorem zeroLen146 : appendA.zeroLen Tryd.prog 146 = 1 := by kernel_rfl
@[go_sem] theorem eqI146 (d : Nat) (k k' : IntKind) (a b : Int) : eqT Tryd.prog (d + 1) 146 [.int k a] [.int k' b] = if k = k' then some (a == b) else none := eqT_int _ Tryd.underlying146 d k k' a b
attribute [go_sem] Tryd.underlying150
@[go_sem] theorem cellsOf150 : Tryd.prog.cellsOf 150 = 1 := by kernel_rfl
@[go_sem] theorem isAgg150 : isAggT Tryd.prog 150 = some false := by kernel_rfl
@[go_sem] theorem ok150 : tyOk Tryd.prog 150 = true := by kernel_rfl
@[go_sem] theorem bytes150 : Tryd.prog.bytesOf 150 = 8 := by kernel_rfl
@[go_sem] theorem zero150 : zeroOf Tryd.prog 150 = some (.p .nilp) := by kernel_rfl
@[go_sem] theorem zeroLen150 : appendA.zeroLen Tryd.prog 150 = 1 := by kernel_rfl
attribute [go_sem] Tryd.underlying157
@[go_sem] theorem cellsOf157 : Tryd.prog.cellsOf 157 = 1 := by kernel_rfl
@[go_sem] theorem isAgg157 : isAggT Tryd.prog 157 = some false := by kernel_rfl
@[go_sem] theorem ok157 : tyOk Tryd.prog 157 = true := by kernel_rfl
@[go_sem] theorem bytes157 : Tryd.prog.bytesOf 157 = 8 := by kernel_rfl
@[go_sem] theorem zero157 : zeroOf Tryd.prog 157 = some (.p .nilp) := by kernel_rfl
@[go_sem] theorem zeroLen157 : appendA.zeroLen Tryd.prog 157 = 1 := by kernel_rfl
attribute [go_sem] Tryd.underlying158
@[go_sem] theorem cellsOf158 : Tryd.prog.cellsOf 158 = 1 := by kernel_rfl
@[go_sem] theorem isAgg158 : isAggT Tryd.prog 158 = some false := by kernel_rfl
@[go_sem] theorem ok158 : tyOk Tryd.prog 158 = true := by kernel_rfl
@[go_sem] theorem bytes158 : Tryd.prog.bytesOf 158 = 8 := by kernel_rfl
@[go_sem] theorem zero158 : zeroOf Tryd.prog 158 = some (.p (.mapv [] [])) := by kernel_rfl
@[go_sem] theorem zeroLen158 : appendA.zeroLen Tryd.prog 158 = 1 := by kernel_rfl
attribute [go_sem] Tryd.underlying160
@[go_sem] theorem cellsOf160 : Tryd.prog.cellsOf 160 = 1 := by kernel_rfl
@[go_sem] theorem isAgg160 : isAggT Tryd.prog 160 = some false := by kernel_rfl
@[go_sem] theorem ok160 : tyOk Tryd.prog 160 = true := by kernel_rfl
@[go_sem] theorem bytes160 : Tryd.prog.bytesOf 160 = 8 := by kernel_rfl
@[go_sem] theorem zero160 : zeroOf Tryd.prog 160 = some (.p .nilf) := by kernel_rfl
@[go_sem] theorem zeroLen160 : appendA.zeroLen Tryd.prog 160 = 1 := by kernel_rfl
attribute [go_sem] Tryd.underlying161
@[go_sem] theorem cellsOf161 : Tryd.prog.cellsOf 161 = 1 := by kernel_rfl
@[go_sem] theorem isAgg161 : isAggT Tryd.prog 161 = some false := by kernel_rfl
@[go_sem] theorem ok161 : tyOk Tryd.prog 161 = true := by kernel_rfl
@[go_sem] theorem bytes161 : Tryd.prog.bytesOf 161 = 8 := by kernel_rfl
@[go_sem] theorem zero161 : zeroOf Tryd.prog 161 = some (.p .nilp) := by kernel_rfl
@[go_sem] theorem zeroLen161 : appendA.zeroLen Tryd.prog 161 = 1 := by kernel_rfl
attribute [go_sem] Tryd.underlying165
@[go_sem] theorem cellsOf165 : Tryd.prog.cellsOf 165 = 32 := by kernel_rfl
@[go_sem] theorem isAgg165 : isAggT Tryd.prog 165 = some true := by kernel_rfl
@[go_sem] theorem ok165 : tyOk Tryd.prog 165 = true := by kernel_rfl
@[go_sem] theorem bytes165 : Tryd.prog.bytesOf 165 = 32 := by kernel_rfl
@[go_sem] theorem zero165 : zeroOf Tryd.prog 165 = some (.p (.agg [(.int .u8 0), (.int .u8 0), (.int .u8 0), (.int .u8 0), (.int .u8 0), (.int .u8 0), (.int .u8 0), (.int .u8 0), (.int .u8 0), (.int .u8 0), (.int .u8 0), (.int .u8 0), (.int .u8 0), (.int .u8 0), (.int .u8 0), (.int .u8 0), (.int .u8 0), (.int .u8 0), (.int .u8 0), (.int .u8 0), (.int .u8 0), (.int .u8 0), (.int .u8 0), (.int .u8 0), (.int .u8 0), (.int .u8 0), (.int .u8 0), (.int .u8 0), (.int .u8 0), (.int .u8 0), (.int .u8 0), (.int .u8 0)])) := by kernel_rfl
@[go_sem] theorem zeroLen165 : appendA.zeroLen Tryd.prog 165 = 32 := by kernel_rfl
attribute [go_sem] Tryd.underlying169
@[go_sem] theorem cellsOf169 : Tryd.prog.cellsOf 169 = 4 := by kernel_rfl
@[go_sem] theorem isAgg169 : isAggT Tryd.prog 169 = some true := by kernel_rfl
@[go_sem] theorem ok169 : tyOk Tryd.prog 169 = true := by kernel_rfl
@[go_sem] theorem bytes169 : Tryd.prog.bytesOf 169 = 40 := by kernel_rfl
@[go_sem] theorem zero169 : zeroOf Tryd.prog 169 = some (.p (.agg [.nilp, .nilp, .nilp, (.str [])])) := by kernel_rfl
@[go_sem] theorem zeroLen169 : appendA.zeroLen Tryd.prog 169 = 4 := by kernel_rfl
@[go_sem] theorem field169_0 : fieldOff Tryd.prog 169 0 = some 0 := by kernel_rfl
@[go_sem] theorem field169_1 : fieldOff Tryd.prog 169 1 = some 1 := by kernel_rfl
@[go_sem] theorem field169_2 : fieldOff Tryd.prog 169 2 = some 2 := by kernel_rfl
@[go_sem] theorem field169_3 : fieldOff Tryd.prog 169 3 = some 3 := by kernel_rfl
@[go_sem] theorem build169 (parts : List (Nat × AV)) : buildA Tryd.prog 169 parts = (fillG (fun j => [(0, 1), (1, 1), (2, 1), (3, 1)][j]?) [.p .nilp, .p .nilp, .p .nilp, .p (.str [])] parts).map mkAgg :=
  buildA_eq _ _ zero169 rfl (by kernel_rfl) (by kernel_rfl) (by funext j; exact placesA_eq _ _ (by kernel_rfl) j)
attribute [go_sem] Tryd.underlying170
@[go_sem] theorem cellsOf170 : Tryd.prog.cellsOf 170 = 4 := by kernel_rfl
@[go_sem] theorem isAgg170 : isAggT Tryd.prog 170 = some true := by kernel_rfl
@[go_sem] theorem ok170 : tyOk Tryd.prog 170 = true := by kernel_rfl
@[go_sem] theorem bytes170 : Tryd.prog.bytesOf 170 = 40 := by kernel_rfl
@[go_sem] theorem zero170 : zeroOf Tryd.prog 170 = some (.p (.agg [.nilp, .nilp, .nilp, (.str [])])) := by kernel_rfl
@[go_sem] theorem zeroLen170 : appendA.zeroLen Tryd.prog 170 = 4 := by kernel_rfl
@[go_sem] theorem field170_0 : fieldOff Tryd.prog 170 0 = some 0 := by kernel_rfl
@[go_sem] theorem field170_1 : fieldOff Tryd.prog 170 1 = some 1 := by kernel_rfl
@[go_sem] theorem field170_2 : fieldOff Tryd.prog 170 2 = some 2 := by kernel_rfl
@[go_sem] theorem field170_3 : fieldOff Tryd.prog 170 3 = some 3 := by kernel_rfl
@[go_sem] theorem build170 (parts : List (Nat × AV)) : buildA Tryd.prog 170 parts = (fillG (fun j => [(0, 1), (1, 1), (2, 1), (3, 1)][j]?) [.p .nilp, .p .nilp, .p .nilp, .p (.str [])] parts).map mkAgg :=
  buildA_eq _ _ zero170 rfl (by kernel_rfl) (by kernel_rfl) (by funext j; exact placesA_eq _ _ (by kernel_rfl) j)
attribute [go_sem] Tryd.underlying171
@[go_sem] theorem cellsOf171 : Tryd.prog.cellsOf 171 = 0 := by kernel_rfl
@[go_sem] theorem isAgg171 : isAggT Tryd.prog 171 = some true := by kernel_rfl
@[go_sem] theorem ok171 : tyOk Tryd.prog 171 = true := by kernel_rfl
@[go_sem] theorem bytes171 : Tryd.prog.bytesOf 171 = 0 := by kernel_rfl
@[go_sem] theorem zero171 : zeroOf Tryd.prog 171 = some (.p (.agg [])) := by kernel_rfl
@[go_sem] theorem zeroLen171 : appendA.zeroLen Tryd.prog 171 = 0 := by kernel_rfl
attribute [go_sem] Tryd.underlying172
@[go_sem] theorem cellsOf172 : Tryd.prog.cellsOf 172 = 0 := by kernel_rfl
@[go_sem] theorem isAgg172 : isAggT Tryd.prog 172 = some true := by kernel_rfl
@[go_sem] theorem ok172 : tyOk Tryd.prog 172 = true := by kernel_rfl
@[go_sem] theorem bytes172 : Tryd.prog.bytesOf 172 = 0 := by kernel_rfl
@[go_sem] theorem zero172 : zeroOf Tryd.prog 172 = some (.p (.agg [])) := by kernel_rfl
@[go_sem] theorem zeroLen172 : appendA.zeroLen Tryd.prog 172 = 0 := by kernel_rfl
@[go_sem] theorem build172 (parts : List (Nat × AV)) : buildA Tryd.prog 172 parts = (fillG (fun j => [(0, 0)][j]?) [] parts).map mkAgg :=
  buildA_eq _ _ zero172 rfl (by kernel_rfl) (by kernel_rfl) (by funext j; exact placesA_eq _ _ (by kernel_rfl) j)
attribute [go_sem] Tryd.underlying173
@[go_sem] theorem cellsOf173 : Tryd.prog.cellsOf 173 = 0 := by kernel_rfl
@[go_sem] theorem isAgg173 : isAggT Tryd.prog 173 = some true := by kernel_rfl
@[go_sem] theorem ok173 : tyOk Tryd.prog 173 = true := by kernel_rfl
@[go_sem] theorem bytes173 : Tryd.prog.bytesOf 173 = 0 := by kernel_rfl
@[go_sem] theorem zero173 : zeroOf Tryd.prog 173 = some (.p (.agg [])) := by kernel_rfl
@[go_sem] theorem zeroLen173 : appendA.zeroLen Tryd.prog 173 = 0 := by kernel_rfl
@[go_sem] theorem build173 (parts : List (Nat × AV)) : buildA Tryd.prog 173 parts = (fillG (fun j => [(0, 0)][j]?) [] parts).map mkAgg :=
  buildA_eq _ _ zero173 rfl (by kernel_rfl) (by kernel_rfl) (by funext j; exact placesA_eq _ _ (by kernel_rfl) j)
attribute [go_sem] Tryd.underlying174
@[go_sem] theorem cellsOf174 : Tryd.prog.cellsOf 174 = 1 := by kernel_rfl
@[go_sem] theorem isAgg174 : isAggT Tryd.prog 174 = some false := by kernel_rfl
@[go_sem] theorem ok174 : tyOk Tryd.prog 174 = true := by kernel_rfl
@[go_sem] theorem bytes174 : Tryd.prog.bytesOf 174 = 1 := by kernel_rfl
@[go_sem] theorem zero174 : zeroOf Tryd.prog 174 = some (.p (.int .u8 0)) := by kernel_rfl
@[go_sem] theorem zeroLen174 : appendA.zeroLen Tryd.prog 174 = 1 := by kernel_rfl
@[go_sem] theorem eqI174 (d : Nat) (k k' : IntKind) (a b : Int) : eqT Tryd.prog (d + 1) 174 [.int k a] [.int k' b] = if k = k' then some (a == b) else none := eqT_int _ Tryd.underlying174 d k k' a b
attribute [go_sem] Tryd.underlying175
@[go_sem] theorem cellsOf175 : Tryd.prog.cellsOf 175 = 1 := by kernel_rfl
@[go_sem] theorem isAgg175 : isAggT Tryd.prog 175 = some false := by kernel_rfl
@[go_sem] theorem ok175 : tyOk Tryd.prog 175 = true := by kernel_rfl
@[go_sem] theorem bytes175 : Tryd.prog.bytesOf 175 = 1 := by kernel_rfl
@[go_sem] theorem zero175 : zeroOf Tryd.prog 175 = some (.p (.int .u8 0)) := by kernel_rfl
@[go_sem] theorem zeroLen175 : appendA.zeroLen Tryd.prog 175 = 1 := by kernel_rfl
@[go_sem] theorem eqI175 (d : Nat) (k k' : IntKind) (a b : Int) : eqT Tryd.prog (d + 1) 175 [.int k a] [.int k' b] = if k = k' then some (a == b) else none := eqT_int _ Tryd.underlying175 d k k' a b
attribute [go_sem] Tryd.underlying176
@[go_sem] theorem cellsOf176 : Tryd.prog.cellsOf 176 = 1 := by kernel_rfl
@[go_sem] theorem isAgg176 : isAggT Tryd.prog 176 = some false := by kernel_rfl
@[go_sem] theorem ok176 : tyOk Tryd.prog 176 = true := by kernel_rfl
@[go_sem] theorem bytes176 : Tryd.prog.bytesOf 176 = 8 := by kernel_rfl
@[go_sem] theorem zero176 : zeroOf Tryd.prog 176 = some (.p .nilf) := by kernel_rfl
@[go_sem] theorem zeroLen176 : appendA.zeroLen Tryd.prog 176 = 1 := by kernel_rfl
attribute [go_sem] Tryd.underlying177
@[go_sem] theorem cellsOf177 : Tryd.prog.cellsOf 177 = 1 := by kernel_rfl
@[go_sem] theorem isAgg177 : isAggT Tryd.prog 177 = some false := by kernel_rfl
@[go_sem] theorem ok177 : tyOk Tryd.prog 177 = true := by kernel_rfl
@[go_sem] theorem bytes177 : Tryd.prog.bytesOf 177 = 4 := by kernel_rfl
@[go_sem] theorem zero177 : zeroOf Tryd.prog 177 = some (.p (.int .i32 0)) := by kernel_rfl
@[go_sem] theorem zeroLen177 : appendA.zeroLen Tryd.prog 177 = 1 := by kernel_rfl
@[go_sem] theorem eqI177 (d : Nat) (k k' : IntKind) (a b : Int) : eqT Tryd.prog (d + 1) 177 [.int k a] [.int k' b] = if k = k' then some (a == b) else none := eqT_int _ Tryd.underlying177 d k k' a b
attribute [go_sem] Tryd.underlying178
@[go_sem] theorem cellsOf178 : Tryd.prog.cellsOf 178 = 1 := by kernel_rfl
@[go_sem] theorem isAgg178 : isAggT Tryd.prog 178 = some false := by kernel_rfl
@[go_sem] theorem ok178 : tyOk Tryd.prog 178 = true := by kernel_rfl
@[go_sem] theorem bytes178 : Tryd.prog.bytesOf 178 = 4 := by kernel_rfl
@[go_sem] theorem zero178 : zeroOf Tryd.prog 178 = some (.p (.int .i32 0)) := by kernel_rfl
@[go_sem] theorem zeroLen178 : appendA.zeroLen Tryd.prog 178 = 1 := by kernel_rfl
@[go_sem] theorem eqI178 (d : Nat) (k k' : IntKind) (a b : Int) : eqT Tryd.prog (d + 1) 178 [.int k a] [.int k' b] = if k = k' then some (a == b) else none := eqT_int _ Tryd.underlying178 d k k' a b
attribute [go_sem] Tryd.underlying179
@[go_sem] theorem cellsOf179 : Tryd.prog.cellsOf 179 = 11 := by kernel_rfl
@[go_sem] theorem isAgg179 : isAggT Tryd.prog 179 = some true := by kernel_rfl
@[go_sem] theorem ok179 : tyOk Tryd.prog 179 = true := by kernel_rfl
@[go_sem] theorem bytes179 : Tryd.prog.bytesOf 179 = 48 := by kernel_rfl
@[go_sem] theorem zero179 : zeroOf Tryd.prog 179 = some (.p (.agg [(.int .u64 0), (.int .u64 0), (.int .u32 0), (.int .u8 0), (.int .u8 0), (.int .u8 0), (.int .u8 0), .nilf, .nilp, (.int .i32 0), (.int .i32 0)])) := by kernel_rfl
@[go_sem] theorem zeroLen179 : appendA.zeroLen Tryd.prog 179 = 11 := by kernel_rfl
@[go_sem] theorem field179_0 : fieldOff Tryd.prog 179 0 = some 0 := by kernel_rfl
@[go_sem] theorem field179_1 : fieldOff Tryd.prog 179 1 = some 1 := by kernel_rfl
@[go_sem] theorem field179_2 : fieldOff Tryd.prog 179 2 = some 2 := by kernel_rfl
@[go_sem] theorem field179_3 : fieldOff Tryd.prog 179 3 = some 3 := by kernel_rfl
@[go_sem] theorem field179_4 : fieldOff Tryd.prog 179 4 = some 4 := by kernel_rfl
@[go_sem] theorem field179_5 : fieldOff Tryd.prog 179 5 = some 5 := by kernel_rfl
@[go_sem] theorem field179_6 : fieldOff Tryd.prog 179 6 = some 6 := by kernel_rfl
@[go_sem] theorem field179_7 : fieldOff Tryd.prog 179 7 = some 7 := by kernel_rfl
@[go_sem] theorem field179_8 : fieldOff Tryd.prog 179 8 = some 8 := by kernel_rfl
@[go_sem] theorem field179_9 : fieldOff Tryd.prog 179 9 = some 9 := by kernel_rfl
@[go_sem] theorem field179_10 : fieldOff Tryd.prog 179 10 = some 10 := by kernel_rfl
@[go_sem] theorem build179 (parts : List (Nat × AV)) : buildA Tryd.prog 179 parts = (fillG (fun j => [(0, 1), (1, 1), (2, 1), (3, 1), (4, 1), (5, 1), (6, 1), (7, 1), (8, 1), (9, 1), (10, 1)][j]?) [.p (.int .u64 0), .p (.int .u64 0), .p (.int .u32 0), .p (.int .u8 0), .p (.int .u8 0), .p (.int .u8 0), .p (.int .u8 0), .p .nilf, .p .nilp, .p (.int .i32 0), .p (.int .i32 0)] parts).map mkAgg :=
  buildA_eq _ _ zero179 rfl (by kernel_rfl) (by kernel_rfl) (by funext j; exact placesA_eq _ _ (by kernel_rfl) j)
attribute [go_sem] Tryd.underlying180
@[go_sem] theorem cellsOf180 : Tryd.prog.cellsOf 180 = 11 := by kernel_rfl
@[go_sem] theorem isAgg180 : isAggT Tryd.prog 180 = some true := by kernel_rfl
@[go_sem] theorem ok180 : tyOk Tryd.prog 180 = true := by kernel_rfl
@[go_sem] theorem bytes180 : Tryd.prog.bytesOf 180 = 48 := by kernel_rfl
@[go_sem] theorem zero180 : zeroOf Tryd.prog 180 = some (.p (.agg [(.int .u64 0), (.int .u64 0), (.int .u32 0), (.int .u8 0), (.int .u8 0), (.int .u8 0), (.int .u8 0), .nilf, .nilp, (.int .i32 0), (.int .i32 0)])) := by kernel_rfl
@[go_sem] theorem zeroLen180 : appendA.zeroLen Tryd.prog 180 = 11 := by kernel_rfl
@[go_sem] theorem field180_0 : fieldOff Tryd.prog 180 0 = some 0 := by kernel_rfl
@[go_sem] theorem field180_1 : fieldOff Tryd.prog 180 1 = some 1 := by kernel_rfl
@[go_sem] theorem field180_2 : fieldOff Tryd.prog 180 2 = some 2 := by kernel_rfl
@[go_sem] theorem field180_3 : fieldOff Tryd.prog 180 3 = some 3 := by kernel_rfl
@[go_sem] theorem field180_4 : fieldOff Tryd.prog 180 4 = some 4 := by kernel_rfl
@[go_sem] theorem field180_5 : fieldOff Tryd.prog 180 5 = some 5 := by kernel_rfl
@[go_sem] theorem field180_6 : fieldOff Tryd.prog 180 6 = some 6 := by kernel_rfl
@[go_sem] theorem field180_7 : fieldOff Tryd.prog 180 7 = some 7 := by kernel_rfl
@[go_sem] theorem field180_8 : fieldOff Tryd.prog 180 8 = some 8 := by kernel_rfl
@[go_sem] theorem field180_9 : fieldOff Tryd.prog 180 9 = some 9 := by kernel_rfl
@[go_sem] theorem field180_10 : fieldOff Tryd.prog 180 10 = some 10 := by kernel_rfl
@[go_sem] theorem build180 (parts : List (Nat × AV)) : buildA Tryd.prog 180 parts = (fillG (fun j => [(0, 1), (1, 1), (2, 1), (3, 1), (4, 1), (5, 1), (6, 1), (7, 1), (8, 1), (9, 1), (10, 1)][j]?) [.p (.int .u64 0), .p (.int .u64 0), .p (.int .u32 0), .p (.int .u8 0), .p (.int .u8 0), .p (.int .u8 0), .p (.int .u8 0), .p .nilf, .p .nilp, .p (.int .i32 0), .p (.int .i32 0)] parts).map mkAgg :=
  buildA_eq _ _ zero180 rfl (by kernel_rfl) (by kernel_rfl) (by funext j; exact placesA_eq _ _ (by kernel_rfl) j)
end Go.Proofs.YtjcdclpfeflfkaaDoor.Ty
