/- What the logic asks of the types of the translation. -/
import Derived.Test.YtjcdclpfeflfkaaGreatDoorProg
import Derived.KernelRfl
import Derived.Test.YtjcdclpfeflfkaaGreatDoorA2
/- What the abstract logic asks of the types of the translation; printed by a program of our own (tyfacts.py). -/
namespace Go.Proofs.YtjcdclpfeflfkaaGreatDoor.Ty
open Go Go.Ab
set_option linter.unusedVariables false

attribute [go_sem] Tryz.underlying1
@[go_sem] theorem cellsOf1 : Tryz.prog.cellsOf 1 = 1 := by kernel_rfl
@[go_sem] theorem isAgg1 : isAggT Tryz.prog 1 = some false := by kernel_rfl
@[go_sem] theorem ok1 : tyOk Tryz.prog 1 = true := by kernel_rfl
@[go_sem] theorem bytes1 : Tryz.prog.bytesOf 1 = 8 := by kernel_rfl
@[go_sem] theorem zero1 : zeroOf Tryz.prog 1 = some (.p .nilf) := by kernel_rfl
@[go_sem] theorem zeroLen1 : appendA.zeroLen Tryz.prog 1 = 1 := by kernel_rfl
attribute [go_sem] Tryz.underlying2
@[go_sem] theorem cellsOf2 : Tryz.prog.cellsOf 2 = 1 := by kernel_rfl
@[go_sem] theorem isAgg2 : isAggT Tryz.prog 2 = some false := by kernel_rfl
@[go_sem] theorem ok2 : tyOk Tryz.prog 2 = true := by kernel_rfl
@[go_sem] theorem bytes2 : Tryz.prog.bytesOf 2 = 8 := by kernel_rfl
@[go_sem] theorem zero2 : zeroOf Tryz.prog 2 = some (.p (.int .i64 0)) := by kernel_rfl
@[go_sem] theorem zeroLen2 : appendA.zeroLen Tryz.prog 2 = 1 := by kernel_rfl
@[go_sem] theorem eqI2 (d : Nat) (k k' : IntKind) (a b : Int) : eqT Tryz.prog (d + 1) 2 [.int k a] [.int k' b] = if k = k' then some (a == b) else none := eqT_int _ Tryz.underlying2 d k k' a b
attribute [go_sem] Tryz.underlying3
@[go_sem] theorem cellsOf3 : Tryz.prog.cellsOf 3 = 1 := by kernel_rfl
@[go_sem] theorem isAgg3 : isAggT Tryz.prog 3 = some false := by kernel_rfl
@[go_sem] theorem ok3 : tyOk Tryz.prog 3 = true := by kernel_rfl
@[go_sem] theorem bytes3 : Tryz.prog.bytesOf 3 = 8 := by kernel_rfl
@[go_sem] theorem zero3 : zeroOf Tryz.prog 3 = some (.p (.int .i64 0)) := by kernel_rfl
@[go_sem] theorem zeroLen3 : appendA.zeroLen Tryz.prog 3 = 1 := by kernel_rfl
@[go_sem] theorem eqI3 (d : Nat) (k k' : IntKind) (a b : Int) : eqT Tryz.prog (d + 1) 3 [.int k a] [.int k' b] = if k = k' then some (a == b) else none := eqT_int _ Tryz.underlying3 d k k' a b
attribute [go_sem] Tryz.underlying4
@[go_sem] theorem cellsOf4 : Tryz.prog.cellsOf 4 = 1 := by kernel_rfl
@[go_sem] theorem isAgg4 : isAggT Tryz.prog 4 = some false := by kernel_rfl
@[go_sem] theorem ok4 : tyOk Tryz.prog 4 = true := by kernel_rfl
@[go_sem] theorem bytes4 : Tryz.prog.bytesOf 4 = 1 := by kernel_rfl
@[go_sem] theorem zero4 : zeroOf Tryz.prog 4 = some (.p (.bool false)) := by kernel_rfl
@[go_sem] theorem zeroLen4 : appendA.zeroLen Tryz.prog 4 = 1 := by kernel_rfl
@[go_sem] theorem eqI4 (d : Nat) (a b : Bool) : eqT Tryz.prog (d + 1) 4 [.bool a] [.bool b] = some (a == b) := eqT_bool _ Tryz.underlying4 d a b
attribute [go_sem] Tryz.underlying5
@[go_sem] theorem cellsOf5 : Tryz.prog.cellsOf 5 = 1 := by kernel_rfl
@[go_sem] theorem isAgg5 : isAggT Tryz.prog 5 = some false := by kernel_rfl
@[go_sem] theorem ok5 : tyOk Tryz.prog 5 = true := by kernel_rfl
@[go_sem] theorem bytes5 : Tryz.prog.bytesOf 5 = 1 := by kernel_rfl
@[go_sem] theorem zero5 : zeroOf Tryz.prog 5 = some (.p (.int .u8 0)) := by kernel_rfl
@[go_sem] theorem zeroLen5 : appendA.zeroLen Tryz.prog 5 = 1 := by kernel_rfl
@[go_sem] theorem eqI5 (d : Nat) (k k' : IntKind) (a b : Int) : eqT Tryz.prog (d + 1) 5 [.int k a] [.int k' b] = if k = k' then some (a == b) else none := eqT_int _ Tryz.underlying5 d k k' a b
attribute [go_sem] Tryz.underlying6
@[go_sem] theorem cellsOf6 : Tryz.prog.cellsOf 6 = 1 := by kernel_rfl
@[go_sem] theorem isAgg6 : isAggT Tryz.prog 6 = some false := by kernel_rfl
@[go_sem] theorem ok6 : tyOk Tryz.prog 6 = true := by kernel_rfl
@[go_sem] theorem bytes6 : Tryz.prog.bytesOf 6 = 1 := by kernel_rfl
@[go_sem] theorem zero6 : zeroOf Tryz.prog 6 = some (.p (.int .u8 0)) := by kernel_rfl
@[go_sem] theorem zeroLen6 : appendA.zeroLen Tryz.prog 6 = 1 := by kernel_rfl
@[go_sem] theorem eqI6 (d : Nat) (k k' : IntKind) (a b : Int) : eqT Tryz.prog (d + 1) 6 [.int k a] [.int k' b] = if k = k' then some (a == b) else none := eqT_int _ Tryz.underlying6 d k k' a b
attribute [go_sem] Tryz.underlying7
@[go_sem] theorem cellsOf7 : Tryz.prog.cellsOf 7 = 4 := by kernel_rfl
@[go_sem] theorem isAgg7 : isAggT Tryz.prog 7 = some true := by kernel_rfl
@[go_sem] theorem ok7 : tyOk Tryz.prog 7 = true := by kernel_rfl
@[go_sem] theorem bytes7 : Tryz.prog.bytesOf 7 = 24 := by kernel_rfl
@[go_sem] theorem zero7 : zeroOf Tryz.prog 7 = some (.p (.agg [(.int .i64 0), (.int .i64 0), (.bool false), (.int .u8 0)])) := by kernel_rfl
@[go_sem] theorem zeroLen7 : appendA.zeroLen Tryz.prog 7 = 4 := by kernel_rfl
@[go_sem] theorem field7_0 : fieldOff Tryz.prog 7 0 = some 0 := by kernel_rfl
@[go_sem] theorem field7_1 : fieldOff Tryz.prog 7 1 = some 1 := by kernel_rfl
@[go_sem] theorem field7_2 : fieldOff Tryz.prog 7 2 = some 2 := by kernel_rfl
@[go_sem] theorem field7_3 : fieldOff Tryz.prog 7 3 = some 3 := by kernel_rfl
@[go_sem] theorem build7 (parts : List (Nat × AV)) : buildA Tryz.prog 7 parts = (fillG (fun j => [(0, 1), (1, 1), (2, 1), (3, 1)][j]?) [.p (.int .i64 0), .p (.int .i64 0), .p (.bool false), .p (.int .u8 0)] parts).map mkAgg :=
  buildA_eq _ _ zero7 rfl (by kernel_rfl) (by kernel_rfl) (by funext j; exact placesA_eq _ _ (by kernel_rfl) j)
@[go_sem] theorem eqS7 (d : Nat) (xs ys : List PV) : eqT Tryz.prog (d + 1) 7 xs ys = eqL (eqT Tryz.prog d) [(2, 0, 1), (3, 1, 1), (4, 2, 1), (6, 3, 1)] xs ys := eqT_struct _ (by kernel_rfl) (by kernel_rfl) (by kernel_rfl) (by kernel_rfl) d xs ys
@[go_sem] theorem eqg7 : Tryz.prog.eqGuardType Tryz.prog.depth 7 = false := by kernel_rfl
attribute [go_sem] Tryz.underlying8
@[go_sem] theorem cellsOf8 : Tryz.prog.cellsOf 8 = 4 := by kernel_rfl
@[go_sem] theorem isAgg8 : isAggT Tryz.prog 8 = some true := by kernel_rfl
@[go_sem] theorem ok8 : tyOk Tryz.prog 8 = true := by kernel_rfl
@[go_sem] theorem bytes8 : Tryz.prog.bytesOf 8 = 24 := by kernel_rfl
@[go_sem] theorem zero8 : zeroOf Tryz.prog 8 = some (.p (.agg [(.int .i64 0), (.int .i64 0), (.bool false), (.int .u8 0)])) := by kernel_rfl
@[go_sem] theorem zeroLen8 : appendA.zeroLen Tryz.prog 8 = 4 := by kernel_rfl
@[go_sem] theorem field8_0 : fieldOff Tryz.prog 8 0 = some 0 := by kernel_rfl
@[go_sem] theorem field8_1 : fieldOff Tryz.prog 8 1 = some 1 := by kernel_rfl
@[go_sem] theorem field8_2 : fieldOff Tryz.prog 8 2 = some 2 := by kernel_rfl
@[go_sem] theorem field8_3 : fieldOff Tryz.prog 8 3 = some 3 := by kernel_rfl
@[go_sem] theorem build8 (parts : List (Nat × AV)) : buildA Tryz.prog 8 parts = (fillG (fun j => [(0, 1), (1, 1), (2, 1), (3, 1)][j]?) [.p (.int .i64 0), .p (.int .i64 0), .p (.bool false), .p (.int .u8 0)] parts).map mkAgg :=
  buildA_eq _ _ zero8 rfl (by kernel_rfl) (by kernel_rfl) (by funext j; exact placesA_eq _ _ (by kernel_rfl) j)
@[go_sem] theorem eqS8 (d : Nat) (xs ys : List PV) : eqT Tryz.prog (d + 1) 8 xs ys = eqL (eqT Tryz.prog d) [(2, 0, 1), (3, 1, 1), (4, 2, 1), (6, 3, 1)] xs ys := eqT_struct _ (by kernel_rfl) (by kernel_rfl) (by kernel_rfl) (by kernel_rfl) d xs ys
@[go_sem] theorem eqg8 : Tryz.prog.eqGuardType Tryz.prog.depth 8 = false := by kernel_rfl
attribute [go_sem] Tryz.underlying9
@[go_sem] theorem cellsOf9 : Tryz.prog.cellsOf 9 = 1 := by kernel_rfl
@[go_sem] theorem isAgg9 : isAggT Tryz.prog 9 = some false := by kernel_rfl
@[go_sem] theorem ok9 : tyOk Tryz.prog 9 = true := by kernel_rfl
@[go_sem] theorem bytes9 : Tryz.prog.bytesOf 9 = 16 := by kernel_rfl
@[go_sem] theorem zero9 : zeroOf Tryz.prog 9 = some (.p (.str [])) := by kernel_rfl
@[go_sem] theorem zeroLen9 : appendA.zeroLen Tryz.prog 9 = 1 := by kernel_rfl
@[go_sem] theorem eqI9 (d : Nat) (a b : List UInt8) : eqT Tryz.prog (d + 1) 9 [.str a] [.str b] = some (a == b) := eqT_str _ Tryz.underlying9 d a b
attribute [go_sem] Tryz.underlying10
@[go_sem] theorem cellsOf10 : Tryz.prog.cellsOf 10 = 1 := by kernel_rfl
@[go_sem] theorem isAgg10 : isAggT Tryz.prog 10 = some false := by kernel_rfl
@[go_sem] theorem ok10 : tyOk Tryz.prog 10 = true := by kernel_rfl
@[go_sem] theorem bytes10 : Tryz.prog.bytesOf 10 = 16 := by kernel_rfl
@[go_sem] theorem zero10 : zeroOf Tryz.prog 10 = some (.p (.str [])) := by kernel_rfl
@[go_sem] theorem zeroLen10 : appendA.zeroLen Tryz.prog 10 = 1 := by kernel_rfl
@[go_sem] theorem eqI10 (d : Nat) (a b : List UInt8) : eqT Tryz.prog (d + 1) 10 [.str a] [.str b] = some (a == b) := eqT_str _ Tryz.underlying10 d a b
attribute [go_sem] Tryz.underlying11
@[go_sem] theorem cellsOf11 : Tryz.prog.cellsOf 11 = 1 := by kernel_rfl
@[go_sem] theorem isAgg11 : isAggT Tryz.prog 11 = some false := by kernel_rfl
@[go_sem] theorem ok11 : tyOk Tryz.prog 11 = true := by kernel_rfl
@[go_sem] theorem bytes11 : Tryz.prog.bytesOf 11 = 16 := by kernel_rfl
@[go_sem] theorem zero11 : zeroOf Tryz.prog 11 = some (.p (.str [])) := by kernel_rfl
@[go_sem] theorem zeroLen11 : appendA.zeroLen Tryz.prog 11 = 1 := by kernel_rfl
@[go_sem] theorem eqI11 (d : Nat) (a b : List UInt8) : eqT Tryz.prog (d + 1) 11 [.str a] [.str b] = some (a == b) := eqT_str _ Tryz.underlying11 d a b
attribute [go_sem] Tryz.underlying12
@[go_sem] theorem cellsOf12 : Tryz.prog.cellsOf 12 = 1 := by kernel_rfl
@[go_sem] theorem isAgg12 : isAggT Tryz.prog 12 = some false := by kernel_rfl
@[go_sem] theorem ok12 : tyOk Tryz.prog 12 = true := by kernel_rfl
@[go_sem] theorem bytes12 : Tryz.prog.bytesOf 12 = 8 := by kernel_rfl
@[go_sem] theorem zero12 : zeroOf Tryz.prog 12 = some (.p (.int .u64 0)) := by kernel_rfl
@[go_sem] theorem zeroLen12 : appendA.zeroLen Tryz.prog 12 = 1 := by kernel_rfl
@[go_sem] theorem eqI12 (d : Nat) (k k' : IntKind) (a b : Int) : eqT Tryz.prog (d + 1) 12 [.int k a] [.int k' b] = if k = k' then some (a == b) else none := eqT_int _ Tryz.underlying12 d k k' a b
attribute [go_sem] Tryz.underlying13
@[go_sem] theorem cellsOf13 : Tryz.prog.cellsOf 13 = 2 := by kernel_rfl
@[go_sem] theorem isAgg13 : isAggT Tryz.prog 13 = some true := by kernel_rfl
@[go_sem] theorem ok13 : tyOk Tryz.prog 13 = true := by kernel_rfl
@[go_sem] theorem bytes13 : Tryz.prog.bytesOf 13 = 24 := by kernel_rfl
@[go_sem] theorem zero13 : zeroOf Tryz.prog 13 = some (.p (.agg [(.str []), (.int .u64 0)])) := by kernel_rfl
@[go_sem] theorem zeroLen13 : appendA.zeroLen Tryz.prog 13 = 2 := by kernel_rfl
@[go_sem] theorem field13_0 : fieldOff Tryz.prog 13 0 = some 0 := by kernel_rfl
@[go_sem] theorem field13_1 : fieldOff Tryz.prog 13 1 = some 1 := by kernel_rfl
@[go_sem] theorem build13 (parts : List (Nat × AV)) : buildA Tryz.prog 13 parts = (fillG (fun j => [(0, 1), (1, 1)][j]?) [.p (.str []), .p (.int .u64 0)] parts).map mkAgg :=
  buildA_eq _ _ zero13 rfl (by kernel_rfl) (by kernel_rfl) (by funext j; exact placesA_eq _ _ (by kernel_rfl) j)
attribute [go_sem] Tryz.underlying14
@[go_sem] theorem cellsOf14 : Tryz.prog.cellsOf 14 = 2 := by kernel_rfl
@[go_sem] theorem isAgg14 : isAggT Tryz.prog 14 = some true := by kernel_rfl
@[go_sem] theorem ok14 : tyOk Tryz.prog 14 = true := by kernel_rfl
@[go_sem] theorem bytes14 : Tryz.prog.bytesOf 14 = 24 := by kernel_rfl
@[go_sem] theorem zero14 : zeroOf Tryz.prog 14 = some (.p (.agg [(.str []), (.int .u64 0)])) := by kernel_rfl
@[go_sem] theorem zeroLen14 : appendA.zeroLen Tryz.prog 14 = 2 := by kernel_rfl
@[go_sem] theorem field14_0 : fieldOff Tryz.prog 14 0 = some 0 := by kernel_rfl
@[go_sem] theorem field14_1 : fieldOff Tryz.prog 14 1 = some 1 := by kernel_rfl
@[go_sem] theorem build14 (parts : List (Nat × AV)) : buildA Tryz.prog 14 parts = (fillG (fun j => [(0, 1), (1, 1)][j]?) [.p (.str []), .p (.int .u64 0)] parts).map mkAgg :=
  buildA_eq _ _ zero14 rfl (by kernel_rfl) (by kernel_rfl) (by funext j; exact placesA_eq _ _ (by kernel_rfl) j)
attribute [go_sem] Tryz.underlying15
@[go_sem] theorem cellsOf15 : Tryz.prog.cellsOf 15 = 1 := by kernel_rfl
@[go_sem] theorem isAgg15 : isAggT Tryz.prog 15 = some false := by kernel_rfl
@[go_sem] theorem ok15 : tyOk Tryz.prog 15 = true := by kernel_rfl
@[go_sem] theorem bytes15 : Tryz.prog.bytesOf 15 = 8 := by kernel_rfl
@[go_sem] theorem zero15 : zeroOf Tryz.prog 15 = some (.p .nilp) := by kernel_rfl
@[go_sem] theorem zeroLen15 : appendA.zeroLen Tryz.prog 15 = 1 := by kernel_rfl
attribute [go_sem] Tryz.underlying16
@[go_sem] theorem cellsOf16 : Tryz.prog.cellsOf 16 = 1 := by kernel_rfl
@[go_sem] theorem isAgg16 : isAggT Tryz.prog 16 = some false := by kernel_rfl
@[go_sem] theorem ok16 : tyOk Tryz.prog 16 = true := by kernel_rfl
@[go_sem] theorem bytes16 : Tryz.prog.bytesOf 16 = 8 := by kernel_rfl
@[go_sem] theorem zero16 : zeroOf Tryz.prog 16 = some (.p .nilp) := by kernel_rfl
@[go_sem] theorem zeroLen16 : appendA.zeroLen Tryz.prog 16 = 1 := by kernel_rfl
attribute [go_sem] Tryz.underlying17
@[go_sem] theorem cellsOf17 : Tryz.prog.cellsOf 17 = 1 := by kernel_rfl
@[go_sem] theorem isAgg17 : isAggT Tryz.prog 17 = some false := by kernel_rfl
@[go_sem] theorem ok17 : tyOk Tryz.prog 17 = true := by kernel_rfl
@[go_sem] theorem bytes17 : Tryz.prog.bytesOf 17 = 8 := by kernel_rfl
@[go_sem] theorem zero17 : zeroOf Tryz.prog 17 = some (.p .nilp) := by kernel_rfl
@[go_sem] theorem zeroLen17 : appendA.zeroLen Tryz.prog 17 = 1 := by kernel_rfl
attribute [go_sem] Tryz.underlying18
@[go_sem] theorem cellsOf18 : Tryz.prog.cellsOf 18 = 1 := by kernel_rfl
@[go_sem] theorem isAgg18 : isAggT Tryz.prog 18 = some true := by kernel_rfl
@[go_sem] theorem ok18 : tyOk Tryz.prog 18 = true := by kernel_rfl
@[go_sem] theorem bytes18 : Tryz.prog.bytesOf 18 = 8 := by kernel_rfl
@[go_sem] theorem zero18 : zeroOf Tryz.prog 18 = some (.p (.agg [.nilp])) := by kernel_rfl
@[go_sem] theorem zeroLen18 : appendA.zeroLen Tryz.prog 18 = 1 := by kernel_rfl
@[go_sem] theorem field18_0 : fieldOff Tryz.prog 18 0 = some 0 := by kernel_rfl
@[go_sem] theorem build18 (parts : List (Nat × AV)) : buildA Tryz.prog 18 parts = (fillG (fun j => [(0, 1)][j]?) [.p .nilp] parts).map mkAgg :=
  buildA_eq _ _ zero18 rfl (by kernel_rfl) (by kernel_rfl) (by funext j; exact placesA_eq _ _ (by kernel_rfl) j)
attribute [go_sem] Tryz.underlying19
@[go_sem] theorem cellsOf19 : Tryz.prog.cellsOf 19 = 1 := by kernel_rfl
@[go_sem] theorem isAgg19 : isAggT Tryz.prog 19 = some true := by kernel_rfl
@[go_sem] theorem ok19 : tyOk Tryz.prog 19 = true := by kernel_rfl
@[go_sem] theorem bytes19 : Tryz.prog.bytesOf 19 = 8 := by kernel_rfl
@[go_sem] theorem zero19 : zeroOf Tryz.prog 19 = some (.p (.agg [.nilp])) := by kernel_rfl
@[go_sem] theorem zeroLen19 : appendA.zeroLen Tryz.prog 19 = 1 := by kernel_rfl
@[go_sem] theorem field19_0 : fieldOff Tryz.prog 19 0 = some 0 := by kernel_rfl
@[go_sem] theorem build19 (parts : List (Nat × AV)) : buildA Tryz.prog 19 parts = (fillG (fun j => [(0, 1)][j]?) [.p .nilp] parts).map mkAgg :=
  buildA_eq _ _ zero19 rfl (by kernel_rfl) (by kernel_rfl) (by funext j; exact placesA_eq _ _ (by kernel_rfl) j)
attribute [go_sem] Tryz.underlying20
@[go_sem] theorem cellsOf20 : Tryz.prog.cellsOf 20 = 1 := by kernel_rfl
@[go_sem] theorem isAgg20 : isAggT Tryz.prog 20 = some false := by kernel_rfl
@[go_sem] theorem ok20 : tyOk Tryz.prog 20 = true := by kernel_rfl
@[go_sem] theorem bytes20 : Tryz.prog.bytesOf 20 = 16 := by kernel_rfl
@[go_sem] theorem zero20 : zeroOf Tryz.prog 20 = some (.p .nili) := by kernel_rfl
@[go_sem] theorem zeroLen20 : appendA.zeroLen Tryz.prog 20 = 1 := by kernel_rfl
attribute [go_sem] Tryz.underlying21
@[go_sem] theorem cellsOf21 : Tryz.prog.cellsOf 21 = 1 := by kernel_rfl
@[go_sem] theorem isAgg21 : isAggT Tryz.prog 21 = some false := by kernel_rfl
@[go_sem] theorem ok21 : tyOk Tryz.prog 21 = true := by kernel_rfl
@[go_sem] theorem bytes21 : Tryz.prog.bytesOf 21 = 4 := by kernel_rfl
@[go_sem] theorem zero21 : zeroOf Tryz.prog 21 = some (.p (.int .i32 0)) := by kernel_rfl
@[go_sem] theorem zeroLen21 : appendA.zeroLen Tryz.prog 21 = 1 := by kernel_rfl
@[go_sem] theorem eqI21 (d : Nat) (k k' : IntKind) (a b : Int) : eqT Tryz.prog (d + 1) 21 [.int k a] [.int k' b] = if k = k' then some (a == b) else none := eqT_int _ Tryz.underlying21 d k k' a b
attribute [go_sem] Tryz.underlying22
@[go_sem] theorem cellsOf22 : Tryz.prog.cellsOf 22 = 1 := by kernel_rfl
@[go_sem] theorem isAgg22 : isAggT Tryz.prog 22 = some false := by kernel_rfl
@[go_sem] theorem ok22 : tyOk Tryz.prog 22 = true := by kernel_rfl
@[go_sem] theorem bytes22 : Tryz.prog.bytesOf 22 = 24 := by kernel_rfl
@[go_sem] theorem zero22 : zeroOf Tryz.prog 22 = some (.nils) := by kernel_rfl
@[go_sem] theorem zeroLen22 : appendA.zeroLen Tryz.prog 22 = 1 := by kernel_rfl
attribute [go_sem] Tryz.underlying23
@[go_sem] theorem cellsOf23 : Tryz.prog.cellsOf 23 = 1 := by kernel_rfl
@[go_sem] theorem isAgg23 : isAggT Tryz.prog 23 = some false := by kernel_rfl
@[go_sem] theorem ok23 : tyOk Tryz.prog 23 = true := by kernel_rfl
@[go_sem] theorem bytes23 : Tryz.prog.bytesOf 23 = 24 := by kernel_rfl
@[go_sem] theorem zero23 : zeroOf Tryz.prog 23 = some (.nils) := by kernel_rfl
@[go_sem] theorem zeroLen23 : appendA.zeroLen Tryz.prog 23 = 1 := by kernel_rfl
attribute [go_sem] Tryz.underlying24
@[go_sem] theorem cellsOf24 : Tryz.prog.cellsOf 24 = 3 := by kernel_rfl
@[go_sem] theorem isAgg24 : isAggT Tryz.prog 24 = some true := by kernel_rfl
@[go_sem] theorem ok24 : tyOk Tryz.prog 24 = true := by kernel_rfl
@[go_sem] theorem bytes24 : Tryz.prog.bytesOf 24 = 64 := by kernel_rfl
@[go_sem] theorem zero24 : zeroOf Tryz.prog 24 = some (.agg [.p (.str []), .nils, .nils]) := by kernel_rfl
@[go_sem] theorem zeroLen24 : appendA.zeroLen Tryz.prog 24 = 3 := by kernel_rfl
@[go_sem] theorem field24_0 : fieldOff Tryz.prog 24 0 = some 0 := by kernel_rfl
@[go_sem] theorem field24_1 : fieldOff Tryz.prog 24 1 = some 1 := by kernel_rfl
@[go_sem] theorem field24_2 : fieldOff Tryz.prog 24 2 = some 2 := by kernel_rfl
@[go_sem] theorem build24 (parts : List (Nat × AV)) : buildA Tryz.prog 24 parts = (fillG (fun j => [(0, 1), (1, 1), (2, 1)][j]?) [.p (.str []), .nils, .nils] parts).map mkAgg :=
  buildA_eq _ _ zero24 rfl (by kernel_rfl) (by kernel_rfl) (by funext j; exact placesA_eq _ _ (by kernel_rfl) j)
attribute [go_sem] Tryz.underlying25
@[go_sem] theorem cellsOf25 : Tryz.prog.cellsOf 25 = 3 := by kernel_rfl
@[go_sem] theorem isAgg25 : isAggT Tryz.prog 25 = some true := by kernel_rfl
@[go_sem] theorem ok25 : tyOk Tryz.prog 25 = true := by kernel_rfl
@[go_sem] theorem bytes25 : Tryz.prog.bytesOf 25 = 64 := by kernel_rfl
@[go_sem] theorem zero25 : zeroOf Tryz.prog 25 = some (.agg [.p (.str []), .nils, .nils]) := by kernel_rfl
@[go_sem] theorem zeroLen25 : appendA.zeroLen Tryz.prog 25 = 3 := by kernel_rfl
@[go_sem] theorem field25_0 : fieldOff Tryz.prog 25 0 = some 0 := by kernel_rfl
@[go_sem] theorem field25_1 : fieldOff Tryz.prog 25 1 = some 1 := by kernel_rfl
@[go_sem] theorem field25_2 : fieldOff Tryz.prog 25 2 = some 2 := by kernel_rfl
@[go_sem] theorem build25 (parts : List (Nat × AV)) : buildA Tryz.prog 25 parts = (fillG (fun j => [(0, 1), (1, 1), (2, 1)][j]?) [.p (.str []), .nils, .nils] parts).map mkAgg :=
  buildA_eq _ _ zero25 rfl (by kernel_rfl) (by kernel_rfl) (by funext j; exact placesA_eq _ _ (by kernel_rfl) j)
attribute [go_sem] Tryz.underlying26
@[go_sem] theorem cellsOf26 : Tryz.prog.cellsOf 26 = 1 := by kernel_rfl
@[go_sem] theorem isAgg26 : isAggT Tryz.prog 26 = some false := by kernel_rfl
@[go_sem] theorem ok26 : tyOk Tryz.prog 26 = true := by kernel_rfl
@[go_sem] theorem bytes26 : Tryz.prog.bytesOf 26 = 4 := by kernel_rfl
@[go_sem] theorem zero26 : zeroOf Tryz.prog 26 = some (.p (.int .u32 0)) := by kernel_rfl
@[go_sem] theorem zeroLen26 : appendA.zeroLen Tryz.prog 26 = 1 := by kernel_rfl
@[go_sem] theorem eqI26 (d : Nat) (k k' : IntKind) (a b : Int) : eqT Tryz.prog (d + 1) 26 [.int k a] [.int k' b] = if k = k' then some (a == b) else none := eqT_int _ Tryz.underlying26 d k k' a b
attribute [go_sem] Tryz.underlying27
@[go_sem] theorem cellsOf27 : Tryz.prog.cellsOf 27 = 1 := by kernel_rfl
@[go_sem] theorem isAgg27 : isAggT Tryz.prog 27 = some false := by kernel_rfl
@[go_sem] theorem ok27 : tyOk Tryz.prog 27 = true := by kernel_rfl
@[go_sem] theorem bytes27 : Tryz.prog.bytesOf 27 = 4 := by kernel_rfl
@[go_sem] theorem zero27 : zeroOf Tryz.prog 27 = some (.p (.int .u32 0)) := by kernel_rfl
@[go_sem] theorem zeroLen27 : appendA.zeroLen Tryz.prog 27 = 1 := by kernel_rfl
@[go_sem] theorem eqI27 (d : Nat) (k k' : IntKind) (a b : Int) : eqT Tryz.prog (d + 1) 27 [.int k a] [.int k' b] = if k = k' then some (a == b) else none := eqT_int _ Tryz.underlying27 d k k' a b
attribute [go_sem] Tryz.underlying28
@[go_sem] theorem cellsOf28 : Tryz.prog.cellsOf 28 = 2 := by kernel_rfl
@[go_sem] theorem isAgg28 : isAggT Tryz.prog 28 = some true := by kernel_rfl
@[go_sem] theorem ok28 : tyOk Tryz.prog 28 = true := by kernel_rfl
@[go_sem] theorem bytes28 : Tryz.prog.bytesOf 28 = 8 := by kernel_rfl
@[go_sem] theorem zero28 : zeroOf Tryz.prog 28 = some (.p (.agg [(.int .u32 0), (.int .u32 0)])) := by kernel_rfl
@[go_sem] theorem zeroLen28 : appendA.zeroLen Tryz.prog 28 = 2 := by kernel_rfl
@[go_sem] theorem field28_0 : fieldOff Tryz.prog 28 0 = some 0 := by kernel_rfl
@[go_sem] theorem field28_1 : fieldOff Tryz.prog 28 1 = some 1 := by kernel_rfl
@[go_sem] theorem build28 (parts : List (Nat × AV)) : buildA Tryz.prog 28 parts = (fillG (fun j => [(0, 1), (1, 1)][j]?) [.p (.int .u32 0), .p (.int .u32 0)] parts).map mkAgg :=
  buildA_eq _ _ zero28 rfl (by kernel_rfl) (by kernel_rfl) (by funext j; exact placesA_eq _ _ (by kernel_rfl) j)
@[go_sem] theorem eqS28 (d : Nat) (xs ys : List PV) : eqT Tryz.prog (d + 1) 28 xs ys = eqL (eqT Tryz.prog d) [(27, 0, 1), (27, 1, 1)] xs ys := eqT_struct _ (by kernel_rfl) (by kernel_rfl) (by kernel_rfl) (by kernel_rfl) d xs ys
@[go_sem] theorem eqg28 : Tryz.prog.eqGuardType Tryz.prog.depth 28 = false := by kernel_rfl
attribute [go_sem] Tryz.underlying29
@[go_sem] theorem cellsOf29 : Tryz.prog.cellsOf 29 = 2 := by kernel_rfl
@[go_sem] theorem isAgg29 : isAggT Tryz.prog 29 = some true := by kernel_rfl
@[go_sem] theorem ok29 : tyOk Tryz.prog 29 = true := by kernel_rfl
@[go_sem] theorem bytes29 : Tryz.prog.bytesOf 29 = 8 := by kernel_rfl
@[go_sem] theorem zero29 : zeroOf Tryz.prog 29 = some (.p (.agg [(.int .u32 0), (.int .u32 0)])) := by kernel_rfl
@[go_sem] theorem zeroLen29 : appendA.zeroLen Tryz.prog 29 = 2 := by kernel_rfl
@[go_sem] theorem field29_0 : fieldOff Tryz.prog 29 0 = some 0 := by kernel_rfl
@[go_sem] theorem field29_1 : fieldOff Tryz.prog 29 1 = some 1 := by kernel_rfl
@[go_sem] theorem build29 (parts : List (Nat × AV)) : buildA Tryz.prog 29 parts = (fillG (fun j => [(0, 1), (1, 1)][j]?) [.p (.int .u32 0), .p (.int .u32 0)] parts).map mkAgg :=
  buildA_eq _ _ zero29 rfl (by kernel_rfl) (by kernel_rfl) (by funext j; exact placesA_eq _ _ (by kernel_rfl) j)
@[go_sem] theorem eqS29 (d : Nat) (xs ys : List PV) : eqT Tryz.prog (d + 1) 29 xs ys = eqL (eqT Tryz.prog d) [(27, 0, 1), (27, 1, 1)] xs ys := eqT_struct _ (by kernel_rfl) (by kernel_rfl) (by kernel_rfl) (by kernel_rfl) d xs ys
@[go_sem] theorem eqg29 : Tryz.prog.eqGuardType Tryz.prog.depth 29 = false := by kernel_rfl
attribute [go_sem] Tryz.underlying30
@[go_sem] theorem cellsOf30 : Tryz.prog.cellsOf 30 = 1 := by kernel_rfl
@[go_sem] theorem isAgg30 : isAggT Tryz.prog 30 = some false := by kernel_rfl
@[go_sem] theorem ok30 : tyOk Tryz.prog 30 = true := by kernel_rfl
@[go_sem] theorem bytes30 : Tryz.prog.bytesOf 30 = 8 := by kernel_rfl
@[go_sem] theorem zero30 : zeroOf Tryz.prog 30 = some (.p .nilf) := by kernel_rfl
@[go_sem] theorem zeroLen30 : appendA.zeroLen Tryz.prog 30 = 1 := by kernel_rfl
attribute [go_sem] Tryz.underlying31
@[go_sem] theorem cellsOf31 : Tryz.prog.cellsOf 31 = 1 := by kernel_rfl
@[go_sem] theorem isAgg31 : isAggT Tryz.prog 31 = some false := by kernel_rfl
@[go_sem] theorem ok31 : tyOk Tryz.prog 31 = true := by kernel_rfl
@[go_sem] theorem bytes31 : Tryz.prog.bytesOf 31 = 24 := by kernel_rfl
@[go_sem] theorem zero31 : zeroOf Tryz.prog 31 = some (.nils) := by kernel_rfl
@[go_sem] theorem zeroLen31 : appendA.zeroLen Tryz.prog 31 = 1 := by kernel_rfl
attribute [go_sem] Tryz.underlying32
@[go_sem] theorem cellsOf32 : Tryz.prog.cellsOf 32 = 1 := by kernel_rfl
@[go_sem] theorem isAgg32 : isAggT Tryz.prog 32 = some false := by kernel_rfl
@[go_sem] theorem ok32 : tyOk Tryz.prog 32 = true := by kernel_rfl
@[go_sem] theorem bytes32 : Tryz.prog.bytesOf 32 = 8 := by kernel_rfl
@[go_sem] theorem zero32 : zeroOf Tryz.prog 32 = some (.p (.int .i64 0)) := by kernel_rfl
@[go_sem] theorem zeroLen32 : appendA.zeroLen Tryz.prog 32 = 1 := by kernel_rfl
@[go_sem] theorem eqI32 (d : Nat) (k k' : IntKind) (a b : Int) : eqT Tryz.prog (d + 1) 32 [.int k a] [.int k' b] = if k = k' then some (a == b) else none := eqT_int _ Tryz.underlying32 d k k' a b
attribute [go_sem] Tryz.underlying34
@[go_sem] theorem cellsOf34 : Tryz.prog.cellsOf 34 = 1 := by kernel_rfl
@[go_sem] theorem isAgg34 : isAggT Tryz.prog 34 = some false := by kernel_rfl
@[go_sem] theorem ok34 : tyOk Tryz.prog 34 = true := by kernel_rfl
@[go_sem] theorem bytes34 : Tryz.prog.bytesOf 34 = 8 := by kernel_rfl
@[go_sem] theorem zero34 : zeroOf Tryz.prog 34 = some (.p .nilf) := by kernel_rfl
@[go_sem] theorem zeroLen34 : appendA.zeroLen Tryz.prog 34 = 1 := by kernel_rfl
attribute [go_sem] Tryz.underlying36
@[go_sem] theorem cellsOf36 : Tryz.prog.cellsOf 36 = 1 := by kernel_rfl
@[go_sem] theorem isAgg36 : isAggT Tryz.prog 36 = some false := by kernel_rfl
@[go_sem] theorem ok36 : tyOk Tryz.prog 36 = true := by kernel_rfl
@[go_sem] theorem bytes36 : Tryz.prog.bytesOf 36 = 8 := by kernel_rfl
@[go_sem] theorem zero36 : zeroOf Tryz.prog 36 = some (.p .nilf) := by kernel_rfl
@[go_sem] theorem zeroLen36 : appendA.zeroLen Tryz.prog 36 = 1 := by kernel_rfl
attribute [go_sem] Tryz.underlying37
@[go_sem] theorem cellsOf37 : Tryz.prog.cellsOf 37 = 1 := by kernel_rfl
@[go_sem] theorem isAgg37 : isAggT Tryz.prog 37 = some false := by kernel_rfl
@[go_sem] theorem ok37 : tyOk Tryz.prog 37 = true := by kernel_rfl
@[go_sem] theorem bytes37 : Tryz.prog.bytesOf 37 = 8 := by kernel_rfl
@[go_sem] theorem zero37 : zeroOf Tryz.prog 37 = some (.p .nilf) := by kernel_rfl
@[go_sem] theorem zeroLen37 : appendA.zeroLen Tryz.prog 37 = 1 := by kernel_rfl
attribute [go_sem] Tryz.underlying38
@[go_sem] theorem cellsOf38 : Tryz.prog.cellsOf 38 = 1 := by kernel_rfl
@[go_sem] theorem isAgg38 : isAggT Tryz.prog 38 = some false := by kernel_rfl
@[go_sem] theorem ok38 : tyOk Tryz.prog 38 = true := by kernel_rfl
@[go_sem] theorem bytes38 : Tryz.prog.bytesOf 38 = 8 := by kernel_rfl
@[go_sem] theorem zero38 : zeroOf Tryz.prog 38 = some (.p .nilf) := by kernel_rfl
@[go_sem] theorem zeroLen38 : appendA.zeroLen Tryz.prog 38 = 1 := by kernel_rfl
attribute [go_sem] Tryz.underlying39
@[go_sem] theorem cellsOf39 : Tryz.prog.cellsOf 39 = 1 := by kernel_rfl
@[go_sem] theorem isAgg39 : isAggT Tryz.prog 39 = some false := by kernel_rfl
@[go_sem] theorem ok39 : tyOk Tryz.prog 39 = true := by kernel_rfl
@[go_sem] theorem bytes39 : Tryz.prog.bytesOf 39 = 8 := by kernel_rfl
@[go_sem] theorem zero39 : zeroOf Tryz.prog 39 = some (.p .nilf) := by kernel_rfl
@[go_sem] theorem zeroLen39 : appendA.zeroLen Tryz.prog 39 = 1 := by kernel_rfl
attribute [go_sem] Tryz.underlying40
@[go_sem] theorem cellsOf40 : Tryz.prog.cellsOf 40 = 1 := by kernel_rfl
@[go_sem] theorem isAgg40 : isAggT Tryz.prog 40 = some false := by kernel_rfl
@[go_sem] theorem ok40 : tyOk Tryz.prog 40 = true := by kernel_rfl
@[go_sem] theorem bytes40 : Tryz.prog.bytesOf 40 = 24 := by kernel_rfl
@[go_sem] theorem zero40 : zeroOf Tryz.prog 40 = some (.nils) := by kernel_rfl
@[go_sem] theorem zeroLen40 : appendA.zeroLen Tryz.prog 40 = 1 := by kernel_rfl
attribute [go_sem] Tryz.underlying41
@[go_sem] theorem cellsOf41 : Tryz.prog.cellsOf 41 = 1 := by kernel_rfl
@[go_sem] theorem isAgg41 : isAggT Tryz.prog 41 = some false := by kernel_rfl
@[go_sem] theorem ok41 : tyOk Tryz.prog 41 = true := by kernel_rfl
@[go_sem] theorem bytes41 : Tryz.prog.bytesOf 41 = 24 := by kernel_rfl
@[go_sem] theorem zero41 : zeroOf Tryz.prog 41 = some (.nils) := by kernel_rfl
@[go_sem] theorem zeroLen41 : appendA.zeroLen Tryz.prog 41 = 1 := by kernel_rfl
attribute [go_sem] Tryz.underlying43
@[go_sem] theorem cellsOf43 : Tryz.prog.cellsOf 43 = 1 := by kernel_rfl
@[go_sem] theorem isAgg43 : isAggT Tryz.prog 43 = some false := by kernel_rfl
@[go_sem] theorem ok43 : tyOk Tryz.prog 43 = true := by kernel_rfl
@[go_sem] theorem bytes43 : Tryz.prog.bytesOf 43 = 8 := by kernel_rfl
@[go_sem] theorem zero43 : zeroOf Tryz.prog 43 = some (.p .nilf) := by kernel_rfl
@[go_sem] theorem zeroLen43 : appendA.zeroLen Tryz.prog 43 = 1 := by kernel_rfl
attribute [go_sem] Tryz.underlying44
@[go_sem] theorem cellsOf44 : Tryz.prog.cellsOf 44 = 1 := by kernel_rfl
@[go_sem] theorem isAgg44 : isAggT Tryz.prog 44 = some false := by kernel_rfl
@[go_sem] theorem ok44 : tyOk Tryz.prog 44 = true := by kernel_rfl
@[go_sem] theorem bytes44 : Tryz.prog.bytesOf 44 = 8 := by kernel_rfl
@[go_sem] theorem zero44 : zeroOf Tryz.prog 44 = some (.p .nilf) := by kernel_rfl
@[go_sem] theorem zeroLen44 : appendA.zeroLen Tryz.prog 44 = 1 := by kernel_rfl
attribute [go_sem] Tryz.underlying45
@[go_sem] theorem cellsOf45 : Tryz.prog.cellsOf 45 = 1 := by kernel_rfl
@[go_sem] theorem isAgg45 : isAggT Tryz.prog 45 = some false := by kernel_rfl
@[go_sem] theorem ok45 : tyOk Tryz.prog 45 = true := by kernel_rfl
@[go_sem] theorem bytes45 : Tryz.prog.bytesOf 45 = 8 := by kernel_rfl
@[go_sem] theorem zero45 : zeroOf Tryz.prog 45 = some (.p .nilf) := by kernel_rfl
@[go_sem] theorem zeroLen45 : appendA.zeroLen Tryz.prog 45 = 1 := by kernel_rfl
attribute [go_sem] Tryz.underlying46
@[go_sem] theorem cellsOf46 : Tryz.prog.cellsOf 46 = 2 := by kernel_rfl
@[go_sem] theorem isAgg46 : isAggT Tryz.prog 46 = some true := by kernel_rfl
@[go_sem] theorem ok46 : tyOk Tryz.prog 46 = true := by kernel_rfl
@[go_sem] theorem bytes46 : Tryz.prog.bytesOf 46 = 16 := by kernel_rfl
@[go_sem] theorem zero46 : zeroOf Tryz.prog 46 = some (.p (.agg [(.int .i64 0), (.int .i64 0)])) := by kernel_rfl
@[go_sem] theorem zeroLen46 : appendA.zeroLen Tryz.prog 46 = 2 := by kernel_rfl
@[go_sem] theorem field46_0 : fieldOff Tryz.prog 46 0 = some 0 := by kernel_rfl
@[go_sem] theorem field46_1 : fieldOff Tryz.prog 46 1 = some 1 := by kernel_rfl
@[go_sem] theorem build46 (parts : List (Nat × AV)) : buildA Tryz.prog 46 parts = (fillG (fun j => [(0, 1), (1, 1)][j]?) [.p (.int .i64 0), .p (.int .i64 0)] parts).map mkAgg :=
  buildA_eq _ _ zero46 rfl (by kernel_rfl) (by kernel_rfl) (by funext j; exact placesA_eq _ _ (by kernel_rfl) j)
@[go_sem] theorem eqS46 (d : Nat) (xs ys : List PV) : eqT Tryz.prog (d + 1) 46 xs ys = eqL (eqT Tryz.prog d) [(2, 0, 1), (2, 1, 1)] xs ys := eqT_struct _ (by kernel_rfl) (by kernel_rfl) (by kernel_rfl) (by kernel_rfl) d xs ys
@[go_sem] theorem eqg46 : Tryz.prog.eqGuardType Tryz.prog.depth 46 = false := by kernel_rfl
attribute [go_sem] Tryz.underlying47
@[go_sem] theorem cellsOf47 : Tryz.prog.cellsOf 47 = 2 := by kernel_rfl
@[go_sem] theorem isAgg47 : isAggT Tryz.prog 47 = some true := by kernel_rfl
@[go_sem] theorem ok47 : tyOk Tryz.prog 47 = true := by kernel_rfl
@[go_sem] theorem bytes47 : Tryz.prog.bytesOf 47 = 16 := by kernel_rfl
@[go_sem] theorem zero47 : zeroOf Tryz.prog 47 = some (.p (.agg [(.int .i64 0), (.int .i64 0)])) := by kernel_rfl
@[go_sem] theorem zeroLen47 : appendA.zeroLen Tryz.prog 47 = 2 := by kernel_rfl
@[go_sem] theorem field47_0 : fieldOff Tryz.prog 47 0 = some 0 := by kernel_rfl
@[go_sem] theorem field47_1 : fieldOff Tryz.prog 47 1 = some 1 := by kernel_rfl
@[go_sem] theorem build47 (parts : List (Nat × AV)) : buildA Tryz.prog 47 parts = (fillG (fun j => [(0, 1), (1, 1)][j]?) [.p (.int .i64 0), .p (.int .i64 0)] parts).map mkAgg :=
  buildA_eq _ _ zero47 rfl (by kernel_rfl) (by kernel_rfl) (by funext j; exact placesA_eq _ _ (by kernel_rfl) j)
@[go_sem] theorem eqS47 (d : Nat) (xs ys : List PV) : eqT Tryz.prog (d + 1) 47 xs ys = eqL (eqT Tryz.prog d) [(2, 0, 1), (2, 1, 1)] xs ys := eqT_struct _ (by kernel_rfl) (by kernel_rfl) (by kernel_rfl) (by kernel_rfl) d xs ys
@[go_sem] theorem eqg47 : Tryz.prog.eqGuardType Tryz.prog.depth 47 = false := by kernel_rfl
attribute [go_sem] Tryz.underlying49
@[go_sem] theorem cellsOf49 : Tryz.prog.cellsOf 49 = 1 := by kernel_rfl
@[go_sem] theorem isAgg49 : isAggT Tryz.prog 49 = some false := by kernel_rfl
@[go_sem] theorem ok49 : tyOk Tryz.prog 49 = true := by kernel_rfl
@[go_sem] theorem bytes49 : Tryz.prog.bytesOf 49 = 8 := by kernel_rfl
@[go_sem] theorem zero49 : zeroOf Tryz.prog 49 = some (.p .nilf) := by kernel_rfl
@[go_sem] theorem zeroLen49 : appendA.zeroLen Tryz.prog 49 = 1 := by kernel_rfl
attribute [go_sem] Tryz.underlying50
@[go_sem] theorem cellsOf50 : Tryz.prog.cellsOf 50 = 1 := by kernel_rfl
@[go_sem] theorem isAgg50 : isAggT Tryz.prog 50 = some false := by kernel_rfl
@[go_sem] theorem ok50 : tyOk Tryz.prog 50 = true := by kernel_rfl
@[go_sem] theorem bytes50 : Tryz.prog.bytesOf 50 = 8 := by kernel_rfl
@[go_sem] theorem zero50 : zeroOf Tryz.prog 50 = some (.p .nilf) := by kernel_rfl
@[go_sem] theorem zeroLen50 : appendA.zeroLen Tryz.prog 50 = 1 := by kernel_rfl
attribute [go_sem] Tryz.underlying51
@[go_sem] theorem cellsOf51 : Tryz.prog.cellsOf 51 = 1 := by kernel_rfl
@[go_sem] theorem isAgg51 : isAggT Tryz.prog 51 = some false := by kernel_rfl
@[go_sem] theorem ok51 : tyOk Tryz.prog 51 = true := by kernel_rfl
@[go_sem] theorem bytes51 : Tryz.prog.bytesOf 51 = 8 := by kernel_rfl
@[go_sem] theorem zero51 : zeroOf Tryz.prog 51 = some (.p .nilf) := by kernel_rfl
@[go_sem] theorem zeroLen51 : appendA.zeroLen Tryz.prog 51 = 1 := by kernel_rfl
attribute [go_sem] Tryz.underlying52
@[go_sem] theorem cellsOf52 : Tryz.prog.cellsOf 52 = 1 := by kernel_rfl
@[go_sem] theorem isAgg52 : isAggT Tryz.prog 52 = some false := by kernel_rfl
@[go_sem] theorem ok52 : tyOk Tryz.prog 52 = true := by kernel_rfl
@[go_sem] theorem bytes52 : Tryz.prog.bytesOf 52 = 24 := by kernel_rfl
@[go_sem] theorem zero52 : zeroOf Tryz.prog 52 = some (.nils) := by kernel_rfl
@[go_sem] theorem zeroLen52 : appendA.zeroLen Tryz.prog 52 = 1 := by kernel_rfl
attribute [go_sem] Tryz.underlying53
@[go_sem] theorem cellsOf53 : Tryz.prog.cellsOf 53 = 3 := by kernel_rfl
@[go_sem] theorem isAgg53 : isAggT Tryz.prog 53 = some true := by kernel_rfl
@[go_sem] theorem ok53 : tyOk Tryz.prog 53 = true := by kernel_rfl
@[go_sem] theorem bytes53 : Tryz.prog.bytesOf 53 = 32 := by kernel_rfl
@[go_sem] theorem zero53 : zeroOf Tryz.prog 53 = some (.agg [.p (.int .u8 0), .p (.int .u8 0), .nils]) := by kernel_rfl
@[go_sem] theorem zeroLen53 : appendA.zeroLen Tryz.prog 53 = 3 := by kernel_rfl
@[go_sem] theorem field53_0 : fieldOff Tryz.prog 53 0 = some 0 := by kernel_rfl
@[go_sem] theorem field53_1 : fieldOff Tryz.prog 53 1 = some 1 := by kernel_rfl
@[go_sem] theorem field53_2 : fieldOff Tryz.prog 53 2 = some 2 := by kernel_rfl
@[go_sem] theorem build53 (parts : List (Nat × AV)) : buildA Tryz.prog 53 parts = (fillG (fun j => [(0, 1), (1, 1), (2, 1)][j]?) [.p (.int .u8 0), .p (.int .u8 0), .nils] parts).map mkAgg :=
  buildA_eq _ _ zero53 rfl (by kernel_rfl) (by kernel_rfl) (by funext j; exact placesA_eq _ _ (by kernel_rfl) j)
attribute [go_sem] Tryz.underlying54
@[go_sem] theorem cellsOf54 : Tryz.prog.cellsOf 54 = 3 := by kernel_rfl
@[go_sem] theorem isAgg54 : isAggT Tryz.prog 54 = some true := by kernel_rfl
@[go_sem] theorem ok54 : tyOk Tryz.prog 54 = true := by kernel_rfl
@[go_sem] theorem bytes54 : Tryz.prog.bytesOf 54 = 32 := by kernel_rfl
@[go_sem] theorem zero54 : zeroOf Tryz.prog 54 = some (.agg [.p (.int .u8 0), .p (.int .u8 0), .nils]) := by kernel_rfl
@[go_sem] theorem zeroLen54 : appendA.zeroLen Tryz.prog 54 = 3 := by kernel_rfl
@[go_sem] theorem field54_0 : fieldOff Tryz.prog 54 0 = some 0 := by kernel_rfl
@[go_sem] theorem field54_1 : fieldOff Tryz.prog 54 1 = some 1 := by kernel_rfl
@[go_sem] theorem field54_2 : fieldOff Tryz.prog 54 2 = some 2 := by kernel_rfl
@[go_sem] theorem build54 (parts : List (Nat × AV)) : buildA Tryz.prog 54 parts = (fillG (fun j => [(0, 1), (1, 1), (2, 1)][j]?) [.p (.int .u8 0), .p (.int .u8 0), .nils] parts).map mkAgg :=
  buildA_eq _ _ zero54 rfl (by kernel_rfl) (by kernel_rfl) (by funext j; exact placesA_eq _ _ (by kernel_rfl) j)
attribute [go_sem] Tryz.underlying56
@[go_sem] theorem cellsOf56 : Tryz.prog.cellsOf 56 = 1 := by kernel_rfl
@[go_sem] theorem isAgg56 : isAggT Tryz.prog 56 = some false := by kernel_rfl
@[go_sem] theorem ok56 : tyOk Tryz.prog 56 = true := by kernel_rfl
@[go_sem] theorem bytes56 : Tryz.prog.bytesOf 56 = 8 := by kernel_rfl
@[go_sem] theorem zero56 : zeroOf Tryz.prog 56 = some (.p .nilf) := by kernel_rfl
@[go_sem] theorem zeroLen56 : appendA.zeroLen Tryz.prog 56 = 1 := by kernel_rfl
attribute [go_sem] Tryz.underlying57
@[go_sem] theorem cellsOf57 : Tryz.prog.cellsOf 57 = 1 := by kernel_rfl
@[go_sem] theorem isAgg57 : isAggT Tryz.prog 57 = some false := by kernel_rfl
@[go_sem] theorem ok57 : tyOk Tryz.prog 57 = true := by kernel_rfl
@[go_sem] theorem bytes57 : Tryz.prog.bytesOf 57 = 8 := by kernel_rfl
@[go_sem] theorem zero57 : zeroOf Tryz.prog 57 = some (.p .nilf) := by kernel_rfl
@[go_sem] theorem zeroLen57 : appendA.zeroLen Tryz.prog 57 = 1 := by kernel_rfl
attribute [go_sem] Tryz.underlying58
@[go_sem] theorem cellsOf58 : Tryz.prog.cellsOf 58 = 1 := by kernel_rfl
@[go_sem] theorem isAgg58 : isAggT Tryz.prog 58 = some false := by kernel_rfl
@[go_sem] theorem ok58 : tyOk Tryz.prog 58 = true := by kernel_rfl
@[go_sem] theorem bytes58 : Tryz.prog.bytesOf 58 = 8 := by kernel_rfl
@[go_sem] theorem zero58 : zeroOf Tryz.prog 58 = some (.p .nilf) := by kernel_rfl
@[go_sem] theorem zeroLen58 : appendA.zeroLen Tryz.prog 58 = 1 := by kernel_rfl
attribute [go_sem] Tryz.underlying59
@[go_sem] theorem cellsOf59 : Tryz.prog.cellsOf 59 = 1 := by kernel_rfl
@[go_sem] theorem isAgg59 : isAggT Tryz.prog 59 = some false := by kernel_rfl
@[go_sem] theorem ok59 : tyOk Tryz.prog 59 = true := by kernel_rfl
@[go_sem] theorem bytes59 : Tryz.prog.bytesOf 59 = 8 := by kernel_rfl
@[go_sem] theorem zero59 : zeroOf Tryz.prog 59 = some (.p .nilf) := by kernel_rfl
@[go_sem] theorem zeroLen59 : appendA.zeroLen Tryz.prog 59 = 1 := by kernel_rfl
attribute [go_sem] Tryz.underlying61
@[go_sem] theorem cellsOf61 : Tryz.prog.cellsOf 61 = 1 := by kernel_rfl
@[go_sem] theorem isAgg61 : isAggT Tryz.prog 61 = some false := by kernel_rfl
@[go_sem] theorem ok61 : tyOk Tryz.prog 61 = true := by kernel_rfl
@[go_sem] theorem bytes61 : Tryz.prog.bytesOf 61 = 8 := by kernel_rfl
@[go_sem] theorem zero61 : zeroOf Tryz.prog 61 = some (.p .nilf) := by kernel_rfl
@[go_sem] theorem zeroLen61 : appendA.zeroLen Tryz.prog 61 = 1 := by kernel_rfl
attribute [go_sem] Tryz.underlying62
@[go_sem] theorem cellsOf62 : Tryz.prog.cellsOf 62 = 1 := by kernel_rfl
@[go_sem] theorem isAgg62 : isAggT Tryz.prog 62 = some false := by kernel_rfl
@[go_sem] theorem ok62 : tyOk Tryz.prog 62 = true := by kernel_rfl
@[go_sem] theorem bytes62 : Tryz.prog.bytesOf 62 = 8 := by kernel_rfl
@[go_sem] theorem zero62 : zeroOf Tryz.prog 62 = some (.p .nilf) := by kernel_rfl
@[go_sem] theorem zeroLen62 : appendA.zeroLen Tryz.prog 62 = 1 := by kernel_rfl
attribute [go_sem] Tryz.underlying64
@[go_sem] theorem cellsOf64 : Tryz.prog.cellsOf 64 = 1 := by kernel_rfl
@[go_sem] theorem isAgg64 : isAggT Tryz.prog 64 = some false := by kernel_rfl
@[go_sem] theorem ok64 : tyOk Tryz.prog 64 = true := by kernel_rfl
@[go_sem] theorem bytes64 : Tryz.prog.bytesOf 64 = 24 := by kernel_rfl
@[go_sem] theorem zero64 : zeroOf Tryz.prog 64 = some (.nils) := by kernel_rfl
@[go_sem] theorem zeroLen64 : appendA.zeroLen Tryz.prog 64 = 1 := by kernel_rfl
attribute [go_sem] Tryz.underlying65
@[go_sem] theorem cellsOf65 : Tryz.prog.cellsOf 65 = 1 := by kernel_rfl
@[go_sem] theorem isAgg65 : isAggT Tryz.prog 65 = some false := by kernel_rfl
@[go_sem] theorem ok65 : tyOk Tryz.prog 65 = true := by kernel_rfl
@[go_sem] theorem bytes65 : Tryz.prog.bytesOf 65 = 8 := by kernel_rfl
@[go_sem] theorem zero65 : zeroOf Tryz.prog 65 = some (.p .nilf) := by kernel_rfl
@[go_sem] theorem zeroLen65 : appendA.zeroLen Tryz.prog 65 = 1 := by kernel_rfl
attribute [go_sem] Tryz.underlying66
@[go_sem] theorem cellsOf66 : Tryz.prog.cellsOf 66 = 1 := by kernel_rfl
@[go_sem] theorem isAgg66 : isAggT Tryz.prog 66 = some false := by kernel_rfl
@[go_sem] theorem ok66 : tyOk Tryz.prog 66 = true := by kernel_rfl
@[go_sem] theorem bytes66 : Tryz.prog.bytesOf 66 = 24 := by kernel_rfl
@[go_sem] theorem zero66 : zeroOf Tryz.prog 66 = some (.nils) := by kernel_rfl
@[go_sem] theorem zeroLen66 : appendA.zeroLen Tryz.prog 66 = 1 := by kernel_rfl
attribute [go_sem] Tryz.underlying67
@[go_sem] theorem cellsOf67 : Tryz.prog.cellsOf 67 = 1 := by kernel_rfl
@[go_sem] theorem isAgg67 : isAggT Tryz.prog 67 = some false := by kernel_rfl
@[go_sem] theorem ok67 : tyOk Tryz.prog 67 = true := by kernel_rfl
@[go_sem] theorem bytes67 : Tryz.prog.bytesOf 67 = 24 := by kernel_rfl
@[go_sem] theorem zero67 : zeroOf Tryz.prog 67 = some (.nils) := by kernel_rfl
@[go_sem] theorem zeroLen67 : appendA.zeroLen Tryz.prog 67 = 1 := by kernel_rfl
attribute [go_sem] Tryz.underlying68
@[go_sem] theorem cellsOf68 : Tryz.prog.cellsOf 68 = 1 := by kernel_rfl
@[go_sem] theorem isAgg68 : isAggT Tryz.prog 68 = some false := by kernel_rfl
@[go_sem] theorem ok68 : tyOk Tryz.prog 68 = true := by kernel_rfl
@[go_sem] theorem bytes68 : Tryz.prog.bytesOf 68 = 8 := by kernel_rfl
@[go_sem] theorem zero68 : zeroOf Tryz.prog 68 = some (.p .nilf) := by kernel_rfl
@[go_sem] theorem zeroLen68 : appendA.zeroLen Tryz.prog 68 = 1 := by kernel_rfl
attribute [go_sem] Tryz.underlying69
@[go_sem] theorem cellsOf69 : Tryz.prog.cellsOf 69 = 1 := by kernel_rfl
@[go_sem] theorem isAgg69 : isAggT Tryz.prog 69 = some false := by kernel_rfl
@[go_sem] theorem ok69 : tyOk Tryz.prog 69 = true := by kernel_rfl
@[go_sem] theorem bytes69 : Tryz.prog.bytesOf 69 = 24 := by kernel_rfl
@[go_sem] theorem zero69 : zeroOf Tryz.prog 69 = some (.nils) := by kernel_rfl
@[go_sem] theorem zeroLen69 : appendA.zeroLen Tryz.prog 69 = 1 := by kernel_rfl
attribute [go_sem] Tryz.underlying70
@[go_sem] theorem cellsOf70 : Tryz.prog.cellsOf 70 = 2 := by kernel_rfl
@[go_sem] theorem isAgg70 : isAggT Tryz.prog 70 = some true := by kernel_rfl
@[go_sem] theorem ok70 : tyOk Tryz.prog 70 = true := by kernel_rfl
@[go_sem] theorem bytes70 : Tryz.prog.bytesOf 70 = 32 := by kernel_rfl
@[go_sem] theorem zero70 : zeroOf Tryz.prog 70 = some (.agg [.p (.int .i64 0), .nils]) := by kernel_rfl
@[go_sem] theorem zeroLen70 : appendA.zeroLen Tryz.prog 70 = 2 := by kernel_rfl
@[go_sem] theorem field70_0 : fieldOff Tryz.prog 70 0 = some 0 := by kernel_rfl
@[go_sem] theorem field70_1 : fieldOff Tryz.prog 70 1 = some 1 := by kernel_rfl
@[go_sem] theorem build70 (parts : List (Nat × AV)) : buildA Tryz.prog 70 parts = (fillG (fun j => [(0, 1), (1, 1)][j]?) [.p (.int .i64 0), .nils] parts).map mkAgg :=
  buildA_eq _ _ zero70 rfl (by kernel_rfl) (by kernel_rfl) (by funext j; exact placesA_eq _ _ (by kernel_rfl) j)
attribute [go_sem] Tryz.underlying71
@[go_sem] theorem cellsOf71 : Tryz.prog.cellsOf 71 = 2 := by kernel_rfl
@[go_sem] theorem isAgg71 : isAggT Tryz.prog 71 = some true := by kernel_rfl
@[go_sem] theorem ok71 : tyOk Tryz.prog 71 = true := by kernel_rfl
@[go_sem] theorem bytes71 : Tryz.prog.bytesOf 71 = 32 := by kernel_rfl
@[go_sem] theorem zero71 : zeroOf Tryz.prog 71 = some (.agg [.p (.int .i64 0), .nils]) := by kernel_rfl
@[go_sem] theorem zeroLen71 : appendA.zeroLen Tryz.prog 71 = 2 := by kernel_rfl
@[go_sem] theorem field71_0 : fieldOff Tryz.prog 71 0 = some 0 := by kernel_rfl
@[go_sem] theorem field71_1 : fieldOff Tryz.prog 71 1 = some 1 := by kernel_rfl
@[go_sem] theorem build71 (parts : List (Nat × AV)) : buildA Tryz.prog 71 parts = (fillG (fun j => [(0, 1), (1, 1)][j]?) [.p (.int .i64 0), .nils] parts).map mkAgg :=
  buildA_eq _ _ zero71 rfl (by kernel_rfl) (by kernel_rfl) (by funext j; exact placesA_eq _ _ (by kernel_rfl) j)
attribute [go_sem] Tryz.underlying72
@[go_sem] theorem cellsOf72 : Tryz.prog.cellsOf 72 = 1 := by kernel_rfl
@[go_sem] theorem isAgg72 : isAggT Tryz.prog 72 = some false := by kernel_rfl
@[go_sem] theorem ok72 : tyOk Tryz.prog 72 = true := by kernel_rfl
@[go_sem] theorem bytes72 : Tryz.prog.bytesOf 72 = 8 := by kernel_rfl
@[go_sem] theorem zero72 : zeroOf Tryz.prog 72 = some (.p .nilf) := by kernel_rfl
@[go_sem] theorem zeroLen72 : appendA.zeroLen Tryz.prog 72 = 1 := by kernel_rfl
attribute [go_sem] Tryz.underlying76
@[go_sem] theorem cellsOf76 : Tryz.prog.cellsOf 76 = 1 := by kernel_rfl
@[go_sem] theorem isAgg76 : isAggT Tryz.prog 76 = some false := by kernel_rfl
@[go_sem] theorem ok76 : tyOk Tryz.prog 76 = true := by kernel_rfl
@[go_sem] theorem bytes76 : Tryz.prog.bytesOf 76 = 8 := by kernel_rfl
@[go_sem] theorem zero76 : zeroOf Tryz.prog 76 = some (.p .nilf) := by kernel_rfl
@[go_sem] theorem zeroLen76 : appendA.zeroLen Tryz.prog 76 = 1 := by kernel_rfl
attribute [go_sem] Tryz.underlying78
@[go_sem] theorem cellsOf78 : Tryz.prog.cellsOf 78 = 1 := by kernel_rfl
@[go_sem] theorem isAgg78 : isAggT Tryz.prog 78 = some false := by kernel_rfl
@[go_sem] theorem ok78 : tyOk Tryz.prog 78 = true := by kernel_rfl
@[go_sem] theorem bytes78 : Tryz.prog.bytesOf 78 = 8 := by kernel_rfl
@[go_sem] theorem zero78 : zeroOf Tryz.prog 78 = some (.p .nilf) := by kernel_rfl
@[go_sem] theorem zeroLen78 : appendA.zeroLen Tryz.prog 78 = 1 := by kernel_rfl
attribute [go_sem] Tryz.underlying80
@[go_sem] theorem cellsOf80 : Tryz.prog.cellsOf 80 = 1 := by kernel_rfl
@[go_sem] theorem isAgg80 : isAggT Tryz.prog 80 = some false := by kernel_rfl
@[go_sem] theorem ok80 : tyOk Tryz.prog 80 = true := by kernel_rfl
@[go_sem] theorem bytes80 : Tryz.prog.bytesOf 80 = 8 := by kernel_rfl
@[go_sem] theorem zero80 : zeroOf Tryz.prog 80 = some (.p .nilf) := by kernel_rfl
@[go_sem] theorem zeroLen80 : appendA.zeroLen Tryz.prog 80 = 1 := by kernel_rfl
attribute [go_sem] Tryz.underlying84
@[go_sem] theorem cellsOf84 : Tryz.prog.cellsOf 84 = 1 := by kernel_rfl
@[go_sem] theorem isAgg84 : isAggT Tryz.prog 84 = some false := by kernel_rfl
@[go_sem] theorem ok84 : tyOk Tryz.prog 84 = true := by kernel_rfl
@[go_sem] theorem bytes84 : Tryz.prog.bytesOf 84 = 8 := by kernel_rfl
@[go_sem] theorem zero84 : zeroOf Tryz.prog 84 = some (.p .nilf) := by kernel_rfl
@[go_sem] theorem zeroLen84 : appendA.zeroLen Tryz.prog 84 = 1 := by kernel_rfl
attribute [go_sem] Tryz.underlying86
@[go_sem] theorem cellsOf86 : Tryz.prog.cellsOf 86 = 1 := by kernel_rfl
@[go_sem] theorem isAgg86 : isAggT Tryz.prog 86 = some false := by kernel_rfl
@[go_sem] theorem ok86 : tyOk Tryz.prog 86 = true := by kernel_rfl
@[go_sem] theorem bytes86 : Tryz.prog.bytesOf 86 = 8 := by kernel_rfl
@[go_sem] theorem zero86 : zeroOf Tryz.prog 86 = some (.p .nilf) := by kernel_rfl
@[go_sem] theorem zeroLen86 : appendA.zeroLen Tryz.prog 86 = 1 := by kernel_rfl
attribute [go_sem] Tryz.underlying87
@[go_sem] theorem cellsOf87 : Tryz.prog.cellsOf 87 = 1 := by kernel_rfl
@[go_sem] theorem isAgg87 : isAggT Tryz.prog 87 = some false := by kernel_rfl
@[go_sem] theorem ok87 : tyOk Tryz.prog 87 = true := by kernel_rfl
@[go_sem] theorem bytes87 : Tryz.prog.bytesOf 87 = 8 := by kernel_rfl
@[go_sem] theorem zero87 : zeroOf Tryz.prog 87 = some (.p .nilf) := by kernel_rfl
@[go_sem] theorem zeroLen87 : appendA.zeroLen Tryz.prog 87 = 1 := by kernel_rfl
attribute [go_sem] Tryz.underlying89
@[go_sem] theorem cellsOf89 : Tryz.prog.cellsOf 89 = 1 := by kernel_rfl
@[go_sem] theorem isAgg89 : isAggT Tryz.prog 89 = some false := by kernel_rfl
@[go_sem] theorem ok89 : tyOk Tryz.prog 89 = true := by kernel_rfl
@[go_sem] theorem bytes89 : Tryz.prog.bytesOf 89 = 24 := by kernel_rfl
@[go_sem] theorem zero89 : zeroOf Tryz.prog 89 = some (.nils) := by kernel_rfl
@[go_sem] theorem zeroLen89 : appendA.zeroLen Tryz.prog 89 = 1 := by kernel_rfl
attribute [go_sem] Tryz.underlying90
@[go_sem] theorem cellsOf90 : Tryz.prog.cellsOf 90 = 1 := by kernel_rfl
@[go_sem] theorem isAgg90 : isAggT Tryz.prog 90 = some false := by kernel_rfl
@[go_sem] theorem ok90 : tyOk Tryz.prog 90 = true := by kernel_rfl
@[go_sem] theorem bytes90 : Tryz.prog.bytesOf 90 = 24 := by kernel_rfl
@[go_sem] theorem zero90 : zeroOf Tryz.prog 90 = some (.nils) := by kernel_rfl
@[go_sem] theorem zeroLen90 : appendA.zeroLen Tryz.prog 90 = 1 := by kernel_rfl
attribute [go_sem] Tryz.underlying93
@[go_sem] theorem cellsOf93 : Tryz.prog.cellsOf 93 = 1 := by kernel_rfl
@[go_sem] theorem isAgg93 : isAggT Tryz.prog 93 = some false := by kernel_rfl
@[go_sem] theorem ok93 : tyOk Tryz.prog 93 = true := by kernel_rfl
@[go_sem] theorem bytes93 : Tryz.prog.bytesOf 93 = 8 := by kernel_rfl
@[go_sem] theorem zero93 : zeroOf Tryz.prog 93 = some (.p .nilf) := by kernel_rfl
@[go_sem] theorem zeroLen93 : appendA.zeroLen Tryz.prog 93 = 1 := by kernel_rfl
attribute [go_sem] Tryz.underlying97
@[go_sem] theorem cellsOf97 : Tryz.prog.cellsOf 97 = 1 := by kernel_rfl
@[go_sem] theorem isAgg97 : isAggT Tryz.prog 97 = some false := by kernel_rfl
@[go_sem] theorem ok97 : tyOk Tryz.prog 97 = true := by kernel_rfl
@[go_sem] theorem bytes97 : Tryz.prog.bytesOf 97 = 8 := by kernel_rfl
@[go_sem] theorem zero97 : zeroOf Tryz.prog 97 = some (.p .nilf) := by kernel_rfl
@[go_sem] theorem zeroLen97 : appendA.zeroLen Tryz.prog 97 = 1 := by kernel_rfl
attribute [go_sem] Tryz.underlying98
@[go_sem] theorem cellsOf98 : Tryz.prog.cellsOf 98 = 1 := by kernel_rfl
@[go_sem] theorem isAgg98 : isAggT Tryz.prog 98 = some false := by kernel_rfl
@[go_sem] theorem ok98 : tyOk Tryz.prog 98 = true := by kernel_rfl
@[go_sem] theorem bytes98 : Tryz.prog.bytesOf 98 = 8 := by kernel_rfl
@[go_sem] theorem zero98 : zeroOf Tryz.prog 98 = some (.p .nilf) := by kernel_rfl
@[go_sem] theorem zeroLen98 : appendA.zeroLen Tryz.prog 98 = 1 := by kernel_rfl
attribute [go_sem] Tryz.underlying100
@[go_sem] theorem cellsOf100 : Tryz.prog.cellsOf 100 = 1 := by kernel_rfl
@[go_sem] theorem isAgg100 : isAggT Tryz.prog 100 = some false := by kernel_rfl
@[go_sem] theorem ok100 : tyOk Tryz.prog 100 = true := by kernel_rfl
@[go_sem] theorem bytes100 : Tryz.prog.bytesOf 100 = 8 := by kernel_rfl
@[go_sem] theorem zero100 : zeroOf Tryz.prog 100 = some (.p .nilf) := by kernel_rfl
@[go_sem] theorem zeroLen100 : appendA.zeroLen Tryz.prog 100 = 1 := by kernel_rfl
attribute [go_sem] Tryz.underlying101
@[go_sem] theorem cellsOf101 : Tryz.prog.cellsOf 101 = 1 := by kernel_rfl
@[go_sem] theorem isAgg101 : isAggT Tryz.prog 101 = some false := by kernel_rfl
@[go_sem] theorem ok101 : tyOk Tryz.prog 101 = true := by kernel_rfl
@[go_sem] theorem bytes101 : Tryz.prog.bytesOf 101 = 24 := by kernel_rfl
@[go_sem] theorem zero101 : zeroOf Tryz.prog 101 = some (.nils) := by kernel_rfl
@[go_sem] theorem zeroLen101 : appendA.zeroLen Tryz.prog 101 = 1 := by kernel_rfl
attribute [go_sem] Tryz.underlying103
@[go_sem] theorem cellsOf103 : Tryz.prog.cellsOf 103 = 1 := by kernel_rfl
@[go_sem] theorem isAgg103 : isAggT Tryz.prog 103 = some false := by kernel_rfl
@[go_sem] theorem ok103 : tyOk Tryz.prog 103 = true := by kernel_rfl
@[go_sem] theorem bytes103 : Tryz.prog.bytesOf 103 = 8 := by kernel_rfl
@[go_sem] theorem zero103 : zeroOf Tryz.prog 103 = some (.p (.int .u64 0)) := by kernel_rfl
@[go_sem] theorem zeroLen103 : appendA.zeroLen Tryz.prog 103 = 1 := by kernel_rfl
@[go_sem] theorem eqI103 (d : Nat) (k k' : IntKind) (a b : Int) : eqT Tryz.prog (d + 1) 103 [.int k a] [.int k' b] = if k = k' then some (a == b) else none := eqT_int _ Tryz.underlying103 d k k' a b
attribute [go_sem] Tryz.underlying104
@[go_sem] theorem cellsOf104 : Tryz.prog.cellsOf 104 = 2 := by kernel_rfl
@[go_sem] theorem isAgg104 : isAggT Tryz.prog 104 = some true := by kernel_rfl
@[go_sem] theorem ok104 : tyOk Tryz.prog 104 = true := by kernel_rfl
@[go_sem] theorem bytes104 : Tryz.prog.bytesOf 104 = 32 := by kernel_rfl
@[go_sem] theorem zero104 : zeroOf Tryz.prog 104 = some (.agg [.p (.int .i64 0), .nils]) := by kernel_rfl
@[go_sem] theorem zeroLen104 : appendA.zeroLen Tryz.prog 104 = 2 := by kernel_rfl
@[go_sem] theorem field104_0 : fieldOff Tryz.prog 104 0 = some 0 := by kernel_rfl
@[go_sem] theorem field104_1 : fieldOff Tryz.prog 104 1 = some 1 := by kernel_rfl
@[go_sem] theorem build104 (parts : List (Nat × AV)) : buildA Tryz.prog 104 parts = (fillG (fun j => [(0, 1), (1, 1)][j]?) [.p (.int .i64 0), .nils] parts).map mkAgg :=
  buildA_eq _ _ zero104 rfl (by kernel_rfl) (by kernel_rfl) (by funext j; exact placesA_eq _ _ (by kernel_rfl) j)
attribute [go_sem] Tryz.underlying105
@[go_sem] theorem cellsOf105 : Tryz.prog.cellsOf 105 = 2 := by kernel_rfl
@[go_sem] theorem isAgg105 : isAggT Tryz.prog 105 = some true := by kernel_rfl
@[go_sem] theorem ok105 : tyOk Tryz.prog 105 = true := by kernel_rfl
@[go_sem] theorem bytes105 : Tryz.prog.bytesOf 105 = 32 := by kernel_rfl
@[go_sem] theorem zero105 : zeroOf Tryz.prog 105 = some (.agg [.p (.int .i64 0), .nils]) := by kernel_rfl
@[go_sem] theorem zeroLen105 : appendA.zeroLen Tryz.prog 105 = 2 := by kernel_rfl
@[go_sem] theorem field105_0 : fieldOff Tryz.prog 105 0 = some 0 := by kernel_rfl
@[go_sem] theorem field105_1 : fieldOff Tryz.prog 105 1 = some 1 := by kernel_rfl
@[go_sem] theorem build105 (parts : List (Nat × AV)) : buildA Tryz.prog 105 parts = (fillG (fun j => [(0, 1), (1, 1)][j]?) [.p (.int .i64 0), .nils] parts).map mkAgg :=
  buildA_eq _ _ zero105 rfl (by kernel_rfl) (by kernel_rfl) (by funext j; exact placesA_eq _ _ (by kernel_rfl) j)
attribute [go_sem] Tryz.underlying108
@[go_sem] theorem cellsOf108 : Tryz.prog.cellsOf 108 = 1 := by kernel_rfl
@[go_sem] theorem isAgg108 : isAggT Tryz.prog 108 = some false := by kernel_rfl
@[go_sem] theorem ok108 : tyOk Tryz.prog 108 = true := by kernel_rfl
@[go_sem] theorem bytes108 : Tryz.prog.bytesOf 108 = 8 := by kernel_rfl
@[go_sem] theorem zero108 : zeroOf Tryz.prog 108 = some (.p (.mapv [] [])) := by kernel_rfl
@[go_sem] theorem zeroLen108 : appendA.zeroLen Tryz.prog 108 = 1 := by kernel_rfl
attribute [go_sem] Tryz.underlying109
@[go_sem] theorem cellsOf109 : Tryz.prog.cellsOf 109 = 1 := by kernel_rfl
@[go_sem] theorem isAgg109 : isAggT Tryz.prog 109 = some false := by kernel_rfl
@[go_sem] theorem ok109 : tyOk Tryz.prog 109 = true := by kernel_rfl
@[go_sem] theorem bytes109 : Tryz.prog.bytesOf 109 = 8 := by kernel_rfl
@[go_sem] theorem zero109 : zeroOf Tryz.prog 109 = some (.p .nilf) := by kernel_rfl
@[go_sem] theorem zeroLen109 : appendA.zeroLen Tryz.prog 109 = 1 := by kernel_rfl
attribute [go_sem] Tryz.underlying111
@[go_sem] theorem cellsOf111 : Tryz.prog.cellsOf 111 = 1 := by kernel_rfl
@[go_sem] theorem isAgg111 : isAggT Tryz.prog 111 = some false := by kernel_rfl
@[go_sem] theorem ok111 : tyOk Tryz.prog 111 = true := by kernel_rfl
@[go_sem] theorem bytes111 : Tryz.prog.bytesOf 111 = 8 := by kernel_rfl
@[go_sem] theorem zero111 : zeroOf Tryz.prog 111 = some (.p (.int .u64 0)) := by kernel_rfl
@[go_sem] theorem zeroLen111 : appendA.zeroLen Tryz.prog 111 = 1 := by kernel_rfl
@[go_sem] theorem eqI111 (d : Nat) (k k' : IntKind) (a b : Int) : eqT Tryz.prog (d + 1) 111 [.int k a] [.int k' b] = if k = k' then some (a == b) else none := eqT_int _ Tryz.underlying111 d k k' a b
attribute [go_sem] Tryz.underlying112
@[go_sem] theorem cellsOf112 : Tryz.prog.cellsOf 112 = 1 := by kernel_rfl
@[go_sem] theorem isAgg112 : isAggT Tryz.prog 112 = some false := by kernel_rfl
@[go_sem] theorem ok112 : tyOk Tryz.prog 112 = true := by kernel_rfl
@[go_sem] theorem bytes112 : Tryz.prog.bytesOf 112 = 8 := by kernel_rfl
@[go_sem] theorem zero112 : zeroOf Tryz.prog 112 = some (.p .nilf) := by kernel_rfl
@[go_sem] theorem zeroLen112 : appendA.zeroLen Tryz.prog 112 = 1 := by kernel_rfl
attribute [go_sem] Tryz.underlying113
@[go_sem] theorem cellsOf113 : Tryz.prog.cellsOf 113 = 1 := by kernel_rfl
@[go_sem] theorem isAgg113 : isAggT Tryz.prog 113 = some false := by kernel_rfl
@[go_sem] theorem ok113 : tyOk Tryz.prog 113 = true := by kernel_rfl
@[go_sem] theorem bytes113 : Tryz.prog.bytesOf 113 = 8 := by kernel_rfl
@[go_sem] theorem zero113 : zeroOf Tryz.prog 113 = some (.p .nilf) := by kernel_rfl
@[go_sem] theorem zeroLen113 : appendA.zeroLen Tryz.prog 113 = 1 := by kernel_rfl
attribute [go_sem] Tryz.underlying116
@[go_sem] theorem cellsOf116 : Tryz.prog.cellsOf 116 = 1 := by kernel_rfl
@[go_sem] theorem isAgg116 : isAggT Tryz.prog 116 = some false := by kernel_rfl
@[go_sem] theorem ok116 : tyOk Tryz.prog 116 = true := by kernel_rfl
@[go_sem] theorem bytes116 : Tryz.prog.bytesOf 116 = 8 := by kernel_rfl
@[go_sem] theorem zero116 : zeroOf Tryz.prog 116 = some (.p .nilf) := by kernel_rfl
@[go_sem] theorem zeroLen116 : appendA.zeroLen Tryz.prog 116 = 1 := by kernel_rfl
attribute [go_sem] Tryz.underlying119
@[go_sem] theorem cellsOf119 : Tryz.prog.cellsOf 119 = 2 := by kernel_rfl
@[go_sem] theorem isAgg119 : isAggT Tryz.prog 119 = some true := by kernel_rfl
@[go_sem] theorem ok119 : tyOk Tryz.prog 119 = true := by kernel_rfl
@[go_sem] theorem bytes119 : Tryz.prog.bytesOf 119 = 16 := by kernel_rfl
@[go_sem] theorem zero119 : zeroOf Tryz.prog 119 = some (.p (.agg [(.int .u64 0), (.int .u64 0)])) := by kernel_rfl
@[go_sem] theorem zeroLen119 : appendA.zeroLen Tryz.prog 119 = 2 := by kernel_rfl
@[go_sem] theorem field119_0 : fieldOff Tryz.prog 119 0 = some 0 := by kernel_rfl
@[go_sem] theorem field119_1 : fieldOff Tryz.prog 119 1 = some 1 := by kernel_rfl
@[go_sem] theorem build119 (parts : List (Nat × AV)) : buildA Tryz.prog 119 parts = (fillG (fun j => [(0, 1), (1, 1)][j]?) [.p (.int .u64 0), .p (.int .u64 0)] parts).map mkAgg :=
  buildA_eq _ _ zero119 rfl (by kernel_rfl) (by kernel_rfl) (by funext j; exact placesA_eq _ _ (by kernel_rfl) j)
@[go_sem] theorem eqS119 (d : Nat) (xs ys : List PV) : eqT Tryz.prog (d + 1) 119 xs ys = eqL (eqT Tryz.prog d) [(103, 0, 1), (103, 1, 1)] xs ys := eqT_struct _ (by kernel_rfl) (by kernel_rfl) (by kernel_rfl) (by kernel_rfl) d xs ys
@[go_sem] theorem eqg119 : Tryz.prog.eqGuardType Tryz.prog.depth 119 = false := by kernel_rfl
attribute [go_sem] Tryz.underlying120
@[go_sem] theorem cellsOf120 : Tryz.prog.cellsOf 120 = 2 := by kernel_rfl
@[go_sem] theorem isAgg120 : isAggT Tryz.prog 120 = some true := by kernel_rfl
@[go_sem] theorem ok120 : tyOk Tryz.prog 120 = true := by kernel_rfl
@[go_sem] theorem bytes120 : Tryz.prog.bytesOf 120 = 16 := by kernel_rfl
@[go_sem] theorem zero120 : zeroOf Tryz.prog 120 = some (.p (.agg [(.int .u64 0), (.int .u64 0)])) := by kernel_rfl
@[go_sem] theorem zeroLen120 : appendA.zeroLen Tryz.prog 120 = 2 := by kernel_rfl
@[go_sem] theorem field120_0 : fieldOff Tryz.prog 120 0 = some 0 := by kernel_rfl
@[go_sem] theorem field120_1 : fieldOff Tryz.prog 120 1 = some 1 := by kernel_rfl
@[go_sem] theorem build120 (parts : List (Nat × AV)) : buildA Tryz.prog 120 parts = (fillG (fun j => [(0, 1), (1, 1)][j]?) [.p (.int .u64 0), .p (.int .u64 0)] parts).map mkAgg :=
  buildA_eq _ _ zero120 rfl (by kernel_rfl) (by kernel_rfl) (by funext j; exact placesA_eq _ _ (by kernel_rfl) j)
@[go_sem] theorem eqS120 (d : Nat) (xs ys : List PV) : eqT Tryz.prog (d + 1) 120 xs ys = eqL (eqT Tryz.prog d) [(103, 0, 1), (103, 1, 1)] xs ys := eqT_struct _ (by kernel_rfl) (by kernel_rfl) (by kernel_rfl) (by kernel_rfl) d xs ys
@[go_sem] theorem eqg120 : Tryz.prog.eqGuardType Tryz.prog.depth 120 = false := by kernel_rfl
attribute [go_sem] Tryz.underlying124
@[go_sem] theorem cellsOf124 : Tryz.prog.cellsOf 124 = 1 := by kernel_rfl
@[go_sem] theorem isAgg124 : isAggT Tryz.prog 124 = some false := by kernel_rfl
@[go_sem] theorem ok124 : tyOk Tryz.prog 124 = true := by kernel_rfl
@[go_sem] theorem bytes124 : Tryz.prog.bytesOf 124 = 8 := by kernel_rfl
@[go_sem] theorem zero124 : zeroOf Tryz.prog 124 = some (.p .nilf) := by kernel_rfl
@[go_sem] theorem zeroLen124 : appendA.zeroLen Tryz.prog 124 = 1 := by kernel_rfl
attribute [go_sem] Tryz.underlying125
@[go_sem] theorem cellsOf125 : Tryz.prog.cellsOf 125 = 1 := by kernel_rfl
@[go_sem] theorem isAgg125 : isAggT Tryz.prog 125 = some false := by kernel_rfl
@[go_sem] theorem ok125 : tyOk Tryz.prog 125 = true := by kernel_rfl
@[go_sem] theorem bytes125 : Tryz.prog.bytesOf 125 = 8 := by kernel_rfl
@[go_sem] theorem zero125 : zeroOf Tryz.prog 125 = some (.p .nilf) := by kernel_rfl
@[go_sem] theorem zeroLen125 : appendA.zeroLen Tryz.prog 125 = 1 := by kernel_rfl
attribute [go_sem] Tryz.underlying128
@[go_sem] theorem cellsOf128 : Tryz.prog.cellsOf 128 = 2 := by kernel_rfl
@[go_sem] theorem isAgg128 : isAggT Tryz.prog 128 = some true := by kernel_rfl
@[go_sem] theorem ok128 : tyOk Tryz.prog 128 = true := by kernel_rfl
@[go_sem] theorem bytes128 : Tryz.prog.bytesOf 128 = 16 := by kernel_rfl
@[go_sem] theorem zero128 : zeroOf Tryz.prog 128 = some (.p (.agg [(.int .u64 0), (.int .u64 0)])) := by kernel_rfl
@[go_sem] theorem zeroLen128 : appendA.zeroLen Tryz.prog 128 = 2 := by kernel_rfl
@[go_sem] theorem field128_0 : fieldOff Tryz.prog 128 0 = some 0 := by kernel_rfl
@[go_sem] theorem field128_1 : fieldOff Tryz.prog 128 1 = some 1 := by kernel_rfl
@[go_sem] theorem build128 (parts : List (Nat × AV)) : buildA Tryz.prog 128 parts = (fillG (fun j => [(0, 1), (1, 1)][j]?) [.p (.int .u64 0), .p (.int .u64 0)] parts).map mkAgg :=
  buildA_eq _ _ zero128 rfl (by kernel_rfl) (by kernel_rfl) (by funext j; exact placesA_eq _ _ (by kernel_rfl) j)
@[go_sem] theorem eqS128 (d : Nat) (xs ys : List PV) : eqT Tryz.prog (d + 1) 128 xs ys = eqL (eqT Tryz.prog d) [(103, 0, 1), (103, 1, 1)] xs ys := eqT_struct _ (by kernel_rfl) (by kernel_rfl) (by kernel_rfl) (by kernel_rfl) d xs ys
@[go_sem] theorem eqg128 : Tryz.prog.eqGuardType Tryz.prog.depth 128 = false := by kernel_rfl
attribute [go_sem] Tryz.underlying129
@[go_sem] theorem cellsOf129 : Tryz.prog.cellsOf 129 = 2 := by kernel_rfl
@[go_sem] theorem isAgg129 : isAggT Tryz.prog 129 = some true := by kernel_rfl
@[go_sem] theorem ok129 : tyOk Tryz.prog 129 = true := by kernel_rfl
@[go_sem] theorem bytes129 : Tryz.prog.bytesOf 129 = 16 := by kernel_rfl
@[go_sem] theorem zero129 : zeroOf Tryz.prog 129 = some (.p (.agg [(.int .u64 0), (.int .u64 0)])) := by kernel_rfl
@[go_sem] theorem zeroLen129 : appendA.zeroLen Tryz.prog 129 = 2 := by kernel_rfl
@[go_sem] theorem field129_0 : fieldOff Tryz.prog 129 0 = some 0 := by kernel_rfl
@[go_sem] theorem field129_1 : fieldOff Tryz.prog 129 1 = some 1 := by kernel_rfl
@[go_sem] theorem build129 (parts : List (Nat × AV)) : buildA Tryz.prog 129 parts = (fillG (fun j => [(0, 1), (1, 1)][j]?) [.p (.int .u64 0), .p (.int .u64 0)] parts).map mkAgg :=
  buildA_eq _ _ zero129 rfl (by kernel_rfl) (by kernel_rfl) (by funext j; exact placesA_eq _ _ (by kernel_rfl) j)
@[go_sem] theorem eqS129 (d : Nat) (xs ys : List PV) : eqT Tryz.prog (d + 1) 129 xs ys = eqL (eqT Tryz.prog d) [(103, 0, 1), (103, 1, 1)] xs ys := eqT_struct _ (by kernel_rfl) (by kernel_rfl) (by kernel_rfl) (by kernel_rfl) d xs ys
@[go_sem] theorem eqg129 : Tryz.prog.eqGuardType Tryz.prog.depth 129 = false := by kernel_rfl
attribute [go_sem] Tryz.underlying134
@[go_sem] theorem cellsOf134 : Tryz.prog.cellsOf 134 = 1 := by kernel_rfl
@[go_sem] theorem isAgg134 : isAggT Tryz.prog 134 = some false := by kernel_rfl
@[go_sem] theorem ok134 : tyOk Tryz.prog 134 = true := by kernel_rfl
@[go_sem] theorem bytes134 : Tryz.prog.bytesOf 134 = 8 := by kernel_rfl
@[go_sem] theorem zero134 : zeroOf Tryz.prog 134 = some (.p .nilf) := by kernel_rfl
@[go_sem] theorem zeroLen134 : appendA.zeroLen Tryz.prog 134 = 1 := by kernel_rfl
attribute [go_sem] Tryz.underlying137
@[go_sem] theorem cellsOf137 : Tryz.prog.cellsOf 137 = 3 := by kernel_rfl
@[go_sem] theorem isAgg137 : isAggT Tryz.prog 137 = some true := by kernel_rfl
@[go_sem] theorem ok137 : tyOk Tryz.prog 137 = true := by kernel_rfl
@[go_sem] theorem bytes137 : Tryz.prog.bytesOf 137 = 32 := by kernel_rfl
@[go_sem] theorem zero137 : zeroOf Tryz.prog 137 = some (.p (.agg [(.int .i64 0), (.int .i64 0), (.str [])])) := by kernel_rfl
@[go_sem] theorem zeroLen137 : appendA.zeroLen Tryz.prog 137 = 3 := by kernel_rfl
@[go_sem] theorem field137_0 : fieldOff Tryz.prog 137 0 = some 0 := by kernel_rfl
@[go_sem] theorem field137_1 : fieldOff Tryz.prog 137 1 = some 1 := by kernel_rfl
@[go_sem] theorem field137_2 : fieldOff Tryz.prog 137 2 = some 2 := by kernel_rfl
@[go_sem] theorem build137 (parts : List (Nat × AV)) : buildA Tryz.prog 137 parts = (fillG (fun j => [(0, 1), (1, 1), (2, 1)][j]?) [.p (.int .i64 0), .p (.int .i64 0), .p (.str [])] parts).map mkAgg :=
  buildA_eq _ _ zero137 rfl (by kernel_rfl) (by kernel_rfl) (by funext j; exact placesA_eq _ _ (by kernel_rfl) j)
@[go_sem] theorem eqS137 (d : Nat) (xs ys : List PV) : eqT Tryz.prog (d + 1) 137 xs ys = eqL (eqT Tryz.prog d) [(3, 0, 1), (2, 1, 1), (9, 2, 1)] xs ys := eqT_struct _ (by kernel_rfl) (by kernel_rfl) (by kernel_rfl) (by kernel_rfl) d xs ys
@[go_sem] theorem eqg137 : Tryz.prog.eqGuardType Tryz.prog.depth 137 = false := by kernel_rfl
attribute [go_sem] Tryz.underlying138
@[go_sem] theorem cellsOf138 : Tryz.prog.cellsOf 138 = 3 := by kernel_rfl
@[go_sem] theorem isAgg138 : isAggT Tryz.prog 138 = some true := by kernel_rfl
@[go_sem] theorem ok138 : tyOk Tryz.prog 138 = true := by kernel_rfl
@[go_sem] theorem bytes138 : Tryz.prog.bytesOf 138 = 32 := by kernel_rfl
@[go_sem] theorem zero138 : zeroOf Tryz.prog 138 = some (.p (.agg [(.int .i64 0), (.int .i64 0), (.str [])])) := by kernel_rfl
@[go_sem] theorem zeroLen138 : appendA.zeroLen Tryz.prog 138 = 3 := by kernel_rfl
@[go_sem] theorem field138_0 : fieldOff Tryz.prog 138 0 = some 0 := by kernel_rfl
@[go_sem] theorem field138_1 : fieldOff Tryz.prog 138 1 = some 1 := by kernel_rfl
@[go_sem] theorem field138_2 : fieldOff Tryz.prog 138 2 = some 2 := by kernel_rfl
@[go_sem] theorem build138 (parts : List (Nat × AV)) : buildA Tryz.prog 138 parts = (fillG (fun j => [(0, 1), (1, 1), (2, 1)][j]?) [.p (.int .i64 0), .p (.int .i64 0), .p (.str [])] parts).map mkAgg :=
  buildA_eq _ _ zero138 rfl (by kernel_rfl) (by kernel_rfl) (by funext j; exact placesA_eq _ _ (by kernel_rfl) j)
@[go_sem] theorem eqS138 (d : Nat) (xs ys : List PV) : eqT Tryz.prog (d + 1) 138 xs ys = eqL (eqT Tryz.prog d) [(3, 0, 1), (2, 1, 1), (9, 2, 1)] xs ys := eqT_struct _ (by kernel_rfl) (by kernel_rfl) (by kernel_rfl) (by kernel_rfl) d xs ys
@[go_sem] theorem eqg138 : Tryz.prog.eqGuardType Tryz.prog.depth 138 = false := by kernel_rfl
attribute [go_sem] Tryz.underlying139
@[go_sem] theorem cellsOf139 : Tryz.prog.cellsOf 139 = 1 := by kernel_rfl
@[go_sem] theorem isAgg139 : isAggT Tryz.prog 139 = some false := by kernel_rfl
@[go_sem] theorem ok139 : tyOk Tryz.prog 139 = true := by kernel_rfl
@[go_sem] theorem bytes139 : Tryz.prog.bytesOf 139 = 8 := by kernel_rfl
@[go_sem] theorem zero139 : zeroOf Tryz.prog 139 = some (.p .nilf) := by kernel_rfl
@[go_sem] theorem zeroLen139 : appendA.zeroLen Tryz.prog 139 = 1 := by kernel_rfl
attribute [go_sem] Tryz.underlying144
@[go_sem] theorem cellsOf144 : Tryz.prog.cellsOf 144 = 1 := by kernel_rfl
@[go_sem] theorem isAgg144 : isAggT Tryz.prog 144 = some false := by kernel_rfl
@[go_sem] theorem ok144 : tyOk Tryz.prog 144 = true := by kernel_rfl
@[go_sem] theorem bytes144 : Tryz.prog.bytesOf 144 = 8 := by kernel_rfl
@[go_sem] theorem zero144 : zeroOf Tryz.prog 144 = some (.p .nilf) := by kernel_rfl
@[go_sem] theorem zeroLen144 : appendA.zeroLen Tryz.prog 144 = 1 := by kernel_rfl
attribute [go_sem] Tryz.underlying146
@[go_sem] theorem cellsOf146 : Tryz.prog.cellsOf 146 = 1 := by kernel_rfl
@[go_sem] theorem isAgg146 : isAggT Tryz.prog 146 = some false := by kernel_rfl
@[go_sem] theorem ok146 : tyOk Tryz.prog 146 = true := by kernel_rfl
@[go_sem] theorem bytes146 : Tryz.prog.bytesOf 146 = 8 := by kernel_rfl
@[go_sem] theorem zero146 : zeroOf Tryz.prog 146 = some (.p (.int .i64 0)) := by kernel_rfl
@[go_sem] theorem zeroLen146 : appendA.zeroLen Tryz.prog 146 = 1 := by kernel_rfl
@[go_sem] theorem eqI146 (d : Nat) (k k' : IntKind) (a b : Int) : eqT Tryz.prog (d + 1) 146 [.int k a] [.int k' b] = if k = k' then some (a == b) else none := eqT_int _ Tryz.underlying146 d k k' a b
attribute [go_sem] Tryz.underlying166
@[go_sem] theorem cellsOf166 : Tryz.prog.cellsOf 166 = 1 := by kernel_rfl
@[go_sem] theorem isAgg166 : isAggT Tryz.prog 166 = some false := by kernel_rfl
@[go_sem] theorem ok166 : tyOk Tryz.prog 166 = true := by kernel_rfl
@[go_sem] theorem bytes166 : Tryz.prog.bytesOf 166 = 8 := by kernel_rfl
@[go_sem] theorem zero166 : zeroOf Tryz.prog 166 = some (.p .nilf) := by kernel_rfl
@[go_sem] theorem zeroLen166 : appendA.zeroLen Tryz.prog 166 = 1 := by kernel_rfl
attribute [go_sem] Tryz.underlying168
@[go_sem] theorem cellsOf168 : Tryz.prog.cellsOf 168 = 1 := by kernel_rfl
@[go_sem] theorem isAgg168 : isAggT Tryz.prog 168 = some false := by kernel_rfl
@[go_sem] theorem ok168 : tyOk Tryz.prog 168 = true := by kernel_rfl
@[go_sem] theorem bytes168 : Tryz.prog.bytesOf 168 = 8 := by kernel_rfl
@[go_sem] theorem zero168 : zeroOf Tryz.prog 168 = some (.p .nilf) := by kernel_rfl
@[go_sem] theorem zeroLen168 : appendA.zeroLen Tryz.prog 168 = 1 := by kernel_rfl
attribute [go_sem] Tryz.underlying175
@[go_sem] theorem cellsOf175 : Tryz.prog.cellsOf 175 = 1 := by kernel_rfl
@[go_sem] theorem isAgg175 : isAggT Tryz.prog 175 = some false := by kernel_rfl
@[go_sem] theorem ok175 : tyOk Tryz.prog 175 = true := by kernel_rfl
@[go_sem] theorem bytes175 : Tryz.prog.bytesOf 175 = 8 := by kernel_rfl
@[go_sem] theorem zero175 : zeroOf Tryz.prog 175 = some (.p .nilp) := by kernel_rfl
@[go_sem] theorem zeroLen175 : appendA.zeroLen Tryz.prog 175 = 1 := by kernel_rfl
attribute [go_sem] Tryz.underlying176
@[go_sem] theorem cellsOf176 : Tryz.prog.cellsOf 176 = 2 := by kernel_rfl
@[go_sem] theorem isAgg176 : isAggT Tryz.prog 176 = some true := by kernel_rfl
@[go_sem] theorem ok176 : tyOk Tryz.prog 176 = true := by kernel_rfl
@[go_sem] theorem bytes176 : Tryz.prog.bytesOf 176 = 32 := by kernel_rfl
@[go_sem] theorem zero176 : zeroOf Tryz.prog 176 = some (.agg [.p .nilp, .nils]) := by kernel_rfl
@[go_sem] theorem zeroLen176 : appendA.zeroLen Tryz.prog 176 = 2 := by kernel_rfl
@[go_sem] theorem field176_0 : fieldOff Tryz.prog 176 0 = some 0 := by kernel_rfl
@[go_sem] theorem field176_1 : fieldOff Tryz.prog 176 1 = some 1 := by kernel_rfl
@[go_sem] theorem build176 (parts : List (Nat × AV)) : buildA Tryz.prog 176 parts = (fillG (fun j => [(0, 1), (1, 1)][j]?) [.p .nilp, .nils] parts).map mkAgg :=
  buildA_eq _ _ zero176 rfl (by kernel_rfl) (by kernel_rfl) (by funext j; exact placesA_eq _ _ (by kernel_rfl) j)
attribute [go_sem] Tryz.underlying177
@[go_sem] theorem cellsOf177 : Tryz.prog.cellsOf 177 = 2 := by kernel_rfl
@[go_sem] theorem isAgg177 : isAggT Tryz.prog 177 = some true := by kernel_rfl
@[go_sem] theorem ok177 : tyOk Tryz.prog 177 = true := by kernel_rfl
@[go_sem] theorem bytes177 : Tryz.prog.bytesOf 177 = 32 := by kernel_rfl
@[go_sem] theorem zero177 : zeroOf Tryz.prog 177 = some (.agg [.p .nilp, .nils]) := by kernel_rfl
@[go_sem] theorem zeroLen177 : appendA.zeroLen Tryz.prog 177 = 2 := by kernel_rfl
@[go_sem] theorem field177_0 : fieldOff Tryz.prog 177 0 = some 0 := by kernel_rfl
@[go_sem] theorem field177_1 : fieldOff Tryz.prog 177 1 = some 1 := by kernel_rfl
@[go_sem] theorem build177 (parts : List (Nat × AV)) : buildA Tryz.prog 177 parts = (fillG (fun j => [(0, 1), (1, 1)][j]?) [.p .nilp, .nils] parts).map mkAgg :=
  buildA_eq _ _ zero177 rfl (by kernel_rfl) (by kernel_rfl) (by funext j; exact placesA_eq _ _ (by kernel_rfl) j)
attribute [go_sem] Tryz.underlying180
@[go_sem] theorem cellsOf180 : Tryz.prog.cellsOf 180 = 1 := by kernel_rfl
@[go_sem] theorem isAgg180 : isAggT Tryz.prog 180 = some false := by kernel_rfl
@[go_sem] theorem ok180 : tyOk Tryz.prog 180 = true := by kernel_rfl
@[go_sem] theorem bytes180 : Tryz.prog.bytesOf 180 = 16 := by kernel_rfl
@[go_sem] theorem zero180 : zeroOf Tryz.prog 180 = some (.p .nili) := by kernel_rfl
@[go_sem] theorem zeroLen180 : appendA.zeroLen Tryz.prog 180 = 1 := by kernel_rfl
attribute [go_sem] Tryz.underlying181
@[go_sem] theorem cellsOf181 : Tryz.prog.cellsOf 181 = 1 := by kernel_rfl
@[go_sem] theorem isAgg181 : isAggT Tryz.prog 181 = some false := by kernel_rfl
@[go_sem] theorem ok181 : tyOk Tryz.prog 181 = true := by kernel_rfl
@[go_sem] theorem bytes181 : Tryz.prog.bytesOf 181 = 16 := by kernel_rfl
@[go_sem] theorem zero181 : zeroOf Tryz.prog 181 = some (.p .nili) := by kernel_rfl
@[go_sem] theorem zeroLen181 : appendA.zeroLen Tryz.prog 181 = 1 := by kernel_rfl
attribute [go_sem] Tryz.underlying186
@[go_sem] theorem cellsOf186 : Tryz.prog.cellsOf 186 = 1 := by kernel_rfl
@[go_sem] theorem isAgg186 : isAggT Tryz.prog 186 = some false := by kernel_rfl
@[go_sem] theorem ok186 : tyOk Tryz.prog 186 = true := by kernel_rfl
@[go_sem] theorem bytes186 : Tryz.prog.bytesOf 186 = 8 := by kernel_rfl
@[go_sem] theorem zero186 : zeroOf Tryz.prog 186 = some (.p (.int .u64 0)) := by kernel_rfl
@[go_sem] theorem zeroLen186 : appendA.zeroLen Tryz.prog 186 = 1 := by kernel_rfl
@[go_sem] theorem eqI186 (d : Nat) (k k' : IntKind) (a b : Int) : eqT Tryz.prog (d + 1) 186 [.int k a] [.int k' b] = if k = k' then some (a == b) else none := eqT_int _ Tryz.underlying186 d k k' a b
attribute [go_sem] Tryz.underlying190
@[go_sem] theorem cellsOf190 : Tryz.prog.cellsOf 190 = 1 := by kernel_rfl
@[go_sem] theorem isAgg190 : isAggT Tryz.prog 190 = some false := by kernel_rfl
@[go_sem] theorem ok190 : tyOk Tryz.prog 190 = true := by kernel_rfl
@[go_sem] theorem bytes190 : Tryz.prog.bytesOf 190 = 8 := by kernel_rfl
@[go_sem] theorem zero190 : zeroOf Tryz.prog 190 = some (.p .nilp) := by kernel_rfl
@[go_sem] theorem zeroLen190 : appendA.zeroLen Tryz.prog 190 = 1 := by kernel_rfl
attribute [go_sem] Tryz.underlying199
@[go_sem] theorem cellsOf199 : Tryz.prog.cellsOf 199 = 1 := by kernel_rfl
@[go_sem] theorem isAgg199 : isAggT Tryz.prog 199 = some false := by kernel_rfl
@[go_sem] theorem ok199 : tyOk Tryz.prog 199 = true := by kernel_rfl
@[go_sem] theorem bytes199 : Tryz.prog.bytesOf 199 = 8 := by kernel_rfl
@[go_sem] theorem zero199 : zeroOf Tryz.prog 199 = some (.p .nilp) := by kernel_rfl
@[go_sem] theorem zeroLen199 : appendA.zeroLen Tryz.prog 199 = 1 := by kernel_rfl
attribute [go_sem] Tryz.underlying200
@[go_sem] theorem cellsOf200 : Tryz.prog.cellsOf 200 = 1 := by kernel_rfl
@[go_sem] theorem isAgg200 : isAggT Tryz.prog 200 = some false := by kernel_rfl
@[go_sem] theorem ok200 : tyOk Tryz.prog 200 = true := by kernel_rfl
@[go_sem] theorem bytes200 : Tryz.prog.bytesOf 200 = 8 := by kernel_rfl
@[go_sem] theorem zero200 : zeroOf Tryz.prog 200 = some (.p (.mapv [] [])) := by kernel_rfl
@[go_sem] theorem zeroLen200 : appendA.zeroLen Tryz.prog 200 = 1 := by kernel_rfl
attribute [go_sem] Tryz.underlying202
@[go_sem] theorem cellsOf202 : Tryz.prog.cellsOf 202 = 1 := by kernel_rfl
@[go_sem] theorem isAgg202 : isAggT Tryz.prog 202 = some false := by kernel_rfl
@[go_sem] theorem ok202 : tyOk Tryz.prog 202 = true := by kernel_rfl
@[go_sem] theorem bytes202 : Tryz.prog.bytesOf 202 = 8 := by kernel_rfl
@[go_sem] theorem zero202 : zeroOf Tryz.prog 202 = some (.p .nilf) := by kernel_rfl
@[go_sem] theorem zeroLen202 : appendA.zeroLen Tryz.prog 202 = 1 := by kernel_rfl
attribute [go_sem] Tryz.underlying203
@[go_sem] theorem cellsOf203 : Tryz.prog.cellsOf 203 = 1 := by kernel_rfl
@[go_sem] theorem isAgg203 : isAggT Tryz.prog 203 = some false := by kernel_rfl
@[go_sem] theorem ok203 : tyOk Tryz.prog 203 = true := by kernel_rfl
@[go_sem] theorem bytes203 : Tryz.prog.bytesOf 203 = 8 := by kernel_rfl
@[go_sem] theorem zero203 : zeroOf Tryz.prog 203 = some (.p .nilp) := by kernel_rfl
@[go_sem] theorem zeroLen203 : appendA.zeroLen Tryz.prog 203 = 1 := by kernel_rfl
attribute [go_sem] Tryz.underlying213
@[go_sem] theorem cellsOf213 : Tryz.prog.cellsOf 213 = 32 := by kernel_rfl
@[go_sem] theorem isAgg213 : isAggT Tryz.prog 213 = some true := by kernel_rfl
@[go_sem] theorem ok213 : tyOk Tryz.prog 213 = true := by kernel_rfl
@[go_sem] theorem bytes213 : Tryz.prog.bytesOf 213 = 32 := by kernel_rfl
@[go_sem] theorem zero213 : zeroOf Tryz.prog 213 = some (.p (.agg [(.int .u8 0), (.int .u8 0), (.int .u8 0), (.int .u8 0), (.int .u8 0), (.int .u8 0), (.int .u8 0), (.int .u8 0), (.int .u8 0), (.int .u8 0), (.int .u8 0), (.int .u8 0), (.int .u8 0), (.int .u8 0), (.int .u8 0), (.int .u8 0), (.int .u8 0), (.int .u8 0), (.int .u8 0), (.int .u8 0), (.int .u8 0), (.int .u8 0), (.int .u8 0), (.int .u8 0), (.int .u8 0), (.int .u8 0), (.int .u8 0), (.int .u8 0), (.int .u8 0), (.int .u8 0), (.int .u8 0), (.int .u8 0)])) := by kernel_rfl
@[go_sem] theorem zeroLen213 : appendA.zeroLen Tryz.prog 213 = 32 := by kernel_rfl
attribute [go_sem] Tryz.underlying220
@[go_sem] theorem cellsOf220 : Tryz.prog.cellsOf 220 = 4 := by kernel_rfl
@[go_sem] theorem isAgg220 : isAggT Tryz.prog 220 = some true := by kernel_rfl
@[go_sem] theorem ok220 : tyOk Tryz.prog 220 = true := by kernel_rfl
@[go_sem] theorem bytes220 : Tryz.prog.bytesOf 220 = 40 := by kernel_rfl
@[go_sem] theorem zero220 : zeroOf Tryz.prog 220 = some (.p (.agg [.nilp, .nilp, .nilp, (.str [])])) := by kernel_rfl
@[go_sem] theorem zeroLen220 : appendA.zeroLen Tryz.prog 220 = 4 := by kernel_rfl
@[go_sem] theorem field220_0 : fieldOff Tryz.prog 220 0 = some 0 := by kernel_rfl
@[go_sem] theorem field220_1 : fieldOff Tryz.prog 220 1 = some 1 := by kernel_rfl
@[go_sem] theorem field220_2 : fieldOff Tryz.prog 220 2 = some 2 := by kernel_rfl
@[go_sem] theorem field220_3 : fieldOff Tryz.prog 220 3 = some 3 := by kernel_rfl
@[go_sem] theorem build220 (parts : List (Nat × AV)) : buildA Tryz.prog 220 parts = (fillG (fun j => [(0, 1), (1, 1), (2, 1), (3, 1)][j]?) [.p .nilp, .p .nilp, .p .nilp, .p (.str [])] parts).map mkAgg :=
  buildA_eq _ _ zero220 rfl (by kernel_rfl) (by kernel_rfl) (by funext j; exact placesA_eq _ _ (by kernel_rfl) j)
attribute [go_sem] Tryz.underlying221
@[go_sem] theorem cellsOf221 : Tryz.prog.cellsOf 221 = 4 := by kernel_rfl
@[go_sem] theorem isAgg221 : isAggT Tryz.prog 221 = some true := by kernel_rfl
@[go_sem] theorem ok221 : tyOk Tryz.prog 221 = true := by kernel_rfl
@[go_sem] theorem bytes221 : Tryz.prog.bytesOf 221 = 40 := by kernel_rfl
@[go_sem] theorem zero221 : zeroOf Tryz.prog 221 = some (.p (.agg [.nilp, .nilp, .nilp, (.str [])])) := by kernel_rfl
@[go_sem] theorem zeroLen221 : appendA.zeroLen Tryz.prog 221 = 4 := by kernel_rfl
@[go_sem] theorem field221_0 : fieldOff Tryz.prog 221 0 = some 0 := by kernel_rfl
@[go_sem] theorem field221_1 : fieldOff Tryz.prog 221 1 = some 1 := by kernel_rfl
@[go_sem] theorem field221_2 : fieldOff Tryz.prog 221 2 = some 2 := by kernel_rfl
@[go_sem] theorem field221_3 : fieldOff Tryz.prog 221 3 = some 3 := by kernel_rfl
@[go_sem] theorem build221 (parts : List (Nat × AV)) : buildA Tryz.prog 221 parts = (fillG (fun j => [(0, 1), (1, 1), (2, 1), (3, 1)][j]?) [.p .nilp, .p .nilp, .p .nilp, .p (.str [])] parts).map mkAgg :=
  buildA_eq _ _ zero221 rfl (by kernel_rfl) (by kernel_rfl) (by funext j; exact placesA_eq _ _ (by kernel_rfl) j)
attribute [go_sem] Tryz.underlying222
@[go_sem] theorem cellsOf222 : Tryz.prog.cellsOf 222 = 0 := by kernel_rfl
@[go_sem] theorem isAgg222 : isAggT Tryz.prog 222 = some true := by kernel_rfl
@[go_sem] theorem ok222 : tyOk Tryz.prog 222 = true := by kernel_rfl
@[go_sem] theorem bytes222 : Tryz.prog.bytesOf 222 = 0 := by kernel_rfl
@[go_sem] theorem zero222 : zeroOf Tryz.prog 222 = some (.p (.agg [])) := by kernel_rfl
@[go_sem] theorem zeroLen222 : appendA.zeroLen Tryz.prog 222 = 0 := by kernel_rfl
attribute [go_sem] Tryz.underlying223
@[go_sem] theorem cellsOf223 : Tryz.prog.cellsOf 223 = 0 := by kernel_rfl
@[go_sem] theorem isAgg223 : isAggT Tryz.prog 223 = some true := by kernel_rfl
@[go_sem] theorem ok223 : tyOk Tryz.prog 223 = true := by kernel_rfl
@[go_sem] theorem bytes223 : Tryz.prog.bytesOf 223 = 0 := by kernel_rfl
@[go_sem] theorem zero223 : zeroOf Tryz.prog 223 = some (.p (.agg [])) := by kernel_rfl
@[go_sem] theorem zeroLen223 : appendA.zeroLen Tryz.prog 223 = 0 := by kernel_rfl
@[go_sem] theorem build223 (parts : List (Nat × AV)) : buildA Tryz.prog 223 parts = (fillG (fun j => [(0, 0)][j]?) [] parts).map mkAgg :=
  buildA_eq _ _ zero223 rfl (by kernel_rfl) (by kernel_rfl) (by funext j; exact placesA_eq _ _ (by kernel_rfl) j)
attribute [go_sem] Tryz.underlying224
@[go_sem] theorem cellsOf224 : Tryz.prog.cellsOf 224 = 0 := by kernel_rfl
@[go_sem] theorem isAgg224 : isAggT Tryz.prog 224 = some true := by kernel_rfl
@[go_sem] theorem ok224 : tyOk Tryz.prog 224 = true := by kernel_rfl
@[go_sem] theorem bytes224 : Tryz.prog.bytesOf 224 = 0 := by kernel_rfl
@[go_sem] theorem zero224 : zeroOf Tryz.prog 224 = some (.p (.agg [])) := by kernel_rfl
@[go_sem] theorem zeroLen224 : appendA.zeroLen Tryz.prog 224 = 0 := by kernel_rfl
@[go_sem] theorem build224 (parts : List (Nat × AV)) : buildA Tryz.prog 224 parts = (fillG (fun j => [(0, 0)][j]?) [] parts).map mkAgg :=
  buildA_eq _ _ zero224 rfl (by kernel_rfl) (by kernel_rfl) (by funext j; exact placesA_eq _ _ (by kernel_rfl) j)
attribute [go_sem] Tryz.underlying225
@[go_sem] theorem cellsOf225 : Tryz.prog.cellsOf 225 = 1 := by kernel_rfl
@[go_sem] theorem isAgg225 : isAggT Tryz.prog 225 = some false := by kernel_rfl
@[go_sem] theorem ok225 : tyOk Tryz.prog 225 = true := by kernel_rfl
@[go_sem] theorem bytes225 : Tryz.prog.bytesOf 225 = 1 := by kernel_rfl
@[go_sem] theorem zero225 : zeroOf Tryz.prog 225 = some (.p (.int .u8 0)) := by kernel_rfl
@[go_sem] theorem zeroLen225 : appendA.zeroLen Tryz.prog 225 = 1 := by kernel_rfl
@[go_sem] theorem eqI225 (d : Nat) (k k' : IntKind) (a b : Int) : eqT Tryz.prog (d + 1) 225 [.int k a] [.int k' b] = if k = k' then some (a == b) else none := eqT_int _ Tryz.underlying225 d k k' a b
attribute [go_sem] Tryz.underlying226
@[go_sem] theorem cellsOf226 : Tryz.prog.cellsOf 226 = 1 := by kernel_rfl
@[go_sem] theorem isAgg226 : isAggT Tryz.prog 226 = some false := by kernel_rfl
@[go_sem] theorem ok226 : tyOk Tryz.prog 226 = true := by kernel_rfl
@[go_sem] theorem bytes226 : Tryz.prog.bytesOf 226 = 1 := by kernel_rfl
@[go_sem] theorem zero226 : zeroOf Tryz.prog 226 = some (.p (.int .u8 0)) := by kernel_rfl
@[go_sem] theorem zeroLen226 : appendA.zeroLen Tryz.prog 226 = 1 := by kernel_rfl
@[go_sem] theorem eqI226 (d : Nat) (k k' : IntKind) (a b : Int) : eqT Tryz.prog (d + 1) 226 [.int k a] [.int k' b] = if k = k' then some (a == b) else none := eqT_int _ Tryz.underlying226 d k k' a b
attribute [go_sem] Tryz.underlying227
@[go_sem] theorem cellsOf227 : Tryz.prog.cellsOf 227 = 1 := by kernel_rfl
@[go_sem] theorem isAgg227 : isAggT Tryz.prog 227 = some false := by kernel_rfl
@[go_sem] theorem ok227 : tyOk Tryz.prog 227 = true := by kernel_rfl
@[go_sem] theorem bytes227 : Tryz.prog.bytesOf 227 = 8 := by kernel_rfl
@[go_sem] theorem zero227 : zeroOf Tryz.prog 227 = some (.p .nilf) := by kernel_rfl
@[go_sem] theorem zeroLen227 : appendA.zeroLen Tryz.prog 227 = 1 := by kernel_rfl
attribute [go_sem] Tryz.underlying228
@[go_sem] theorem cellsOf228 : Tryz.prog.cellsOf 228 = 1 := by kernel_rfl
@[go_sem] theorem isAgg228 : isAggT Tryz.prog 228 = some false := by kernel_rfl
@[go_sem] theorem ok228 : tyOk Tryz.prog 228 = true := by kernel_rfl
@[go_sem] theorem bytes228 : Tryz.prog.bytesOf 228 = 4 := by kernel_rfl
@[go_sem] theorem zero228 : zeroOf Tryz.prog 228 = some (.p (.int .i32 0)) := by kernel_rfl
@[go_sem] theorem zeroLen228 : appendA.zeroLen Tryz.prog 228 = 1 := by kernel_rfl
@[go_sem] theorem eqI228 (d : Nat) (k k' : IntKind) (a b : Int) : eqT Tryz.prog (d + 1) 228 [.int k a] [.int k' b] = if k = k' then some (a == b) else none := eqT_int _ Tryz.underlying228 d k k' a b
attribute [go_sem] Tryz.underlying229
@[go_sem] theorem cellsOf229 : Tryz.prog.cellsOf 229 = 1 := by kernel_rfl
@[go_sem] theorem isAgg229 : isAggT Tryz.prog 229 = some false := by kernel_rfl
@[go_sem] theorem ok229 : tyOk Tryz.prog 229 = true := by kernel_rfl
@[go_sem] theorem bytes229 : Tryz.prog.bytesOf 229 = 4 := by kernel_rfl
@[go_sem] theorem zero229 : zeroOf Tryz.prog 229 = some (.p (.int .i32 0)) := by kernel_rfl
@[go_sem] theorem zeroLen229 : appendA.zeroLen Tryz.prog 229 = 1 := by kernel_rfl
@[go_sem] theorem eqI229 (d : Nat) (k k' : IntKind) (a b : Int) : eqT Tryz.prog (d + 1) 229 [.int k a] [.int k' b] = if k = k' then some (a == b) else none := eqT_int _ Tryz.underlying229 d k k' a b
attribute [go_sem] Tryz.underlying230
@[go_sem] theorem cellsOf230 : Tryz.prog.cellsOf 230 = 11 := by kernel_rfl
@[go_sem] theorem isAgg230 : isAggT Tryz.prog 230 = some true := by kernel_rfl
@[go_sem] theorem ok230 : tyOk Tryz.prog 230 = true := by kernel_rfl
@[go_sem] theorem bytes230 : Tryz.prog.bytesOf 230 = 48 := by kernel_rfl
@[go_sem] theorem zero230 : zeroOf Tryz.prog 230 = some (.p (.agg [(.int .u64 0), (.int .u64 0), (.int .u32 0), (.int .u8 0), (.int .u8 0), (.int .u8 0), (.int .u8 0), .nilf, .nilp, (.int .i32 0), (.int .i32 0)])) := by kernel_rfl
@[go_sem] theorem zeroLen230 : appendA.zeroLen Tryz.prog 230 = 11 := by kernel_rfl
@[go_sem] theorem field230_0 : fieldOff Tryz.prog 230 0 = some 0 := by kernel_rfl
@[go_sem] theorem field230_1 : fieldOff Tryz.prog 230 1 = some 1 := by kernel_rfl
@[go_sem] theorem field230_2 : fieldOff Tryz.prog 230 2 = some 2 := by kernel_rfl
@[go_sem] theorem field230_3 : fieldOff Tryz.prog 230 3 = some 3 := by kernel_rfl
@[go_sem] theorem field230_4 : fieldOff Tryz.prog 230 4 = some 4 := by kernel_rfl
@[go_sem] theorem field230_5 : fieldOff Tryz.prog 230 5 = some 5 := by kernel_rfl
@[go_sem] theorem field230_6 : fieldOff Tryz.prog 230 6 = some 6 := by kernel_rfl
@[go_sem] theorem field230_7 : fieldOff Tryz.prog 230 7 = some 7 := by kernel_rfl
@[go_sem] theorem field230_8 : fieldOff Tryz.prog 230 8 = some 8 := by kernel_rfl
@[go_sem] theorem field230_9 : fieldOff Tryz.prog 230 9 = some 9 := by kernel_rfl
@[go_sem] theorem field230_10 : fieldOff Tryz.prog 230 10 = some 10 := by kernel_rfl
@[go_sem] theorem build230 (parts : List (Nat × AV)) : buildA Tryz.prog 230 parts = (fillG (fun j => [(0, 1), (1, 1), (2, 1), (3, 1), (4, 1), (5, 1), (6, 1), (7, 1), (8, 1), (9, 1), (10, 1)][j]?) [.p (.int .u64 0), .p (.int .u64 0), .p (.int .u32 0), .p (.int .u8 0), .p (.int .u8 0), .p (.int .u8 0), .p (.int .u8 0), .p .nilf, .p .nilp, .p (.int .i32 0), .p (.int .i32 0)] parts).map mkAgg :=
  buildA_eq _ _ zero230 rfl (by kernel_rfl) (by kernel_rfl) (by funext j; exact placesA_eq _ _ (by kernel_rfl) j)
attribute [go_sem] Tryz.underlying231
@[go_sem] theorem cellsOf231 : Tryz.prog.cellsOf 231 = 11 := by kernel_rfl
@[go_sem] theorem isAgg231 : isAggT Tryz.prog 231 = some true := by kernel_rfl
@[go_sem] theorem ok231 : tyOk Tryz.prog 231 = true := by kernel_rfl
@[go_sem] theorem bytes231 : Tryz.prog.bytesOf 231 = 48 := by kernel_rfl
@[go_sem] theorem zero231 : zeroOf Tryz.prog 231 = some (.p (.agg [(.int .u64 0), (.int .u64 0), (.int .u32 0), (.int .u8 0), (.int .u8 0), (.int .u8 0), (.int .u8 0), .nilf, .nilp, (.int .i32 0), (.int .i32 0)])) := by kernel_rfl
@[go_sem] theorem zeroLen231 : appendA.zeroLen Tryz.prog 231 = 11 := by kernel_rfl
@[go_sem] theorem field231_0 : fieldOff Tryz.prog 231 0 = some 0 := by kernel_rfl
@[go_sem] theorem field231_1 : fieldOff Tryz.prog 231 1 = some 1 := by kernel_rfl
@[go_sem] theorem field231_2 : fieldOff Tryz.prog 231 2 = some 2 := by kernel_rfl
@[go_sem] theorem field231_3 : fieldOff Tryz.prog 231 3 = some 3 := by kernel_rfl
@[go_sem] theorem field231_4 : fieldOff Tryz.prog 231 4 = some 4 := by kernel_rfl
@[go_sem] theorem field231_5 : fieldOff Tryz.prog 231 5 = some 5 := by kernel_rfl
@[go_sem] theorem field231_6 : fieldOff Tryz.prog 231 6 = some 6 := by kernel_rfl
@[go_sem] theorem field231_7 : fieldOff Tryz.prog 231 7 = some 7 := by kernel_rfl
@[go_sem] theorem field231_8 : fieldOff Tryz.prog 231 8 = some 8 := by kernel_rfl
@[go_sem] theorem field231_9 : fieldOff Tryz.prog 231 9 = some 9 := by kernel_rfl
@[go_sem] theorem field231_10 : fieldOff Tryz.prog 231 10 = some 10 := by kernel_rfl
@[go_sem] theorem build231 (parts : List (Nat × AV)) : buildA Tryz.prog 231 parts = (fillG (fun j => [(0, 1), (1, 1), (2, 1), (3, 1), (4, 1), (5, 1), (6, 1), (7, 1), (8, 1), (9, 1), (10, 1)][j]?) [.p (.int .u64 0), .p (.int .u64 0), .p (.int .u32 0), .p (.int .u8 0), .p (.int .u8 0), .p (.int .u8 0), .p (.int .u8 0), .p .nilf, .p .nilp, .p (.int .i32 0), .p (.int .i32 0)] parts).map mkAgg :=
  buildA_eq _ _ zero231 rfl (by kernel_rfl) (by kernel_rfl) (by funext j; exact placesA_eq _ _ (by kernel_rfl) j)
end Go.Proofs.YtjcdclpfeflfkaaGreatDoor.Ty
