/- What the logic asks of the types of the translation. -/
import Derived.Test.YtimfcgdnogjlhaaGreatProg
import Derived.KernelRfl
import Derived.Test.YtimfcgdnogjlhaaGreatA2
/- What the abstract logic asks of the types of the translation; printed by a program of our own (tyfacts.py). -/
namespace Go.Proofs.YtimfcgdnogjlhaaGreat.Ty
open Go Go.Ab
set_option linter.unusedVariables false

attribute [go_sem] Tryz.underlying1
@[go_sem] theorem cellsOf1 : Tryz.prog.cellsOf 1 = 1 := by kernel_rfl
@[go_sem] theorem isAgg1 : isAggT Tryz.prog 1 = some false := by kernel_rfl
@[go_sem] theorem ok1 : tyOk Tryz.prog 1 = true := by kernel_rfl
@[go_sem] theorem bytes1 : Tryz.prog.bytesOf 1 = 8 := by kernel_rfl
@[go_sem] theorem zero1 : zeroOf Tryz.prog 1 = some (.p .nilf) := by kernel_rfl
@[go_sem] theorem zeroLen1 : appendA.zeroLen Tryz.prog 1 = 1 := by kernel_rfl
attribute [go_sem] Tryz.underlying2
@[go_sem] theorem cellsOf2 : Tryz.prog.cellsOf 2 = 1 := by kernel_rfl
@[go_sem] theorem isAgg2 : isAggT Tryz.prog 2 = some false := by kernel_rfl
@[go_sem] theorem ok2 : tyOk Tryz.prog 2 = true := by kernel_rfl
@[go_sem] theorem bytes2 : Tryz.prog.bytesOf 2 = 8 := by kernel_rfl
@[go_sem] theorem zero2 : zeroOf Tryz.prog 2 = some (.p (.int .i64 0)) := by kernel_rfl
@[go_sem] theorem zeroLen2 : appendA.zeroLen Tryz.prog 2 = 1 := by kernel_rfl
@[go_sem] theorem eqI2 (d : Nat) (k k' : IntKind) (a b : Int) : eqT Tryz.prog (d + 1) 2 [.int k a] [.int k' b] = if k = k' then some (a == b) else none := eqT_int _ Tryz.underlying2 d k k' a b
attribute [go_sem] Tryz.underlying3
@[go_sem] theorem cellsOf3 : Tryz.prog.cellsOf 3 = 1 := by kernel_rfl
@[go_sem] theorem isAgg3 : isAggT Tryz.prog 3 = some false := by kernel_rfl
@[go_sem] theorem ok3 : tyOk Tryz.prog 3 = true := by kernel_rfl
@[go_sem] theorem bytes3 : Tryz.prog.bytesOf 3 = 8 := by kernel_rfl
@[go_sem] theorem zero3 : zeroOf Tryz.prog 3 = some (.p (.int .i64 0)) := by kernel_rfl
@[go_sem] theorem zeroLen3 : appendA.zeroLen Tryz.prog 3 = 1 := by kernel_rfl
@[go_sem] theorem eqI3 (d : Nat) (k k' : IntKind) (a b : Int) : eqT Tryz.prog (d + 1) 3 [.int k a] [.int k' b] = if k = k' then some (a == b) else none := eqT_int _ Tryz.underlying3 d k k' a b
attribute [go_sem] Tryz.underlying4
@[go_sem] theorem cellsOf4 : Tryz.prog.cellsOf 4 = 1 := by kernel_rfl
@[go_sem] theorem isAgg4 : isAggT Tryz.prog 4 = some false := by kernel_rfl
@[go_sem] theorem ok4 : tyOk Tryz.prog 4 = true := by kernel_rfl
@[go_sem] theorem bytes4 : Tryz.prog.bytesOf 4 = 1 := by kernel_rfl
@[go_sem] theorem zero4 : zeroOf Tryz.prog 4 = some (.p (.bool false)) := by kernel_rfl
@[go_sem] theorem zeroLen4 : appendA.zeroLen Tryz.prog 4 = 1 := by kernel_rfl
@[go_sem] theorem eqI4 (d : Nat) (a b : Bool) : eqT Tryz.prog (d + 1) 4 [.bool a] [.bool b] = some (a == b) := eqT_bool _ Tryz.underlying4 d a b
attribute [go_sem] Tryz.underlying5
@[go_sem] theorem cellsOf5 : Tryz.prog.cellsOf 5 = 1 := by kernel_rfl
@[go_sem] theorem isAgg5 : isAggT Tryz.prog 5 = some false := by kernel_rfl
@[go_sem] theorem ok5 : tyOk Tryz.prog 5 = true := by kernel_rfl
@[go_sem] theorem bytes5 : Tryz.prog.bytesOf 5 = 1 := by kernel_rfl
@[go_sem] theorem zero5 : zeroOf Tryz.prog 5 = some (.p (.int .u8 0)) := by kernel_rfl
@[go_sem] theorem zeroLen5 : appendA.zeroLen Tryz.prog 5 = 1 := by kernel_rfl
@[go_sem] theorem eqI5 (d : Nat) (k k' : IntKind) (a b : Int) : eqT Tryz.prog (d + 1) 5 [.int k a] [.int k' b] = if k = k' then some (a == b) else none := eqT_int _ Tryz.underlying5 d k k' a b
attribute [go_sem] Tryz.underlying6
@[go_sem] theorem cellsOf6 : Tryz.prog.cellsOf 6 = 1 := by kernel_rfl
@[go_sem] theorem isAgg6 : isAggT Tryz.prog 6 = some false := by kernel_rfl
@[go_sem] theorem ok6 : tyOk Tryz.prog 6 = true := by kernel_rfl
@[go_sem] theorem bytes6 : Tryz.prog.bytesOf 6 = 1 := by kernel_rfl
@[go_sem] theorem zero6 : zeroOf Tryz.prog 6 = some (.p (.int .u8 0)) := by kernel_rfl
@[go_sem] theorem zeroLen6 : appendA.zeroLen Tryz.prog 6 = 1 := by kernel_rfl
@[go_sem] theorem eqI6 (d : Nat) (k k' : IntKind) (a b : Int) : eqT Tryz.prog (d + 1) 6 [.int k a] [.int k' b] = if k = k' then some (a == b) else none := eqT_int _ Tryz.underlying6 d k k' a b
attribute [go_sem] Tryz.underlying7
@[go_sem] theorem cellsOf7 : Tryz.prog.cellsOf 7 = 4 := by kernel_rfl
@[go_sem] theorem isAgg7 : isAggT Tryz.prog 7 = some true := by kernel_rfl
@[go_sem] theorem ok7 : tyOk Tryz.prog 7 = true := by kernel_rfl
@[go_sem] theorem bytes7 : Tryz.prog.bytesOf 7 = 24 := by kernel_rfl
@[go_sem] theorem zero7 : zeroOf Tryz.prog 7 = some (.p (.agg [(.int .i64 0), (.int .i64 0), (.bool false), (.int .u8 0)])) := by kernel_rfl
@[go_sem] theorem zeroLen7 : appendA.zeroLen Tryz.prog 7 = 4 := by kernel_rfl
@[go_sem] theorem field7_0 : fieldOff Tryz.prog 7 0 = some 0 := by kernel_rfl
@[go_sem] theorem field7_1 : fieldOff Tryz.prog 7 1 = some 1 := by kernel_rfl
@[go_sem] theorem field7_2 : fieldOff Tryz.prog 7 2 = some 2 := by kernel_rfl
@[go_sem] theorem field7_3 : fieldOff Tryz.prog 7 3 = some 3 := by kernel_rfl
@[go_sem] theorem build7 (parts : List (Nat × AV)) : buildA Tryz.prog 7 parts = (fillG (fun j => [(0, 1), (1, 1), (2, 1), (3, 1)][j]?) [.p (.int .i64 0), .p (.int .i64 0), .p (.bool false), .p (.int .u8 0)] parts).map mkAgg :=
  buildA_eq _ _ zero7 rfl (by kernel_rfl) (by kernel_rfl) (by funext j; exact placesA_eq _ _ (by kernel_rfl) j)
@[go_sem] theorem eqS7 (d : Nat) (xs ys : List PV) : eqT Tryz.prog (d + 1) 7 xs ys = eqL (eqT Tryz.prog d) [(2, 0, 1), (3, 1, 1), (4, 2, 1), (6, 3, 1)] xs ys := eqT_struct _ (by kernel_rfl) (by kernel_rfl) (by kernel_rfl) (by kernel_rfl) d xs ys
@[go_sem] theorem eqg7 : Tryz.prog.eqGuardType Tryz.prog.depth 7 = false := by kernel_rfl
attribute [go_sem] Tryz.underlying8
@[go_sem] theorem cellsOf8 : Tryz.prog.cellsOf 8 = 4 := by kernel_rfl
@[go_sem] theorem isAgg8 : isAggT Tryz.prog 8 = some true := by kernel_rfl
@[go_sem] theorem ok8 : tyOk Tryz.prog 8 = true := by kernel_rfl
@[go_sem] theorem bytes8 : Tryz.prog.bytesOf 8 = 24 := by kernel_rfl
@[go_sem] theorem zero8 : zeroOf Tryz.prog 8 = some (.p (.agg [(.int .i64 0), (.int .i64 0), (.bool false), (.int .u8 0)])) := by kernel_rfl
@[go_sem] theorem zeroLen8 : appendA.zeroLen Tryz.prog 8 = 4 := by kernel_rfl
@[go_sem] theorem field8_0 : fieldOff Tryz.prog 8 0 = some 0 := by kernel_rfl
@[go_sem] theorem field8_1 : fieldOff Tryz.prog 8 1 = some 1 := by kernel_rfl
@[go_sem] theorem field8_2 : fieldOff Tryz.prog 8 2 = some 2 := by kernel_rfl
@[go_sem] theorem field8_3 : fieldOff Tryz.prog 8 3 = some 3 := by kernel_rfl
@[go_sem] theorem build8 (parts : List (Nat × AV)) : buildA Tryz.prog 8 parts = (fillG (fun j => [(0, 1), (1, 1), (2, 1), (3, 1)][j]?) [.p (.int .i64 0), .p (.int .i64 0), .p (.bool false), .p (.int .u8 0)] parts).map mkAgg :=
  buildA_eq _ _ zero8 rfl (by kernel_rfl) (by kernel_rfl) (by funext j; exact placesA_eq _ _ (by kernel_rfl) j)
@[go_sem] theorem eqS8 (d : Nat) (xs ys : List PV) : eqT Tryz.prog (d + 1) 8 xs ys = eqL (eqT Tryz.prog d) [(2, 0, 1), (3, 1, 1), (4, 2, 1), (6, 3, 1)] xs ys := eqT_struct _ (by kernel_rfl) (by kernel_rfl) (by kernel_rfl) (by kernel_rfl) d xs ys
@[go_sem] theorem eqg8 : Tryz.prog.eqGuardType Tryz.prog.depth 8 = false := by kernel_rfl
attribute [go_sem] Tryz.underlying9
@[go_sem] theorem cellsOf9 : Tryz.prog.cellsOf 9 = 1 := by kernel_rfl
@[go_sem] theorem isAgg9 : isAggT Tryz.prog 9 = some false := by kernel_rfl
@[go_sem] theorem ok9 : tyOk Tryz.prog 9 = true := by kernel_rfl
@[go_sem] theorem bytes9 : Tryz.prog.bytesOf 9 = 16 := by kernel_rfl
@[go_sem] theorem zero9 : zeroOf Tryz.prog 9 = some (.p (.str [])) := by kernel_rfl
@[go_sem] theorem zeroLen9 : appendA.zeroLen Tryz.prog 9 = 1 := by kernel_rfl
@[go_sem] theorem eqI9 (d : Nat) (a b : List UInt8) : eqT Tryz.prog (d + 1) 9 [.str a] [.str b] = some (a == b) := eqT_str _ Tryz.underlying9 d a b
attribute [go_sem] Tryz.underlying10
@[go_sem] theorem cellsOf10 : Tryz.prog.cellsOf 10 = 1 := by kernel_rfl
@[go_sem] theorem isAgg10 : isAggT Tryz.prog 10 = some false := by kernel_rfl
@[go_sem] theorem ok10 : tyOk Tryz.prog 10 = true := by kernel_rfl
@[go_sem] theorem bytes10 : Tryz.prog.bytesOf 10 = 16 := by kernel_rfl
@[go_sem] theorem zero10 : zeroOf Tryz.prog 10 = some (.p (.str [])) := by kernel_rfl
@[go_sem] theorem zeroLen10 : appendA.zeroLen Tryz.prog 10 = 1 := by kernel_rfl
@[go_sem] theorem eqI10 (d : Nat) (a b : List UInt8) : eqT Tryz.prog (d + 1) 10 [.str a] [.str b] = some (a == b) := eqT_str _ Tryz.underlying10 d a b
attribute [go_sem] Tryz.underlying11
@[go_sem] theorem cellsOf11 : Tryz.prog.cellsOf 11 = 1 := by kernel_rfl
@[go_sem] theorem isAgg11 : isAggT Tryz.prog 11 = some false := by kernel_rfl
@[go_sem] theorem ok11 : tyOk Tryz.prog 11 = true := by kernel_rfl
@[go_sem] theorem bytes11 : Tryz.prog.bytesOf 11 = 16 := by kernel_rfl
@[go_sem] theorem zero11 : zeroOf Tryz.prog 11 = some (.p (.str [])) := by kernel_rfl
@[go_sem] theorem zeroLen11 : appendA.zeroLen Tryz.prog 11 = 1 := by kernel_rfl
@[go_sem] theorem eqI11 (d : Nat) (a b : List UInt8) : eqT Tryz.prog (d + 1) 11 [.str a] [.str b] = some (a == b) := eqT_str _ Tryz.underlying11 d a b
attribute [go_sem] Tryz.underlying12
@[go_sem] theorem cellsOf12 : Tryz.prog.cellsOf 12 = 1 := by kernel_rfl
@[go_sem] theorem isAgg12 : isAggT Tryz.prog 12 = some false := by kernel_rfl
@[go_sem] theorem ok12 : tyOk Tryz.prog 12 = true := by kernel_rfl
@[go_sem] theorem bytes12 : Tryz.prog.bytesOf 12 = 8 := by kernel_rfl
@[go_sem] theorem zero12 : zeroOf Tryz.prog 12 = some (.p (.int .u64 0)) := by kernel_rfl
@[go_sem] theorem zeroLen12 : appendA.zeroLen Tryz.prog 12 = 1 := by kernel_rfl
@[go_sem] theorem eqI12 (d : Nat) (k k' : IntKind) (a b : Int) : eqT Tryz.prog (d + 1) 12 [.int k a] [.int k' b] = if k = k' then some (a == b) else none := eqT_int _ Tryz.underlying12 d k k' a b
attribute [go_sem] Tryz.underlying13
@[go_sem] theorem cellsOf13 : Tryz.prog.cellsOf 13 = 2 := by kernel_rfl
@[go_sem] theorem isAgg13 : isAggT Tryz.prog 13 = some true := by kernel_rfl
@[go_sem] theorem ok13 : tyOk Tryz.prog 13 = true := by kernel_rfl
@[go_sem] theorem bytes13 : Tryz.prog.bytesOf 13 = 24 := by kernel_rfl
@[go_sem] theorem zero13 : zeroOf Tryz.prog 13 = some (.p (.agg [(.str []), (.int .u64 0)])) := by kernel_rfl
@[go_sem] theorem zeroLen13 : appendA.zeroLen Tryz.prog 13 = 2 := by kernel_rfl
@[go_sem] theorem field13_0 : fieldOff Tryz.prog 13 0 = some 0 := by kernel_rfl
@[go_sem] theorem field13_1 : fieldOff Tryz.prog 13 1 = some 1 := by kernel_rfl
@[go_sem] theorem build13 (parts : List (Nat × AV)) : buildA Tryz.prog 13 parts = (fillG (fun j => [(0, 1), (1, 1)][j]?) [.p (.str []), .p (.int .u64 0)] parts).map mkAgg :=
  buildA_eq _ _ zero13 rfl (by kernel_rfl) (by kernel_rfl) (by funext j; exact placesA_eq _ _ (by kernel_rfl) j)
attribute [go_sem] Tryz.underlying14
@[go_sem] theorem cellsOf14 : Tryz.prog.cellsOf 14 = 2 := by kernel_rfl
@[go_sem] theorem isAgg14 : isAggT Tryz.prog 14 = some true := by kernel_rfl
@[go_sem] theorem ok14 : tyOk Tryz.prog 14 = true := by kernel_rfl
@[go_sem] theorem bytes14 : Tryz.prog.bytesOf 14 = 24 := by kernel_rfl
@[go_sem] theorem zero14 : zeroOf Tryz.prog 14 = some (.p (.agg [(.str []), (.int .u64 0)])) := by kernel_rfl
@[go_sem] theorem zeroLen14 : appendA.zeroLen Tryz.prog 14 = 2 := by kernel_rfl
@[go_sem] theorem field14_0 : fieldOff Tryz.prog 14 0 = some 0 := by kernel_rfl
@[go_sem] theorem field14_1 : fieldOff Tryz.prog 14 1 = some 1 := by kernel_rfl
@[go_sem] theorem build14 (parts : List (Nat × AV)) : buildA Tryz.prog 14 parts = (fillG (fun j => [(0, 1), (1, 1)][j]?) [.p (.str []), .p (.int .u64 0)] parts).map mkAgg :=
  buildA_eq _ _ zero14 rfl (by kernel_rfl) (by kernel_rfl) (by funext j; exact placesA_eq _ _ (by kernel_rfl) j)
attribute [go_sem] Tryz.underlying15
@[go_sem] theorem cellsOf15 : Tryz.prog.cellsOf 15 = 1 := by kernel_rfl
@[go_sem] theorem isAgg15 : isAggT Tryz.prog 15 = some false := by kernel_rfl
@[go_sem] theorem ok15 : tyOk Tryz.prog 15 = true := by kernel_rfl
@[go_sem] theorem bytes15 : Tryz.prog.bytesOf 15 = 8 := by kernel_rfl
@[go_sem] theorem zero15 : zeroOf Tryz.prog 15 = some (.p .nilp) := by kernel_rfl
@[go_sem] theorem zeroLen15 : appendA.zeroLen Tryz.prog 15 = 1 := by kernel_rfl
attribute [go_sem] Tryz.underlying16
@[go_sem] theorem cellsOf16 : Tryz.prog.cellsOf 16 = 1 := by kernel_rfl
@[go_sem] theorem isAgg16 : isAggT Tryz.prog 16 = some false := by kernel_rfl
@[go_sem] theorem ok16 : tyOk Tryz.prog 16 = true := by kernel_rfl
@[go_sem] theorem bytes16 : Tryz.prog.bytesOf 16 = 8 := by kernel_rfl
@[go_sem] theorem zero16 : zeroOf Tryz.prog 16 = some (.p .nilp) := by kernel_rfl
@[go_sem] theorem zeroLen16 : appendA.zeroLen Tryz.prog 16 = 1 := by kernel_rfl
attribute [go_sem] Tryz.underlying17
@[go_sem] theorem cellsOf17 : Tryz.prog.cellsOf 17 = 1 := by kernel_rfl
@[go_sem] theorem isAgg17 : isAggT Tryz.prog 17 = some false := by kernel_rfl
@[go_sem] theorem ok17 : tyOk Tryz.prog 17 = true := by kernel_rfl
@[go_sem] theorem bytes17 : Tryz.prog.bytesOf 17 = 8 := by kernel_rfl
@[go_sem] theorem zero17 : zeroOf Tryz.prog 17 = some (.p .nilp) := by kernel_rfl
@[go_sem] theorem zeroLen17 : appendA.zeroLen Tryz.prog 17 = 1 := by kernel_rfl
attribute [go_sem] Tryz.underlying18
@[go_sem] theorem cellsOf18 : Tryz.prog.cellsOf 18 = 1 := by kernel_rfl
@[go_sem] theorem isAgg18 : isAggT Tryz.prog 18 = some true := by kernel_rfl
@[go_sem] theorem ok18 : tyOk Tryz.prog 18 = true := by kernel_rfl
@[go_sem] theorem bytes18 : Tryz.prog.bytesOf 18 = 8 := by kernel_rfl
@[go_sem] theorem zero18 : zeroOf Tryz.prog 18 = some (.p (.agg [.nilp])) := by kernel_rfl
@[go_sem] theorem zeroLen18 : appendA.zeroLen Tryz.prog 18 = 1 := by kernel_rfl
@[go_sem] theorem field18_0 : fieldOff Tryz.prog 18 0 = some 0 := by kernel_rfl
@[go_sem] theorem build18 (parts : List (Nat × AV)) : buildA Tryz.prog 18 parts = (fillG (fun j => [(0, 1)][j]?) [.p .nilp] parts).map mkAgg :=
  buildA_eq _ _ zero18 rfl (by kernel_rfl) (by kernel_rfl) (by funext j; exact placesA_eq _ _ (by kernel_rfl) j)
attribute [go_sem] Tryz.underlying19
@[go_sem] theorem cellsOf19 : Tryz.prog.cellsOf 19 = 1 := by kernel_rfl
@[go_sem] theorem isAgg19 : isAggT Tryz.prog 19 = some true := by kernel_rfl
@[go_sem] theorem ok19 : tyOk Tryz.prog 19 = true := by kernel_rfl
@[go_sem] theorem bytes19 : Tryz.prog.bytesOf 19 = 8 := by kernel_rfl
@[go_sem] theorem zero19 : zeroOf Tryz.prog 19 = some (.p (.agg [.nilp])) := by kernel_rfl
@[go_sem] theorem zeroLen19 : appendA.zeroLen Tryz.prog 19 = 1 := by kernel_rfl
@[go_sem] theorem field19_0 : fieldOff Tryz.prog 19 0 = some 0 := by kernel_rfl
@[go_sem] theorem build19 (parts : List (Nat × AV)) : buildA Tryz.prog 19 parts = (fillG (fun j => [(0, 1)][j]?) [.p .nilp] parts).map mkAgg :=
  buildA_eq _ _ zero19 rfl (by kernel_rfl) (by kernel_rfl) (by funext j; exact placesA_eq _ _ (by kernel_rfl) j)
attribute [go_sem] Tryz.underlying20
@[go_sem] theorem cellsOf20 : Tryz.prog.cellsOf 20 = 1 := by kernel_rfl
@[go_sem] theorem isAgg20 : isAggT Tryz.prog 20 = some false := by kernel_rfl
@[go_sem] theorem ok20 : tyOk Tryz.prog 20 = true := by kernel_rfl
@[go_sem] theorem bytes20 : Tryz.prog.bytesOf 20 = 16 := by kernel_rfl
@[go_sem] theorem zero20 : zeroOf Tryz.prog 20 = some (.p .nili) := by kernel_rfl
@[go_sem] theorem zeroLen20 : appendA.zeroLen Tryz.prog 20 = 1 := by kernel_rfl
attribute [go_sem] Tryz.underlying21
@[go_sem] theorem cellsOf21 : Tryz.prog.cellsOf 21 = 1 := by kernel_rfl
@[go_sem] theorem isAgg21 : isAggT Tryz.prog 21 = some false := by kernel_rfl
@[go_sem] theorem ok21 : tyOk Tryz.prog 21 = true := by kernel_rfl
@[go_sem] theorem bytes21 : Tryz.prog.bytesOf 21 = 4 := by kernel_rfl
@[go_sem] theorem zero21 : zeroOf Tryz.prog 21 = some (.p (.int .i32 0)) := by kernel_rfl
@[go_sem] theorem zeroLen21 : appendA.zeroLen Tryz.prog 21 = 1 := by kernel_rfl
@[go_sem] theorem eqI21 (d : Nat) (k k' : IntKind) (a b : Int) : eqT Tryz.prog (d + 1) 21 [.int k a] [.int k' b] = if k = k' then some (a == b) else none := eqT_int _ Tryz.underlying21 d k k' a b
attribute [go_sem] Tryz.underlying22
@[go_sem] theorem cellsOf22 : Tryz.prog.cellsOf 22 = 1 := by kernel_rfl
@[go_sem] theorem isAgg22 : isAggT Tryz.prog 22 = some false := by kernel_rfl
@[go_sem] theorem ok22 : tyOk Tryz.prog 22 = true := by kernel_rfl
@[go_sem] theorem bytes22 : Tryz.prog.bytesOf 22 = 24 := by kernel_rfl
@[go_sem] theorem zero22 : zeroOf Tryz.prog 22 = some (.nils) := by kernel_rfl
@[go_sem] theorem zeroLen22 : appendA.zeroLen Tryz.prog 22 = 1 := by kernel_rfl
attribute [go_sem] Tryz.underlying23
@[go_sem] theorem cellsOf23 : Tryz.prog.cellsOf 23 = 3 := by kernel_rfl
@[go_sem] theorem isAgg23 : isAggT Tryz.prog 23 = some true := by kernel_rfl
@[go_sem] theorem ok23 : tyOk Tryz.prog 23 = true := by kernel_rfl
@[go_sem] theorem bytes23 : Tryz.prog.bytesOf 23 = 32 := by kernel_rfl
@[go_sem] theorem zero23 : zeroOf Tryz.prog 23 = some (.agg [.p (.int .u8 0), .p (.int .u8 0), .nils]) := by kernel_rfl
@[go_sem] theorem zeroLen23 : appendA.zeroLen Tryz.prog 23 = 3 := by kernel_rfl
@[go_sem] theorem field23_0 : fieldOff Tryz.prog 23 0 = some 0 := by kernel_rfl
@[go_sem] theorem field23_1 : fieldOff Tryz.prog 23 1 = some 1 := by kernel_rfl
@[go_sem] theorem field23_2 : fieldOff Tryz.prog 23 2 = some 2 := by kernel_rfl
@[go_sem] theorem build23 (parts : List (Nat × AV)) : buildA Tryz.prog 23 parts = (fillG (fun j => [(0, 1), (1, 1), (2, 1)][j]?) [.p (.int .u8 0), .p (.int .u8 0), .nils] parts).map mkAgg :=
  buildA_eq _ _ zero23 rfl (by kernel_rfl) (by kernel_rfl) (by funext j; exact placesA_eq _ _ (by kernel_rfl) j)
attribute [go_sem] Tryz.underlying24
@[go_sem] theorem cellsOf24 : Tryz.prog.cellsOf 24 = 3 := by kernel_rfl
@[go_sem] theorem isAgg24 : isAggT Tryz.prog 24 = some true := by kernel_rfl
@[go_sem] theorem ok24 : tyOk Tryz.prog 24 = true := by kernel_rfl
@[go_sem] theorem bytes24 : Tryz.prog.bytesOf 24 = 32 := by kernel_rfl
@[go_sem] theorem zero24 : zeroOf Tryz.prog 24 = some (.agg [.p (.int .u8 0), .p (.int .u8 0), .nils]) := by kernel_rfl
@[go_sem] theorem zeroLen24 : appendA.zeroLen Tryz.prog 24 = 3 := by kernel_rfl
@[go_sem] theorem field24_0 : fieldOff Tryz.prog 24 0 = some 0 := by kernel_rfl
@[go_sem] theorem field24_1 : fieldOff Tryz.prog 24 1 = some 1 := by kernel_rfl
@[go_sem] theorem field24_2 : fieldOff Tryz.prog 24 2 = some 2 := by kernel_rfl
@[go_sem] theorem build24 (parts : List (Nat × AV)) : buildA Tryz.prog 24 parts = (fillG (fun j => [(0, 1), (1, 1), (2, 1)][j]?) [.p (.int .u8 0), .p (.int .u8 0), .nils] parts).map mkAgg :=
  buildA_eq _ _ zero24 rfl (by kernel_rfl) (by kernel_rfl) (by funext j; exact placesA_eq _ _ (by kernel_rfl) j)
attribute [go_sem] Tryz.underlying25
@[go_sem] theorem cellsOf25 : Tryz.prog.cellsOf 25 = 1 := by kernel_rfl
@[go_sem] theorem isAgg25 : isAggT Tryz.prog 25 = some false := by kernel_rfl
@[go_sem] theorem ok25 : tyOk Tryz.prog 25 = true := by kernel_rfl
@[go_sem] theorem bytes25 : Tryz.prog.bytesOf 25 = 24 := by kernel_rfl
@[go_sem] theorem zero25 : zeroOf Tryz.prog 25 = some (.nils) := by kernel_rfl
@[go_sem] theorem zeroLen25 : appendA.zeroLen Tryz.prog 25 = 1 := by kernel_rfl
attribute [go_sem] Tryz.underlying26
@[go_sem] theorem cellsOf26 : Tryz.prog.cellsOf 26 = 2 := by kernel_rfl
@[go_sem] theorem isAgg26 : isAggT Tryz.prog 26 = some true := by kernel_rfl
@[go_sem] theorem ok26 : tyOk Tryz.prog 26 = true := by kernel_rfl
@[go_sem] theorem bytes26 : Tryz.prog.bytesOf 26 = 48 := by kernel_rfl
@[go_sem] theorem zero26 : zeroOf Tryz.prog 26 = some (.agg [.nils, .nils]) := by kernel_rfl
@[go_sem] theorem zeroLen26 : appendA.zeroLen Tryz.prog 26 = 2 := by kernel_rfl
@[go_sem] theorem field26_0 : fieldOff Tryz.prog 26 0 = some 0 := by kernel_rfl
@[go_sem] theorem field26_1 : fieldOff Tryz.prog 26 1 = some 1 := by kernel_rfl
@[go_sem] theorem build26 (parts : List (Nat × AV)) : buildA Tryz.prog 26 parts = (fillG (fun j => [(0, 1), (1, 1)][j]?) [.nils, .nils] parts).map mkAgg :=
  buildA_eq _ _ zero26 rfl (by kernel_rfl) (by kernel_rfl) (by funext j; exact placesA_eq _ _ (by kernel_rfl) j)
attribute [go_sem] Tryz.underlying27
@[go_sem] theorem cellsOf27 : Tryz.prog.cellsOf 27 = 2 := by kernel_rfl
@[go_sem] theorem isAgg27 : isAggT Tryz.prog 27 = some true := by kernel_rfl
@[go_sem] theorem ok27 : tyOk Tryz.prog 27 = true := by kernel_rfl
@[go_sem] theorem bytes27 : Tryz.prog.bytesOf 27 = 48 := by kernel_rfl
@[go_sem] theorem zero27 : zeroOf Tryz.prog 27 = some (.agg [.nils, .nils]) := by kernel_rfl
@[go_sem] theorem zeroLen27 : appendA.zeroLen Tryz.prog 27 = 2 := by kernel_rfl
@[go_sem] theorem field27_0 : fieldOff Tryz.prog 27 0 = some 0 := by kernel_rfl
@[go_sem] theorem field27_1 : fieldOff Tryz.prog 27 1 = some 1 := by kernel_rfl
@[go_sem] theorem build27 (parts : List (Nat × AV)) : buildA Tryz.prog 27 parts = (fillG (fun j => [(0, 1), (1, 1)][j]?) [.nils, .nils] parts).map mkAgg :=
  buildA_eq _ _ zero27 rfl (by kernel_rfl) (by kernel_rfl) (by funext j; exact placesA_eq _ _ (by kernel_rfl) j)
attribute [go_sem] Tryz.underlying28
@[go_sem] theorem cellsOf28 : Tryz.prog.cellsOf 28 = 1 := by kernel_rfl
@[go_sem] theorem isAgg28 : isAggT Tryz.prog 28 = some false := by kernel_rfl
@[go_sem] theorem ok28 : tyOk Tryz.prog 28 = true := by kernel_rfl
@[go_sem] theorem bytes28 : Tryz.prog.bytesOf 28 = 24 := by kernel_rfl
@[go_sem] theorem zero28 : zeroOf Tryz.prog 28 = some (.nils) := by kernel_rfl
@[go_sem] theorem zeroLen28 : appendA.zeroLen Tryz.prog 28 = 1 := by kernel_rfl
attribute [go_sem] Tryz.underlying29
@[go_sem] theorem cellsOf29 : Tryz.prog.cellsOf 29 = 1 := by kernel_rfl
@[go_sem] theorem isAgg29 : isAggT Tryz.prog 29 = some false := by kernel_rfl
@[go_sem] theorem ok29 : tyOk Tryz.prog 29 = true := by kernel_rfl
@[go_sem] theorem bytes29 : Tryz.prog.bytesOf 29 = 24 := by kernel_rfl
@[go_sem] theorem zero29 : zeroOf Tryz.prog 29 = some (.nils) := by kernel_rfl
@[go_sem] theorem zeroLen29 : appendA.zeroLen Tryz.prog 29 = 1 := by kernel_rfl
attribute [go_sem] Tryz.underlying30
@[go_sem] theorem cellsOf30 : Tryz.prog.cellsOf 30 = 3 := by kernel_rfl
@[go_sem] theorem isAgg30 : isAggT Tryz.prog 30 = some true := by kernel_rfl
@[go_sem] theorem ok30 : tyOk Tryz.prog 30 = true := by kernel_rfl
@[go_sem] theorem bytes30 : Tryz.prog.bytesOf 30 = 64 := by kernel_rfl
@[go_sem] theorem zero30 : zeroOf Tryz.prog 30 = some (.agg [.p (.str []), .nils, .nils]) := by kernel_rfl
@[go_sem] theorem zeroLen30 : appendA.zeroLen Tryz.prog 30 = 3 := by kernel_rfl
@[go_sem] theorem field30_0 : fieldOff Tryz.prog 30 0 = some 0 := by kernel_rfl
@[go_sem] theorem field30_1 : fieldOff Tryz.prog 30 1 = some 1 := by kernel_rfl
@[go_sem] theorem field30_2 : fieldOff Tryz.prog 30 2 = some 2 := by kernel_rfl
@[go_sem] theorem build30 (parts : List (Nat × AV)) : buildA Tryz.prog 30 parts = (fillG (fun j => [(0, 1), (1, 1), (2, 1)][j]?) [.p (.str []), .nils, .nils] parts).map mkAgg :=
  buildA_eq _ _ zero30 rfl (by kernel_rfl) (by kernel_rfl) (by funext j; exact placesA_eq _ _ (by kernel_rfl) j)
attribute [go_sem] Tryz.underlying31
@[go_sem] theorem cellsOf31 : Tryz.prog.cellsOf 31 = 3 := by kernel_rfl
@[go_sem] theorem isAgg31 : isAggT Tryz.prog 31 = some true := by kernel_rfl
@[go_sem] theorem ok31 : tyOk Tryz.prog 31 = true := by kernel_rfl
@[go_sem] theorem bytes31 : Tryz.prog.bytesOf 31 = 64 := by kernel_rfl
@[go_sem] theorem zero31 : zeroOf Tryz.prog 31 = some (.agg [.p (.str []), .nils, .nils]) := by kernel_rfl
@[go_sem] theorem zeroLen31 : appendA.zeroLen Tryz.prog 31 = 3 := by kernel_rfl
@[go_sem] theorem field31_0 : fieldOff Tryz.prog 31 0 = some 0 := by kernel_rfl
@[go_sem] theorem field31_1 : fieldOff Tryz.prog 31 1 = some 1 := by kernel_rfl
@[go_sem] theorem field31_2 : fieldOff Tryz.prog 31 2 = some 2 := by kernel_rfl
@[go_sem] theorem build31 (parts : List (Nat × AV)) : buildA Tryz.prog 31 parts = (fillG (fun j => [(0, 1), (1, 1), (2, 1)][j]?) [.p (.str []), .nils, .nils] parts).map mkAgg :=
  buildA_eq _ _ zero31 rfl (by kernel_rfl) (by kernel_rfl) (by funext j; exact placesA_eq _ _ (by kernel_rfl) j)
attribute [go_sem] Tryz.underlying33
@[go_sem] theorem cellsOf33 : Tryz.prog.cellsOf 33 = 1 := by kernel_rfl
@[go_sem] theorem isAgg33 : isAggT Tryz.prog 33 = some false := by kernel_rfl
@[go_sem] theorem ok33 : tyOk Tryz.prog 33 = true := by kernel_rfl
@[go_sem] theorem bytes33 : Tryz.prog.bytesOf 33 = 8 := by kernel_rfl
@[go_sem] theorem zero33 : zeroOf Tryz.prog 33 = some (.p .nilf) := by kernel_rfl
@[go_sem] theorem zeroLen33 : appendA.zeroLen Tryz.prog 33 = 1 := by kernel_rfl
attribute [go_sem] Tryz.underlying34
@[go_sem] theorem cellsOf34 : Tryz.prog.cellsOf 34 = 1 := by kernel_rfl
@[go_sem] theorem isAgg34 : isAggT Tryz.prog 34 = some false := by kernel_rfl
@[go_sem] theorem ok34 : tyOk Tryz.prog 34 = true := by kernel_rfl
@[go_sem] theorem bytes34 : Tryz.prog.bytesOf 34 = 8 := by kernel_rfl
@[go_sem] theorem zero34 : zeroOf Tryz.prog 34 = some (.p .nilf) := by kernel_rfl
@[go_sem] theorem zeroLen34 : appendA.zeroLen Tryz.prog 34 = 1 := by kernel_rfl
attribute [go_sem] Tryz.underlying35
@[go_sem] theorem cellsOf35 : Tryz.prog.cellsOf 35 = 1 := by kernel_rfl
@[go_sem] theorem isAgg35 : isAggT Tryz.prog 35 = some false := by kernel_rfl
@[go_sem] theorem ok35 : tyOk Tryz.prog 35 = true := by kernel_rfl
@[go_sem] theorem bytes35 : Tryz.prog.bytesOf 35 = 24 := by kernel_rfl
@[go_sem] theorem zero35 : zeroOf Tryz.prog 35 = some (.nils) := by kernel_rfl
@[go_sem] theorem zeroLen35 : appendA.zeroLen Tryz.prog 35 = 1 := by kernel_rfl
attribute [go_sem] Tryz.underlying36
@[go_sem] theorem cellsOf36 : Tryz.prog.cellsOf 36 = 2 := by kernel_rfl
@[go_sem] theorem isAgg36 : isAggT Tryz.prog 36 = some true := by kernel_rfl
@[go_sem] theorem ok36 : tyOk Tryz.prog 36 = true := by kernel_rfl
@[go_sem] theorem bytes36 : Tryz.prog.bytesOf 36 = 48 := by kernel_rfl
@[go_sem] theorem zero36 : zeroOf Tryz.prog 36 = some (.agg [.nils, .nils]) := by kernel_rfl
@[go_sem] theorem zeroLen36 : appendA.zeroLen Tryz.prog 36 = 2 := by kernel_rfl
@[go_sem] theorem field36_0 : fieldOff Tryz.prog 36 0 = some 0 := by kernel_rfl
@[go_sem] theorem field36_1 : fieldOff Tryz.prog 36 1 = some 1 := by kernel_rfl
@[go_sem] theorem build36 (parts : List (Nat × AV)) : buildA Tryz.prog 36 parts = (fillG (fun j => [(0, 1), (1, 1)][j]?) [.nils, .nils] parts).map mkAgg :=
  buildA_eq _ _ zero36 rfl (by kernel_rfl) (by kernel_rfl) (by funext j; exact placesA_eq _ _ (by kernel_rfl) j)
attribute [go_sem] Tryz.underlying37
@[go_sem] theorem cellsOf37 : Tryz.prog.cellsOf 37 = 2 := by kernel_rfl
@[go_sem] theorem isAgg37 : isAggT Tryz.prog 37 = some true := by kernel_rfl
@[go_sem] theorem ok37 : tyOk Tryz.prog 37 = true := by kernel_rfl
@[go_sem] theorem bytes37 : Tryz.prog.bytesOf 37 = 48 := by kernel_rfl
@[go_sem] theorem zero37 : zeroOf Tryz.prog 37 = some (.agg [.nils, .nils]) := by kernel_rfl
@[go_sem] theorem zeroLen37 : appendA.zeroLen Tryz.prog 37 = 2 := by kernel_rfl
@[go_sem] theorem field37_0 : fieldOff Tryz.prog 37 0 = some 0 := by kernel_rfl
@[go_sem] theorem field37_1 : fieldOff Tryz.prog 37 1 = some 1 := by kernel_rfl
@[go_sem] theorem build37 (parts : List (Nat × AV)) : buildA Tryz.prog 37 parts = (fillG (fun j => [(0, 1), (1, 1)][j]?) [.nils, .nils] parts).map mkAgg :=
  buildA_eq _ _ zero37 rfl (by kernel_rfl) (by kernel_rfl) (by funext j; exact placesA_eq _ _ (by kernel_rfl) j)
attribute [go_sem] Tryz.underlying39
@[go_sem] theorem cellsOf39 : Tryz.prog.cellsOf 39 = 1 := by kernel_rfl
@[go_sem] theorem isAgg39 : isAggT Tryz.prog 39 = some false := by kernel_rfl
@[go_sem] theorem ok39 : tyOk Tryz.prog 39 = true := by kernel_rfl
@[go_sem] theorem bytes39 : Tryz.prog.bytesOf 39 = 24 := by kernel_rfl
@[go_sem] theorem zero39 : zeroOf Tryz.prog 39 = some (.nils) := by kernel_rfl
@[go_sem] theorem zeroLen39 : appendA.zeroLen Tryz.prog 39 = 1 := by kernel_rfl
attribute [go_sem] Tryz.underlying40
@[go_sem] theorem cellsOf40 : Tryz.prog.cellsOf 40 = 1 := by kernel_rfl
@[go_sem] theorem isAgg40 : isAggT Tryz.prog 40 = some false := by kernel_rfl
@[go_sem] theorem ok40 : tyOk Tryz.prog 40 = true := by kernel_rfl
@[go_sem] theorem bytes40 : Tryz.prog.bytesOf 40 = 8 := by kernel_rfl
@[go_sem] theorem zero40 : zeroOf Tryz.prog 40 = some (.p (.int .i64 0)) := by kernel_rfl
@[go_sem] theorem zeroLen40 : appendA.zeroLen Tryz.prog 40 = 1 := by kernel_rfl
@[go_sem] theorem eqI40 (d : Nat) (k k' : IntKind) (a b : Int) : eqT Tryz.prog (d + 1) 40 [.int k a] [.int k' b] = if k = k' then some (a == b) else none := eqT_int _ Tryz.underlying40 d k k' a b
attribute [go_sem] Tryz.underlying42
@[go_sem] theorem cellsOf42 : Tryz.prog.cellsOf 42 = 1 := by kernel_rfl
@[go_sem] theorem isAgg42 : isAggT Tryz.prog 42 = some false := by kernel_rfl
@[go_sem] theorem ok42 : tyOk Tryz.prog 42 = true := by kernel_rfl
@[go_sem] theorem bytes42 : Tryz.prog.bytesOf 42 = 8 := by kernel_rfl
@[go_sem] theorem zero42 : zeroOf Tryz.prog 42 = some (.p .nilf) := by kernel_rfl
@[go_sem] theorem zeroLen42 : appendA.zeroLen Tryz.prog 42 = 1 := by kernel_rfl
attribute [go_sem] Tryz.underlying43
@[go_sem] theorem cellsOf43 : Tryz.prog.cellsOf 43 = 1 := by kernel_rfl
@[go_sem] theorem isAgg43 : isAggT Tryz.prog 43 = some false := by kernel_rfl
@[go_sem] theorem ok43 : tyOk Tryz.prog 43 = true := by kernel_rfl
@[go_sem] theorem bytes43 : Tryz.prog.bytesOf 43 = 8 := by kernel_rfl
@[go_sem] theorem zero43 : zeroOf Tryz.prog 43 = some (.p .nilf) := by kernel_rfl
@[go_sem] theorem zeroLen43 : appendA.zeroLen Tryz.prog 43 = 1 := by kernel_rfl
attribute [go_sem] Tryz.underlying45
@[go_sem] theorem cellsOf45 : Tryz.prog.cellsOf 45 = 1 := by kernel_rfl
@[go_sem] theorem isAgg45 : isAggT Tryz.prog 45 = some false := by kernel_rfl
@[go_sem] theorem ok45 : tyOk Tryz.prog 45 = true := by kernel_rfl
@[go_sem] theorem bytes45 : Tryz.prog.bytesOf 45 = 8 := by kernel_rfl
@[go_sem] theorem zero45 : zeroOf Tryz.prog 45 = some (.p .nilf) := by kernel_rfl
@[go_sem] theorem zeroLen45 : appendA.zeroLen Tryz.prog 45 = 1 := by kernel_rfl
attribute [go_sem] Tryz.underlying47
@[go_sem] theorem cellsOf47 : Tryz.prog.cellsOf 47 = 1 := by kernel_rfl
@[go_sem] theorem isAgg47 : isAggT Tryz.prog 47 = some false := by kernel_rfl
@[go_sem] theorem ok47 : tyOk Tryz.prog 47 = true := by kernel_rfl
@[go_sem] theorem bytes47 : Tryz.prog.bytesOf 47 = 8 := by kernel_rfl
@[go_sem] theorem zero47 : zeroOf Tryz.prog 47 = some (.p .nilf) := by kernel_rfl
@[go_sem] theorem zeroLen47 : appendA.zeroLen Tryz.prog 47 = 1 := by kernel_rfl
attribute [go_sem] Tryz.underlying48
@[go_sem] theorem cellsOf48 : Tryz.prog.cellsOf 48 = 1 := by kernel_rfl
@[go_sem] theorem isAgg48 : isAggT Tryz.prog 48 = some false := by kernel_rfl
@[go_sem] theorem ok48 : tyOk Tryz.prog 48 = true := by kernel_rfl
@[go_sem] theorem bytes48 : Tryz.prog.bytesOf 48 = 8 := by kernel_rfl
@[go_sem] theorem zero48 : zeroOf Tryz.prog 48 = some (.p .nilf) := by kernel_rfl
@[go_sem] theorem zeroLen48 : appendA.zeroLen Tryz.prog 48 = 1 := by kernel_rfl
attribute [go_sem] Tryz.underlying49
@[go_sem] theorem cellsOf49 : Tryz.prog.cellsOf 49 = 1 := by kernel_rfl
@[go_sem] theorem isAgg49 : isAggT Tryz.prog 49 = some false := by kernel_rfl
@[go_sem] theorem ok49 : tyOk Tryz.prog 49 = true := by kernel_rfl
@[go_sem] theorem bytes49 : Tryz.prog.bytesOf 49 = 24 := by kernel_rfl
@[go_sem] theorem zero49 : zeroOf Tryz.prog 49 = some (.nils) := by kernel_rfl
@[go_sem] theorem zeroLen49 : appendA.zeroLen Tryz.prog 49 = 1 := by kernel_rfl
attribute [go_sem] Tryz.underlying50
@[go_sem] theorem cellsOf50 : Tryz.prog.cellsOf 50 = 2 := by kernel_rfl
@[go_sem] theorem isAgg50 : isAggT Tryz.prog 50 = some true := by kernel_rfl
@[go_sem] theorem ok50 : tyOk Tryz.prog 50 = true := by kernel_rfl
@[go_sem] theorem bytes50 : Tryz.prog.bytesOf 50 = 32 := by kernel_rfl
@[go_sem] theorem zero50 : zeroOf Tryz.prog 50 = some (.agg [.p (.int .i64 0), .nils]) := by kernel_rfl
@[go_sem] theorem zeroLen50 : appendA.zeroLen Tryz.prog 50 = 2 := by kernel_rfl
@[go_sem] theorem field50_0 : fieldOff Tryz.prog 50 0 = some 0 := by kernel_rfl
@[go_sem] theorem field50_1 : fieldOff Tryz.prog 50 1 = some 1 := by kernel_rfl
@[go_sem] theorem build50 (parts : List (Nat × AV)) : buildA Tryz.prog 50 parts = (fillG (fun j => [(0, 1), (1, 1)][j]?) [.p (.int .i64 0), .nils] parts).map mkAgg :=
  buildA_eq _ _ zero50 rfl (by kernel_rfl) (by kernel_rfl) (by funext j; exact placesA_eq _ _ (by kernel_rfl) j)
attribute [go_sem] Tryz.underlying51
@[go_sem] theorem cellsOf51 : Tryz.prog.cellsOf 51 = 2 := by kernel_rfl
@[go_sem] theorem isAgg51 : isAggT Tryz.prog 51 = some true := by kernel_rfl
@[go_sem] theorem ok51 : tyOk Tryz.prog 51 = true := by kernel_rfl
@[go_sem] theorem bytes51 : Tryz.prog.bytesOf 51 = 32 := by kernel_rfl
@[go_sem] theorem zero51 : zeroOf Tryz.prog 51 = some (.agg [.p (.int .i64 0), .nils]) := by kernel_rfl
@[go_sem] theorem zeroLen51 : appendA.zeroLen Tryz.prog 51 = 2 := by kernel_rfl
@[go_sem] theorem field51_0 : fieldOff Tryz.prog 51 0 = some 0 := by kernel_rfl
@[go_sem] theorem field51_1 : fieldOff Tryz.prog 51 1 = some 1 := by kernel_rfl
@[go_sem] theorem build51 (parts : List (Nat × AV)) : buildA Tryz.prog 51 parts = (fillG (fun j => [(0, 1), (1, 1)][j]?) [.p (.int .i64 0), .nils] parts).map mkAgg :=
  buildA_eq _ _ zero51 rfl (by kernel_rfl) (by kernel_rfl) (by funext j; exact placesA_eq _ _ (by kernel_rfl) j)
attribute [go_sem] Tryz.underlying52
@[go_sem] theorem cellsOf52 : Tryz.prog.cellsOf 52 = 1 := by kernel_rfl
@[go_sem] theorem isAgg52 : isAggT Tryz.prog 52 = some false := by kernel_rfl
@[go_sem] theorem ok52 : tyOk Tryz.prog 52 = true := by kernel_rfl
@[go_sem] theorem bytes52 : Tryz.prog.bytesOf 52 = 8 := by kernel_rfl
@[go_sem] theorem zero52 : zeroOf Tryz.prog 52 = some (.p .nilf) := by kernel_rfl
@[go_sem] theorem zeroLen52 : appendA.zeroLen Tryz.prog 52 = 1 := by kernel_rfl
attribute [go_sem] Tryz.underlying53
@[go_sem] theorem cellsOf53 : Tryz.prog.cellsOf 53 = 1 := by kernel_rfl
@[go_sem] theorem isAgg53 : isAggT Tryz.prog 53 = some false := by kernel_rfl
@[go_sem] theorem ok53 : tyOk Tryz.prog 53 = true := by kernel_rfl
@[go_sem] theorem bytes53 : Tryz.prog.bytesOf 53 = 4 := by kernel_rfl
@[go_sem] theorem zero53 : zeroOf Tryz.prog 53 = some (.p (.int .u32 0)) := by kernel_rfl
@[go_sem] theorem zeroLen53 : appendA.zeroLen Tryz.prog 53 = 1 := by kernel_rfl
@[go_sem] theorem eqI53 (d : Nat) (k k' : IntKind) (a b : Int) : eqT Tryz.prog (d + 1) 53 [.int k a] [.int k' b] = if k = k' then some (a == b) else none := eqT_int _ Tryz.underlying53 d k k' a b
attribute [go_sem] Tryz.underlying54
@[go_sem] theorem cellsOf54 : Tryz.prog.cellsOf 54 = 1 := by kernel_rfl
@[go_sem] theorem isAgg54 : isAggT Tryz.prog 54 = some false := by kernel_rfl
@[go_sem] theorem ok54 : tyOk Tryz.prog 54 = true := by kernel_rfl
@[go_sem] theorem bytes54 : Tryz.prog.bytesOf 54 = 4 := by kernel_rfl
@[go_sem] theorem zero54 : zeroOf Tryz.prog 54 = some (.p (.int .u32 0)) := by kernel_rfl
@[go_sem] theorem zeroLen54 : appendA.zeroLen Tryz.prog 54 = 1 := by kernel_rfl
@[go_sem] theorem eqI54 (d : Nat) (k k' : IntKind) (a b : Int) : eqT Tryz.prog (d + 1) 54 [.int k a] [.int k' b] = if k = k' then some (a == b) else none := eqT_int _ Tryz.underlying54 d k k' a b
attribute [go_sem] Tryz.underlying55
@[go_sem] theorem cellsOf55 : Tryz.prog.cellsOf 55 = 3 := by kernel_rfl
@[go_sem] theorem isAgg55 : isAggT Tryz.prog 55 = some true := by kernel_rfl
@[go_sem] theorem ok55 : tyOk Tryz.prog 55 = true := by kernel_rfl
@[go_sem] theorem bytes55 : Tryz.prog.bytesOf 55 = 24 := by kernel_rfl
@[go_sem] theorem zero55 : zeroOf Tryz.prog 55 = some (.p (.agg [(.int .u32 0), (.int .i64 0), (.int .i64 0)])) := by kernel_rfl
@[go_sem] theorem zeroLen55 : appendA.zeroLen Tryz.prog 55 = 3 := by kernel_rfl
@[go_sem] theorem field55_0 : fieldOff Tryz.prog 55 0 = some 0 := by kernel_rfl
@[go_sem] theorem field55_1 : fieldOff Tryz.prog 55 1 = some 1 := by kernel_rfl
@[go_sem] theorem field55_2 : fieldOff Tryz.prog 55 2 = some 2 := by kernel_rfl
@[go_sem] theorem build55 (parts : List (Nat × AV)) : buildA Tryz.prog 55 parts = (fillG (fun j => [(0, 1), (1, 1), (2, 1)][j]?) [.p (.int .u32 0), .p (.int .i64 0), .p (.int .i64 0)] parts).map mkAgg :=
  buildA_eq _ _ zero55 rfl (by kernel_rfl) (by kernel_rfl) (by funext j; exact placesA_eq _ _ (by kernel_rfl) j)
@[go_sem] theorem eqS55 (d : Nat) (xs ys : List PV) : eqT Tryz.prog (d + 1) 55 xs ys = eqL (eqT Tryz.prog d) [(54, 0, 1), (3, 1, 1), (3, 2, 1)] xs ys := eqT_struct _ (by kernel_rfl) (by kernel_rfl) (by kernel_rfl) (by kernel_rfl) d xs ys
@[go_sem] theorem eqg55 : Tryz.prog.eqGuardType Tryz.prog.depth 55 = false := by kernel_rfl
attribute [go_sem] Tryz.underlying56
@[go_sem] theorem cellsOf56 : Tryz.prog.cellsOf 56 = 3 := by kernel_rfl
@[go_sem] theorem isAgg56 : isAggT Tryz.prog 56 = some true := by kernel_rfl
@[go_sem] theorem ok56 : tyOk Tryz.prog 56 = true := by kernel_rfl
@[go_sem] theorem bytes56 : Tryz.prog.bytesOf 56 = 24 := by kernel_rfl
@[go_sem] theorem zero56 : zeroOf Tryz.prog 56 = some (.p (.agg [(.int .u32 0), (.int .i64 0), (.int .i64 0)])) := by kernel_rfl
@[go_sem] theorem zeroLen56 : appendA.zeroLen Tryz.prog 56 = 3 := by kernel_rfl
@[go_sem] theorem field56_0 : fieldOff Tryz.prog 56 0 = some 0 := by kernel_rfl
@[go_sem] theorem field56_1 : fieldOff Tryz.prog 56 1 = some 1 := by kernel_rfl
@[go_sem] theorem field56_2 : fieldOff Tryz.prog 56 2 = some 2 := by kernel_rfl
@[go_sem] theorem build56 (parts : List (Nat × AV)) : buildA Tryz.prog 56 parts = (fillG (fun j => [(0, 1), (1, 1), (2, 1)][j]?) [.p (.int .u32 0), .p (.int .i64 0), .p (.int .i64 0)] parts).map mkAgg :=
  buildA_eq _ _ zero56 rfl (by kernel_rfl) (by kernel_rfl) (by funext j; exact placesA_eq _ _ (by kernel_rfl) j)
@[go_sem] theorem eqS56 (d : Nat) (xs ys : List PV) : eqT Tryz.prog (d + 1) 56 xs ys = eqL (eqT Tryz.prog d) [(54, 0, 1), (3, 1, 1), (3, 2, 1)] xs ys := eqT_struct _ (by kernel_rfl) (by kernel_rfl) (by kernel_rfl) (by kernel_rfl) d xs ys
@[go_sem] theorem eqg56 : Tryz.prog.eqGuardType Tryz.prog.depth 56 = false := by kernel_rfl
attribute [go_sem] Tryz.underlying57
@[go_sem] theorem cellsOf57 : Tryz.prog.cellsOf 57 = 1 := by kernel_rfl
@[go_sem] theorem isAgg57 : isAggT Tryz.prog 57 = some false := by kernel_rfl
@[go_sem] theorem ok57 : tyOk Tryz.prog 57 = true := by kernel_rfl
@[go_sem] theorem bytes57 : Tryz.prog.bytesOf 57 = 8 := by kernel_rfl
@[go_sem] theorem zero57 : zeroOf Tryz.prog 57 = some (.p .nilf) := by kernel_rfl
@[go_sem] theorem zeroLen57 : appendA.zeroLen Tryz.prog 57 = 1 := by kernel_rfl
attribute [go_sem] Tryz.underlying58
@[go_sem] theorem cellsOf58 : Tryz.prog.cellsOf 58 = 1 := by kernel_rfl
@[go_sem] theorem isAgg58 : isAggT Tryz.prog 58 = some false := by kernel_rfl
@[go_sem] theorem ok58 : tyOk Tryz.prog 58 = true := by kernel_rfl
@[go_sem] theorem bytes58 : Tryz.prog.bytesOf 58 = 8 := by kernel_rfl
@[go_sem] theorem zero58 : zeroOf Tryz.prog 58 = some (.p .nilf) := by kernel_rfl
@[go_sem] theorem zeroLen58 : appendA.zeroLen Tryz.prog 58 = 1 := by kernel_rfl
attribute [go_sem] Tryz.underlying59
@[go_sem] theorem cellsOf59 : Tryz.prog.cellsOf 59 = 1 := by kernel_rfl
@[go_sem] theorem isAgg59 : isAggT Tryz.prog 59 = some false := by kernel_rfl
@[go_sem] theorem ok59 : tyOk Tryz.prog 59 = true := by kernel_rfl
@[go_sem] theorem bytes59 : Tryz.prog.bytesOf 59 = 8 := by kernel_rfl
@[go_sem] theorem zero59 : zeroOf Tryz.prog 59 = some (.p .nilf) := by kernel_rfl
@[go_sem] theorem zeroLen59 : appendA.zeroLen Tryz.prog 59 = 1 := by kernel_rfl
attribute [go_sem] Tryz.underlying60
@[go_sem] theorem cellsOf60 : Tryz.prog.cellsOf 60 = 1 := by kernel_rfl
@[go_sem] theorem isAgg60 : isAggT Tryz.prog 60 = some false := by kernel_rfl
@[go_sem] theorem ok60 : tyOk Tryz.prog 60 = true := by kernel_rfl
@[go_sem] theorem bytes60 : Tryz.prog.bytesOf 60 = 8 := by kernel_rfl
@[go_sem] theorem zero60 : zeroOf Tryz.prog 60 = some (.p .nilf) := by kernel_rfl
@[go_sem] theorem zeroLen60 : appendA.zeroLen Tryz.prog 60 = 1 := by kernel_rfl
attribute [go_sem] Tryz.underlying61
@[go_sem] theorem cellsOf61 : Tryz.prog.cellsOf 61 = 1 := by kernel_rfl
@[go_sem] theorem isAgg61 : isAggT Tryz.prog 61 = some false := by kernel_rfl
@[go_sem] theorem ok61 : tyOk Tryz.prog 61 = true := by kernel_rfl
@[go_sem] theorem bytes61 : Tryz.prog.bytesOf 61 = 8 := by kernel_rfl
@[go_sem] theorem zero61 : zeroOf Tryz.prog 61 = some (.p .nilf) := by kernel_rfl
@[go_sem] theorem zeroLen61 : appendA.zeroLen Tryz.prog 61 = 1 := by kernel_rfl
attribute [go_sem] Tryz.underlying62
@[go_sem] theorem cellsOf62 : Tryz.prog.cellsOf 62 = 1 := by kernel_rfl
@[go_sem] theorem isAgg62 : isAggT Tryz.prog 62 = some false := by kernel_rfl
@[go_sem] theorem ok62 : tyOk Tryz.prog 62 = true := by kernel_rfl
@[go_sem] theorem bytes62 : Tryz.prog.bytesOf 62 = 8 := by kernel_rfl
@[go_sem] theorem zero62 : zeroOf Tryz.prog 62 = some (.p .nilf) := by kernel_rfl
@[go_sem] theorem zeroLen62 : appendA.zeroLen Tryz.prog 62 = 1 := by kernel_rfl
attribute [go_sem] Tryz.underlying64
@[go_sem] theorem cellsOf64 : Tryz.prog.cellsOf 64 = 1 := by kernel_rfl
@[go_sem] theorem isAgg64 : isAggT Tryz.prog 64 = some false := by kernel_rfl
@[go_sem] theorem ok64 : tyOk Tryz.prog 64 = true := by kernel_rfl
@[go_sem] theorem bytes64 : Tryz.prog.bytesOf 64 = 8 := by kernel_rfl
@[go_sem] theorem zero64 : zeroOf Tryz.prog 64 = some (.p .nilf) := by kernel_rfl
@[go_sem] theorem zeroLen64 : appendA.zeroLen Tryz.prog 64 = 1 := by kernel_rfl
attribute [go_sem] Tryz.underlying65
@[go_sem] theorem cellsOf65 : Tryz.prog.cellsOf 65 = 1 := by kernel_rfl
@[go_sem] theorem isAgg65 : isAggT Tryz.prog 65 = some false := by kernel_rfl
@[go_sem] theorem ok65 : tyOk Tryz.prog 65 = true := by kernel_rfl
@[go_sem] theorem bytes65 : Tryz.prog.bytesOf 65 = 24 := by kernel_rfl
@[go_sem] theorem zero65 : zeroOf Tryz.prog 65 = some (.nils) := by kernel_rfl
@[go_sem] theorem zeroLen65 : appendA.zeroLen Tryz.prog 65 = 1 := by kernel_rfl
attribute [go_sem] Tryz.underlying68
@[go_sem] theorem cellsOf68 : Tryz.prog.cellsOf 68 = 1 := by kernel_rfl
@[go_sem] theorem isAgg68 : isAggT Tryz.prog 68 = some false := by kernel_rfl
@[go_sem] theorem ok68 : tyOk Tryz.prog 68 = true := by kernel_rfl
@[go_sem] theorem bytes68 : Tryz.prog.bytesOf 68 = 8 := by kernel_rfl
@[go_sem] theorem zero68 : zeroOf Tryz.prog 68 = some (.p .nilf) := by kernel_rfl
@[go_sem] theorem zeroLen68 : appendA.zeroLen Tryz.prog 68 = 1 := by kernel_rfl
attribute [go_sem] Tryz.underlying69
@[go_sem] theorem cellsOf69 : Tryz.prog.cellsOf 69 = 1 := by kernel_rfl
@[go_sem] theorem isAgg69 : isAggT Tryz.prog 69 = some false := by kernel_rfl
@[go_sem] theorem ok69 : tyOk Tryz.prog 69 = true := by kernel_rfl
@[go_sem] theorem bytes69 : Tryz.prog.bytesOf 69 = 8 := by kernel_rfl
@[go_sem] theorem zero69 : zeroOf Tryz.prog 69 = some (.p .nilf) := by kernel_rfl
@[go_sem] theorem zeroLen69 : appendA.zeroLen Tryz.prog 69 = 1 := by kernel_rfl
attribute [go_sem] Tryz.underlying70
@[go_sem] theorem cellsOf70 : Tryz.prog.cellsOf 70 = 1 := by kernel_rfl
@[go_sem] theorem isAgg70 : isAggT Tryz.prog 70 = some false := by kernel_rfl
@[go_sem] theorem ok70 : tyOk Tryz.prog 70 = true := by kernel_rfl
@[go_sem] theorem bytes70 : Tryz.prog.bytesOf 70 = 8 := by kernel_rfl
@[go_sem] theorem zero70 : zeroOf Tryz.prog 70 = some (.p .nilf) := by kernel_rfl
@[go_sem] theorem zeroLen70 : appendA.zeroLen Tryz.prog 70 = 1 := by kernel_rfl
attribute [go_sem] Tryz.underlying71
@[go_sem] theorem cellsOf71 : Tryz.prog.cellsOf 71 = 1 := by kernel_rfl
@[go_sem] theorem isAgg71 : isAggT Tryz.prog 71 = some false := by kernel_rfl
@[go_sem] theorem ok71 : tyOk Tryz.prog 71 = true := by kernel_rfl
@[go_sem] theorem bytes71 : Tryz.prog.bytesOf 71 = 8 := by kernel_rfl
@[go_sem] theorem zero71 : zeroOf Tryz.prog 71 = some (.p .nilf) := by kernel_rfl
@[go_sem] theorem zeroLen71 : appendA.zeroLen Tryz.prog 71 = 1 := by kernel_rfl
attribute [go_sem] Tryz.underlying72
@[go_sem] theorem cellsOf72 : Tryz.prog.cellsOf 72 = 1 := by kernel_rfl
@[go_sem] theorem isAgg72 : isAggT Tryz.prog 72 = some false := by kernel_rfl
@[go_sem] theorem ok72 : tyOk Tryz.prog 72 = true := by kernel_rfl
@[go_sem] theorem bytes72 : Tryz.prog.bytesOf 72 = 8 := by kernel_rfl
@[go_sem] theorem zero72 : zeroOf Tryz.prog 72 = some (.p .nilf) := by kernel_rfl
@[go_sem] theorem zeroLen72 : appendA.zeroLen Tryz.prog 72 = 1 := by kernel_rfl
attribute [go_sem] Tryz.underlying74
@[go_sem] theorem cellsOf74 : Tryz.prog.cellsOf 74 = 1 := by kernel_rfl
@[go_sem] theorem isAgg74 : isAggT Tryz.prog 74 = some false := by kernel_rfl
@[go_sem] theorem ok74 : tyOk Tryz.prog 74 = true := by kernel_rfl
@[go_sem] theorem bytes74 : Tryz.prog.bytesOf 74 = 8 := by kernel_rfl
@[go_sem] theorem zero74 : zeroOf Tryz.prog 74 = some (.p .nilf) := by kernel_rfl
@[go_sem] theorem zeroLen74 : appendA.zeroLen Tryz.prog 74 = 1 := by kernel_rfl
attribute [go_sem] Tryz.underlying75
@[go_sem] theorem cellsOf75 : Tryz.prog.cellsOf 75 = 1 := by kernel_rfl
@[go_sem] theorem isAgg75 : isAggT Tryz.prog 75 = some false := by kernel_rfl
@[go_sem] theorem ok75 : tyOk Tryz.prog 75 = true := by kernel_rfl
@[go_sem] theorem bytes75 : Tryz.prog.bytesOf 75 = 8 := by kernel_rfl
@[go_sem] theorem zero75 : zeroOf Tryz.prog 75 = some (.p .nilf) := by kernel_rfl
@[go_sem] theorem zeroLen75 : appendA.zeroLen Tryz.prog 75 = 1 := by kernel_rfl
attribute [go_sem] Tryz.underlying77
@[go_sem] theorem cellsOf77 : Tryz.prog.cellsOf 77 = 1 := by kernel_rfl
@[go_sem] theorem isAgg77 : isAggT Tryz.prog 77 = some false := by kernel_rfl
@[go_sem] theorem ok77 : tyOk Tryz.prog 77 = true := by kernel_rfl
@[go_sem] theorem bytes77 : Tryz.prog.bytesOf 77 = 8 := by kernel_rfl
@[go_sem] theorem zero77 : zeroOf Tryz.prog 77 = some (.p .nilf) := by kernel_rfl
@[go_sem] theorem zeroLen77 : appendA.zeroLen Tryz.prog 77 = 1 := by kernel_rfl
attribute [go_sem] Tryz.underlying78
@[go_sem] theorem cellsOf78 : Tryz.prog.cellsOf 78 = 1 := by kernel_rfl
@[go_sem] theorem isAgg78 : isAggT Tryz.prog 78 = some false := by kernel_rfl
@[go_sem] theorem ok78 : tyOk Tryz.prog 78 = true := by kernel_rfl
@[go_sem] theorem bytes78 : Tryz.prog.bytesOf 78 = 8 := by kernel_rfl
@[go_sem] theorem zero78 : zeroOf Tryz.prog 78 = some (.p .nilf) := by kernel_rfl
@[go_sem] theorem zeroLen78 : appendA.zeroLen Tryz.prog 78 = 1 := by kernel_rfl
attribute [go_sem] Tryz.underlying79
@[go_sem] theorem cellsOf79 : Tryz.prog.cellsOf 79 = 1 := by kernel_rfl
@[go_sem] theorem isAgg79 : isAggT Tryz.prog 79 = some false := by kernel_rfl
@[go_sem] theorem ok79 : tyOk Tryz.prog 79 = true := by kernel_rfl
@[go_sem] theorem bytes79 : Tryz.prog.bytesOf 79 = 8 := by kernel_rfl
@[go_sem] theorem zero79 : zeroOf Tryz.prog 79 = some (.p .nilf) := by kernel_rfl
@[go_sem] theorem zeroLen79 : appendA.zeroLen Tryz.prog 79 = 1 := by kernel_rfl
attribute [go_sem] Tryz.underlying80
@[go_sem] theorem cellsOf80 : Tryz.prog.cellsOf 80 = 1 := by kernel_rfl
@[go_sem] theorem isAgg80 : isAggT Tryz.prog 80 = some false := by kernel_rfl
@[go_sem] theorem ok80 : tyOk Tryz.prog 80 = true := by kernel_rfl
@[go_sem] theorem bytes80 : Tryz.prog.bytesOf 80 = 8 := by kernel_rfl
@[go_sem] theorem zero80 : zeroOf Tryz.prog 80 = some (.p .nilf) := by kernel_rfl
@[go_sem] theorem zeroLen80 : appendA.zeroLen Tryz.prog 80 = 1 := by kernel_rfl
attribute [go_sem] Tryz.underlying82
@[go_sem] theorem cellsOf82 : Tryz.prog.cellsOf 82 = 3 := by kernel_rfl
@[go_sem] theorem isAgg82 : isAggT Tryz.prog 82 = some true := by kernel_rfl
@[go_sem] theorem ok82 : tyOk Tryz.prog 82 = true := by kernel_rfl
@[go_sem] theorem bytes82 : Tryz.prog.bytesOf 82 = 32 := by kernel_rfl
@[go_sem] theorem zero82 : zeroOf Tryz.prog 82 = some (.p (.agg [(.int .i64 0), (.int .i64 0), (.str [])])) := by kernel_rfl
@[go_sem] theorem zeroLen82 : appendA.zeroLen Tryz.prog 82 = 3 := by kernel_rfl
@[go_sem] theorem field82_0 : fieldOff Tryz.prog 82 0 = some 0 := by kernel_rfl
@[go_sem] theorem field82_1 : fieldOff Tryz.prog 82 1 = some 1 := by kernel_rfl
@[go_sem] theorem field82_2 : fieldOff Tryz.prog 82 2 = some 2 := by kernel_rfl
@[go_sem] theorem build82 (parts : List (Nat × AV)) : buildA Tryz.prog 82 parts = (fillG (fun j => [(0, 1), (1, 1), (2, 1)][j]?) [.p (.int .i64 0), .p (.int .i64 0), .p (.str [])] parts).map mkAgg :=
  buildA_eq _ _ zero82 rfl (by kernel_rfl) (by kernel_rfl) (by funext j; exact placesA_eq _ _ (by kernel_rfl) j)
@[go_sem] theorem eqS82 (d : Nat) (xs ys : List PV) : eqT Tryz.prog (d + 1) 82 xs ys = eqL (eqT Tryz.prog d) [(3, 0, 1), (2, 1, 1), (9, 2, 1)] xs ys := eqT_struct _ (by kernel_rfl) (by kernel_rfl) (by kernel_rfl) (by kernel_rfl) d xs ys
@[go_sem] theorem eqg82 : Tryz.prog.eqGuardType Tryz.prog.depth 82 = false := by kernel_rfl
attribute [go_sem] Tryz.underlying83
@[go_sem] theorem cellsOf83 : Tryz.prog.cellsOf 83 = 3 := by kernel_rfl
@[go_sem] theorem isAgg83 : isAggT Tryz.prog 83 = some true := by kernel_rfl
@[go_sem] theorem ok83 : tyOk Tryz.prog 83 = true := by kernel_rfl
@[go_sem] theorem bytes83 : Tryz.prog.bytesOf 83 = 32 := by kernel_rfl
@[go_sem] theorem zero83 : zeroOf Tryz.prog 83 = some (.p (.agg [(.int .i64 0), (.int .i64 0), (.str [])])) := by kernel_rfl
@[go_sem] theorem zeroLen83 : appendA.zeroLen Tryz.prog 83 = 3 := by kernel_rfl
@[go_sem] theorem field83_0 : fieldOff Tryz.prog 83 0 = some 0 := by kernel_rfl
@[go_sem] theorem field83_1 : fieldOff Tryz.prog 83 1 = some 1 := by kernel_rfl
@[go_sem] theorem field83_2 : fieldOff Tryz.prog 83 2 = some 2 := by kernel_rfl
@[go_sem] theorem build83 (parts : List (Nat × AV)) : buildA Tryz.prog 83 parts = (fillG (fun j => [(0, 1), (1, 1), (2, 1)][j]?) [.p (.int .i64 0), .p (.int .i64 0), .p (.str [])] parts).map mkAgg :=
  buildA_eq _ _ zero83 rfl (by kernel_rfl) (by kernel_rfl) (by funext j; exact placesA_eq _ _ (by kernel_rfl) j)
@[go_sem] theorem eqS83 (d : Nat) (xs ys : List PV) : eqT Tryz.prog (d + 1) 83 xs ys = eqL (eqT Tryz.prog d) [(3, 0, 1), (2, 1, 1), (9, 2, 1)] xs ys := eqT_struct _ (by kernel_rfl) (by kernel_rfl) (by kernel_rfl) (by kernel_rfl) d xs ys
@[go_sem] theorem eqg83 : Tryz.prog.eqGuardType Tryz.prog.depth 83 = false := by kernel_rfl
attribute [go_sem] Tryz.underlying84
@[go_sem] theorem cellsOf84 : Tryz.prog.cellsOf 84 = 1 := by kernel_rfl
@[go_sem] theorem isAgg84 : isAggT Tryz.prog 84 = some false := by kernel_rfl
@[go_sem] theorem ok84 : tyOk Tryz.prog 84 = true := by kernel_rfl
@[go_sem] theorem bytes84 : Tryz.prog.bytesOf 84 = 8 := by kernel_rfl
@[go_sem] theorem zero84 : zeroOf Tryz.prog 84 = some (.p .nilf) := by kernel_rfl
@[go_sem] theorem zeroLen84 : appendA.zeroLen Tryz.prog 84 = 1 := by kernel_rfl
attribute [go_sem] Tryz.underlying87
@[go_sem] theorem cellsOf87 : Tryz.prog.cellsOf 87 = 1 := by kernel_rfl
@[go_sem] theorem isAgg87 : isAggT Tryz.prog 87 = some false := by kernel_rfl
@[go_sem] theorem ok87 : tyOk Tryz.prog 87 = true := by kernel_rfl
@[go_sem] theorem bytes87 : Tryz.prog.bytesOf 87 = 8 := by kernel_rfl
@[go_sem] theorem zero87 : zeroOf Tryz.prog 87 = some (.p .nilf) := by kernel_rfl
@[go_sem] theorem zeroLen87 : appendA.zeroLen Tryz.prog 87 = 1 := by kernel_rfl
attribute [go_sem] Tryz.underlying92
@[go_sem] theorem cellsOf92 : Tryz.prog.cellsOf 92 = 1 := by kernel_rfl
@[go_sem] theorem isAgg92 : isAggT Tryz.prog 92 = some false := by kernel_rfl
@[go_sem] theorem ok92 : tyOk Tryz.prog 92 = true := by kernel_rfl
@[go_sem] theorem bytes92 : Tryz.prog.bytesOf 92 = 8 := by kernel_rfl
@[go_sem] theorem zero92 : zeroOf Tryz.prog 92 = some (.p .nilf) := by kernel_rfl
@[go_sem] theorem zeroLen92 : appendA.zeroLen Tryz.prog 92 = 1 := by kernel_rfl
attribute [go_sem] Tryz.underlying94
@[go_sem] theorem cellsOf94 : Tryz.prog.cellsOf 94 = 1 := by kernel_rfl
@[go_sem] theorem isAgg94 : isAggT Tryz.prog 94 = some false := by kernel_rfl
@[go_sem] theorem ok94 : tyOk Tryz.prog 94 = true := by kernel_rfl
@[go_sem] theorem bytes94 : Tryz.prog.bytesOf 94 = 8 := by kernel_rfl
@[go_sem] theorem zero94 : zeroOf Tryz.prog 94 = some (.p .nilf) := by kernel_rfl
@[go_sem] theorem zeroLen94 : appendA.zeroLen Tryz.prog 94 = 1 := by kernel_rfl
attribute [go_sem] Tryz.underlying95
@[go_sem] theorem cellsOf95 : Tryz.prog.cellsOf 95 = 1 := by kernel_rfl
@[go_sem] theorem isAgg95 : isAggT Tryz.prog 95 = some false := by kernel_rfl
@[go_sem] theorem ok95 : tyOk Tryz.prog 95 = true := by kernel_rfl
@[go_sem] theorem bytes95 : Tryz.prog.bytesOf 95 = 8 := by kernel_rfl
@[go_sem] theorem zero95 : zeroOf Tryz.prog 95 = some (.p .nilf) := by kernel_rfl
@[go_sem] theorem zeroLen95 : appendA.zeroLen Tryz.prog 95 = 1 := by kernel_rfl
attribute [go_sem] Tryz.underlying97
@[go_sem] theorem cellsOf97 : Tryz.prog.cellsOf 97 = 1 := by kernel_rfl
@[go_sem] theorem isAgg97 : isAggT Tryz.prog 97 = some false := by kernel_rfl
@[go_sem] theorem ok97 : tyOk Tryz.prog 97 = true := by kernel_rfl
@[go_sem] theorem bytes97 : Tryz.prog.bytesOf 97 = 8 := by kernel_rfl
@[go_sem] theorem zero97 : zeroOf Tryz.prog 97 = some (.p .nilf) := by kernel_rfl
@[go_sem] theorem zeroLen97 : appendA.zeroLen Tryz.prog 97 = 1 := by kernel_rfl
attribute [go_sem] Tryz.underlying98
@[go_sem] theorem cellsOf98 : Tryz.prog.cellsOf 98 = 1 := by kernel_rfl
@[go_sem] theorem isAgg98 : isAggT Tryz.prog 98 = some false := by kernel_rfl
@[go_sem] theorem ok98 : tyOk Tryz.prog 98 = true := by kernel_rfl
@[go_sem] theorem bytes98 : Tryz.prog.bytesOf 98 = 8 := by kernel_rfl
@[go_sem] theorem zero98 : zeroOf Tryz.prog 98 = some (.p .nilf) := by kernel_rfl
@[go_sem] theorem zeroLen98 : appendA.zeroLen Tryz.prog 98 = 1 := by kernel_rfl
attribute [go_sem] Tryz.underlying101
@[go_sem] theorem cellsOf101 : Tryz.prog.cellsOf 101 = 1 := by kernel_rfl
@[go_sem] theorem isAgg101 : isAggT Tryz.prog 101 = some false := by kernel_rfl
@[go_sem] theorem ok101 : tyOk Tryz.prog 101 = true := by kernel_rfl
@[go_sem] theorem bytes101 : Tryz.prog.bytesOf 101 = 8 := by kernel_rfl
@[go_sem] theorem zero101 : zeroOf Tryz.prog 101 = some (.p .nilf) := by kernel_rfl
@[go_sem] theorem zeroLen101 : appendA.zeroLen Tryz.prog 101 = 1 := by kernel_rfl
attribute [go_sem] Tryz.underlying103
@[go_sem] theorem cellsOf103 : Tryz.prog.cellsOf 103 = 1 := by kernel_rfl
@[go_sem] theorem isAgg103 : isAggT Tryz.prog 103 = some false := by kernel_rfl
@[go_sem] theorem ok103 : tyOk Tryz.prog 103 = true := by kernel_rfl
@[go_sem] theorem bytes103 : Tryz.prog.bytesOf 103 = 8 := by kernel_rfl
@[go_sem] theorem zero103 : zeroOf Tryz.prog 103 = some (.p .nilf) := by kernel_rfl
@[go_sem] theorem zeroLen103 : appendA.zeroLen Tryz.prog 103 = 1 := by kernel_rfl
attribute [go_sem] Tryz.underlying104
@[go_sem] theorem cellsOf104 : Tryz.prog.cellsOf 104 = 1 := by kernel_rfl
@[go_sem] theorem isAgg104 : isAggT Tryz.prog 104 = some false := by kernel_rfl
@[go_sem] theorem ok104 : tyOk Tryz.prog 104 = true := by kernel_rfl
@[go_sem] theorem bytes104 : Tryz.prog.bytesOf 104 = 8 := by kernel_rfl
@[go_sem] theorem zero104 : zeroOf Tryz.prog 104 = some (.p .nilf) := by kernel_rfl
@[go_sem] theorem zeroLen104 : appendA.zeroLen Tryz.prog 104 = 1 := by kernel_rfl
attribute [go_sem] Tryz.underlying109
@[go_sem] theorem cellsOf109 : Tryz.prog.cellsOf 109 = 1 := by kernel_rfl
@[go_sem] theorem isAgg109 : isAggT Tryz.prog 109 = some false := by kernel_rfl
@[go_sem] theorem ok109 : tyOk Tryz.prog 109 = true := by kernel_rfl
@[go_sem] theorem bytes109 : Tryz.prog.bytesOf 109 = 8 := by kernel_rfl
@[go_sem] theorem zero109 : zeroOf Tryz.prog 109 = some (.p .nilf) := by kernel_rfl
@[go_sem] theorem zeroLen109 : appendA.zeroLen Tryz.prog 109 = 1 := by kernel_rfl
attribute [go_sem] Tryz.underlying112
@[go_sem] theorem cellsOf112 : Tryz.prog.cellsOf 112 = 1 := by kernel_rfl
@[go_sem] theorem isAgg112 : isAggT Tryz.prog 112 = some false := by kernel_rfl
@[go_sem] theorem ok112 : tyOk Tryz.prog 112 = true := by kernel_rfl
@[go_sem] theorem bytes112 : Tryz.prog.bytesOf 112 = 8 := by kernel_rfl
@[go_sem] theorem zero112 : zeroOf Tryz.prog 112 = some (.p .nilf) := by kernel_rfl
@[go_sem] theorem zeroLen112 : appendA.zeroLen Tryz.prog 112 = 1 := by kernel_rfl
attribute [go_sem] Tryz.underlying113
@[go_sem] theorem cellsOf113 : Tryz.prog.cellsOf 113 = 1 := by kernel_rfl
@[go_sem] theorem isAgg113 : isAggT Tryz.prog 113 = some false := by kernel_rfl
@[go_sem] theorem ok113 : tyOk Tryz.prog 113 = true := by kernel_rfl
@[go_sem] theorem bytes113 : Tryz.prog.bytesOf 113 = 8 := by kernel_rfl
@[go_sem] theorem zero113 : zeroOf Tryz.prog 113 = some (.p .nilf) := by kernel_rfl
@[go_sem] theorem zeroLen113 : appendA.zeroLen Tryz.prog 113 = 1 := by kernel_rfl
attribute [go_sem] Tryz.underlying116
@[go_sem] theorem cellsOf116 : Tryz.prog.cellsOf 116 = 1 := by kernel_rfl
@[go_sem] theorem isAgg116 : isAggT Tryz.prog 116 = some false := by kernel_rfl
@[go_sem] theorem ok116 : tyOk Tryz.prog 116 = true := by kernel_rfl
@[go_sem] theorem bytes116 : Tryz.prog.bytesOf 116 = 8 := by kernel_rfl
@[go_sem] theorem zero116 : zeroOf Tryz.prog 116 = some (.p .nilf) := by kernel_rfl
@[go_sem] theorem zeroLen116 : appendA.zeroLen Tryz.prog 116 = 1 := by kernel_rfl
attribute [go_sem] Tryz.underlying120
@[go_sem] theorem cellsOf120 : Tryz.prog.cellsOf 120 = 1 := by kernel_rfl
@[go_sem] theorem isAgg120 : isAggT Tryz.prog 120 = some false := by kernel_rfl
@[go_sem] theorem ok120 : tyOk Tryz.prog 120 = true := by kernel_rfl
@[go_sem] theorem bytes120 : Tryz.prog.bytesOf 120 = 8 := by kernel_rfl
@[go_sem] theorem zero120 : zeroOf Tryz.prog 120 = some (.p (.int .u64 0)) := by kernel_rfl
@[go_sem] theorem zeroLen120 : appendA.zeroLen Tryz.prog 120 = 1 := by kernel_rfl
@[go_sem] theorem eqI120 (d : Nat) (k k' : IntKind) (a b : Int) : eqT Tryz.prog (d + 1) 120 [.int k a] [.int k' b] = if k = k' then some (a == b) else none := eqT_int _ Tryz.underlying120 d k k' a b
attribute [go_sem] Tryz.underlying123
@[go_sem] theorem cellsOf123 : Tryz.prog.cellsOf 123 = 1 := by kernel_rfl
@[go_sem] theorem isAgg123 : isAggT Tryz.prog 123 = some false := by kernel_rfl
@[go_sem] theorem ok123 : tyOk Tryz.prog 123 = true := by kernel_rfl
@[go_sem] theorem bytes123 : Tryz.prog.bytesOf 123 = 8 := by kernel_rfl
@[go_sem] theorem zero123 : zeroOf Tryz.prog 123 = some (.p .nilf) := by kernel_rfl
@[go_sem] theorem zeroLen123 : appendA.zeroLen Tryz.prog 123 = 1 := by kernel_rfl
attribute [go_sem] Tryz.underlying124
@[go_sem] theorem cellsOf124 : Tryz.prog.cellsOf 124 = 1 := by kernel_rfl
@[go_sem] theorem isAgg124 : isAggT Tryz.prog 124 = some false := by kernel_rfl
@[go_sem] theorem ok124 : tyOk Tryz.prog 124 = true := by kernel_rfl
@[go_sem] theorem bytes124 : Tryz.prog.bytesOf 124 = 8 := by kernel_rfl
@[go_sem] theorem zero124 : zeroOf Tryz.prog 124 = some (.p .nilf) := by kernel_rfl
@[go_sem] theorem zeroLen124 : appendA.zeroLen Tryz.prog 124 = 1 := by kernel_rfl
attribute [go_sem] Tryz.underlying125
@[go_sem] theorem cellsOf125 : Tryz.prog.cellsOf 125 = 1 := by kernel_rfl
@[go_sem] theorem isAgg125 : isAggT Tryz.prog 125 = some false := by kernel_rfl
@[go_sem] theorem ok125 : tyOk Tryz.prog 125 = true := by kernel_rfl
@[go_sem] theorem bytes125 : Tryz.prog.bytesOf 125 = 8 := by kernel_rfl
@[go_sem] theorem zero125 : zeroOf Tryz.prog 125 = some (.p .nilf) := by kernel_rfl
@[go_sem] theorem zeroLen125 : appendA.zeroLen Tryz.prog 125 = 1 := by kernel_rfl
attribute [go_sem] Tryz.underlying129
@[go_sem] theorem cellsOf129 : Tryz.prog.cellsOf 129 = 1 := by kernel_rfl
@[go_sem] theorem isAgg129 : isAggT Tryz.prog 129 = some false := by kernel_rfl
@[go_sem] theorem ok129 : tyOk Tryz.prog 129 = true := by kernel_rfl
@[go_sem] theorem bytes129 : Tryz.prog.bytesOf 129 = 8 := by kernel_rfl
@[go_sem] theorem zero129 : zeroOf Tryz.prog 129 = some (.p .nilf) := by kernel_rfl
@[go_sem] theorem zeroLen129 : appendA.zeroLen Tryz.prog 129 = 1 := by kernel_rfl
attribute [go_sem] Tryz.underlying131
@[go_sem] theorem cellsOf131 : Tryz.prog.cellsOf 131 = 1 := by kernel_rfl
@[go_sem] theorem isAgg131 : isAggT Tryz.prog 131 = some false := by kernel_rfl
@[go_sem] theorem ok131 : tyOk Tryz.prog 131 = true := by kernel_rfl
@[go_sem] theorem bytes131 : Tryz.prog.bytesOf 131 = 8 := by kernel_rfl
@[go_sem] theorem zero131 : zeroOf Tryz.prog 131 = some (.p (.int .i64 0)) := by kernel_rfl
@[go_sem] theorem zeroLen131 : appendA.zeroLen Tryz.prog 131 = 1 := by kernel_rfl
@[go_sem] theorem eqI131 (d : Nat) (k k' : IntKind) (a b : Int) : eqT Tryz.prog (d + 1) 131 [.int k a] [.int k' b] = if k = k' then some (a == b) else none := eqT_int _ Tryz.underlying131 d k k' a b
attribute [go_sem] Tryz.underlying134
@[go_sem] theorem cellsOf134 : Tryz.prog.cellsOf 134 = 1 := by kernel_rfl
@[go_sem] theorem isAgg134 : isAggT Tryz.prog 134 = some false := by kernel_rfl
@[go_sem] theorem ok134 : tyOk Tryz.prog 134 = true := by kernel_rfl
@[go_sem] theorem bytes134 : Tryz.prog.bytesOf 134 = 8 := by kernel_rfl
@[go_sem] theorem zero134 : zeroOf Tryz.prog 134 = some (.p .nilf) := by kernel_rfl
@[go_sem] theorem zeroLen134 : appendA.zeroLen Tryz.prog 134 = 1 := by kernel_rfl
attribute [go_sem] Tryz.underlying138
@[go_sem] theorem cellsOf138 : Tryz.prog.cellsOf 138 = 1 := by kernel_rfl
@[go_sem] theorem isAgg138 : isAggT Tryz.prog 138 = some false := by kernel_rfl
@[go_sem] theorem ok138 : tyOk Tryz.prog 138 = true := by kernel_rfl
@[go_sem] theorem bytes138 : Tryz.prog.bytesOf 138 = 8 := by kernel_rfl
@[go_sem] theorem zero138 : zeroOf Tryz.prog 138 = some (.p .nilf) := by kernel_rfl
@[go_sem] theorem zeroLen138 : appendA.zeroLen Tryz.prog 138 = 1 := by kernel_rfl
attribute [go_sem] Tryz.underlying139
@[go_sem] theorem cellsOf139 : Tryz.prog.cellsOf 139 = 1 := by kernel_rfl
@[go_sem] theorem isAgg139 : isAggT Tryz.prog 139 = some false := by kernel_rfl
@[go_sem] theorem ok139 : tyOk Tryz.prog 139 = true := by kernel_rfl
@[go_sem] theorem bytes139 : Tryz.prog.bytesOf 139 = 8 := by kernel_rfl
@[go_sem] theorem zero139 : zeroOf Tryz.prog 139 = some (.p (.int .u64 0)) := by kernel_rfl
@[go_sem] theorem zeroLen139 : appendA.zeroLen Tryz.prog 139 = 1 := by kernel_rfl
@[go_sem] theorem eqI139 (d : Nat) (k k' : IntKind) (a b : Int) : eqT Tryz.prog (d + 1) 139 [.int k a] [.int k' b] = if k = k' then some (a == b) else none := eqT_int _ Tryz.underlying139 d k k' a b
attribute [go_sem] Tryz.underlying144
@[go_sem] theorem cellsOf144 : Tryz.prog.cellsOf 144 = 1 := by kernel_rfl
@[go_sem] theorem isAgg144 : isAggT Tryz.prog 144 = some false := by kernel_rfl
@[go_sem] theorem ok144 : tyOk Tryz.prog 144 = true := by kernel_rfl
@[go_sem] theorem bytes144 : Tryz.prog.bytesOf 144 = 8 := by kernel_rfl
@[go_sem] theorem zero144 : zeroOf Tryz.prog 144 = some (.p .nilf) := by kernel_rfl
@[go_sem] theorem zeroLen144 : appendA.zeroLen Tryz.prog 144 = 1 := by kernel_rfl
attribute [go_sem] Tryz.underlying147
@[go_sem] theorem cellsOf147 : Tryz.prog.cellsOf 147 = 1 := by kernel_rfl
@[go_sem] theorem isAgg147 : isAggT Tryz.prog 147 = some false := by kernel_rfl
@[go_sem] theorem ok147 : tyOk Tryz.prog 147 = true := by kernel_rfl
@[go_sem] theorem bytes147 : Tryz.prog.bytesOf 147 = 8 := by kernel_rfl
@[go_sem] theorem zero147 : zeroOf Tryz.prog 147 = some (.p (.int .u64 0)) := by kernel_rfl
@[go_sem] theorem zeroLen147 : appendA.zeroLen Tryz.prog 147 = 1 := by kernel_rfl
@[go_sem] theorem eqI147 (d : Nat) (k k' : IntKind) (a b : Int) : eqT Tryz.prog (d + 1) 147 [.int k a] [.int k' b] = if k = k' then some (a == b) else none := eqT_int _ Tryz.underlying147 d k k' a b
attribute [go_sem] Tryz.underlying151
@[go_sem] theorem cellsOf151 : Tryz.prog.cellsOf 151 = 1 := by kernel_rfl
@[go_sem] theorem isAgg151 : isAggT Tryz.prog 151 = some false := by kernel_rfl
@[go_sem] theorem ok151 : tyOk Tryz.prog 151 = true := by kernel_rfl
@[go_sem] theorem bytes151 : Tryz.prog.bytesOf 151 = 8 := by kernel_rfl
@[go_sem] theorem zero151 : zeroOf Tryz.prog 151 = some (.p .nilp) := by kernel_rfl
@[go_sem] theorem zeroLen151 : appendA.zeroLen Tryz.prog 151 = 1 := by kernel_rfl
attribute [go_sem] Tryz.underlying155
@[go_sem] theorem cellsOf155 : Tryz.prog.cellsOf 155 = 1 := by kernel_rfl
@[go_sem] theorem isAgg155 : isAggT Tryz.prog 155 = some false := by kernel_rfl
@[go_sem] theorem ok155 : tyOk Tryz.prog 155 = true := by kernel_rfl
@[go_sem] theorem bytes155 : Tryz.prog.bytesOf 155 = 8 := by kernel_rfl
@[go_sem] theorem zero155 : zeroOf Tryz.prog 155 = some (.p .nilp) := by kernel_rfl
@[go_sem] theorem zeroLen155 : appendA.zeroLen Tryz.prog 155 = 1 := by kernel_rfl
attribute [go_sem] Tryz.underlying160
@[go_sem] theorem cellsOf160 : Tryz.prog.cellsOf 160 = 4 := by kernel_rfl
@[go_sem] theorem isAgg160 : isAggT Tryz.prog 160 = some true := by kernel_rfl
@[go_sem] theorem ok160 : tyOk Tryz.prog 160 = true := by kernel_rfl
@[go_sem] theorem bytes160 : Tryz.prog.bytesOf 160 = 40 := by kernel_rfl
@[go_sem] theorem zero160 : zeroOf Tryz.prog 160 = some (.p (.agg [.nilp, .nilp, .nilp, (.str [])])) := by kernel_rfl
@[go_sem] theorem zeroLen160 : appendA.zeroLen Tryz.prog 160 = 4 := by kernel_rfl
@[go_sem] theorem field160_0 : fieldOff Tryz.prog 160 0 = some 0 := by kernel_rfl
@[go_sem] theorem field160_1 : fieldOff Tryz.prog 160 1 = some 1 := by kernel_rfl
@[go_sem] theorem field160_2 : fieldOff Tryz.prog 160 2 = some 2 := by kernel_rfl
@[go_sem] theorem field160_3 : fieldOff Tryz.prog 160 3 = some 3 := by kernel_rfl
@[go_sem] theorem build160 (parts : List (Nat × AV)) : buildA Tryz.prog 160 parts = (fillG (fun j => [(0, 1), (1, 1), (2, 1), (3, 1)][j]?) [.p .nilp, .p .nilp, .p .nilp, .p (.str [])] parts).map mkAgg :=
  buildA_eq _ _ zero160 rfl (by kernel_rfl) (by kernel_rfl) (by funext j; exact placesA_eq _ _ (by kernel_rfl) j)
attribute [go_sem] Tryz.underlying161
@[go_sem] theorem cellsOf161 : Tryz.prog.cellsOf 161 = 4 := by kernel_rfl
@[go_sem] theorem isAgg161 : isAggT Tryz.prog 161 = some true := by kernel_rfl
@[go_sem] theorem ok161 : tyOk Tryz.prog 161 = true := by kernel_rfl
@[go_sem] theorem bytes161 : Tryz.prog.bytesOf 161 = 40 := by kernel_rfl
@[go_sem] theorem zero161 : zeroOf Tryz.prog 161 = some (.p (.agg [.nilp, .nilp, .nilp, (.str [])])) := by kernel_rfl
@[go_sem] theorem zeroLen161 : appendA.zeroLen Tryz.prog 161 = 4 := by kernel_rfl
@[go_sem] theorem field161_0 : fieldOff Tryz.prog 161 0 = some 0 := by kernel_rfl
@[go_sem] theorem field161_1 : fieldOff Tryz.prog 161 1 = some 1 := by kernel_rfl
@[go_sem] theorem field161_2 : fieldOff Tryz.prog 161 2 = some 2 := by kernel_rfl
@[go_sem] theorem field161_3 : fieldOff Tryz.prog 161 3 = some 3 := by kernel_rfl
@[go_sem] theorem build161 (parts : List (Nat × AV)) : buildA Tryz.prog 161 parts = (fillG (fun j => [(0, 1), (1, 1), (2, 1), (3, 1)][j]?) [.p .nilp, .p .nilp, .p .nilp, .p (.str [])] parts).map mkAgg :=
  buildA_eq _ _ zero161 rfl (by kernel_rfl) (by kernel_rfl) (by funext j; exact placesA_eq _ _ (by kernel_rfl) j)
attribute [go_sem] Tryz.underlying162
@[go_sem] theorem cellsOf162 : Tryz.prog.cellsOf 162 = 0 := by kernel_rfl
@[go_sem] theorem isAgg162 : isAggT Tryz.prog 162 = some true := by kernel_rfl
@[go_sem] theorem ok162 : tyOk Tryz.prog 162 = true := by kernel_rfl
@[go_sem] theorem bytes162 : Tryz.prog.bytesOf 162 = 0 := by kernel_rfl
@[go_sem] theorem zero162 : zeroOf Tryz.prog 162 = some (.p (.agg [])) := by kernel_rfl
@[go_sem] theorem zeroLen162 : appendA.zeroLen Tryz.prog 162 = 0 := by kernel_rfl
attribute [go_sem] Tryz.underlying163
@[go_sem] theorem cellsOf163 : Tryz.prog.cellsOf 163 = 0 := by kernel_rfl
@[go_sem] theorem isAgg163 : isAggT Tryz.prog 163 = some true := by kernel_rfl
@[go_sem] theorem ok163 : tyOk Tryz.prog 163 = true := by kernel_rfl
@[go_sem] theorem bytes163 : Tryz.prog.bytesOf 163 = 0 := by kernel_rfl
@[go_sem] theorem zero163 : zeroOf Tryz.prog 163 = some (.p (.agg [])) := by kernel_rfl
@[go_sem] theorem zeroLen163 : appendA.zeroLen Tryz.prog 163 = 0 := by kernel_rfl
@[go_sem] theorem build163 (parts : List (Nat × AV)) : buildA Tryz.prog 163 parts = (fillG (fun j => [(0, 0)][j]?) [] parts).map mkAgg :=
  buildA_eq _ _ zero163 rfl (by kernel_rfl) (by kernel_rfl) (by funext j; exact placesA_eq _ _ (by kernel_rfl) j)
attribute [go_sem] Tryz.underlying164
@[go_sem] theorem cellsOf164 : Tryz.prog.cellsOf 164 = 0 := by kernel_rfl
@[go_sem] theorem isAgg164 : isAggT Tryz.prog 164 = some true := by kernel_rfl
@[go_sem] theorem ok164 : tyOk Tryz.prog 164 = true := by kernel_rfl
@[go_sem] theorem bytes164 : Tryz.prog.bytesOf 164 = 0 := by kernel_rfl
@[go_sem] theorem zero164 : zeroOf Tryz.prog 164 = some (.p (.agg [])) := by kernel_rfl
@[go_sem] theorem zeroLen164 : appendA.zeroLen Tryz.prog 164 = 0 := by kernel_rfl
@[go_sem] theorem build164 (parts : List (Nat × AV)) : buildA Tryz.prog 164 parts = (fillG (fun j => [(0, 0)][j]?) [] parts).map mkAgg :=
  buildA_eq _ _ zero164 rfl (by kernel_rfl) (by kernel_rfl) (by funext j; exact placesA_eq _ _ (by kernel_rfl) j)
attribute [go_sem] Tryz.underlying166
@[go_sem] theorem cellsOf166 : Tryz.prog.cellsOf 166 = 1 := by kernel_rfl
@[go_sem] theorem isAgg166 : isAggT Tryz.prog 166 = some false := by kernel_rfl
@[go_sem] theorem ok166 : tyOk Tryz.prog 166 = true := by kernel_rfl
@[go_sem] theorem bytes166 : Tryz.prog.bytesOf 166 = 1 := by kernel_rfl
@[go_sem] theorem zero166 : zeroOf Tryz.prog 166 = some (.p (.int .u8 0)) := by kernel_rfl
@[go_sem] theorem zeroLen166 : appendA.zeroLen Tryz.prog 166 = 1 := by kernel_rfl
@[go_sem] theorem eqI166 (d : Nat) (k k' : IntKind) (a b : Int) : eqT Tryz.prog (d + 1) 166 [.int k a] [.int k' b] = if k = k' then some (a == b) else none := eqT_int _ Tryz.underlying166 d k k' a b
attribute [go_sem] Tryz.underlying167
@[go_sem] theorem cellsOf167 : Tryz.prog.cellsOf 167 = 1 := by kernel_rfl
@[go_sem] theorem isAgg167 : isAggT Tryz.prog 167 = some false := by kernel_rfl
@[go_sem] theorem ok167 : tyOk Tryz.prog 167 = true := by kernel_rfl
@[go_sem] theorem bytes167 : Tryz.prog.bytesOf 167 = 1 := by kernel_rfl
@[go_sem] theorem zero167 : zeroOf Tryz.prog 167 = some (.p (.int .u8 0)) := by kernel_rfl
@[go_sem] theorem zeroLen167 : appendA.zeroLen Tryz.prog 167 = 1 := by kernel_rfl
@[go_sem] theorem eqI167 (d : Nat) (k k' : IntKind) (a b : Int) : eqT Tryz.prog (d + 1) 167 [.int k a] [.int k' b] = if k = k' then some (a == b) else none := eqT_int _ Tryz.underlying167 d k k' a b
attribute [go_sem] Tryz.underlying168
@[go_sem] theorem cellsOf168 : Tryz.prog.cellsOf 168 = 1 := by kernel_rfl
@[go_sem] theorem isAgg168 : isAggT Tryz.prog 168 = some false := by kernel_rfl
@[go_sem] theorem ok168 : tyOk Tryz.prog 168 = true := by kernel_rfl
@[go_sem] theorem bytes168 : Tryz.prog.bytesOf 168 = 8 := by kernel_rfl
@[go_sem] theorem zero168 : zeroOf Tryz.prog 168 = some (.p .nilf) := by kernel_rfl
@[go_sem] theorem zeroLen168 : appendA.zeroLen Tryz.prog 168 = 1 := by kernel_rfl
attribute [go_sem] Tryz.underlying169
@[go_sem] theorem cellsOf169 : Tryz.prog.cellsOf 169 = 1 := by kernel_rfl
@[go_sem] theorem isAgg169 : isAggT Tryz.prog 169 = some false := by kernel_rfl
@[go_sem] theorem ok169 : tyOk Tryz.prog 169 = true := by kernel_rfl
@[go_sem] theorem bytes169 : Tryz.prog.bytesOf 169 = 8 := by kernel_rfl
@[go_sem] theorem zero169 : zeroOf Tryz.prog 169 = some (.p .nilp) := by kernel_rfl
@[go_sem] theorem zeroLen169 : appendA.zeroLen Tryz.prog 169 = 1 := by kernel_rfl
attribute [go_sem] Tryz.underlying170
@[go_sem] theorem cellsOf170 : Tryz.prog.cellsOf 170 = 1 := by kernel_rfl
@[go_sem] theorem isAgg170 : isAggT Tryz.prog 170 = some false := by kernel_rfl
@[go_sem] theorem ok170 : tyOk Tryz.prog 170 = true := by kernel_rfl
@[go_sem] theorem bytes170 : Tryz.prog.bytesOf 170 = 4 := by kernel_rfl
@[go_sem] theorem zero170 : zeroOf Tryz.prog 170 = some (.p (.int .i32 0)) := by kernel_rfl
@[go_sem] theorem zeroLen170 : appendA.zeroLen Tryz.prog 170 = 1 := by kernel_rfl
@[go_sem] theorem eqI170 (d : Nat) (k k' : IntKind) (a b : Int) : eqT Tryz.prog (d + 1) 170 [.int k a] [.int k' b] = if k = k' then some (a == b) else none := eqT_int _ Tryz.underlying170 d k k' a b
attribute [go_sem] Tryz.underlying171
@[go_sem] theorem cellsOf171 : Tryz.prog.cellsOf 171 = 1 := by kernel_rfl
@[go_sem] theorem isAgg171 : isAggT Tryz.prog 171 = some false := by kernel_rfl
@[go_sem] theorem ok171 : tyOk Tryz.prog 171 = true := by kernel_rfl
@[go_sem] theorem bytes171 : Tryz.prog.bytesOf 171 = 4 := by kernel_rfl
@[go_sem] theorem zero171 : zeroOf Tryz.prog 171 = some (.p (.int .i32 0)) := by kernel_rfl
@[go_sem] theorem zeroLen171 : appendA.zeroLen Tryz.prog 171 = 1 := by kernel_rfl
@[go_sem] theorem eqI171 (d : Nat) (k k' : IntKind) (a b : Int) : eqT Tryz.prog (d + 1) 171 [.int k a] [.int k' b] = if k = k' then some (a == b) else none := eqT_int _ Tryz.underlying171 d k k' a b
attribute [go_sem] Tryz.underlying172
@[go_sem] theorem cellsOf172 : Tryz.prog.cellsOf 172 = 11 := by kernel_rfl
@[go_sem] theorem isAgg172 : isAggT Tryz.prog 172 = some true := by kernel_rfl
@[go_sem] theorem ok172 : tyOk Tryz.prog 172 = true := by kernel_rfl
@[go_sem] theorem bytes172 : Tryz.prog.bytesOf 172 = 48 := by kernel_rfl
@[go_sem] theorem zero172 : zeroOf Tryz.prog 172 = some (.p (.agg [(.int .u64 0), (.int .u64 0), (.int .u32 0), (.int .u8 0), (.int .u8 0), (.int .u8 0), (.int .u8 0), .nilf, .nilp, (.int .i32 0), (.int .i32 0)])) := by kernel_rfl
@[go_sem] theorem zeroLen172 : appendA.zeroLen Tryz.prog 172 = 11 := by kernel_rfl
@[go_sem] theorem field172_0 : fieldOff Tryz.prog 172 0 = some 0 := by kernel_rfl
@[go_sem] theorem field172_1 : fieldOff Tryz.prog 172 1 = some 1 := by kernel_rfl
@[go_sem] theorem field172_2 : fieldOff Tryz.prog 172 2 = some 2 := by kernel_rfl
@[go_sem] theorem field172_3 : fieldOff Tryz.prog 172 3 = some 3 := by kernel_rfl
@[go_sem] theorem field172_4 : fieldOff Tryz.prog 172 4 = some 4 := by kernel_rfl
@[go_sem] theorem field172_5 : fieldOff Tryz.prog 172 5 = some 5 := by kernel_rfl
@[go_sem] theorem field172_6 : fieldOff Tryz.prog 172 6 = some 6 := by kernel_rfl
@[go_sem] theorem field172_7 : fieldOff Tryz.prog 172 7 = some 7 := by kernel_rfl
@[go_sem] theorem field172_8 : fieldOff Tryz.prog 172 8 = some 8 := by kernel_rfl
@[go_sem] theorem field172_9 : fieldOff Tryz.prog 172 9 = some 9 := by kernel_rfl
@[go_sem] theorem field172_10 : fieldOff Tryz.prog 172 10 = some 10 := by kernel_rfl
@[go_sem] theorem build172 (parts : List (Nat × AV)) : buildA Tryz.prog 172 parts = (fillG (fun j => [(0, 1), (1, 1), (2, 1), (3, 1), (4, 1), (5, 1), (6, 1), (7, 1), (8, 1), (9, 1), (10, 1)][j]?) [.p (.int .u64 0), .p (.int .u64 0), .p (.int .u32 0), .p (.int .u8 0), .p (.int .u8 0), .p (.int .u8 0), .p (.int .u8 0), .p .nilf, .p .nilp, .p (.int .i32 0), .p (.int .i32 0)] parts).map mkAgg :=
  buildA_eq _ _ zero172 rfl (by kernel_rfl) (by kernel_rfl) (by funext j; exact placesA_eq _ _ (by kernel_rfl) j)
attribute [go_sem] Tryz.underlying173
@[go_sem] theorem cellsOf173 : Tryz.prog.cellsOf 173 = 11 := by kernel_rfl
@[go_sem] theorem isAgg173 : isAggT Tryz.prog 173 = some true := by kernel_rfl
@[go_sem] theorem ok173 : tyOk Tryz.prog 173 = true := by kernel_rfl
@[go_sem] theorem bytes173 : Tryz.prog.bytesOf 173 = 48 := by kernel_rfl
@[go_sem] theorem zero173 : zeroOf Tryz.prog 173 = some (.p (.agg [(.int .u64 0), (.int .u64 0), (.int .u32 0), (.int .u8 0), (.int .u8 0), (.int .u8 0), (.int .u8 0), .nilf, .nilp, (.int .i32 0), (.int .i32 0)])) := by kernel_rfl
@[go_sem] theorem zeroLen173 : appendA.zeroLen Tryz.prog 173 = 11 := by kernel_rfl
@[go_sem] theorem field173_0 : fieldOff Tryz.prog 173 0 = some 0 := by kernel_rfl
@[go_sem] theorem field173_1 : fieldOff Tryz.prog 173 1 = some 1 := by kernel_rfl
@[go_sem] theorem field173_2 : fieldOff Tryz.prog 173 2 = some 2 := by kernel_rfl
@[go_sem] theorem field173_3 : fieldOff Tryz.prog 173 3 = some 3 := by kernel_rfl
@[go_sem] theorem field173_4 : fieldOff Tryz.prog 173 4 = some 4 := by kernel_rfl
@[go_sem] theorem field173_5 : fieldOff Tryz.prog 173 5 = some 5 := by kernel_rfl
@[go_sem] theorem field173_6 : fieldOff Tryz.prog 173 6 = some 6 := by kernel_rfl
@[go_sem] theorem field173_7 : fieldOff Tryz.prog 173 7 = some 7 := by kernel_rfl
@[go_sem] theorem field173_8 : fieldOff Tryz.prog 173 8 = some 8 := by kernel_rfl
@[go_sem] theorem field173_9 : fieldOff Tryz.prog 173 9 = some 9 := by kernel_rfl
@[go_sem] theorem field173_10 : fieldOff Tryz.prog 173 10 = some 10 := by kernel_rfl
@[go_sem] theorem build173 (parts : List (Nat × AV)) : buildA Tryz.prog 173 parts = (fillG (fun j => [(0, 1), (1, 1), (2, 1), (3, 1), (4, 1), (5, 1), (6, 1), (7, 1), (8, 1), (9, 1), (10, 1)][j]?) [.p (.int .u64 0), .p (.int .u64 0), .p (.int .u32 0), .p (.int .u8 0), .p (.int .u8 0), .p (.int .u8 0), .p (.int .u8 0), .p .nilf, .p .nilp, .p (.int .i32 0), .p (.int .i32 0)] parts).map mkAgg :=
  buildA_eq _ _ zero173 rfl (by kernel_rfl) (by kernel_rfl) (by funext j; exact placesA_eq _ _ (by kernel_rfl) j)
end Go.Proofs.YtimfcgdnogjlhaaGreat.Ty
