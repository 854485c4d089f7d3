/- What the logic asks of the types of the translation. -/
import Derived.Test.YtdmddoljldjjeaaGreatProg
import Derived.KernelRfl
import Derived.Test.YtdmddoljldjjeaaGreatA1
/- What the abstract logic asks of the types of the translation; printed by a program of our own (tyfacts.py). -/
namespace Go.Proofs.YtdmddoljldjjeaaGreat.Ty
open Go Go.Ab
set_option linter.unusedVariables false

attribute [go_sem] Tryz.underlying1
@[go_sem] theorem cellsOf1 : Tryz.prog.cellsOf 1 = 1 := by kernel_rfl
@[go_sem] theorem isAgg1 : isAggT Tryz.prog 1 = some false := by kernel_rfl
@[go_sem] theorem ok1 : tyOk Tryz.prog 1 = true := by kernel_rfl
@[go_sem] theorem bytes1 : Tryz.prog.bytesOf 1 = 8 := by kernel_rfl
@[go_sem] theorem zero1 : zeroOf Tryz.prog 1 = some (.p .nilf) := by kernel_rfl
@[go_sem] theorem zeroLen1 : appendA.zeroLen Tryz.prog 1 = 1 := by kernel_rfl
attribute [go_sem] Tryz.underlying2
@[go_sem] theorem cellsOf2 : Tryz.prog.cellsOf 2 = 1 := by kernel_rfl
@[go_sem] theorem isAgg2 : isAggT Tryz.prog 2 = some false := by kernel_rfl
@[go_sem] theorem ok2 : tyOk Tryz.prog 2 = true := by kernel_rfl
@[go_sem] theorem bytes2 : Tryz.prog.bytesOf 2 = 8 := by kernel_rfl
@[go_sem] theorem zero2 : zeroOf Tryz.prog 2 = some (.p (.int .i64 0)) := by kernel_rfl
@[go_sem] theorem zeroLen2 : appendA.zeroLen Tryz.prog 2 = 1 := by kernel_rfl
@[go_sem] theorem eqI2 (d : Nat) (k k' : IntKind) (a b : Int) : eqT Tryz.prog (d + 1) 2 [.int k a] [.int k' b] = if k = k' then some (a == b) else none := eqT_int _ Tryz.underlying2 d k k' a b
attribute [go_sem] Tryz.underlying3
@[go_sem] theorem cellsOf3 : Tryz.prog.cellsOf 3 = 1 := by kernel_rfl
@[go_sem] theorem isAgg3 : isAggT Tryz.prog 3 = some false := by kernel_rfl
@[go_sem] theorem ok3 : tyOk Tryz.prog 3 = true := by kernel_rfl
@[go_sem] theorem bytes3 : Tryz.prog.bytesOf 3 = 8 := by kernel_rfl
@[go_sem] theorem zero3 : zeroOf Tryz.prog 3 = some (.p (.int .i64 0)) := by kernel_rfl
@[go_sem] theorem zeroLen3 : appendA.zeroLen Tryz.prog 3 = 1 := by kernel_rfl
@[go_sem] theorem eqI3 (d : Nat) (k k' : IntKind) (a b : Int) : eqT Tryz.prog (d + 1) 3 [.int k a] [.int k' b] = if k = k' then some (a == b) else none := eqT_int _ Tryz.underlying3 d k k' a b
attribute [go_sem] Tryz.underlying4
@[go_sem] theorem cellsOf4 : Tryz.prog.cellsOf 4 = 1 := by kernel_rfl
@[go_sem] theorem isAgg4 : isAggT Tryz.prog 4 = some false := by kernel_rfl
@[go_sem] theorem ok4 : tyOk Tryz.prog 4 = true := by kernel_rfl
@[go_sem] theorem bytes4 : Tryz.prog.bytesOf 4 = 1 := by kernel_rfl
@[go_sem] theorem zero4 : zeroOf Tryz.prog 4 = some (.p (.bool false)) := by kernel_rfl
@[go_sem] theorem zeroLen4 : appendA.zeroLen Tryz.prog 4 = 1 := by kernel_rfl
@[go_sem] theorem eqI4 (d : Nat) (a b : Bool) : eqT Tryz.prog (d + 1) 4 [.bool a] [.bool b] = some (a == b) := eqT_bool _ Tryz.underlying4 d a b
attribute [go_sem] Tryz.underlying5
@[go_sem] theorem cellsOf5 : Tryz.prog.cellsOf 5 = 1 := by kernel_rfl
@[go_sem] theorem isAgg5 : isAggT Tryz.prog 5 = some false := by kernel_rfl
@[go_sem] theorem ok5 : tyOk Tryz.prog 5 = true := by kernel_rfl
@[go_sem] theorem bytes5 : Tryz.prog.bytesOf 5 = 1 := by kernel_rfl
@[go_sem] theorem zero5 : zeroOf Tryz.prog 5 = some (.p (.int .u8 0)) := by kernel_rfl
@[go_sem] theorem zeroLen5 : appendA.zeroLen Tryz.prog 5 = 1 := by kernel_rfl
@[go_sem] theorem eqI5 (d : Nat) (k k' : IntKind) (a b : Int) : eqT Tryz.prog (d + 1) 5 [.int k a] [.int k' b] = if k = k' then some (a == b) else none := eqT_int _ Tryz.underlying5 d k k' a b
attribute [go_sem] Tryz.underlying6
@[go_sem] theorem cellsOf6 : Tryz.prog.cellsOf 6 = 1 := by kernel_rfl
@[go_sem] theorem isAgg6 : isAggT Tryz.prog 6 = some false := by kernel_rfl
@[go_sem] theorem ok6 : tyOk Tryz.prog 6 = true := by kernel_rfl
@[go_sem] theorem bytes6 : Tryz.prog.bytesOf 6 = 1 := by kernel_rfl
@[go_sem] theorem zero6 : zeroOf Tryz.prog 6 = some (.p (.int .u8 0)) := by kernel_rfl
@[go_sem] theorem zeroLen6 : appendA.zeroLen Tryz.prog 6 = 1 := by kernel_rfl
@[go_sem] theorem eqI6 (d : Nat) (k k' : IntKind) (a b : Int) : eqT Tryz.prog (d + 1) 6 [.int k a] [.int k' b] = if k = k' then some (a == b) else none := eqT_int _ Tryz.underlying6 d k k' a b
attribute [go_sem] Tryz.underlying7
@[go_sem] theorem cellsOf7 : Tryz.prog.cellsOf 7 = 4 := by kernel_rfl
@[go_sem] theorem isAgg7 : isAggT Tryz.prog 7 = some true := by kernel_rfl
@[go_sem] theorem ok7 : tyOk Tryz.prog 7 = true := by kernel_rfl
@[go_sem] theorem bytes7 : Tryz.prog.bytesOf 7 = 24 := by kernel_rfl
@[go_sem] theorem zero7 : zeroOf Tryz.prog 7 = some (.p (.agg [(.int .i64 0), (.int .i64 0), (.bool false), (.int .u8 0)])) := by kernel_rfl
@[go_sem] theorem zeroLen7 : appendA.zeroLen Tryz.prog 7 = 4 := by kernel_rfl
@[go_sem] theorem field7_0 : fieldOff Tryz.prog 7 0 = some 0 := by kernel_rfl
@[go_sem] theorem field7_1 : fieldOff Tryz.prog 7 1 = some 1 := by kernel_rfl
@[go_sem] theorem field7_2 : fieldOff Tryz.prog 7 2 = some 2 := by kernel_rfl
@[go_sem] theorem field7_3 : fieldOff Tryz.prog 7 3 = some 3 := by kernel_rfl
@[go_sem] theorem build7 (parts : List (Nat × AV)) : buildA Tryz.prog 7 parts = (fillG (fun j => [(0, 1), (1, 1), (2, 1), (3, 1)][j]?) [.p (.int .i64 0), .p (.int .i64 0), .p (.bool false), .p (.int .u8 0)] parts).map mkAgg :=
  buildA_eq _ _ zero7 rfl (by kernel_rfl) (by kernel_rfl) (by funext j; exact placesA_eq _ _ (by kernel_rfl) j)
@[go_sem] theorem eqS7 (d : Nat) (xs ys : List PV) : eqT Tryz.prog (d + 1) 7 xs ys = eqL (eqT Tryz.prog d) [(2, 0, 1), (3, 1, 1), (4, 2, 1), (6, 3, 1)] xs ys := eqT_struct _ (by kernel_rfl) (by kernel_rfl) (by kernel_rfl) (by kernel_rfl) d xs ys
@[go_sem] theorem eqg7 : Tryz.prog.eqGuardType Tryz.prog.depth 7 = false := by kernel_rfl
attribute [go_sem] Tryz.underlying8
@[go_sem] theorem cellsOf8 : Tryz.prog.cellsOf 8 = 4 := by kernel_rfl
@[go_sem] theorem isAgg8 : isAggT Tryz.prog 8 = some true := by kernel_rfl
@[go_sem] theorem ok8 : tyOk Tryz.prog 8 = true := by kernel_rfl
@[go_sem] theorem bytes8 : Tryz.prog.bytesOf 8 = 24 := by kernel_rfl
@[go_sem] theorem zero8 : zeroOf Tryz.prog 8 = some (.p (.agg [(.int .i64 0), (.int .i64 0), (.bool false), (.int .u8 0)])) := by kernel_rfl
@[go_sem] theorem zeroLen8 : appendA.zeroLen Tryz.prog 8 = 4 := by kernel_rfl
@[go_sem] theorem field8_0 : fieldOff Tryz.prog 8 0 = some 0 := by kernel_rfl
@[go_sem] theorem field8_1 : fieldOff Tryz.prog 8 1 = some 1 := by kernel_rfl
@[go_sem] theorem field8_2 : fieldOff Tryz.prog 8 2 = some 2 := by kernel_rfl
@[go_sem] theorem field8_3 : fieldOff Tryz.prog 8 3 = some 3 := by kernel_rfl
@[go_sem] theorem build8 (parts : List (Nat × AV)) : buildA Tryz.prog 8 parts = (fillG (fun j => [(0, 1), (1, 1), (2, 1), (3, 1)][j]?) [.p (.int .i64 0), .p (.int .i64 0), .p (.bool false), .p (.int .u8 0)] parts).map mkAgg :=
  buildA_eq _ _ zero8 rfl (by kernel_rfl) (by kernel_rfl) (by funext j; exact placesA_eq _ _ (by kernel_rfl) j)
@[go_sem] theorem eqS8 (d : Nat) (xs ys : List PV) : eqT Tryz.prog (d + 1) 8 xs ys = eqL (eqT Tryz.prog d) [(2, 0, 1), (3, 1, 1), (4, 2, 1), (6, 3, 1)] xs ys := eqT_struct _ (by kernel_rfl) (by kernel_rfl) (by kernel_rfl) (by kernel_rfl) d xs ys
@[go_sem] theorem eqg8 : Tryz.prog.eqGuardType Tryz.prog.depth 8 = false := by kernel_rfl
attribute [go_sem] Tryz.underlying9
@[go_sem] theorem cellsOf9 : Tryz.prog.cellsOf 9 = 1 := by kernel_rfl
@[go_sem] theorem isAgg9 : isAggT Tryz.prog 9 = some false := by kernel_rfl
@[go_sem] theorem ok9 : tyOk Tryz.prog 9 = true := by kernel_rfl
@[go_sem] theorem bytes9 : Tryz.prog.bytesOf 9 = 16 := by kernel_rfl
@[go_sem] theorem zero9 : zeroOf Tryz.prog 9 = some (.p (.str [])) := by kernel_rfl
@[go_sem] theorem zeroLen9 : appendA.zeroLen Tryz.prog 9 = 1 := by kernel_rfl
@[go_sem] theorem eqI9 (d : Nat) (a b : List UInt8) : eqT Tryz.prog (d + 1) 9 [.str a] [.str b] = some (a == b) := eqT_str _ Tryz.underlying9 d a b
attribute [go_sem] Tryz.underlying10
@[go_sem] theorem cellsOf10 : Tryz.prog.cellsOf 10 = 1 := by kernel_rfl
@[go_sem] theorem isAgg10 : isAggT Tryz.prog 10 = some false := by kernel_rfl
@[go_sem] theorem ok10 : tyOk Tryz.prog 10 = true := by kernel_rfl
@[go_sem] theorem bytes10 : Tryz.prog.bytesOf 10 = 16 := by kernel_rfl
@[go_sem] theorem zero10 : zeroOf Tryz.prog 10 = some (.p (.str [])) := by kernel_rfl
@[go_sem] theorem zeroLen10 : appendA.zeroLen Tryz.prog 10 = 1 := by kernel_rfl
@[go_sem] theorem eqI10 (d : Nat) (a b : List UInt8) : eqT Tryz.prog (d + 1) 10 [.str a] [.str b] = some (a == b) := eqT_str _ Tryz.underlying10 d a b
attribute [go_sem] Tryz.underlying11
@[go_sem] theorem cellsOf11 : Tryz.prog.cellsOf 11 = 1 := by kernel_rfl
@[go_sem] theorem isAgg11 : isAggT Tryz.prog 11 = some false := by kernel_rfl
@[go_sem] theorem ok11 : tyOk Tryz.prog 11 = true := by kernel_rfl
@[go_sem] theorem bytes11 : Tryz.prog.bytesOf 11 = 16 := by kernel_rfl
@[go_sem] theorem zero11 : zeroOf Tryz.prog 11 = some (.p (.str [])) := by kernel_rfl
@[go_sem] theorem zeroLen11 : appendA.zeroLen Tryz.prog 11 = 1 := by kernel_rfl
@[go_sem] theorem eqI11 (d : Nat) (a b : List UInt8) : eqT Tryz.prog (d + 1) 11 [.str a] [.str b] = some (a == b) := eqT_str _ Tryz.underlying11 d a b
attribute [go_sem] Tryz.underlying12
@[go_sem] theorem cellsOf12 : Tryz.prog.cellsOf 12 = 1 := by kernel_rfl
@[go_sem] theorem isAgg12 : isAggT Tryz.prog 12 = some false := by kernel_rfl
@[go_sem] theorem ok12 : tyOk Tryz.prog 12 = true := by kernel_rfl
@[go_sem] theorem bytes12 : Tryz.prog.bytesOf 12 = 8 := by kernel_rfl
@[go_sem] theorem zero12 : zeroOf Tryz.prog 12 = some (.p (.int .u64 0)) := by kernel_rfl
@[go_sem] theorem zeroLen12 : appendA.zeroLen Tryz.prog 12 = 1 := by kernel_rfl
@[go_sem] theorem eqI12 (d : Nat) (k k' : IntKind) (a b : Int) : eqT Tryz.prog (d + 1) 12 [.int k a] [.int k' b] = if k = k' then some (a == b) else none := eqT_int _ Tryz.underlying12 d k k' a b
attribute [go_sem] Tryz.underlying13
@[go_sem] theorem cellsOf13 : Tryz.prog.cellsOf 13 = 2 := by kernel_rfl
@[go_sem] theorem isAgg13 : isAggT Tryz.prog 13 = some true := by kernel_rfl
@[go_sem] theorem ok13 : tyOk Tryz.prog 13 = true := by kernel_rfl
@[go_sem] theorem bytes13 : Tryz.prog.bytesOf 13 = 24 := by kernel_rfl
@[go_sem] theorem zero13 : zeroOf Tryz.prog 13 = some (.p (.agg [(.str []), (.int .u64 0)])) := by kernel_rfl
@[go_sem] theorem zeroLen13 : appendA.zeroLen Tryz.prog 13 = 2 := by kernel_rfl
@[go_sem] theorem field13_0 : fieldOff Tryz.prog 13 0 = some 0 := by kernel_rfl
@[go_sem] theorem field13_1 : fieldOff Tryz.prog 13 1 = some 1 := by kernel_rfl
@[go_sem] theorem build13 (parts : List (Nat × AV)) : buildA Tryz.prog 13 parts = (fillG (fun j => [(0, 1), (1, 1)][j]?) [.p (.str []), .p (.int .u64 0)] parts).map mkAgg :=
  buildA_eq _ _ zero13 rfl (by kernel_rfl) (by kernel_rfl) (by funext j; exact placesA_eq _ _ (by kernel_rfl) j)
attribute [go_sem] Tryz.underlying14
@[go_sem] theorem cellsOf14 : Tryz.prog.cellsOf 14 = 2 := by kernel_rfl
@[go_sem] theorem isAgg14 : isAggT Tryz.prog 14 = some true := by kernel_rfl
@[go_sem] theorem ok14 : tyOk Tryz.prog 14 = true := by kernel_rfl
@[go_sem] theorem bytes14 : Tryz.prog.bytesOf 14 = 24 := by kernel_rfl
@[go_sem] theorem zero14 : zeroOf Tryz.prog 14 = some (.p (.agg [(.str []), (.int .u64 0)])) := by kernel_rfl
@[go_sem] theorem zeroLen14 : appendA.zeroLen Tryz.prog 14 = 2 := by kernel_rfl
@[go_sem] theorem field14_0 : fieldOff Tryz.prog 14 0 = some 0 := by kernel_rfl
@[go_sem] theorem field14_1 : fieldOff Tryz.prog 14 1 = some 1 := by kernel_rfl
@[go_sem] theorem build14 (parts : List (Nat × AV)) : buildA Tryz.prog 14 parts = (fillG (fun j => [(0, 1), (1, 1)][j]?) [.p (.str []), .p (.int .u64 0)] parts).map mkAgg :=
  buildA_eq _ _ zero14 rfl (by kernel_rfl) (by kernel_rfl) (by funext j; exact placesA_eq _ _ (by kernel_rfl) j)
attribute [go_sem] Tryz.underlying15
@[go_sem] theorem cellsOf15 : Tryz.prog.cellsOf 15 = 1 := by kernel_rfl
@[go_sem] theorem isAgg15 : isAggT Tryz.prog 15 = some false := by kernel_rfl
@[go_sem] theorem ok15 : tyOk Tryz.prog 15 = true := by kernel_rfl
@[go_sem] theorem bytes15 : Tryz.prog.bytesOf 15 = 8 := by kernel_rfl
@[go_sem] theorem zero15 : zeroOf Tryz.prog 15 = some (.p .nilp) := by kernel_rfl
@[go_sem] theorem zeroLen15 : appendA.zeroLen Tryz.prog 15 = 1 := by kernel_rfl
attribute [go_sem] Tryz.underlying16
@[go_sem] theorem cellsOf16 : Tryz.prog.cellsOf 16 = 1 := by kernel_rfl
@[go_sem] theorem isAgg16 : isAggT Tryz.prog 16 = some false := by kernel_rfl
@[go_sem] theorem ok16 : tyOk Tryz.prog 16 = true := by kernel_rfl
@[go_sem] theorem bytes16 : Tryz.prog.bytesOf 16 = 8 := by kernel_rfl
@[go_sem] theorem zero16 : zeroOf Tryz.prog 16 = some (.p .nilp) := by kernel_rfl
@[go_sem] theorem zeroLen16 : appendA.zeroLen Tryz.prog 16 = 1 := by kernel_rfl
attribute [go_sem] Tryz.underlying17
@[go_sem] theorem cellsOf17 : Tryz.prog.cellsOf 17 = 1 := by kernel_rfl
@[go_sem] theorem isAgg17 : isAggT Tryz.prog 17 = some false := by kernel_rfl
@[go_sem] theorem ok17 : tyOk Tryz.prog 17 = true := by kernel_rfl
@[go_sem] theorem bytes17 : Tryz.prog.bytesOf 17 = 8 := by kernel_rfl
@[go_sem] theorem zero17 : zeroOf Tryz.prog 17 = some (.p .nilp) := by kernel_rfl
@[go_sem] theorem zeroLen17 : appendA.zeroLen Tryz.prog 17 = 1 := by kernel_rfl
attribute [go_sem] Tryz.underlying18
@[go_sem] theorem cellsOf18 : Tryz.prog.cellsOf 18 = 1 := by kernel_rfl
@[go_sem] theorem isAgg18 : isAggT Tryz.prog 18 = some true := by kernel_rfl
@[go_sem] theorem ok18 : tyOk Tryz.prog 18 = true := by kernel_rfl
@[go_sem] theorem bytes18 : Tryz.prog.bytesOf 18 = 8 := by kernel_rfl
@[go_sem] theorem zero18 : zeroOf Tryz.prog 18 = some (.p (.agg [.nilp])) := by kernel_rfl
@[go_sem] theorem zeroLen18 : appendA.zeroLen Tryz.prog 18 = 1 := by kernel_rfl
@[go_sem] theorem field18_0 : fieldOff Tryz.prog 18 0 = some 0 := by kernel_rfl
@[go_sem] theorem build18 (parts : List (Nat × AV)) : buildA Tryz.prog 18 parts = (fillG (fun j => [(0, 1)][j]?) [.p .nilp] parts).map mkAgg :=
  buildA_eq _ _ zero18 rfl (by kernel_rfl) (by kernel_rfl) (by funext j; exact placesA_eq _ _ (by kernel_rfl) j)
attribute [go_sem] Tryz.underlying19
@[go_sem] theorem cellsOf19 : Tryz.prog.cellsOf 19 = 1 := by kernel_rfl
@[go_sem] theorem isAgg19 : isAggT Tryz.prog 19 = some true := by kernel_rfl
@[go_sem] theorem ok19 : tyOk Tryz.prog 19 = true := by kernel_rfl
@[go_sem] theorem bytes19 : Tryz.prog.bytesOf 19 = 8 := by kernel_rfl
@[go_sem] theorem zero19 : zeroOf Tryz.prog 19 = some (.p (.agg [.nilp])) := by kernel_rfl
@[go_sem] theorem zeroLen19 : appendA.zeroLen Tryz.prog 19 = 1 := by kernel_rfl
@[go_sem] theorem field19_0 : fieldOff Tryz.prog 19 0 = some 0 := by kernel_rfl
@[go_sem] theorem build19 (parts : List (Nat × AV)) : buildA Tryz.prog 19 parts = (fillG (fun j => [(0, 1)][j]?) [.p .nilp] parts).map mkAgg :=
  buildA_eq _ _ zero19 rfl (by kernel_rfl) (by kernel_rfl) (by funext j; exact placesA_eq _ _ (by kernel_rfl) j)
attribute [go_sem] Tryz.underlying20
@[go_sem] theorem cellsOf20 : Tryz.prog.cellsOf 20 = 1 := by kernel_rfl
@[go_sem] theorem isAgg20 : isAggT Tryz.prog 20 = some false := by kernel_rfl
@[go_sem] theorem ok20 : tyOk Tryz.prog 20 = true := by kernel_rfl
@[go_sem] theorem bytes20 : Tryz.prog.bytesOf 20 = 16 := by kernel_rfl
@[go_sem] theorem zero20 : zeroOf Tryz.prog 20 = some (.p .nili) := by kernel_rfl
@[go_sem] theorem zeroLen20 : appendA.zeroLen Tryz.prog 20 = 1 := by kernel_rfl
attribute [go_sem] Tryz.underlying21
@[go_sem] theorem cellsOf21 : Tryz.prog.cellsOf 21 = 1 := by kernel_rfl
@[go_sem] theorem isAgg21 : isAggT Tryz.prog 21 = some false := by kernel_rfl
@[go_sem] theorem ok21 : tyOk Tryz.prog 21 = true := by kernel_rfl
@[go_sem] theorem bytes21 : Tryz.prog.bytesOf 21 = 4 := by kernel_rfl
@[go_sem] theorem zero21 : zeroOf Tryz.prog 21 = some (.p (.int .i32 0)) := by kernel_rfl
@[go_sem] theorem zeroLen21 : appendA.zeroLen Tryz.prog 21 = 1 := by kernel_rfl
@[go_sem] theorem eqI21 (d : Nat) (k k' : IntKind) (a b : Int) : eqT Tryz.prog (d + 1) 21 [.int k a] [.int k' b] = if k = k' then some (a == b) else none := eqT_int _ Tryz.underlying21 d k k' a b
attribute [go_sem] Tryz.underlying22
@[go_sem] theorem cellsOf22 : Tryz.prog.cellsOf 22 = 1 := by kernel_rfl
@[go_sem] theorem isAgg22 : isAggT Tryz.prog 22 = some false := by kernel_rfl
@[go_sem] theorem ok22 : tyOk Tryz.prog 22 = true := by kernel_rfl
@[go_sem] theorem bytes22 : Tryz.prog.bytesOf 22 = 24 := by kernel_rfl
@[go_sem] theorem zero22 : zeroOf Tryz.prog 22 = some (.nils) := by kernel_rfl
@[go_sem] theorem zeroLen22 : appendA.zeroLen Tryz.prog 22 = 1 := by kernel_rfl
attribute [go_sem] Tryz.underlying23
@[go_sem] theorem cellsOf23 : Tryz.prog.cellsOf 23 = 1 := by kernel_rfl
@[go_sem] theorem isAgg23 : isAggT Tryz.prog 23 = some false := by kernel_rfl
@[go_sem] theorem ok23 : tyOk Tryz.prog 23 = true := by kernel_rfl
@[go_sem] theorem bytes23 : Tryz.prog.bytesOf 23 = 24 := by kernel_rfl
@[go_sem] theorem zero23 : zeroOf Tryz.prog 23 = some (.nils) := by kernel_rfl
@[go_sem] theorem zeroLen23 : appendA.zeroLen Tryz.prog 23 = 1 := by kernel_rfl
attribute [go_sem] Tryz.underlying24
@[go_sem] theorem cellsOf24 : Tryz.prog.cellsOf 24 = 3 := by kernel_rfl
@[go_sem] theorem isAgg24 : isAggT Tryz.prog 24 = some true := by kernel_rfl
@[go_sem] theorem ok24 : tyOk Tryz.prog 24 = true := by kernel_rfl
@[go_sem] theorem bytes24 : Tryz.prog.bytesOf 24 = 64 := by kernel_rfl
@[go_sem] theorem zero24 : zeroOf Tryz.prog 24 = some (.agg [.p (.str []), .nils, .nils]) := by kernel_rfl
@[go_sem] theorem zeroLen24 : appendA.zeroLen Tryz.prog 24 = 3 := by kernel_rfl
@[go_sem] theorem field24_0 : fieldOff Tryz.prog 24 0 = some 0 := by kernel_rfl
@[go_sem] theorem field24_1 : fieldOff Tryz.prog 24 1 = some 1 := by kernel_rfl
@[go_sem] theorem field24_2 : fieldOff Tryz.prog 24 2 = some 2 := by kernel_rfl
@[go_sem] theorem build24 (parts : List (Nat × AV)) : buildA Tryz.prog 24 parts = (fillG (fun j => [(0, 1), (1, 1), (2, 1)][j]?) [.p (.str []), .nils, .nils] parts).map mkAgg :=
  buildA_eq _ _ zero24 rfl (by kernel_rfl) (by kernel_rfl) (by funext j; exact placesA_eq _ _ (by kernel_rfl) j)
attribute [go_sem] Tryz.underlying25
@[go_sem] theorem cellsOf25 : Tryz.prog.cellsOf 25 = 3 := by kernel_rfl
@[go_sem] theorem isAgg25 : isAggT Tryz.prog 25 = some true := by kernel_rfl
@[go_sem] theorem ok25 : tyOk Tryz.prog 25 = true := by kernel_rfl
@[go_sem] theorem bytes25 : Tryz.prog.bytesOf 25 = 64 := by kernel_rfl
@[go_sem] theorem zero25 : zeroOf Tryz.prog 25 = some (.agg [.p (.str []), .nils, .nils]) := by kernel_rfl
@[go_sem] theorem zeroLen25 : appendA.zeroLen Tryz.prog 25 = 3 := by kernel_rfl
@[go_sem] theorem field25_0 : fieldOff Tryz.prog 25 0 = some 0 := by kernel_rfl
@[go_sem] theorem field25_1 : fieldOff Tryz.prog 25 1 = some 1 := by kernel_rfl
@[go_sem] theorem field25_2 : fieldOff Tryz.prog 25 2 = some 2 := by kernel_rfl
@[go_sem] theorem build25 (parts : List (Nat × AV)) : buildA Tryz.prog 25 parts = (fillG (fun j => [(0, 1), (1, 1), (2, 1)][j]?) [.p (.str []), .nils, .nils] parts).map mkAgg :=
  buildA_eq _ _ zero25 rfl (by kernel_rfl) (by kernel_rfl) (by funext j; exact placesA_eq _ _ (by kernel_rfl) j)
attribute [go_sem] Tryz.underlying26
@[go_sem] theorem cellsOf26 : Tryz.prog.cellsOf 26 = 1 := by kernel_rfl
@[go_sem] theorem isAgg26 : isAggT Tryz.prog 26 = some false := by kernel_rfl
@[go_sem] theorem ok26 : tyOk Tryz.prog 26 = true := by kernel_rfl
@[go_sem] theorem bytes26 : Tryz.prog.bytesOf 26 = 24 := by kernel_rfl
@[go_sem] theorem zero26 : zeroOf Tryz.prog 26 = some (.nils) := by kernel_rfl
@[go_sem] theorem zeroLen26 : appendA.zeroLen Tryz.prog 26 = 1 := by kernel_rfl
attribute [go_sem] Tryz.underlying27
@[go_sem] theorem cellsOf27 : Tryz.prog.cellsOf 27 = 1 := by kernel_rfl
@[go_sem] theorem isAgg27 : isAggT Tryz.prog 27 = some false := by kernel_rfl
@[go_sem] theorem ok27 : tyOk Tryz.prog 27 = true := by kernel_rfl
@[go_sem] theorem bytes27 : Tryz.prog.bytesOf 27 = 24 := by kernel_rfl
@[go_sem] theorem zero27 : zeroOf Tryz.prog 27 = some (.nils) := by kernel_rfl
@[go_sem] theorem zeroLen27 : appendA.zeroLen Tryz.prog 27 = 1 := by kernel_rfl
attribute [go_sem] Tryz.underlying28
@[go_sem] theorem cellsOf28 : Tryz.prog.cellsOf 28 = 1 := by kernel_rfl
@[go_sem] theorem isAgg28 : isAggT Tryz.prog 28 = some false := by kernel_rfl
@[go_sem] theorem ok28 : tyOk Tryz.prog 28 = true := by kernel_rfl
@[go_sem] theorem bytes28 : Tryz.prog.bytesOf 28 = 8 := by kernel_rfl
@[go_sem] theorem zero28 : zeroOf Tryz.prog 28 = some (.p .nilf) := by kernel_rfl
@[go_sem] theorem zeroLen28 : appendA.zeroLen Tryz.prog 28 = 1 := by kernel_rfl
attribute [go_sem] Tryz.underlying29
@[go_sem] theorem cellsOf29 : Tryz.prog.cellsOf 29 = 1 := by kernel_rfl
@[go_sem] theorem isAgg29 : isAggT Tryz.prog 29 = some false := by kernel_rfl
@[go_sem] theorem ok29 : tyOk Tryz.prog 29 = true := by kernel_rfl
@[go_sem] theorem bytes29 : Tryz.prog.bytesOf 29 = 8 := by kernel_rfl
@[go_sem] theorem zero29 : zeroOf Tryz.prog 29 = some (.p .nilf) := by kernel_rfl
@[go_sem] theorem zeroLen29 : appendA.zeroLen Tryz.prog 29 = 1 := by kernel_rfl
attribute [go_sem] Tryz.underlying30
@[go_sem] theorem cellsOf30 : Tryz.prog.cellsOf 30 = 5 := by kernel_rfl
@[go_sem] theorem isAgg30 : isAggT Tryz.prog 30 = some true := by kernel_rfl
@[go_sem] theorem ok30 : tyOk Tryz.prog 30 = true := by kernel_rfl
@[go_sem] theorem bytes30 : Tryz.prog.bytesOf 30 = 112 := by kernel_rfl
@[go_sem] theorem zero30 : zeroOf Tryz.prog 30 = some (.agg [.p (.str []), .nils, .nils, .nils, .nils]) := by kernel_rfl
@[go_sem] theorem zeroLen30 : appendA.zeroLen Tryz.prog 30 = 5 := by kernel_rfl
@[go_sem] theorem field30_0 : fieldOff Tryz.prog 30 0 = some 0 := by kernel_rfl
@[go_sem] theorem field30_1 : fieldOff Tryz.prog 30 1 = some 3 := by kernel_rfl
@[go_sem] theorem field30_2 : fieldOff Tryz.prog 30 2 = some 4 := by kernel_rfl
@[go_sem] theorem build30 (parts : List (Nat × AV)) : buildA Tryz.prog 30 parts = (fillG (fun j => [(0, 3), (3, 1), (4, 1)][j]?) [.p (.str []), .nils, .nils, .nils, .nils] parts).map mkAgg :=
  buildA_eq _ _ zero30 rfl (by kernel_rfl) (by kernel_rfl) (by funext j; exact placesA_eq _ _ (by kernel_rfl) j)
attribute [go_sem] Tryz.underlying31
@[go_sem] theorem cellsOf31 : Tryz.prog.cellsOf 31 = 5 := by kernel_rfl
@[go_sem] theorem isAgg31 : isAggT Tryz.prog 31 = some true := by kernel_rfl
@[go_sem] theorem ok31 : tyOk Tryz.prog 31 = true := by kernel_rfl
@[go_sem] theorem bytes31 : Tryz.prog.bytesOf 31 = 112 := by kernel_rfl
@[go_sem] theorem zero31 : zeroOf Tryz.prog 31 = some (.agg [.p (.str []), .nils, .nils, .nils, .nils]) := by kernel_rfl
@[go_sem] theorem zeroLen31 : appendA.zeroLen Tryz.prog 31 = 5 := by kernel_rfl
@[go_sem] theorem field31_0 : fieldOff Tryz.prog 31 0 = some 0 := by kernel_rfl
@[go_sem] theorem field31_1 : fieldOff Tryz.prog 31 1 = some 3 := by kernel_rfl
@[go_sem] theorem field31_2 : fieldOff Tryz.prog 31 2 = some 4 := by kernel_rfl
@[go_sem] theorem build31 (parts : List (Nat × AV)) : buildA Tryz.prog 31 parts = (fillG (fun j => [(0, 3), (3, 1), (4, 1)][j]?) [.p (.str []), .nils, .nils, .nils, .nils] parts).map mkAgg :=
  buildA_eq _ _ zero31 rfl (by kernel_rfl) (by kernel_rfl) (by funext j; exact placesA_eq _ _ (by kernel_rfl) j)
attribute [go_sem] Tryz.underlying32
@[go_sem] theorem cellsOf32 : Tryz.prog.cellsOf 32 = 1 := by kernel_rfl
@[go_sem] theorem isAgg32 : isAggT Tryz.prog 32 = some false := by kernel_rfl
@[go_sem] theorem ok32 : tyOk Tryz.prog 32 = true := by kernel_rfl
@[go_sem] theorem bytes32 : Tryz.prog.bytesOf 32 = 8 := by kernel_rfl
@[go_sem] theorem zero32 : zeroOf Tryz.prog 32 = some (.p (.int .i64 0)) := by kernel_rfl
@[go_sem] theorem zeroLen32 : appendA.zeroLen Tryz.prog 32 = 1 := by kernel_rfl
@[go_sem] theorem eqI32 (d : Nat) (k k' : IntKind) (a b : Int) : eqT Tryz.prog (d + 1) 32 [.int k a] [.int k' b] = if k = k' then some (a == b) else none := eqT_int _ Tryz.underlying32 d k k' a b
attribute [go_sem] Tryz.underlying34
@[go_sem] theorem cellsOf34 : Tryz.prog.cellsOf 34 = 1 := by kernel_rfl
@[go_sem] theorem isAgg34 : isAggT Tryz.prog 34 = some false := by kernel_rfl
@[go_sem] theorem ok34 : tyOk Tryz.prog 34 = true := by kernel_rfl
@[go_sem] theorem bytes34 : Tryz.prog.bytesOf 34 = 8 := by kernel_rfl
@[go_sem] theorem zero34 : zeroOf Tryz.prog 34 = some (.p .nilf) := by kernel_rfl
@[go_sem] theorem zeroLen34 : appendA.zeroLen Tryz.prog 34 = 1 := by kernel_rfl
attribute [go_sem] Tryz.underlying35
@[go_sem] theorem cellsOf35 : Tryz.prog.cellsOf 35 = 1 := by kernel_rfl
@[go_sem] theorem isAgg35 : isAggT Tryz.prog 35 = some false := by kernel_rfl
@[go_sem] theorem ok35 : tyOk Tryz.prog 35 = true := by kernel_rfl
@[go_sem] theorem bytes35 : Tryz.prog.bytesOf 35 = 8 := by kernel_rfl
@[go_sem] theorem zero35 : zeroOf Tryz.prog 35 = some (.p .nilf) := by kernel_rfl
@[go_sem] theorem zeroLen35 : appendA.zeroLen Tryz.prog 35 = 1 := by kernel_rfl
attribute [go_sem] Tryz.underlying36
@[go_sem] theorem cellsOf36 : Tryz.prog.cellsOf 36 = 1 := by kernel_rfl
@[go_sem] theorem isAgg36 : isAggT Tryz.prog 36 = some false := by kernel_rfl
@[go_sem] theorem ok36 : tyOk Tryz.prog 36 = true := by kernel_rfl
@[go_sem] theorem bytes36 : Tryz.prog.bytesOf 36 = 24 := by kernel_rfl
@[go_sem] theorem zero36 : zeroOf Tryz.prog 36 = some (.nils) := by kernel_rfl
@[go_sem] theorem zeroLen36 : appendA.zeroLen Tryz.prog 36 = 1 := by kernel_rfl
attribute [go_sem] Tryz.underlying37
@[go_sem] theorem cellsOf37 : Tryz.prog.cellsOf 37 = 1 := by kernel_rfl
@[go_sem] theorem isAgg37 : isAggT Tryz.prog 37 = some false := by kernel_rfl
@[go_sem] theorem ok37 : tyOk Tryz.prog 37 = true := by kernel_rfl
@[go_sem] theorem bytes37 : Tryz.prog.bytesOf 37 = 8 := by kernel_rfl
@[go_sem] theorem zero37 : zeroOf Tryz.prog 37 = some (.p .nilf) := by kernel_rfl
@[go_sem] theorem zeroLen37 : appendA.zeroLen Tryz.prog 37 = 1 := by kernel_rfl
attribute [go_sem] Tryz.underlying38
@[go_sem] theorem cellsOf38 : Tryz.prog.cellsOf 38 = 1 := by kernel_rfl
@[go_sem] theorem isAgg38 : isAggT Tryz.prog 38 = some false := by kernel_rfl
@[go_sem] theorem ok38 : tyOk Tryz.prog 38 = true := by kernel_rfl
@[go_sem] theorem bytes38 : Tryz.prog.bytesOf 38 = 8 := by kernel_rfl
@[go_sem] theorem zero38 : zeroOf Tryz.prog 38 = some (.p .nilf) := by kernel_rfl
@[go_sem] theorem zeroLen38 : appendA.zeroLen Tryz.prog 38 = 1 := by kernel_rfl
attribute [go_sem] Tryz.underlying39
@[go_sem] theorem cellsOf39 : Tryz.prog.cellsOf 39 = 1 := by kernel_rfl
@[go_sem] theorem isAgg39 : isAggT Tryz.prog 39 = some false := by kernel_rfl
@[go_sem] theorem ok39 : tyOk Tryz.prog 39 = true := by kernel_rfl
@[go_sem] theorem bytes39 : Tryz.prog.bytesOf 39 = 8 := by kernel_rfl
@[go_sem] theorem zero39 : zeroOf Tryz.prog 39 = some (.p .nilf) := by kernel_rfl
@[go_sem] theorem zeroLen39 : appendA.zeroLen Tryz.prog 39 = 1 := by kernel_rfl
attribute [go_sem] Tryz.underlying40
@[go_sem] theorem cellsOf40 : Tryz.prog.cellsOf 40 = 1 := by kernel_rfl
@[go_sem] theorem isAgg40 : isAggT Tryz.prog 40 = some false := by kernel_rfl
@[go_sem] theorem ok40 : tyOk Tryz.prog 40 = true := by kernel_rfl
@[go_sem] theorem bytes40 : Tryz.prog.bytesOf 40 = 8 := by kernel_rfl
@[go_sem] theorem zero40 : zeroOf Tryz.prog 40 = some (.p .nilf) := by kernel_rfl
@[go_sem] theorem zeroLen40 : appendA.zeroLen Tryz.prog 40 = 1 := by kernel_rfl
attribute [go_sem] Tryz.underlying41
@[go_sem] theorem cellsOf41 : Tryz.prog.cellsOf 41 = 1 := by kernel_rfl
@[go_sem] theorem isAgg41 : isAggT Tryz.prog 41 = some false := by kernel_rfl
@[go_sem] theorem ok41 : tyOk Tryz.prog 41 = true := by kernel_rfl
@[go_sem] theorem bytes41 : Tryz.prog.bytesOf 41 = 8 := by kernel_rfl
@[go_sem] theorem zero41 : zeroOf Tryz.prog 41 = some (.p .nilf) := by kernel_rfl
@[go_sem] theorem zeroLen41 : appendA.zeroLen Tryz.prog 41 = 1 := by kernel_rfl
attribute [go_sem] Tryz.underlying43
@[go_sem] theorem cellsOf43 : Tryz.prog.cellsOf 43 = 1 := by kernel_rfl
@[go_sem] theorem isAgg43 : isAggT Tryz.prog 43 = some false := by kernel_rfl
@[go_sem] theorem ok43 : tyOk Tryz.prog 43 = true := by kernel_rfl
@[go_sem] theorem bytes43 : Tryz.prog.bytesOf 43 = 24 := by kernel_rfl
@[go_sem] theorem zero43 : zeroOf Tryz.prog 43 = some (.nils) := by kernel_rfl
@[go_sem] theorem zeroLen43 : appendA.zeroLen Tryz.prog 43 = 1 := by kernel_rfl
attribute [go_sem] Tryz.underlying44
@[go_sem] theorem cellsOf44 : Tryz.prog.cellsOf 44 = 3 := by kernel_rfl
@[go_sem] theorem isAgg44 : isAggT Tryz.prog 44 = some true := by kernel_rfl
@[go_sem] theorem ok44 : tyOk Tryz.prog 44 = true := by kernel_rfl
@[go_sem] theorem bytes44 : Tryz.prog.bytesOf 44 = 32 := by kernel_rfl
@[go_sem] theorem zero44 : zeroOf Tryz.prog 44 = some (.agg [.p (.int .u8 0), .p (.int .u8 0), .nils]) := by kernel_rfl
@[go_sem] theorem zeroLen44 : appendA.zeroLen Tryz.prog 44 = 3 := by kernel_rfl
@[go_sem] theorem field44_0 : fieldOff Tryz.prog 44 0 = some 0 := by kernel_rfl
@[go_sem] theorem field44_1 : fieldOff Tryz.prog 44 1 = some 1 := by kernel_rfl
@[go_sem] theorem field44_2 : fieldOff Tryz.prog 44 2 = some 2 := by kernel_rfl
@[go_sem] theorem build44 (parts : List (Nat × AV)) : buildA Tryz.prog 44 parts = (fillG (fun j => [(0, 1), (1, 1), (2, 1)][j]?) [.p (.int .u8 0), .p (.int .u8 0), .nils] parts).map mkAgg :=
  buildA_eq _ _ zero44 rfl (by kernel_rfl) (by kernel_rfl) (by funext j; exact placesA_eq _ _ (by kernel_rfl) j)
attribute [go_sem] Tryz.underlying45
@[go_sem] theorem cellsOf45 : Tryz.prog.cellsOf 45 = 3 := by kernel_rfl
@[go_sem] theorem isAgg45 : isAggT Tryz.prog 45 = some true := by kernel_rfl
@[go_sem] theorem ok45 : tyOk Tryz.prog 45 = true := by kernel_rfl
@[go_sem] theorem bytes45 : Tryz.prog.bytesOf 45 = 32 := by kernel_rfl
@[go_sem] theorem zero45 : zeroOf Tryz.prog 45 = some (.agg [.p (.int .u8 0), .p (.int .u8 0), .nils]) := by kernel_rfl
@[go_sem] theorem zeroLen45 : appendA.zeroLen Tryz.prog 45 = 3 := by kernel_rfl
@[go_sem] theorem field45_0 : fieldOff Tryz.prog 45 0 = some 0 := by kernel_rfl
@[go_sem] theorem field45_1 : fieldOff Tryz.prog 45 1 = some 1 := by kernel_rfl
@[go_sem] theorem field45_2 : fieldOff Tryz.prog 45 2 = some 2 := by kernel_rfl
@[go_sem] theorem build45 (parts : List (Nat × AV)) : buildA Tryz.prog 45 parts = (fillG (fun j => [(0, 1), (1, 1), (2, 1)][j]?) [.p (.int .u8 0), .p (.int .u8 0), .nils] parts).map mkAgg :=
  buildA_eq _ _ zero45 rfl (by kernel_rfl) (by kernel_rfl) (by funext j; exact placesA_eq _ _ (by kernel_rfl) j)
attribute [go_sem] Tryz.underlying46
@[go_sem] theorem cellsOf46 : Tryz.prog.cellsOf 46 = 1 := by kernel_rfl
@[go_sem] theorem isAgg46 : isAggT Tryz.prog 46 = some false := by kernel_rfl
@[go_sem] theorem ok46 : tyOk Tryz.prog 46 = true := by kernel_rfl
@[go_sem] theorem bytes46 : Tryz.prog.bytesOf 46 = 24 := by kernel_rfl
@[go_sem] theorem zero46 : zeroOf Tryz.prog 46 = some (.nils) := by kernel_rfl
@[go_sem] theorem zeroLen46 : appendA.zeroLen Tryz.prog 46 = 1 := by kernel_rfl
attribute [go_sem] Tryz.underlying47
@[go_sem] theorem cellsOf47 : Tryz.prog.cellsOf 47 = 2 := by kernel_rfl
@[go_sem] theorem isAgg47 : isAggT Tryz.prog 47 = some true := by kernel_rfl
@[go_sem] theorem ok47 : tyOk Tryz.prog 47 = true := by kernel_rfl
@[go_sem] theorem bytes47 : Tryz.prog.bytesOf 47 = 48 := by kernel_rfl
@[go_sem] theorem zero47 : zeroOf Tryz.prog 47 = some (.agg [.nils, .nils]) := by kernel_rfl
@[go_sem] theorem zeroLen47 : appendA.zeroLen Tryz.prog 47 = 2 := by kernel_rfl
@[go_sem] theorem field47_0 : fieldOff Tryz.prog 47 0 = some 0 := by kernel_rfl
@[go_sem] theorem field47_1 : fieldOff Tryz.prog 47 1 = some 1 := by kernel_rfl
@[go_sem] theorem build47 (parts : List (Nat × AV)) : buildA Tryz.prog 47 parts = (fillG (fun j => [(0, 1), (1, 1)][j]?) [.nils, .nils] parts).map mkAgg :=
  buildA_eq _ _ zero47 rfl (by kernel_rfl) (by kernel_rfl) (by funext j; exact placesA_eq _ _ (by kernel_rfl) j)
attribute [go_sem] Tryz.underlying48
@[go_sem] theorem cellsOf48 : Tryz.prog.cellsOf 48 = 2 := by kernel_rfl
@[go_sem] theorem isAgg48 : isAggT Tryz.prog 48 = some true := by kernel_rfl
@[go_sem] theorem ok48 : tyOk Tryz.prog 48 = true := by kernel_rfl
@[go_sem] theorem bytes48 : Tryz.prog.bytesOf 48 = 48 := by kernel_rfl
@[go_sem] theorem zero48 : zeroOf Tryz.prog 48 = some (.agg [.nils, .nils]) := by kernel_rfl
@[go_sem] theorem zeroLen48 : appendA.zeroLen Tryz.prog 48 = 2 := by kernel_rfl
@[go_sem] theorem field48_0 : fieldOff Tryz.prog 48 0 = some 0 := by kernel_rfl
@[go_sem] theorem field48_1 : fieldOff Tryz.prog 48 1 = some 1 := by kernel_rfl
@[go_sem] theorem build48 (parts : List (Nat × AV)) : buildA Tryz.prog 48 parts = (fillG (fun j => [(0, 1), (1, 1)][j]?) [.nils, .nils] parts).map mkAgg :=
  buildA_eq _ _ zero48 rfl (by kernel_rfl) (by kernel_rfl) (by funext j; exact placesA_eq _ _ (by kernel_rfl) j)
attribute [go_sem] Tryz.underlying50
@[go_sem] theorem cellsOf50 : Tryz.prog.cellsOf 50 = 1 := by kernel_rfl
@[go_sem] theorem isAgg50 : isAggT Tryz.prog 50 = some false := by kernel_rfl
@[go_sem] theorem ok50 : tyOk Tryz.prog 50 = true := by kernel_rfl
@[go_sem] theorem bytes50 : Tryz.prog.bytesOf 50 = 8 := by kernel_rfl
@[go_sem] theorem zero50 : zeroOf Tryz.prog 50 = some (.p .nilf) := by kernel_rfl
@[go_sem] theorem zeroLen50 : appendA.zeroLen Tryz.prog 50 = 1 := by kernel_rfl
attribute [go_sem] Tryz.underlying51
@[go_sem] theorem cellsOf51 : Tryz.prog.cellsOf 51 = 1 := by kernel_rfl
@[go_sem] theorem isAgg51 : isAggT Tryz.prog 51 = some false := by kernel_rfl
@[go_sem] theorem ok51 : tyOk Tryz.prog 51 = true := by kernel_rfl
@[go_sem] theorem bytes51 : Tryz.prog.bytesOf 51 = 8 := by kernel_rfl
@[go_sem] theorem zero51 : zeroOf Tryz.prog 51 = some (.p .nilf) := by kernel_rfl
@[go_sem] theorem zeroLen51 : appendA.zeroLen Tryz.prog 51 = 1 := by kernel_rfl
attribute [go_sem] Tryz.underlying52
@[go_sem] theorem cellsOf52 : Tryz.prog.cellsOf 52 = 1 := by kernel_rfl
@[go_sem] theorem isAgg52 : isAggT Tryz.prog 52 = some false := by kernel_rfl
@[go_sem] theorem ok52 : tyOk Tryz.prog 52 = true := by kernel_rfl
@[go_sem] theorem bytes52 : Tryz.prog.bytesOf 52 = 8 := by kernel_rfl
@[go_sem] theorem zero52 : zeroOf Tryz.prog 52 = some (.p .nilf) := by kernel_rfl
@[go_sem] theorem zeroLen52 : appendA.zeroLen Tryz.prog 52 = 1 := by kernel_rfl
attribute [go_sem] Tryz.underlying54
@[go_sem] theorem cellsOf54 : Tryz.prog.cellsOf 54 = 1 := by kernel_rfl
@[go_sem] theorem isAgg54 : isAggT Tryz.prog 54 = some false := by kernel_rfl
@[go_sem] theorem ok54 : tyOk Tryz.prog 54 = true := by kernel_rfl
@[go_sem] theorem bytes54 : Tryz.prog.bytesOf 54 = 24 := by kernel_rfl
@[go_sem] theorem zero54 : zeroOf Tryz.prog 54 = some (.nils) := by kernel_rfl
@[go_sem] theorem zeroLen54 : appendA.zeroLen Tryz.prog 54 = 1 := by kernel_rfl
attribute [go_sem] Tryz.underlying55
@[go_sem] theorem cellsOf55 : Tryz.prog.cellsOf 55 = 2 := by kernel_rfl
@[go_sem] theorem isAgg55 : isAggT Tryz.prog 55 = some true := by kernel_rfl
@[go_sem] theorem ok55 : tyOk Tryz.prog 55 = true := by kernel_rfl
@[go_sem] theorem bytes55 : Tryz.prog.bytesOf 55 = 32 := by kernel_rfl
@[go_sem] theorem zero55 : zeroOf Tryz.prog 55 = some (.agg [.p (.int .i64 0), .nils]) := by kernel_rfl
@[go_sem] theorem zeroLen55 : appendA.zeroLen Tryz.prog 55 = 2 := by kernel_rfl
@[go_sem] theorem field55_0 : fieldOff Tryz.prog 55 0 = some 0 := by kernel_rfl
@[go_sem] theorem field55_1 : fieldOff Tryz.prog 55 1 = some 1 := by kernel_rfl
@[go_sem] theorem build55 (parts : List (Nat × AV)) : buildA Tryz.prog 55 parts = (fillG (fun j => [(0, 1), (1, 1)][j]?) [.p (.int .i64 0), .nils] parts).map mkAgg :=
  buildA_eq _ _ zero55 rfl (by kernel_rfl) (by kernel_rfl) (by funext j; exact placesA_eq _ _ (by kernel_rfl) j)
attribute [go_sem] Tryz.underlying56
@[go_sem] theorem cellsOf56 : Tryz.prog.cellsOf 56 = 2 := by kernel_rfl
@[go_sem] theorem isAgg56 : isAggT Tryz.prog 56 = some true := by kernel_rfl
@[go_sem] theorem ok56 : tyOk Tryz.prog 56 = true := by kernel_rfl
@[go_sem] theorem bytes56 : Tryz.prog.bytesOf 56 = 32 := by kernel_rfl
@[go_sem] theorem zero56 : zeroOf Tryz.prog 56 = some (.agg [.p (.int .i64 0), .nils]) := by kernel_rfl
@[go_sem] theorem zeroLen56 : appendA.zeroLen Tryz.prog 56 = 2 := by kernel_rfl
@[go_sem] theorem field56_0 : fieldOff Tryz.prog 56 0 = some 0 := by kernel_rfl
@[go_sem] theorem field56_1 : fieldOff Tryz.prog 56 1 = some 1 := by kernel_rfl
@[go_sem] theorem build56 (parts : List (Nat × AV)) : buildA Tryz.prog 56 parts = (fillG (fun j => [(0, 1), (1, 1)][j]?) [.p (.int .i64 0), .nils] parts).map mkAgg :=
  buildA_eq _ _ zero56 rfl (by kernel_rfl) (by kernel_rfl) (by funext j; exact placesA_eq _ _ (by kernel_rfl) j)
attribute [go_sem] Tryz.underlying57
@[go_sem] theorem cellsOf57 : Tryz.prog.cellsOf 57 = 1 := by kernel_rfl
@[go_sem] theorem isAgg57 : isAggT Tryz.prog 57 = some false := by kernel_rfl
@[go_sem] theorem ok57 : tyOk Tryz.prog 57 = true := by kernel_rfl
@[go_sem] theorem bytes57 : Tryz.prog.bytesOf 57 = 24 := by kernel_rfl
@[go_sem] theorem zero57 : zeroOf Tryz.prog 57 = some (.nils) := by kernel_rfl
@[go_sem] theorem zeroLen57 : appendA.zeroLen Tryz.prog 57 = 1 := by kernel_rfl
attribute [go_sem] Tryz.underlying59
@[go_sem] theorem cellsOf59 : Tryz.prog.cellsOf 59 = 1 := by kernel_rfl
@[go_sem] theorem isAgg59 : isAggT Tryz.prog 59 = some false := by kernel_rfl
@[go_sem] theorem ok59 : tyOk Tryz.prog 59 = true := by kernel_rfl
@[go_sem] theorem bytes59 : Tryz.prog.bytesOf 59 = 8 := by kernel_rfl
@[go_sem] theorem zero59 : zeroOf Tryz.prog 59 = some (.p .nilf) := by kernel_rfl
@[go_sem] theorem zeroLen59 : appendA.zeroLen Tryz.prog 59 = 1 := by kernel_rfl
attribute [go_sem] Tryz.underlying60
@[go_sem] theorem cellsOf60 : Tryz.prog.cellsOf 60 = 1 := by kernel_rfl
@[go_sem] theorem isAgg60 : isAggT Tryz.prog 60 = some false := by kernel_rfl
@[go_sem] theorem ok60 : tyOk Tryz.prog 60 = true := by kernel_rfl
@[go_sem] theorem bytes60 : Tryz.prog.bytesOf 60 = 8 := by kernel_rfl
@[go_sem] theorem zero60 : zeroOf Tryz.prog 60 = some (.p .nilf) := by kernel_rfl
@[go_sem] theorem zeroLen60 : appendA.zeroLen Tryz.prog 60 = 1 := by kernel_rfl
attribute [go_sem] Tryz.underlying61
@[go_sem] theorem cellsOf61 : Tryz.prog.cellsOf 61 = 1 := by kernel_rfl
@[go_sem] theorem isAgg61 : isAggT Tryz.prog 61 = some false := by kernel_rfl
@[go_sem] theorem ok61 : tyOk Tryz.prog 61 = true := by kernel_rfl
@[go_sem] theorem bytes61 : Tryz.prog.bytesOf 61 = 8 := by kernel_rfl
@[go_sem] theorem zero61 : zeroOf Tryz.prog 61 = some (.p .nilf) := by kernel_rfl
@[go_sem] theorem zeroLen61 : appendA.zeroLen Tryz.prog 61 = 1 := by kernel_rfl
attribute [go_sem] Tryz.underlying62
@[go_sem] theorem cellsOf62 : Tryz.prog.cellsOf 62 = 1 := by kernel_rfl
@[go_sem] theorem isAgg62 : isAggT Tryz.prog 62 = some false := by kernel_rfl
@[go_sem] theorem ok62 : tyOk Tryz.prog 62 = true := by kernel_rfl
@[go_sem] theorem bytes62 : Tryz.prog.bytesOf 62 = 8 := by kernel_rfl
@[go_sem] theorem zero62 : zeroOf Tryz.prog 62 = some (.p .nilf) := by kernel_rfl
@[go_sem] theorem zeroLen62 : appendA.zeroLen Tryz.prog 62 = 1 := by kernel_rfl
attribute [go_sem] Tryz.underlying63
@[go_sem] theorem cellsOf63 : Tryz.prog.cellsOf 63 = 3 := by kernel_rfl
@[go_sem] theorem isAgg63 : isAggT Tryz.prog 63 = some true := by kernel_rfl
@[go_sem] theorem ok63 : tyOk Tryz.prog 63 = true := by kernel_rfl
@[go_sem] theorem bytes63 : Tryz.prog.bytesOf 63 = 32 := by kernel_rfl
@[go_sem] theorem zero63 : zeroOf Tryz.prog 63 = some (.p (.agg [(.int .i64 0), (.int .i64 0), (.str [])])) := by kernel_rfl
@[go_sem] theorem zeroLen63 : appendA.zeroLen Tryz.prog 63 = 3 := by kernel_rfl
@[go_sem] theorem field63_0 : fieldOff Tryz.prog 63 0 = some 0 := by kernel_rfl
@[go_sem] theorem field63_1 : fieldOff Tryz.prog 63 1 = some 1 := by kernel_rfl
@[go_sem] theorem field63_2 : fieldOff Tryz.prog 63 2 = some 2 := by kernel_rfl
@[go_sem] theorem build63 (parts : List (Nat × AV)) : buildA Tryz.prog 63 parts = (fillG (fun j => [(0, 1), (1, 1), (2, 1)][j]?) [.p (.int .i64 0), .p (.int .i64 0), .p (.str [])] parts).map mkAgg :=
  buildA_eq _ _ zero63 rfl (by kernel_rfl) (by kernel_rfl) (by funext j; exact placesA_eq _ _ (by kernel_rfl) j)
@[go_sem] theorem eqS63 (d : Nat) (xs ys : List PV) : eqT Tryz.prog (d + 1) 63 xs ys = eqL (eqT Tryz.prog d) [(3, 0, 1), (2, 1, 1), (9, 2, 1)] xs ys := eqT_struct _ (by kernel_rfl) (by kernel_rfl) (by kernel_rfl) (by kernel_rfl) d xs ys
@[go_sem] theorem eqg63 : Tryz.prog.eqGuardType Tryz.prog.depth 63 = false := by kernel_rfl
attribute [go_sem] Tryz.underlying64
@[go_sem] theorem cellsOf64 : Tryz.prog.cellsOf 64 = 3 := by kernel_rfl
@[go_sem] theorem isAgg64 : isAggT Tryz.prog 64 = some true := by kernel_rfl
@[go_sem] theorem ok64 : tyOk Tryz.prog 64 = true := by kernel_rfl
@[go_sem] theorem bytes64 : Tryz.prog.bytesOf 64 = 32 := by kernel_rfl
@[go_sem] theorem zero64 : zeroOf Tryz.prog 64 = some (.p (.agg [(.int .i64 0), (.int .i64 0), (.str [])])) := by kernel_rfl
@[go_sem] theorem zeroLen64 : appendA.zeroLen Tryz.prog 64 = 3 := by kernel_rfl
@[go_sem] theorem field64_0 : fieldOff Tryz.prog 64 0 = some 0 := by kernel_rfl
@[go_sem] theorem field64_1 : fieldOff Tryz.prog 64 1 = some 1 := by kernel_rfl
@[go_sem] theorem field64_2 : fieldOff Tryz.prog 64 2 = some 2 := by kernel_rfl
@[go_sem] theorem build64 (parts : List (Nat × AV)) : buildA Tryz.prog 64 parts = (fillG (fun j => [(0, 1), (1, 1), (2, 1)][j]?) [.p (.int .i64 0), .p (.int .i64 0), .p (.str [])] parts).map mkAgg :=
  buildA_eq _ _ zero64 rfl (by kernel_rfl) (by kernel_rfl) (by funext j; exact placesA_eq _ _ (by kernel_rfl) j)
@[go_sem] theorem eqS64 (d : Nat) (xs ys : List PV) : eqT Tryz.prog (d + 1) 64 xs ys = eqL (eqT Tryz.prog d) [(3, 0, 1), (2, 1, 1), (9, 2, 1)] xs ys := eqT_struct _ (by kernel_rfl) (by kernel_rfl) (by kernel_rfl) (by kernel_rfl) d xs ys
@[go_sem] theorem eqg64 : Tryz.prog.eqGuardType Tryz.prog.depth 64 = false := by kernel_rfl
attribute [go_sem] Tryz.underlying66
@[go_sem] theorem cellsOf66 : Tryz.prog.cellsOf 66 = 1 := by kernel_rfl
@[go_sem] theorem isAgg66 : isAggT Tryz.prog 66 = some false := by kernel_rfl
@[go_sem] theorem ok66 : tyOk Tryz.prog 66 = true := by kernel_rfl
@[go_sem] theorem bytes66 : Tryz.prog.bytesOf 66 = 8 := by kernel_rfl
@[go_sem] theorem zero66 : zeroOf Tryz.prog 66 = some (.p .nilf) := by kernel_rfl
@[go_sem] theorem zeroLen66 : appendA.zeroLen Tryz.prog 66 = 1 := by kernel_rfl
attribute [go_sem] Tryz.underlying69
@[go_sem] theorem cellsOf69 : Tryz.prog.cellsOf 69 = 1 := by kernel_rfl
@[go_sem] theorem isAgg69 : isAggT Tryz.prog 69 = some false := by kernel_rfl
@[go_sem] theorem ok69 : tyOk Tryz.prog 69 = true := by kernel_rfl
@[go_sem] theorem bytes69 : Tryz.prog.bytesOf 69 = 8 := by kernel_rfl
@[go_sem] theorem zero69 : zeroOf Tryz.prog 69 = some (.p .nilf) := by kernel_rfl
@[go_sem] theorem zeroLen69 : appendA.zeroLen Tryz.prog 69 = 1 := by kernel_rfl
attribute [go_sem] Tryz.underlying72
@[go_sem] theorem cellsOf72 : Tryz.prog.cellsOf 72 = 1 := by kernel_rfl
@[go_sem] theorem isAgg72 : isAggT Tryz.prog 72 = some false := by kernel_rfl
@[go_sem] theorem ok72 : tyOk Tryz.prog 72 = true := by kernel_rfl
@[go_sem] theorem bytes72 : Tryz.prog.bytesOf 72 = 8 := by kernel_rfl
@[go_sem] theorem zero72 : zeroOf Tryz.prog 72 = some (.p .nilf) := by kernel_rfl
@[go_sem] theorem zeroLen72 : appendA.zeroLen Tryz.prog 72 = 1 := by kernel_rfl
attribute [go_sem] Tryz.underlying73
@[go_sem] theorem cellsOf73 : Tryz.prog.cellsOf 73 = 1 := by kernel_rfl
@[go_sem] theorem isAgg73 : isAggT Tryz.prog 73 = some false := by kernel_rfl
@[go_sem] theorem ok73 : tyOk Tryz.prog 73 = true := by kernel_rfl
@[go_sem] theorem bytes73 : Tryz.prog.bytesOf 73 = 8 := by kernel_rfl
@[go_sem] theorem zero73 : zeroOf Tryz.prog 73 = some (.p .nilf) := by kernel_rfl
@[go_sem] theorem zeroLen73 : appendA.zeroLen Tryz.prog 73 = 1 := by kernel_rfl
attribute [go_sem] Tryz.underlying75
@[go_sem] theorem cellsOf75 : Tryz.prog.cellsOf 75 = 1 := by kernel_rfl
@[go_sem] theorem isAgg75 : isAggT Tryz.prog 75 = some false := by kernel_rfl
@[go_sem] theorem ok75 : tyOk Tryz.prog 75 = true := by kernel_rfl
@[go_sem] theorem bytes75 : Tryz.prog.bytesOf 75 = 8 := by kernel_rfl
@[go_sem] theorem zero75 : zeroOf Tryz.prog 75 = some (.p .nilf) := by kernel_rfl
@[go_sem] theorem zeroLen75 : appendA.zeroLen Tryz.prog 75 = 1 := by kernel_rfl
attribute [go_sem] Tryz.underlying77
@[go_sem] theorem cellsOf77 : Tryz.prog.cellsOf 77 = 1 := by kernel_rfl
@[go_sem] theorem isAgg77 : isAggT Tryz.prog 77 = some false := by kernel_rfl
@[go_sem] theorem ok77 : tyOk Tryz.prog 77 = true := by kernel_rfl
@[go_sem] theorem bytes77 : Tryz.prog.bytesOf 77 = 8 := by kernel_rfl
@[go_sem] theorem zero77 : zeroOf Tryz.prog 77 = some (.p .nilf) := by kernel_rfl
@[go_sem] theorem zeroLen77 : appendA.zeroLen Tryz.prog 77 = 1 := by kernel_rfl
attribute [go_sem] Tryz.underlying78
@[go_sem] theorem cellsOf78 : Tryz.prog.cellsOf 78 = 1 := by kernel_rfl
@[go_sem] theorem isAgg78 : isAggT Tryz.prog 78 = some false := by kernel_rfl
@[go_sem] theorem ok78 : tyOk Tryz.prog 78 = true := by kernel_rfl
@[go_sem] theorem bytes78 : Tryz.prog.bytesOf 78 = 8 := by kernel_rfl
@[go_sem] theorem zero78 : zeroOf Tryz.prog 78 = some (.p .nilf) := by kernel_rfl
@[go_sem] theorem zeroLen78 : appendA.zeroLen Tryz.prog 78 = 1 := by kernel_rfl
attribute [go_sem] Tryz.underlying79
@[go_sem] theorem cellsOf79 : Tryz.prog.cellsOf 79 = 1 := by kernel_rfl
@[go_sem] theorem isAgg79 : isAggT Tryz.prog 79 = some false := by kernel_rfl
@[go_sem] theorem ok79 : tyOk Tryz.prog 79 = true := by kernel_rfl
@[go_sem] theorem bytes79 : Tryz.prog.bytesOf 79 = 8 := by kernel_rfl
@[go_sem] theorem zero79 : zeroOf Tryz.prog 79 = some (.p .nilf) := by kernel_rfl
@[go_sem] theorem zeroLen79 : appendA.zeroLen Tryz.prog 79 = 1 := by kernel_rfl
attribute [go_sem] Tryz.underlying80
@[go_sem] theorem cellsOf80 : Tryz.prog.cellsOf 80 = 1 := by kernel_rfl
@[go_sem] theorem isAgg80 : isAggT Tryz.prog 80 = some false := by kernel_rfl
@[go_sem] theorem ok80 : tyOk Tryz.prog 80 = true := by kernel_rfl
@[go_sem] theorem bytes80 : Tryz.prog.bytesOf 80 = 8 := by kernel_rfl
@[go_sem] theorem zero80 : zeroOf Tryz.prog 80 = some (.p .nilf) := by kernel_rfl
@[go_sem] theorem zeroLen80 : appendA.zeroLen Tryz.prog 80 = 1 := by kernel_rfl
attribute [go_sem] Tryz.underlying86
@[go_sem] theorem cellsOf86 : Tryz.prog.cellsOf 86 = 1 := by kernel_rfl
@[go_sem] theorem isAgg86 : isAggT Tryz.prog 86 = some false := by kernel_rfl
@[go_sem] theorem ok86 : tyOk Tryz.prog 86 = true := by kernel_rfl
@[go_sem] theorem bytes86 : Tryz.prog.bytesOf 86 = 8 := by kernel_rfl
@[go_sem] theorem zero86 : zeroOf Tryz.prog 86 = some (.p .nilf) := by kernel_rfl
@[go_sem] theorem zeroLen86 : appendA.zeroLen Tryz.prog 86 = 1 := by kernel_rfl
attribute [go_sem] Tryz.underlying87
@[go_sem] theorem cellsOf87 : Tryz.prog.cellsOf 87 = 1 := by kernel_rfl
@[go_sem] theorem isAgg87 : isAggT Tryz.prog 87 = some false := by kernel_rfl
@[go_sem] theorem ok87 : tyOk Tryz.prog 87 = true := by kernel_rfl
@[go_sem] theorem bytes87 : Tryz.prog.bytesOf 87 = 8 := by kernel_rfl
@[go_sem] theorem zero87 : zeroOf Tryz.prog 87 = some (.p .nilf) := by kernel_rfl
@[go_sem] theorem zeroLen87 : appendA.zeroLen Tryz.prog 87 = 1 := by kernel_rfl
attribute [go_sem] Tryz.underlying94
@[go_sem] theorem cellsOf94 : Tryz.prog.cellsOf 94 = 1 := by kernel_rfl
@[go_sem] theorem isAgg94 : isAggT Tryz.prog 94 = some false := by kernel_rfl
@[go_sem] theorem ok94 : tyOk Tryz.prog 94 = true := by kernel_rfl
@[go_sem] theorem bytes94 : Tryz.prog.bytesOf 94 = 8 := by kernel_rfl
@[go_sem] theorem zero94 : zeroOf Tryz.prog 94 = some (.p .nilf) := by kernel_rfl
@[go_sem] theorem zeroLen94 : appendA.zeroLen Tryz.prog 94 = 1 := by kernel_rfl
attribute [go_sem] Tryz.underlying96
@[go_sem] theorem cellsOf96 : Tryz.prog.cellsOf 96 = 2 := by kernel_rfl
@[go_sem] theorem isAgg96 : isAggT Tryz.prog 96 = some true := by kernel_rfl
@[go_sem] theorem ok96 : tyOk Tryz.prog 96 = true := by kernel_rfl
@[go_sem] theorem bytes96 : Tryz.prog.bytesOf 96 = 16 := by kernel_rfl
@[go_sem] theorem zero96 : zeroOf Tryz.prog 96 = some (.p (.agg [(.int .i64 0), (.int .i64 0)])) := by kernel_rfl
@[go_sem] theorem zeroLen96 : appendA.zeroLen Tryz.prog 96 = 2 := by kernel_rfl
@[go_sem] theorem field96_0 : fieldOff Tryz.prog 96 0 = some 0 := by kernel_rfl
@[go_sem] theorem field96_1 : fieldOff Tryz.prog 96 1 = some 1 := by kernel_rfl
@[go_sem] theorem build96 (parts : List (Nat × AV)) : buildA Tryz.prog 96 parts = (fillG (fun j => [(0, 1), (1, 1)][j]?) [.p (.int .i64 0), .p (.int .i64 0)] parts).map mkAgg :=
  buildA_eq _ _ zero96 rfl (by kernel_rfl) (by kernel_rfl) (by funext j; exact placesA_eq _ _ (by kernel_rfl) j)
@[go_sem] theorem eqS96 (d : Nat) (xs ys : List PV) : eqT Tryz.prog (d + 1) 96 xs ys = eqL (eqT Tryz.prog d) [(2, 0, 1), (3, 1, 1)] xs ys := eqT_struct _ (by kernel_rfl) (by kernel_rfl) (by kernel_rfl) (by kernel_rfl) d xs ys
@[go_sem] theorem eqg96 : Tryz.prog.eqGuardType Tryz.prog.depth 96 = false := by kernel_rfl
attribute [go_sem] Tryz.underlying97
@[go_sem] theorem cellsOf97 : Tryz.prog.cellsOf 97 = 2 := by kernel_rfl
@[go_sem] theorem isAgg97 : isAggT Tryz.prog 97 = some true := by kernel_rfl
@[go_sem] theorem ok97 : tyOk Tryz.prog 97 = true := by kernel_rfl
@[go_sem] theorem bytes97 : Tryz.prog.bytesOf 97 = 16 := by kernel_rfl
@[go_sem] theorem zero97 : zeroOf Tryz.prog 97 = some (.p (.agg [(.int .i64 0), (.int .i64 0)])) := by kernel_rfl
@[go_sem] theorem zeroLen97 : appendA.zeroLen Tryz.prog 97 = 2 := by kernel_rfl
@[go_sem] theorem field97_0 : fieldOff Tryz.prog 97 0 = some 0 := by kernel_rfl
@[go_sem] theorem field97_1 : fieldOff Tryz.prog 97 1 = some 1 := by kernel_rfl
@[go_sem] theorem build97 (parts : List (Nat × AV)) : buildA Tryz.prog 97 parts = (fillG (fun j => [(0, 1), (1, 1)][j]?) [.p (.int .i64 0), .p (.int .i64 0)] parts).map mkAgg :=
  buildA_eq _ _ zero97 rfl (by kernel_rfl) (by kernel_rfl) (by funext j; exact placesA_eq _ _ (by kernel_rfl) j)
@[go_sem] theorem eqS97 (d : Nat) (xs ys : List PV) : eqT Tryz.prog (d + 1) 97 xs ys = eqL (eqT Tryz.prog d) [(2, 0, 1), (3, 1, 1)] xs ys := eqT_struct _ (by kernel_rfl) (by kernel_rfl) (by kernel_rfl) (by kernel_rfl) d xs ys
@[go_sem] theorem eqg97 : Tryz.prog.eqGuardType Tryz.prog.depth 97 = false := by kernel_rfl
attribute [go_sem] Tryz.underlying98
@[go_sem] theorem cellsOf98 : Tryz.prog.cellsOf 98 = 1 := by kernel_rfl
@[go_sem] theorem isAgg98 : isAggT Tryz.prog 98 = some false := by kernel_rfl
@[go_sem] theorem ok98 : tyOk Tryz.prog 98 = true := by kernel_rfl
@[go_sem] theorem bytes98 : Tryz.prog.bytesOf 98 = 8 := by kernel_rfl
@[go_sem] theorem zero98 : zeroOf Tryz.prog 98 = some (.p .nilf) := by kernel_rfl
@[go_sem] theorem zeroLen98 : appendA.zeroLen Tryz.prog 98 = 1 := by kernel_rfl
attribute [go_sem] Tryz.underlying102
@[go_sem] theorem cellsOf102 : Tryz.prog.cellsOf 102 = 1 := by kernel_rfl
@[go_sem] theorem isAgg102 : isAggT Tryz.prog 102 = some false := by kernel_rfl
@[go_sem] theorem ok102 : tyOk Tryz.prog 102 = true := by kernel_rfl
@[go_sem] theorem bytes102 : Tryz.prog.bytesOf 102 = 8 := by kernel_rfl
@[go_sem] theorem zero102 : zeroOf Tryz.prog 102 = some (.p .nilf) := by kernel_rfl
@[go_sem] theorem zeroLen102 : appendA.zeroLen Tryz.prog 102 = 1 := by kernel_rfl
attribute [go_sem] Tryz.underlying103
@[go_sem] theorem cellsOf103 : Tryz.prog.cellsOf 103 = 1 := by kernel_rfl
@[go_sem] theorem isAgg103 : isAggT Tryz.prog 103 = some false := by kernel_rfl
@[go_sem] theorem ok103 : tyOk Tryz.prog 103 = true := by kernel_rfl
@[go_sem] theorem bytes103 : Tryz.prog.bytesOf 103 = 8 := by kernel_rfl
@[go_sem] theorem zero103 : zeroOf Tryz.prog 103 = some (.p .nilf) := by kernel_rfl
@[go_sem] theorem zeroLen103 : appendA.zeroLen Tryz.prog 103 = 1 := by kernel_rfl
attribute [go_sem] Tryz.underlying108
@[go_sem] theorem cellsOf108 : Tryz.prog.cellsOf 108 = 1 := by kernel_rfl
@[go_sem] theorem isAgg108 : isAggT Tryz.prog 108 = some false := by kernel_rfl
@[go_sem] theorem ok108 : tyOk Tryz.prog 108 = true := by kernel_rfl
@[go_sem] theorem bytes108 : Tryz.prog.bytesOf 108 = 8 := by kernel_rfl
@[go_sem] theorem zero108 : zeroOf Tryz.prog 108 = some (.p (.mapv [] [])) := by kernel_rfl
@[go_sem] theorem zeroLen108 : appendA.zeroLen Tryz.prog 108 = 1 := by kernel_rfl
attribute [go_sem] Tryz.underlying112
@[go_sem] theorem cellsOf112 : Tryz.prog.cellsOf 112 = 1 := by kernel_rfl
@[go_sem] theorem isAgg112 : isAggT Tryz.prog 112 = some false := by kernel_rfl
@[go_sem] theorem ok112 : tyOk Tryz.prog 112 = true := by kernel_rfl
@[go_sem] theorem bytes112 : Tryz.prog.bytesOf 112 = 8 := by kernel_rfl
@[go_sem] theorem zero112 : zeroOf Tryz.prog 112 = some (.p .nilf) := by kernel_rfl
@[go_sem] theorem zeroLen112 : appendA.zeroLen Tryz.prog 112 = 1 := by kernel_rfl
attribute [go_sem] Tryz.underlying113
@[go_sem] theorem cellsOf113 : Tryz.prog.cellsOf 113 = 1 := by kernel_rfl
@[go_sem] theorem isAgg113 : isAggT Tryz.prog 113 = some false := by kernel_rfl
@[go_sem] theorem ok113 : tyOk Tryz.prog 113 = true := by kernel_rfl
@[go_sem] theorem bytes113 : Tryz.prog.bytesOf 113 = 8 := by kernel_rfl
@[go_sem] theorem zero113 : zeroOf Tryz.prog 113 = some (.p .nilf) := by kernel_rfl
@[go_sem] theorem zeroLen113 : appendA.zeroLen Tryz.prog 113 = 1 := by kernel_rfl
attribute [go_sem] Tryz.underlying115
@[go_sem] theorem cellsOf115 : Tryz.prog.cellsOf 115 = 1 := by kernel_rfl
@[go_sem] theorem isAgg115 : isAggT Tryz.prog 115 = some false := by kernel_rfl
@[go_sem] theorem ok115 : tyOk Tryz.prog 115 = true := by kernel_rfl
@[go_sem] theorem bytes115 : Tryz.prog.bytesOf 115 = 8 := by kernel_rfl
@[go_sem] theorem zero115 : zeroOf Tryz.prog 115 = some (.p (.int .u64 0)) := by kernel_rfl
@[go_sem] theorem zeroLen115 : appendA.zeroLen Tryz.prog 115 = 1 := by kernel_rfl
@[go_sem] theorem eqI115 (d : Nat) (k k' : IntKind) (a b : Int) : eqT Tryz.prog (d + 1) 115 [.int k a] [.int k' b] = if k = k' then some (a == b) else none := eqT_int _ Tryz.underlying115 d k k' a b
attribute [go_sem] Tryz.underlying116
@[go_sem] theorem cellsOf116 : Tryz.prog.cellsOf 116 = 1 := by kernel_rfl
@[go_sem] theorem isAgg116 : isAggT Tryz.prog 116 = some false := by kernel_rfl
@[go_sem] theorem ok116 : tyOk Tryz.prog 116 = true := by kernel_rfl
@[go_sem] theorem bytes116 : Tryz.prog.bytesOf 116 = 8 := by kernel_rfl
@[go_sem] theorem zero116 : zeroOf Tryz.prog 116 = some (.p .nilf) := by kernel_rfl
@[go_sem] theorem zeroLen116 : appendA.zeroLen Tryz.prog 116 = 1 := by kernel_rfl
attribute [go_sem] Tryz.underlying125
@[go_sem] theorem cellsOf125 : Tryz.prog.cellsOf 125 = 1 := by kernel_rfl
@[go_sem] theorem isAgg125 : isAggT Tryz.prog 125 = some false := by kernel_rfl
@[go_sem] theorem ok125 : tyOk Tryz.prog 125 = true := by kernel_rfl
@[go_sem] theorem bytes125 : Tryz.prog.bytesOf 125 = 8 := by kernel_rfl
@[go_sem] theorem zero125 : zeroOf Tryz.prog 125 = some (.p .nilf) := by kernel_rfl
@[go_sem] theorem zeroLen125 : appendA.zeroLen Tryz.prog 125 = 1 := by kernel_rfl
attribute [go_sem] Tryz.underlying129
@[go_sem] theorem cellsOf129 : Tryz.prog.cellsOf 129 = 1 := by kernel_rfl
@[go_sem] theorem isAgg129 : isAggT Tryz.prog 129 = some false := by kernel_rfl
@[go_sem] theorem ok129 : tyOk Tryz.prog 129 = true := by kernel_rfl
@[go_sem] theorem bytes129 : Tryz.prog.bytesOf 129 = 8 := by kernel_rfl
@[go_sem] theorem zero129 : zeroOf Tryz.prog 129 = some (.p .nilf) := by kernel_rfl
@[go_sem] theorem zeroLen129 : appendA.zeroLen Tryz.prog 129 = 1 := by kernel_rfl
attribute [go_sem] Tryz.underlying133
@[go_sem] theorem cellsOf133 : Tryz.prog.cellsOf 133 = 1 := by kernel_rfl
@[go_sem] theorem isAgg133 : isAggT Tryz.prog 133 = some false := by kernel_rfl
@[go_sem] theorem ok133 : tyOk Tryz.prog 133 = true := by kernel_rfl
@[go_sem] theorem bytes133 : Tryz.prog.bytesOf 133 = 8 := by kernel_rfl
@[go_sem] theorem zero133 : zeroOf Tryz.prog 133 = some (.p .nilf) := by kernel_rfl
@[go_sem] theorem zeroLen133 : appendA.zeroLen Tryz.prog 133 = 1 := by kernel_rfl
attribute [go_sem] Tryz.underlying134
@[go_sem] theorem cellsOf134 : Tryz.prog.cellsOf 134 = 1 := by kernel_rfl
@[go_sem] theorem isAgg134 : isAggT Tryz.prog 134 = some false := by kernel_rfl
@[go_sem] theorem ok134 : tyOk Tryz.prog 134 = true := by kernel_rfl
@[go_sem] theorem bytes134 : Tryz.prog.bytesOf 134 = 8 := by kernel_rfl
@[go_sem] theorem zero134 : zeroOf Tryz.prog 134 = some (.p .nilf) := by kernel_rfl
@[go_sem] theorem zeroLen134 : appendA.zeroLen Tryz.prog 134 = 1 := by kernel_rfl
attribute [go_sem] Tryz.underlying138
@[go_sem] theorem cellsOf138 : Tryz.prog.cellsOf 138 = 1 := by kernel_rfl
@[go_sem] theorem isAgg138 : isAggT Tryz.prog 138 = some false := by kernel_rfl
@[go_sem] theorem ok138 : tyOk Tryz.prog 138 = true := by kernel_rfl
@[go_sem] theorem bytes138 : Tryz.prog.bytesOf 138 = 8 := by kernel_rfl
@[go_sem] theorem zero138 : zeroOf Tryz.prog 138 = some (.p (.int .i64 0)) := by kernel_rfl
@[go_sem] theorem zeroLen138 : appendA.zeroLen Tryz.prog 138 = 1 := by kernel_rfl
@[go_sem] theorem eqI138 (d : Nat) (k k' : IntKind) (a b : Int) : eqT Tryz.prog (d + 1) 138 [.int k a] [.int k' b] = if k = k' then some (a == b) else none := eqT_int _ Tryz.underlying138 d k k' a b
attribute [go_sem] Tryz.underlying145
@[go_sem] theorem cellsOf145 : Tryz.prog.cellsOf 145 = 1 := by kernel_rfl
@[go_sem] theorem isAgg145 : isAggT Tryz.prog 145 = some false := by kernel_rfl
@[go_sem] theorem ok145 : tyOk Tryz.prog 145 = true := by kernel_rfl
@[go_sem] theorem bytes145 : Tryz.prog.bytesOf 145 = 4 := by kernel_rfl
@[go_sem] theorem zero145 : zeroOf Tryz.prog 145 = some (.p (.int .u32 0)) := by kernel_rfl
@[go_sem] theorem zeroLen145 : appendA.zeroLen Tryz.prog 145 = 1 := by kernel_rfl
@[go_sem] theorem eqI145 (d : Nat) (k k' : IntKind) (a b : Int) : eqT Tryz.prog (d + 1) 145 [.int k a] [.int k' b] = if k = k' then some (a == b) else none := eqT_int _ Tryz.underlying145 d k k' a b
attribute [go_sem] Tryz.underlying147
@[go_sem] theorem cellsOf147 : Tryz.prog.cellsOf 147 = 1 := by kernel_rfl
@[go_sem] theorem isAgg147 : isAggT Tryz.prog 147 = some false := by kernel_rfl
@[go_sem] theorem ok147 : tyOk Tryz.prog 147 = true := by kernel_rfl
@[go_sem] theorem bytes147 : Tryz.prog.bytesOf 147 = 8 := by kernel_rfl
@[go_sem] theorem zero147 : zeroOf Tryz.prog 147 = some (.p (.int .u64 0)) := by kernel_rfl
@[go_sem] theorem zeroLen147 : appendA.zeroLen Tryz.prog 147 = 1 := by kernel_rfl
@[go_sem] theorem eqI147 (d : Nat) (k k' : IntKind) (a b : Int) : eqT Tryz.prog (d + 1) 147 [.int k a] [.int k' b] = if k = k' then some (a == b) else none := eqT_int _ Tryz.underlying147 d k k' a b
attribute [go_sem] Tryz.underlying161
@[go_sem] theorem cellsOf161 : Tryz.prog.cellsOf 161 = 1 := by kernel_rfl
@[go_sem] theorem isAgg161 : isAggT Tryz.prog 161 = some false := by kernel_rfl
@[go_sem] theorem ok161 : tyOk Tryz.prog 161 = true := by kernel_rfl
@[go_sem] theorem bytes161 : Tryz.prog.bytesOf 161 = 8 := by kernel_rfl
@[go_sem] theorem zero161 : zeroOf Tryz.prog 161 = some (.p (.int .u64 0)) := by kernel_rfl
@[go_sem] theorem zeroLen161 : appendA.zeroLen Tryz.prog 161 = 1 := by kernel_rfl
@[go_sem] theorem eqI161 (d : Nat) (k k' : IntKind) (a b : Int) : eqT Tryz.prog (d + 1) 161 [.int k a] [.int k' b] = if k = k' then some (a == b) else none := eqT_int _ Tryz.underlying161 d k k' a b
attribute [go_sem] Tryz.underlying165
@[go_sem] theorem cellsOf165 : Tryz.prog.cellsOf 165 = 1 := by kernel_rfl
@[go_sem] theorem isAgg165 : isAggT Tryz.prog 165 = some false := by kernel_rfl
@[go_sem] theorem ok165 : tyOk Tryz.prog 165 = true := by kernel_rfl
@[go_sem] theorem bytes165 : Tryz.prog.bytesOf 165 = 8 := by kernel_rfl
@[go_sem] theorem zero165 : zeroOf Tryz.prog 165 = some (.p .nilp) := by kernel_rfl
@[go_sem] theorem zeroLen165 : appendA.zeroLen Tryz.prog 165 = 1 := by kernel_rfl
attribute [go_sem] Tryz.underlying173
@[go_sem] theorem cellsOf173 : Tryz.prog.cellsOf 173 = 1 := by kernel_rfl
@[go_sem] theorem isAgg173 : isAggT Tryz.prog 173 = some false := by kernel_rfl
@[go_sem] theorem ok173 : tyOk Tryz.prog 173 = true := by kernel_rfl
@[go_sem] theorem bytes173 : Tryz.prog.bytesOf 173 = 8 := by kernel_rfl
@[go_sem] theorem zero173 : zeroOf Tryz.prog 173 = some (.p .nilp) := by kernel_rfl
@[go_sem] theorem zeroLen173 : appendA.zeroLen Tryz.prog 173 = 1 := by kernel_rfl
attribute [go_sem] Tryz.underlying178
@[go_sem] theorem cellsOf178 : Tryz.prog.cellsOf 178 = 4 := by kernel_rfl
@[go_sem] theorem isAgg178 : isAggT Tryz.prog 178 = some true := by kernel_rfl
@[go_sem] theorem ok178 : tyOk Tryz.prog 178 = true := by kernel_rfl
@[go_sem] theorem bytes178 : Tryz.prog.bytesOf 178 = 40 := by kernel_rfl
@[go_sem] theorem zero178 : zeroOf Tryz.prog 178 = some (.p (.agg [.nilp, .nilp, .nilp, (.str [])])) := by kernel_rfl
@[go_sem] theorem zeroLen178 : appendA.zeroLen Tryz.prog 178 = 4 := by kernel_rfl
@[go_sem] theorem field178_0 : fieldOff Tryz.prog 178 0 = some 0 := by kernel_rfl
@[go_sem] theorem field178_1 : fieldOff Tryz.prog 178 1 = some 1 := by kernel_rfl
@[go_sem] theorem field178_2 : fieldOff Tryz.prog 178 2 = some 2 := by kernel_rfl
@[go_sem] theorem field178_3 : fieldOff Tryz.prog 178 3 = some 3 := by kernel_rfl
@[go_sem] theorem build178 (parts : List (Nat × AV)) : buildA Tryz.prog 178 parts = (fillG (fun j => [(0, 1), (1, 1), (2, 1), (3, 1)][j]?) [.p .nilp, .p .nilp, .p .nilp, .p (.str [])] parts).map mkAgg :=
  buildA_eq _ _ zero178 rfl (by kernel_rfl) (by kernel_rfl) (by funext j; exact placesA_eq _ _ (by kernel_rfl) j)
attribute [go_sem] Tryz.underlying179
@[go_sem] theorem cellsOf179 : Tryz.prog.cellsOf 179 = 4 := by kernel_rfl
@[go_sem] theorem isAgg179 : isAggT Tryz.prog 179 = some true := by kernel_rfl
@[go_sem] theorem ok179 : tyOk Tryz.prog 179 = true := by kernel_rfl
@[go_sem] theorem bytes179 : Tryz.prog.bytesOf 179 = 40 := by kernel_rfl
@[go_sem] theorem zero179 : zeroOf Tryz.prog 179 = some (.p (.agg [.nilp, .nilp, .nilp, (.str [])])) := by kernel_rfl
@[go_sem] theorem zeroLen179 : appendA.zeroLen Tryz.prog 179 = 4 := by kernel_rfl
@[go_sem] theorem field179_0 : fieldOff Tryz.prog 179 0 = some 0 := by kernel_rfl
@[go_sem] theorem field179_1 : fieldOff Tryz.prog 179 1 = some 1 := by kernel_rfl
@[go_sem] theorem field179_2 : fieldOff Tryz.prog 179 2 = some 2 := by kernel_rfl
@[go_sem] theorem field179_3 : fieldOff Tryz.prog 179 3 = some 3 := by kernel_rfl
@[go_sem] theorem build179 (parts : List (Nat × AV)) : buildA Tryz.prog 179 parts = (fillG (fun j => [(0, 1), (1, 1), (2, 1), (3, 1)][j]?) [.p .nilp, .p .nilp, .p .nilp, .p (.str [])] parts).map mkAgg :=
  buildA_eq _ _ zero179 rfl (by kernel_rfl) (by kernel_rfl) (by funext j; exact placesA_eq _ _ (by kernel_rfl) j)
attribute [go_sem] Tryz.underlying180
@[go_sem] theorem cellsOf180 : Tryz.prog.cellsOf 180 = 0 := by kernel_rfl
@[go_sem] theorem isAgg180 : isAggT Tryz.prog 180 = some true := by kernel_rfl
@[go_sem] theorem ok180 : tyOk Tryz.prog 180 = true := by kernel_rfl
@[go_sem] theorem bytes180 : Tryz.prog.bytesOf 180 = 0 := by kernel_rfl
attribute [go_sem] Tryz.underlying181
@[go_sem] theorem cellsOf181 : Tryz.prog.cellsOf 181 = 0 := by kernel_rfl
@[go_sem] theorem isAgg181 : isAggT Tryz.prog 181 = some true := by kernel_rfl
@[go_sem] theorem ok181 : tyOk Tryz.prog 181 = true := by kernel_rfl
@[go_sem] theorem bytes181 : Tryz.prog.bytesOf 181 = 0 := by kernel_rfl
attribute [go_sem] Tryz.underlying182
@[go_sem] theorem cellsOf182 : Tryz.prog.cellsOf 182 = 0 := by kernel_rfl
@[go_sem] theorem isAgg182 : isAggT Tryz.prog 182 = some true := by kernel_rfl
@[go_sem] theorem ok182 : tyOk Tryz.prog 182 = true := by kernel_rfl
@[go_sem] theorem bytes182 : Tryz.prog.bytesOf 182 = 0 := by kernel_rfl
attribute [go_sem] Tryz.underlying184
@[go_sem] theorem cellsOf184 : Tryz.prog.cellsOf 184 = 1 := by kernel_rfl
@[go_sem] theorem isAgg184 : isAggT Tryz.prog 184 = some false := by kernel_rfl
@[go_sem] theorem ok184 : tyOk Tryz.prog 184 = true := by kernel_rfl
@[go_sem] theorem bytes184 : Tryz.prog.bytesOf 184 = 1 := by kernel_rfl
@[go_sem] theorem zero184 : zeroOf Tryz.prog 184 = some (.p (.int .u8 0)) := by kernel_rfl
@[go_sem] theorem zeroLen184 : appendA.zeroLen Tryz.prog 184 = 1 := by kernel_rfl
@[go_sem] theorem eqI184 (d : Nat) (k k' : IntKind) (a b : Int) : eqT Tryz.prog (d + 1) 184 [.int k a] [.int k' b] = if k = k' then some (a == b) else none := eqT_int _ Tryz.underlying184 d k k' a b
attribute [go_sem] Tryz.underlying185
@[go_sem] theorem cellsOf185 : Tryz.prog.cellsOf 185 = 1 := by kernel_rfl
@[go_sem] theorem isAgg185 : isAggT Tryz.prog 185 = some false := by kernel_rfl
@[go_sem] theorem ok185 : tyOk Tryz.prog 185 = true := by kernel_rfl
@[go_sem] theorem bytes185 : Tryz.prog.bytesOf 185 = 1 := by kernel_rfl
@[go_sem] theorem zero185 : zeroOf Tryz.prog 185 = some (.p (.int .u8 0)) := by kernel_rfl
@[go_sem] theorem zeroLen185 : appendA.zeroLen Tryz.prog 185 = 1 := by kernel_rfl
@[go_sem] theorem eqI185 (d : Nat) (k k' : IntKind) (a b : Int) : eqT Tryz.prog (d + 1) 185 [.int k a] [.int k' b] = if k = k' then some (a == b) else none := eqT_int _ Tryz.underlying185 d k k' a b
attribute [go_sem] Tryz.underlying186
@[go_sem] theorem cellsOf186 : Tryz.prog.cellsOf 186 = 1 := by kernel_rfl
@[go_sem] theorem isAgg186 : isAggT Tryz.prog 186 = some false := by kernel_rfl
@[go_sem] theorem ok186 : tyOk Tryz.prog 186 = true := by kernel_rfl
@[go_sem] theorem bytes186 : Tryz.prog.bytesOf 186 = 8 := by kernel_rfl
@[go_sem] theorem zero186 : zeroOf Tryz.prog 186 = some (.p .nilf) := by kernel_rfl
@[go_sem] theorem zeroLen186 : appendA.zeroLen Tryz.prog 186 = 1 := by kernel_rfl
attribute [go_sem] Tryz.underlying187
@[go_sem] theorem cellsOf187 : Tryz.prog.cellsOf 187 = 1 := by kernel_rfl
@[go_sem] theorem isAgg187 : isAggT Tryz.prog 187 = some false := by kernel_rfl
@[go_sem] theorem ok187 : tyOk Tryz.prog 187 = true := by kernel_rfl
@[go_sem] theorem bytes187 : Tryz.prog.bytesOf 187 = 8 := by kernel_rfl
@[go_sem] theorem zero187 : zeroOf Tryz.prog 187 = some (.p .nilp) := by kernel_rfl
@[go_sem] theorem zeroLen187 : appendA.zeroLen Tryz.prog 187 = 1 := by kernel_rfl
attribute [go_sem] Tryz.underlying188
@[go_sem] theorem cellsOf188 : Tryz.prog.cellsOf 188 = 1 := by kernel_rfl
@[go_sem] theorem isAgg188 : isAggT Tryz.prog 188 = some false := by kernel_rfl
@[go_sem] theorem ok188 : tyOk Tryz.prog 188 = true := by kernel_rfl
@[go_sem] theorem bytes188 : Tryz.prog.bytesOf 188 = 4 := by kernel_rfl
@[go_sem] theorem zero188 : zeroOf Tryz.prog 188 = some (.p (.int .i32 0)) := by kernel_rfl
@[go_sem] theorem zeroLen188 : appendA.zeroLen Tryz.prog 188 = 1 := by kernel_rfl
@[go_sem] theorem eqI188 (d : Nat) (k k' : IntKind) (a b : Int) : eqT Tryz.prog (d + 1) 188 [.int k a] [.int k' b] = if k = k' then some (a == b) else none := eqT_int _ Tryz.underlying188 d k k' a b
attribute [go_sem] Tryz.underlying189
@[go_sem] theorem cellsOf189 : Tryz.prog.cellsOf 189 = 1 := by kernel_rfl
@[go_sem] theorem isAgg189 : isAggT Tryz.prog 189 = some false := by kernel_rfl
@[go_sem] theorem ok189 : tyOk Tryz.prog 189 = true := by kernel_rfl
@[go_sem] theorem bytes189 : Tryz.prog.bytesOf 189 = 4 := by kernel_rfl
@[go_sem] theorem zero189 : zeroOf Tryz.prog 189 = some (.p (.int .i32 0)) := by kernel_rfl
@[go_sem] theorem zeroLen189 : appendA.zeroLen Tryz.prog 189 = 1 := by kernel_rfl
@[go_sem] theorem eqI189 (d : Nat) (k k' : IntKind) (a b : Int) : eqT Tryz.prog (d + 1) 189 [.int k a] [.int k' b] = if k = k' then some (a == b) else none := eqT_int _ Tryz.underlying189 d k k' a b
attribute [go_sem] Tryz.underlying190
@[go_sem] theorem cellsOf190 : Tryz.prog.cellsOf 190 = 11 := by kernel_rfl
@[go_sem] theorem isAgg190 : isAggT Tryz.prog 190 = some true := by kernel_rfl
@[go_sem] theorem ok190 : tyOk Tryz.prog 190 = true := by kernel_rfl
@[go_sem] theorem bytes190 : Tryz.prog.bytesOf 190 = 48 := by kernel_rfl
@[go_sem] theorem zero190 : zeroOf Tryz.prog 190 = some (.p (.agg [(.int .u64 0), (.int .u64 0), (.int .u32 0), (.int .u8 0), (.int .u8 0), (.int .u8 0), (.int .u8 0), .nilf, .nilp, (.int .i32 0), (.int .i32 0)])) := by kernel_rfl
@[go_sem] theorem zeroLen190 : appendA.zeroLen Tryz.prog 190 = 11 := by kernel_rfl
@[go_sem] theorem field190_0 : fieldOff Tryz.prog 190 0 = some 0 := by kernel_rfl
@[go_sem] theorem field190_1 : fieldOff Tryz.prog 190 1 = some 1 := by kernel_rfl
@[go_sem] theorem field190_2 : fieldOff Tryz.prog 190 2 = some 2 := by kernel_rfl
@[go_sem] theorem field190_3 : fieldOff Tryz.prog 190 3 = some 3 := by kernel_rfl
@[go_sem] theorem field190_4 : fieldOff Tryz.prog 190 4 = some 4 := by kernel_rfl
@[go_sem] theorem field190_5 : fieldOff Tryz.prog 190 5 = some 5 := by kernel_rfl
@[go_sem] theorem field190_6 : fieldOff Tryz.prog 190 6 = some 6 := by kernel_rfl
@[go_sem] theorem field190_7 : fieldOff Tryz.prog 190 7 = some 7 := by kernel_rfl
@[go_sem] theorem field190_8 : fieldOff Tryz.prog 190 8 = some 8 := by kernel_rfl
@[go_sem] theorem field190_9 : fieldOff Tryz.prog 190 9 = some 9 := by kernel_rfl
@[go_sem] theorem field190_10 : fieldOff Tryz.prog 190 10 = some 10 := by kernel_rfl
@[go_sem] theorem build190 (parts : List (Nat × AV)) : buildA Tryz.prog 190 parts = (fillG (fun j => [(0, 1), (1, 1), (2, 1), (3, 1), (4, 1), (5, 1), (6, 1), (7, 1), (8, 1), (9, 1), (10, 1)][j]?) [.p (.int .u64 0), .p (.int .u64 0), .p (.int .u32 0), .p (.int .u8 0), .p (.int .u8 0), .p (.int .u8 0), .p (.int .u8 0), .p .nilf, .p .nilp, .p (.int .i32 0), .p (.int .i32 0)] parts).map mkAgg :=
  buildA_eq _ _ zero190 rfl (by kernel_rfl) (by kernel_rfl) (by funext j; exact placesA_eq _ _ (by kernel_rfl) j)
attribute [go_sem] Tryz.underlying191
@[go_sem] theorem cellsOf191 : Tryz.prog.cellsOf 191 = 11 := by kernel_rfl
@[go_sem] theorem isAgg191 : isAggT Tryz.prog 191 = some true := by kernel_rfl
@[go_sem] theorem ok191 : tyOk Tryz.prog 191 = true := by kernel_rfl
@[go_sem] theorem bytes191 : Tryz.prog.bytesOf 191 = 48 := by kernel_rfl
@[go_sem] theorem zero191 : zeroOf Tryz.prog 191 = some (.p (.agg [(.int .u64 0), (.int .u64 0), (.int .u32 0), (.int .u8 0), (.int .u8 0), (.int .u8 0), (.int .u8 0), .nilf, .nilp, (.int .i32 0), (.int .i32 0)])) := by kernel_rfl
@[go_sem] theorem zeroLen191 : appendA.zeroLen Tryz.prog 191 = 11 := by kernel_rfl
@[go_sem] theorem field191_0 : fieldOff Tryz.prog 191 0 = some 0 := by kernel_rfl
@[go_sem] theorem field191_1 : fieldOff Tryz.prog 191 1 = some 1 := by kernel_rfl
@[go_sem] theorem field191_2 : fieldOff Tryz.prog 191 2 = some 2 := by kernel_rfl
@[go_sem] theorem field191_3 : fieldOff Tryz.prog 191 3 = some 3 := by kernel_rfl
@[go_sem] theorem field191_4 : fieldOff Tryz.prog 191 4 = some 4 := by kernel_rfl
@[go_sem] theorem field191_5 : fieldOff Tryz.prog 191 5 = some 5 := by kernel_rfl
@[go_sem] theorem field191_6 : fieldOff Tryz.prog 191 6 = some 6 := by kernel_rfl
@[go_sem] theorem field191_7 : fieldOff Tryz.prog 191 7 = some 7 := by kernel_rfl
@[go_sem] theorem field191_8 : fieldOff Tryz.prog 191 8 = some 8 := by kernel_rfl
@[go_sem] theorem field191_9 : fieldOff Tryz.prog 191 9 = some 9 := by kernel_rfl
@[go_sem] theorem field191_10 : fieldOff Tryz.prog 191 10 = some 10 := by kernel_rfl
@[go_sem] theorem build191 (parts : List (Nat × AV)) : buildA Tryz.prog 191 parts = (fillG (fun j => [(0, 1), (1, 1), (2, 1), (3, 1), (4, 1), (5, 1), (6, 1), (7, 1), (8, 1), (9, 1), (10, 1)][j]?) [.p (.int .u64 0), .p (.int .u64 0), .p (.int .u32 0), .p (.int .u8 0), .p (.int .u8 0), .p (.int .u8 0), .p (.int .u8 0), .p .nilf, .p .nilp, .p (.int .i32 0), .p (.int .i32 0)] parts).map mkAgg :=
  buildA_eq _ _ zero191 rfl (by kernel_rfl) (by kernel_rfl) (by funext j; exact placesA_eq _ _ (by kernel_rfl) j)
end Go.Proofs.YtdmddoljldjjeaaGreat.Ty
