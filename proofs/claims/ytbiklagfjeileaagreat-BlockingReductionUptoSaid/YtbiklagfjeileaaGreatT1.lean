/- What the logic asks of the types of the translation. -/
import Derived.Test.YtbiklagfjeileaaGreatProg
import Derived.KernelRfl
import Derived.Test.YtbiklagfjeileaaGreatA2
/- What the abstract logic asks of the types of the translation; printed by a program of our own (tyfacts.py). -/
namespace Go.Proofs.YtbiklagfjeileaaGreat.Ty
open Go Go.Ab
set_option linter.unusedVariables false

attribute [go_sem] Tryz.underlying1
@[go_sem] theorem cellsOf1 : Tryz.prog.cellsOf 1 = 1 := by kernel_rfl
@[go_sem] theorem isAgg1 : isAggT Tryz.prog 1 = some false := by kernel_rfl
@[go_sem] theorem ok1 : tyOk Tryz.prog 1 = true := by kernel_rfl
@[go_sem] theorem bytes1 : Tryz.prog.bytesOf 1 = 8 := by kernel_rfl
@[go_sem] theorem zero1 : zeroOf Tryz.prog 1 = some (.p .nilf) := by kernel_rfl
@[go_sem] theorem zeroLen1 : appendA.zeroLen Tryz.prog 1 = 1 := by kernel_rfl
attribute [go_sem] Tryz.underlying2
@[go_sem] theorem cellsOf2 : Tryz.prog.cellsOf 2 = 1 := by kernel_rfl
@[go_sem] theorem isAgg2 : isAggT Tryz.prog 2 = some false := by kernel_rfl
@[go_sem] theorem ok2 : tyOk Tryz.prog 2 = true := by kernel_rfl
@[go_sem] theorem bytes2 : Tryz.prog.bytesOf 2 = 8 := by kernel_rfl
@[go_sem] theorem zero2 : zeroOf Tryz.prog 2 = some (.p (.int .i64 0)) := by kernel_rfl
@[go_sem] theorem zeroLen2 : appendA.zeroLen Tryz.prog 2 = 1 := by kernel_rfl
@[go_sem] theorem eqI2 (d : Nat) (k k' : IntKind) (a b : Int) : eqT Tryz.prog (d + 1) 2 [.int k a] [.int k' b] = if k = k' then some (a == b) else none := eqT_int _ Tryz.underlying2 d k k' a b
attribute [go_sem] Tryz.underlying3
@[go_sem] theorem cellsOf3 : Tryz.prog.cellsOf 3 = 1 := by kernel_rfl
@[go_sem] theorem isAgg3 : isAggT Tryz.prog 3 = some false := by kernel_rfl
@[go_sem] theorem ok3 : tyOk Tryz.prog 3 = true := by kernel_rfl
@[go_sem] theorem bytes3 : Tryz.prog.bytesOf 3 = 8 := by kernel_rfl
@[go_sem] theorem zero3 : zeroOf Tryz.prog 3 = some (.p (.int .i64 0)) := by kernel_rfl
@[go_sem] theorem zeroLen3 : appendA.zeroLen Tryz.prog 3 = 1 := by kernel_rfl
@[go_sem] theorem eqI3 (d : Nat) (k k' : IntKind) (a b : Int) : eqT Tryz.prog (d + 1) 3 [.int k a] [.int k' b] = if k = k' then some (a == b) else none := eqT_int _ Tryz.underlying3 d k k' a b
attribute [go_sem] Tryz.underlying4
@[go_sem] theorem cellsOf4 : Tryz.prog.cellsOf 4 = 1 := by kernel_rfl
@[go_sem] theorem isAgg4 : isAggT Tryz.prog 4 = some false := by kernel_rfl
@[go_sem] theorem ok4 : tyOk Tryz.prog 4 = true := by kernel_rfl
@[go_sem] theorem bytes4 : Tryz.prog.bytesOf 4 = 1 := by kernel_rfl
@[go_sem] theorem zero4 : zeroOf Tryz.prog 4 = some (.p (.bool false)) := by kernel_rfl
@[go_sem] theorem zeroLen4 : appendA.zeroLen Tryz.prog 4 = 1 := by kernel_rfl
@[go_sem] theorem eqI4 (d : Nat) (a b : Bool) : eqT Tryz.prog (d + 1) 4 [.bool a] [.bool b] = some (a == b) := eqT_bool _ Tryz.underlying4 d a b
attribute [go_sem] Tryz.underlying5
@[go_sem] theorem cellsOf5 : Tryz.prog.cellsOf 5 = 1 := by kernel_rfl
@[go_sem] theorem isAgg5 : isAggT Tryz.prog 5 = some false := by kernel_rfl
@[go_sem] theorem ok5 : tyOk Tryz.prog 5 = true := by kernel_rfl
@[go_sem] theorem bytes5 : Tryz.prog.bytesOf 5 = 1 := by kernel_rfl
@[go_sem] theorem zero5 : zeroOf Tryz.prog 5 = some (.p (.int .u8 0)) := by kernel_rfl
@[go_sem] theorem zeroLen5 : appendA.zeroLen Tryz.prog 5 = 1 := by kernel_rfl
@[go_sem] theorem eqI5 (d : Nat) (k k' : IntKind) (a b : Int) : eqT Tryz.prog (d + 1) 5 [.int k a] [.int k' b] = if k = k' then some (a == b) else none := eqT_int _ Tryz.underlying5 d k k' a b
attribute [go_sem] Tryz.underlying6
@[go_sem] theorem cellsOf6 : Tryz.prog.cellsOf 6 = 1 := by kernel_rfl
@[go_sem] theorem isAgg6 : isAggT Tryz.prog 6 = some false := by kernel_rfl
@[go_sem] theorem ok6 : tyOk Tryz.prog 6 = true := by kernel_rfl
@[go_sem] theorem bytes6 : Tryz.prog.bytesOf 6 = 1 := by kernel_rfl
@[go_sem] theorem zero6 : zeroOf Tryz.prog 6 = some (.p (.int .u8 0)) := by kernel_rfl
@[go_sem] theorem zeroLen6 : appendA.zeroLen Tryz.prog 6 = 1 := by kernel_rfl
@[go_sem] theorem eqI6 (d : Nat) (k k' : IntKind) (a b : Int) : eqT Tryz.prog (d + 1) 6 [.int k a] [.int k' b] = if k = k' then some (a == b) else none := eqT_int _ Tryz.underlying6 d k k' a b
attribute [go_sem] Tryz.underlying7
@[go_sem] theorem cellsOf7 : Tryz.prog.cellsOf 7 = 4 := by kernel_rfl
@[go_sem] theorem isAgg7 : isAggT Tryz.prog 7 = some true := by kernel_rfl
@[go_sem] theorem ok7 : tyOk Tryz.prog 7 = true := by kernel_rfl
@[go_sem] theorem bytes7 : Tryz.prog.bytesOf 7 = 24 := by kernel_rfl
@[go_sem] theorem zero7 : zeroOf Tryz.prog 7 = some (.p (.agg [(.int .i64 0), (.int .i64 0), (.bool false), (.int .u8 0)])) := by kernel_rfl
@[go_sem] theorem zeroLen7 : appendA.zeroLen Tryz.prog 7 = 4 := by kernel_rfl
@[go_sem] theorem field7_0 : fieldOff Tryz.prog 7 0 = some 0 := by kernel_rfl
@[go_sem] theorem field7_1 : fieldOff Tryz.prog 7 1 = some 1 := by kernel_rfl
@[go_sem] theorem field7_2 : fieldOff Tryz.prog 7 2 = some 2 := by kernel_rfl
@[go_sem] theorem field7_3 : fieldOff Tryz.prog 7 3 = some 3 := by kernel_rfl
@[go_sem] theorem build7 (parts : List (Nat × AV)) : buildA Tryz.prog 7 parts = (fillG (fun j => [(0, 1), (1, 1), (2, 1), (3, 1)][j]?) [.p (.int .i64 0), .p (.int .i64 0), .p (.bool false), .p (.int .u8 0)] parts).map mkAgg :=
  buildA_eq _ _ zero7 rfl (by kernel_rfl) (by kernel_rfl) (by funext j; exact placesA_eq _ _ (by kernel_rfl) j)
@[go_sem] theorem eqS7 (d : Nat) (xs ys : List PV) : eqT Tryz.prog (d + 1) 7 xs ys = eqL (eqT Tryz.prog d) [(2, 0, 1), (3, 1, 1), (4, 2, 1), (6, 3, 1)] xs ys := eqT_struct _ (by kernel_rfl) (by kernel_rfl) (by kernel_rfl) (by kernel_rfl) d xs ys
@[go_sem] theorem eqg7 : Tryz.prog.eqGuardType Tryz.prog.depth 7 = false := by kernel_rfl
attribute [go_sem] Tryz.underlying8
@[go_sem] theorem cellsOf8 : Tryz.prog.cellsOf 8 = 4 := by kernel_rfl
@[go_sem] theorem isAgg8 : isAggT Tryz.prog 8 = some true := by kernel_rfl
@[go_sem] theorem ok8 : tyOk Tryz.prog 8 = true := by kernel_rfl
@[go_sem] theorem bytes8 : Tryz.prog.bytesOf 8 = 24 := by kernel_rfl
@[go_sem] theorem zero8 : zeroOf Tryz.prog 8 = some (.p (.agg [(.int .i64 0), (.int .i64 0), (.bool false), (.int .u8 0)])) := by kernel_rfl
@[go_sem] theorem zeroLen8 : appendA.zeroLen Tryz.prog 8 = 4 := by kernel_rfl
@[go_sem] theorem field8_0 : fieldOff Tryz.prog 8 0 = some 0 := by kernel_rfl
@[go_sem] theorem field8_1 : fieldOff Tryz.prog 8 1 = some 1 := by kernel_rfl
@[go_sem] theorem field8_2 : fieldOff Tryz.prog 8 2 = some 2 := by kernel_rfl
@[go_sem] theorem field8_3 : fieldOff Tryz.prog 8 3 = some 3 := by kernel_rfl
@[go_sem] theorem build8 (parts : List (Nat × AV)) : buildA Tryz.prog 8 parts = (fillG (fun j => [(0, 1), (1, 1), (2, 1), (3, 1)][j]?) [.p (.int .i64 0), .p (.int .i64 0), .p (.bool false), .p (.int .u8 0)] parts).map mkAgg :=
  buildA_eq _ _ zero8 rfl (by kernel_rfl) (by kernel_rfl) (by funext j; exact placesA_eq _ _ (by kernel_rfl) j)
@[go_sem] theorem eqS8 (d : Nat) (xs ys : List PV) : eqT Tryz.prog (d + 1) 8 xs ys = eqL (eqT Tryz.prog d) [(2, 0, 1), (3, 1, 1), (4, 2, 1), (6, 3, 1)] xs ys := eqT_struct _ (by kernel_rfl) (by kernel_rfl) (by kernel_rfl) (by kernel_rfl) d xs ys
@[go_sem] theorem eqg8 : Tryz.prog.eqGuardType Tryz.prog.depth 8 = false := by kernel_rfl
attribute [go_sem] Tryz.underlying9
@[go_sem] theorem cellsOf9 : Tryz.prog.cellsOf 9 = 1 := by kernel_rfl
@[go_sem] theorem isAgg9 : isAggT Tryz.prog 9 = some false := by kernel_rfl
@[go_sem] theorem ok9 : tyOk Tryz.prog 9 = true := by kernel_rfl
@[go_sem] theorem bytes9 : Tryz.prog.bytesOf 9 = 16 := by kernel_rfl
@[go_sem] theorem zero9 : zeroOf Tryz.prog 9 = some (.p (.str [])) := by kernel_rfl
@[go_sem] theorem zeroLen9 : appendA.zeroLen Tryz.prog 9 = 1 := by kernel_rfl
@[go_sem] theorem eqI9 (d : Nat) (a b : List UInt8) : eqT Tryz.prog (d + 1) 9 [.str a] [.str b] = some (a == b) := eqT_str _ Tryz.underlying9 d a b
attribute [go_sem] Tryz.underlying10
@[go_sem] theorem cellsOf10 : Tryz.prog.cellsOf 10 = 1 := by kernel_rfl
@[go_sem] theorem isAgg10 : isAggT Tryz.prog 10 = some false := by kernel_rfl
@[go_sem] theorem ok10 : tyOk Tryz.prog 10 = true := by kernel_rfl
@[go_sem] theorem bytes10 : Tryz.prog.bytesOf 10 = 16 := by kernel_rfl
@[go_sem] theorem zero10 : zeroOf Tryz.prog 10 = some (.p (.str [])) := by kernel_rfl
@[go_sem] theorem zeroLen10 : appendA.zeroLen Tryz.prog 10 = 1 := by kernel_rfl
@[go_sem] theorem eqI10 (d : Nat) (a b : List UInt8) : eqT Tryz.prog (d + 1) 10 [.str a] [.str b] = some (a == b) := eqT_str _ Tryz.underlying10 d a b
attribute [go_sem] Tryz.underlying11
@[go_sem] theorem cellsOf11 : Tryz.prog.cellsOf 11 = 1 := by kernel_rfl
@[go_sem] theorem isAgg11 : isAggT Tryz.prog 11 = some false := by kernel_rfl
@[go_sem] theorem ok11 : tyOk Tryz.prog 11 = true := by kernel_rfl
@[go_sem] theorem bytes11 : Tryz.prog.bytesOf 11 = 16 := by kernel_rfl
@[go_sem] theorem zero11 : zeroOf Tryz.prog 11 = some (.p (.str [])) := by kernel_rfl
@[go_sem] theorem zeroLen11 : appendA.zeroLen Tryz.prog 11 = 1 := by kernel_rfl
@[go_sem] theorem eqI11 (d : Nat) (a b : List UInt8) : eqT Tryz.prog (d + 1) 11 [.str a] [.str b] = some (a == b) := eqT_str _ Tryz.underlying11 d a b
attribute [go_sem] Tryz.underlying12
@[go_sem] theorem cellsOf12 : Tryz.prog.cellsOf 12 = 1 := by kernel_rfl
@[go_sem] theorem isAgg12 : isAggT Tryz.prog 12 = some false := by kernel_rfl
@[go_sem] theorem ok12 : tyOk Tryz.prog 12 = true := by kernel_rfl
@[go_sem] theorem bytes12 : Tryz.prog.bytesOf 12 = 8 := by kernel_rfl
@[go_sem] theorem zero12 : zeroOf Tryz.prog 12 = some (.p (.int .u64 0)) := by kernel_rfl
@[go_sem] theorem zeroLen12 : appendA.zeroLen Tryz.prog 12 = 1 := by kernel_rfl
@[go_sem] theorem eqI12 (d : Nat) (k k' : IntKind) (a b : Int) : eqT Tryz.prog (d + 1) 12 [.int k a] [.int k' b] = if k = k' then some (a == b) else none := eqT_int _ Tryz.underlying12 d k k' a b
attribute [go_sem] Tryz.underlying13
@[go_sem] theorem cellsOf13 : Tryz.prog.cellsOf 13 = 2 := by kernel_rfl
@[go_sem] theorem isAgg13 : isAggT Tryz.prog 13 = some true := by kernel_rfl
@[go_sem] theorem ok13 : tyOk Tryz.prog 13 = true := by kernel_rfl
@[go_sem] theorem bytes13 : Tryz.prog.bytesOf 13 = 24 := by kernel_rfl
@[go_sem] theorem zero13 : zeroOf Tryz.prog 13 = some (.p (.agg [(.str []), (.int .u64 0)])) := by kernel_rfl
@[go_sem] theorem zeroLen13 : appendA.zeroLen Tryz.prog 13 = 2 := by kernel_rfl
@[go_sem] theorem field13_0 : fieldOff Tryz.prog 13 0 = some 0 := by kernel_rfl
@[go_sem] theorem field13_1 : fieldOff Tryz.prog 13 1 = some 1 := by kernel_rfl
@[go_sem] theorem build13 (parts : List (Nat × AV)) : buildA Tryz.prog 13 parts = (fillG (fun j => [(0, 1), (1, 1)][j]?) [.p (.str []), .p (.int .u64 0)] parts).map mkAgg :=
  buildA_eq _ _ zero13 rfl (by kernel_rfl) (by kernel_rfl) (by funext j; exact placesA_eq _ _ (by kernel_rfl) j)
attribute [go_sem] Tryz.underlying14
@[go_sem] theorem cellsOf14 : Tryz.prog.cellsOf 14 = 2 := by kernel_rfl
@[go_sem] theorem isAgg14 : isAggT Tryz.prog 14 = some true := by kernel_rfl
@[go_sem] theorem ok14 : tyOk Tryz.prog 14 = true := by kernel_rfl
@[go_sem] theorem bytes14 : Tryz.prog.bytesOf 14 = 24 := by kernel_rfl
@[go_sem] theorem zero14 : zeroOf Tryz.prog 14 = some (.p (.agg [(.str []), (.int .u64 0)])) := by kernel_rfl
@[go_sem] theorem zeroLen14 : appendA.zeroLen Tryz.prog 14 = 2 := by kernel_rfl
@[go_sem] theorem field14_0 : fieldOff Tryz.prog 14 0 = some 0 := by kernel_rfl
@[go_sem] theorem field14_1 : fieldOff Tryz.prog 14 1 = some 1 := by kernel_rfl
@[go_sem] theorem build14 (parts : List (Nat × AV)) : buildA Tryz.prog 14 parts = (fillG (fun j => [(0, 1), (1, 1)][j]?) [.p (.str []), .p (.int .u64 0)] parts).map mkAgg :=
  buildA_eq _ _ zero14 rfl (by kernel_rfl) (by kernel_rfl) (by funext j; exact placesA_eq _ _ (by kernel_rfl) j)
attribute [go_sem] Tryz.underlying15
@[go_sem] theorem cellsOf15 : Tryz.prog.cellsOf 15 = 1 := by kernel_rfl
@[go_sem] theorem isAgg15 : isAggT Tryz.prog 15 = some false := by kernel_rfl
@[go_sem] theorem ok15 : tyOk Tryz.prog 15 = true := by kernel_rfl
@[go_sem] theorem bytes15 : Tryz.prog.bytesOf 15 = 8 := by kernel_rfl
@[go_sem] theorem zero15 : zeroOf Tryz.prog 15 = some (.p .nilp) := by kernel_rfl
@[go_sem] theorem zeroLen15 : appendA.zeroLen Tryz.prog 15 = 1 := by kernel_rfl
attribute [go_sem] Tryz.underlying16
@[go_sem] theorem cellsOf16 : Tryz.prog.cellsOf 16 = 1 := by kernel_rfl
@[go_sem] theorem isAgg16 : isAggT Tryz.prog 16 = some false := by kernel_rfl
@[go_sem] theorem ok16 : tyOk Tryz.prog 16 = true := by kernel_rfl
@[go_sem] theorem bytes16 : Tryz.prog.bytesOf 16 = 8 := by kernel_rfl
@[go_sem] theorem zero16 : zeroOf Tryz.prog 16 = some (.p .nilp) := by kernel_rfl
@[go_sem] theorem zeroLen16 : appendA.zeroLen Tryz.prog 16 = 1 := by kernel_rfl
attribute [go_sem] Tryz.underlying17
@[go_sem] theorem cellsOf17 : Tryz.prog.cellsOf 17 = 1 := by kernel_rfl
@[go_sem] theorem isAgg17 : isAggT Tryz.prog 17 = some false := by kernel_rfl
@[go_sem] theorem ok17 : tyOk Tryz.prog 17 = true := by kernel_rfl
@[go_sem] theorem bytes17 : Tryz.prog.bytesOf 17 = 8 := by kernel_rfl
@[go_sem] theorem zero17 : zeroOf Tryz.prog 17 = some (.p .nilp) := by kernel_rfl
@[go_sem] theorem zeroLen17 : appendA.zeroLen Tryz.prog 17 = 1 := by kernel_rfl
attribute [go_sem] Tryz.underlying18
@[go_sem] theorem cellsOf18 : Tryz.prog.cellsOf 18 = 1 := by kernel_rfl
@[go_sem] theorem isAgg18 : isAggT Tryz.prog 18 = some true := by kernel_rfl
@[go_sem] theorem ok18 : tyOk Tryz.prog 18 = true := by kernel_rfl
@[go_sem] theorem bytes18 : Tryz.prog.bytesOf 18 = 8 := by kernel_rfl
@[go_sem] theorem zero18 : zeroOf Tryz.prog 18 = some (.p (.agg [.nilp])) := by kernel_rfl
@[go_sem] theorem zeroLen18 : appendA.zeroLen Tryz.prog 18 = 1 := by kernel_rfl
@[go_sem] theorem field18_0 : fieldOff Tryz.prog 18 0 = some 0 := by kernel_rfl
@[go_sem] theorem build18 (parts : List (Nat × AV)) : buildA Tryz.prog 18 parts = (fillG (fun j => [(0, 1)][j]?) [.p .nilp] parts).map mkAgg :=
  buildA_eq _ _ zero18 rfl (by kernel_rfl) (by kernel_rfl) (by funext j; exact placesA_eq _ _ (by kernel_rfl) j)
attribute [go_sem] Tryz.underlying19
@[go_sem] theorem cellsOf19 : Tryz.prog.cellsOf 19 = 1 := by kernel_rfl
@[go_sem] theorem isAgg19 : isAggT Tryz.prog 19 = some true := by kernel_rfl
@[go_sem] theorem ok19 : tyOk Tryz.prog 19 = true := by kernel_rfl
@[go_sem] theorem bytes19 : Tryz.prog.bytesOf 19 = 8 := by kernel_rfl
@[go_sem] theorem zero19 : zeroOf Tryz.prog 19 = some (.p (.agg [.nilp])) := by kernel_rfl
@[go_sem] theorem zeroLen19 : appendA.zeroLen Tryz.prog 19 = 1 := by kernel_rfl
@[go_sem] theorem field19_0 : fieldOff Tryz.prog 19 0 = some 0 := by kernel_rfl
@[go_sem] theorem build19 (parts : List (Nat × AV)) : buildA Tryz.prog 19 parts = (fillG (fun j => [(0, 1)][j]?) [.p .nilp] parts).map mkAgg :=
  buildA_eq _ _ zero19 rfl (by kernel_rfl) (by kernel_rfl) (by funext j; exact placesA_eq _ _ (by kernel_rfl) j)
attribute [go_sem] Tryz.underlying20
@[go_sem] theorem cellsOf20 : Tryz.prog.cellsOf 20 = 1 := by kernel_rfl
@[go_sem] theorem isAgg20 : isAggT Tryz.prog 20 = some false := by kernel_rfl
@[go_sem] theorem ok20 : tyOk Tryz.prog 20 = true := by kernel_rfl
@[go_sem] theorem bytes20 : Tryz.prog.bytesOf 20 = 16 := by kernel_rfl
@[go_sem] theorem zero20 : zeroOf Tryz.prog 20 = some (.p .nili) := by kernel_rfl
@[go_sem] theorem zeroLen20 : appendA.zeroLen Tryz.prog 20 = 1 := by kernel_rfl
attribute [go_sem] Tryz.underlying21
@[go_sem] theorem cellsOf21 : Tryz.prog.cellsOf 21 = 1 := by kernel_rfl
@[go_sem] theorem isAgg21 : isAggT Tryz.prog 21 = some false := by kernel_rfl
@[go_sem] theorem ok21 : tyOk Tryz.prog 21 = true := by kernel_rfl
@[go_sem] theorem bytes21 : Tryz.prog.bytesOf 21 = 4 := by kernel_rfl
@[go_sem] theorem zero21 : zeroOf Tryz.prog 21 = some (.p (.int .i32 0)) := by kernel_rfl
@[go_sem] theorem zeroLen21 : appendA.zeroLen Tryz.prog 21 = 1 := by kernel_rfl
@[go_sem] theorem eqI21 (d : Nat) (k k' : IntKind) (a b : Int) : eqT Tryz.prog (d + 1) 21 [.int k a] [.int k' b] = if k = k' then some (a == b) else none := eqT_int _ Tryz.underlying21 d k k' a b
attribute [go_sem] Tryz.underlying22
@[go_sem] theorem cellsOf22 : Tryz.prog.cellsOf 22 = 1 := by kernel_rfl
@[go_sem] theorem isAgg22 : isAggT Tryz.prog 22 = some false := by kernel_rfl
@[go_sem] theorem ok22 : tyOk Tryz.prog 22 = true := by kernel_rfl
@[go_sem] theorem bytes22 : Tryz.prog.bytesOf 22 = 24 := by kernel_rfl
@[go_sem] theorem zero22 : zeroOf Tryz.prog 22 = some (.nils) := by kernel_rfl
@[go_sem] theorem zeroLen22 : appendA.zeroLen Tryz.prog 22 = 1 := by kernel_rfl
attribute [go_sem] Tryz.underlying23
@[go_sem] theorem cellsOf23 : Tryz.prog.cellsOf 23 = 3 := by kernel_rfl
@[go_sem] theorem isAgg23 : isAggT Tryz.prog 23 = some true := by kernel_rfl
@[go_sem] theorem ok23 : tyOk Tryz.prog 23 = true := by kernel_rfl
@[go_sem] theorem bytes23 : Tryz.prog.bytesOf 23 = 24 := by kernel_rfl
@[go_sem] theorem zero23 : zeroOf Tryz.prog 23 = some (.p (.agg [(.int .i64 0), (.int .i64 0), (.int .i64 0)])) := by kernel_rfl
@[go_sem] theorem zeroLen23 : appendA.zeroLen Tryz.prog 23 = 3 := by kernel_rfl
@[go_sem] theorem build23 (parts : List (Nat × AV)) : buildA Tryz.prog 23 parts = (fillG (fun i => some (i * 1, 1)) [.p (.int .i64 0), .p (.int .i64 0), .p (.int .i64 0)] parts).map mkAgg :=
  buildA_arr _ _ zero23 rfl Tryz.underlying23 (by kernel_rfl) (by kernel_rfl)
@[go_sem] theorem eqS23 (d : Nat) (xs ys : List PV) : eqT Tryz.prog (d + 1) 23 xs ys = eqL (eqT Tryz.prog d) [(3, 0, 1), (3, 1, 1), (3, 2, 1)] xs ys := eqT_array _ Tryz.underlying23 (by kernel_rfl) (by kernel_rfl) d xs ys
@[go_sem] theorem eqg23 : Tryz.prog.eqGuardType Tryz.prog.depth 23 = false := by kernel_rfl
attribute [go_sem] Tryz.underlying24
@[go_sem] theorem cellsOf24 : Tryz.prog.cellsOf 24 = 1 := by kernel_rfl
@[go_sem] theorem isAgg24 : isAggT Tryz.prog 24 = some false := by kernel_rfl
@[go_sem] theorem ok24 : tyOk Tryz.prog 24 = true := by kernel_rfl
@[go_sem] theorem bytes24 : Tryz.prog.bytesOf 24 = 24 := by kernel_rfl
@[go_sem] theorem zero24 : zeroOf Tryz.prog 24 = some (.nils) := by kernel_rfl
@[go_sem] theorem zeroLen24 : appendA.zeroLen Tryz.prog 24 = 1 := by kernel_rfl
attribute [go_sem] Tryz.underlying25
@[go_sem] theorem cellsOf25 : Tryz.prog.cellsOf 25 = 3 := by kernel_rfl
@[go_sem] theorem isAgg25 : isAggT Tryz.prog 25 = some true := by kernel_rfl
@[go_sem] theorem ok25 : tyOk Tryz.prog 25 = true := by kernel_rfl
@[go_sem] theorem bytes25 : Tryz.prog.bytesOf 25 = 64 := by kernel_rfl
@[go_sem] theorem zero25 : zeroOf Tryz.prog 25 = some (.agg [.p (.str []), .nils, .nils]) := by kernel_rfl
@[go_sem] theorem zeroLen25 : appendA.zeroLen Tryz.prog 25 = 3 := by kernel_rfl
@[go_sem] theorem field25_0 : fieldOff Tryz.prog 25 0 = some 0 := by kernel_rfl
@[go_sem] theorem field25_1 : fieldOff Tryz.prog 25 1 = some 1 := by kernel_rfl
@[go_sem] theorem field25_2 : fieldOff Tryz.prog 25 2 = some 2 := by kernel_rfl
@[go_sem] theorem build25 (parts : List (Nat × AV)) : buildA Tryz.prog 25 parts = (fillG (fun j => [(0, 1), (1, 1), (2, 1)][j]?) [.p (.str []), .nils, .nils] parts).map mkAgg :=
  buildA_eq _ _ zero25 rfl (by kernel_rfl) (by kernel_rfl) (by funext j; exact placesA_eq _ _ (by kernel_rfl) j)
attribute [go_sem] Tryz.underlying26
@[go_sem] theorem cellsOf26 : Tryz.prog.cellsOf 26 = 3 := by kernel_rfl
@[go_sem] theorem isAgg26 : isAggT Tryz.prog 26 = some true := by kernel_rfl
@[go_sem] theorem ok26 : tyOk Tryz.prog 26 = true := by kernel_rfl
@[go_sem] theorem bytes26 : Tryz.prog.bytesOf 26 = 64 := by kernel_rfl
@[go_sem] theorem zero26 : zeroOf Tryz.prog 26 = some (.agg [.p (.str []), .nils, .nils]) := by kernel_rfl
@[go_sem] theorem zeroLen26 : appendA.zeroLen Tryz.prog 26 = 3 := by kernel_rfl
@[go_sem] theorem field26_0 : fieldOff Tryz.prog 26 0 = some 0 := by kernel_rfl
@[go_sem] theorem field26_1 : fieldOff Tryz.prog 26 1 = some 1 := by kernel_rfl
@[go_sem] theorem field26_2 : fieldOff Tryz.prog 26 2 = some 2 := by kernel_rfl
@[go_sem] theorem build26 (parts : List (Nat × AV)) : buildA Tryz.prog 26 parts = (fillG (fun j => [(0, 1), (1, 1), (2, 1)][j]?) [.p (.str []), .nils, .nils] parts).map mkAgg :=
  buildA_eq _ _ zero26 rfl (by kernel_rfl) (by kernel_rfl) (by funext j; exact placesA_eq _ _ (by kernel_rfl) j)
attribute [go_sem] Tryz.underlying28
@[go_sem] theorem cellsOf28 : Tryz.prog.cellsOf 28 = 1 := by kernel_rfl
@[go_sem] theorem isAgg28 : isAggT Tryz.prog 28 = some false := by kernel_rfl
@[go_sem] theorem ok28 : tyOk Tryz.prog 28 = true := by kernel_rfl
@[go_sem] theorem bytes28 : Tryz.prog.bytesOf 28 = 8 := by kernel_rfl
@[go_sem] theorem zero28 : zeroOf Tryz.prog 28 = some (.p .nilf) := by kernel_rfl
@[go_sem] theorem zeroLen28 : appendA.zeroLen Tryz.prog 28 = 1 := by kernel_rfl
attribute [go_sem] Tryz.underlying29
@[go_sem] theorem cellsOf29 : Tryz.prog.cellsOf 29 = 1 := by kernel_rfl
@[go_sem] theorem isAgg29 : isAggT Tryz.prog 29 = some false := by kernel_rfl
@[go_sem] theorem ok29 : tyOk Tryz.prog 29 = true := by kernel_rfl
@[go_sem] theorem bytes29 : Tryz.prog.bytesOf 29 = 8 := by kernel_rfl
@[go_sem] theorem zero29 : zeroOf Tryz.prog 29 = some (.p .nilf) := by kernel_rfl
@[go_sem] theorem zeroLen29 : appendA.zeroLen Tryz.prog 29 = 1 := by kernel_rfl
attribute [go_sem] Tryz.underlying30
@[go_sem] theorem cellsOf30 : Tryz.prog.cellsOf 30 = 1 := by kernel_rfl
@[go_sem] theorem isAgg30 : isAggT Tryz.prog 30 = some false := by kernel_rfl
@[go_sem] theorem ok30 : tyOk Tryz.prog 30 = true := by kernel_rfl
@[go_sem] theorem bytes30 : Tryz.prog.bytesOf 30 = 24 := by kernel_rfl
@[go_sem] theorem zero30 : zeroOf Tryz.prog 30 = some (.nils) := by kernel_rfl
@[go_sem] theorem zeroLen30 : appendA.zeroLen Tryz.prog 30 = 1 := by kernel_rfl
attribute [go_sem] Tryz.underlying31
@[go_sem] theorem cellsOf31 : Tryz.prog.cellsOf 31 = 1 := by kernel_rfl
@[go_sem] theorem isAgg31 : isAggT Tryz.prog 31 = some false := by kernel_rfl
@[go_sem] theorem ok31 : tyOk Tryz.prog 31 = true := by kernel_rfl
@[go_sem] theorem bytes31 : Tryz.prog.bytesOf 31 = 8 := by kernel_rfl
@[go_sem] theorem zero31 : zeroOf Tryz.prog 31 = some (.p (.int .i64 0)) := by kernel_rfl
@[go_sem] theorem zeroLen31 : appendA.zeroLen Tryz.prog 31 = 1 := by kernel_rfl
@[go_sem] theorem eqI31 (d : Nat) (k k' : IntKind) (a b : Int) : eqT Tryz.prog (d + 1) 31 [.int k a] [.int k' b] = if k = k' then some (a == b) else none := eqT_int _ Tryz.underlying31 d k k' a b
attribute [go_sem] Tryz.underlying33
@[go_sem] theorem cellsOf33 : Tryz.prog.cellsOf 33 = 1 := by kernel_rfl
@[go_sem] theorem isAgg33 : isAggT Tryz.prog 33 = some false := by kernel_rfl
@[go_sem] theorem ok33 : tyOk Tryz.prog 33 = true := by kernel_rfl
@[go_sem] theorem bytes33 : Tryz.prog.bytesOf 33 = 8 := by kernel_rfl
@[go_sem] theorem zero33 : zeroOf Tryz.prog 33 = some (.p .nilf) := by kernel_rfl
@[go_sem] theorem zeroLen33 : appendA.zeroLen Tryz.prog 33 = 1 := by kernel_rfl
attribute [go_sem] Tryz.underlying34
@[go_sem] theorem cellsOf34 : Tryz.prog.cellsOf 34 = 1 := by kernel_rfl
@[go_sem] theorem isAgg34 : isAggT Tryz.prog 34 = some false := by kernel_rfl
@[go_sem] theorem ok34 : tyOk Tryz.prog 34 = true := by kernel_rfl
@[go_sem] theorem bytes34 : Tryz.prog.bytesOf 34 = 8 := by kernel_rfl
@[go_sem] theorem zero34 : zeroOf Tryz.prog 34 = some (.p .nilf) := by kernel_rfl
@[go_sem] theorem zeroLen34 : appendA.zeroLen Tryz.prog 34 = 1 := by kernel_rfl
attribute [go_sem] Tryz.underlying35
@[go_sem] theorem cellsOf35 : Tryz.prog.cellsOf 35 = 1 := by kernel_rfl
@[go_sem] theorem isAgg35 : isAggT Tryz.prog 35 = some false := by kernel_rfl
@[go_sem] theorem ok35 : tyOk Tryz.prog 35 = true := by kernel_rfl
@[go_sem] theorem bytes35 : Tryz.prog.bytesOf 35 = 8 := by kernel_rfl
@[go_sem] theorem zero35 : zeroOf Tryz.prog 35 = some (.p .nilf) := by kernel_rfl
@[go_sem] theorem zeroLen35 : appendA.zeroLen Tryz.prog 35 = 1 := by kernel_rfl
attribute [go_sem] Tryz.underlying36
@[go_sem] theorem cellsOf36 : Tryz.prog.cellsOf 36 = 1 := by kernel_rfl
@[go_sem] theorem isAgg36 : isAggT Tryz.prog 36 = some false := by kernel_rfl
@[go_sem] theorem ok36 : tyOk Tryz.prog 36 = true := by kernel_rfl
@[go_sem] theorem bytes36 : Tryz.prog.bytesOf 36 = 8 := by kernel_rfl
@[go_sem] theorem zero36 : zeroOf Tryz.prog 36 = some (.p .nilf) := by kernel_rfl
@[go_sem] theorem zeroLen36 : appendA.zeroLen Tryz.prog 36 = 1 := by kernel_rfl
attribute [go_sem] Tryz.underlying37
@[go_sem] theorem cellsOf37 : Tryz.prog.cellsOf 37 = 1 := by kernel_rfl
@[go_sem] theorem isAgg37 : isAggT Tryz.prog 37 = some false := by kernel_rfl
@[go_sem] theorem ok37 : tyOk Tryz.prog 37 = true := by kernel_rfl
@[go_sem] theorem bytes37 : Tryz.prog.bytesOf 37 = 8 := by kernel_rfl
@[go_sem] theorem zero37 : zeroOf Tryz.prog 37 = some (.p .nilf) := by kernel_rfl
@[go_sem] theorem zeroLen37 : appendA.zeroLen Tryz.prog 37 = 1 := by kernel_rfl
attribute [go_sem] Tryz.underlying38
@[go_sem] theorem cellsOf38 : Tryz.prog.cellsOf 38 = 1 := by kernel_rfl
@[go_sem] theorem isAgg38 : isAggT Tryz.prog 38 = some false := by kernel_rfl
@[go_sem] theorem ok38 : tyOk Tryz.prog 38 = true := by kernel_rfl
@[go_sem] theorem bytes38 : Tryz.prog.bytesOf 38 = 24 := by kernel_rfl
@[go_sem] theorem zero38 : zeroOf Tryz.prog 38 = some (.nils) := by kernel_rfl
@[go_sem] theorem zeroLen38 : appendA.zeroLen Tryz.prog 38 = 1 := by kernel_rfl
attribute [go_sem] Tryz.underlying39
@[go_sem] theorem cellsOf39 : Tryz.prog.cellsOf 39 = 1 := by kernel_rfl
@[go_sem] theorem isAgg39 : isAggT Tryz.prog 39 = some false := by kernel_rfl
@[go_sem] theorem ok39 : tyOk Tryz.prog 39 = true := by kernel_rfl
@[go_sem] theorem bytes39 : Tryz.prog.bytesOf 39 = 8 := by kernel_rfl
@[go_sem] theorem zero39 : zeroOf Tryz.prog 39 = some (.p .nilf) := by kernel_rfl
@[go_sem] theorem zeroLen39 : appendA.zeroLen Tryz.prog 39 = 1 := by kernel_rfl
attribute [go_sem] Tryz.underlying40
@[go_sem] theorem cellsOf40 : Tryz.prog.cellsOf 40 = 1 := by kernel_rfl
@[go_sem] theorem isAgg40 : isAggT Tryz.prog 40 = some false := by kernel_rfl
@[go_sem] theorem ok40 : tyOk Tryz.prog 40 = true := by kernel_rfl
@[go_sem] theorem bytes40 : Tryz.prog.bytesOf 40 = 8 := by kernel_rfl
@[go_sem] theorem zero40 : zeroOf Tryz.prog 40 = some (.p .nilf) := by kernel_rfl
@[go_sem] theorem zeroLen40 : appendA.zeroLen Tryz.prog 40 = 1 := by kernel_rfl
attribute [go_sem] Tryz.underlying41
@[go_sem] theorem cellsOf41 : Tryz.prog.cellsOf 41 = 1 := by kernel_rfl
@[go_sem] theorem isAgg41 : isAggT Tryz.prog 41 = some false := by kernel_rfl
@[go_sem] theorem ok41 : tyOk Tryz.prog 41 = true := by kernel_rfl
@[go_sem] theorem bytes41 : Tryz.prog.bytesOf 41 = 8 := by kernel_rfl
@[go_sem] theorem zero41 : zeroOf Tryz.prog 41 = some (.p .nilf) := by kernel_rfl
@[go_sem] theorem zeroLen41 : appendA.zeroLen Tryz.prog 41 = 1 := by kernel_rfl
attribute [go_sem] Tryz.underlying43
@[go_sem] theorem cellsOf43 : Tryz.prog.cellsOf 43 = 2 := by kernel_rfl
@[go_sem] theorem isAgg43 : isAggT Tryz.prog 43 = some true := by kernel_rfl
@[go_sem] theorem ok43 : tyOk Tryz.prog 43 = true := by kernel_rfl
@[go_sem] theorem bytes43 : Tryz.prog.bytesOf 43 = 16 := by kernel_rfl
@[go_sem] theorem zero43 : zeroOf Tryz.prog 43 = some (.p (.agg [(.int .i64 0), (.int .i64 0)])) := by kernel_rfl
@[go_sem] theorem zeroLen43 : appendA.zeroLen Tryz.prog 43 = 2 := by kernel_rfl
@[go_sem] theorem build43 (parts : List (Nat × AV)) : buildA Tryz.prog 43 parts = (fillG (fun i => some (i * 1, 1)) [.p (.int .i64 0), .p (.int .i64 0)] parts).map mkAgg :=
  buildA_arr _ _ zero43 rfl Tryz.underlying43 (by kernel_rfl) (by kernel_rfl)
@[go_sem] theorem eqS43 (d : Nat) (xs ys : List PV) : eqT Tryz.prog (d + 1) 43 xs ys = eqL (eqT Tryz.prog d) [(2, 0, 1), (2, 1, 1)] xs ys := eqT_array _ Tryz.underlying43 (by kernel_rfl) (by kernel_rfl) d xs ys
@[go_sem] theorem eqg43 : Tryz.prog.eqGuardType Tryz.prog.depth 43 = false := by kernel_rfl
attribute [go_sem] Tryz.underlying44
@[go_sem] theorem cellsOf44 : Tryz.prog.cellsOf 44 = 1 := by kernel_rfl
@[go_sem] theorem isAgg44 : isAggT Tryz.prog 44 = some false := by kernel_rfl
@[go_sem] theorem ok44 : tyOk Tryz.prog 44 = true := by kernel_rfl
@[go_sem] theorem bytes44 : Tryz.prog.bytesOf 44 = 8 := by kernel_rfl
@[go_sem] theorem zero44 : zeroOf Tryz.prog 44 = some (.p .nilf) := by kernel_rfl
@[go_sem] theorem zeroLen44 : appendA.zeroLen Tryz.prog 44 = 1 := by kernel_rfl
attribute [go_sem] Tryz.underlying45
@[go_sem] theorem cellsOf45 : Tryz.prog.cellsOf 45 = 2 := by kernel_rfl
@[go_sem] theorem isAgg45 : isAggT Tryz.prog 45 = some true := by kernel_rfl
@[go_sem] theorem ok45 : tyOk Tryz.prog 45 = true := by kernel_rfl
@[go_sem] theorem bytes45 : Tryz.prog.bytesOf 45 = 16 := by kernel_rfl
@[go_sem] theorem zero45 : zeroOf Tryz.prog 45 = some (.p (.agg [(.int .i64 0), (.int .i64 0)])) := by kernel_rfl
@[go_sem] theorem zeroLen45 : appendA.zeroLen Tryz.prog 45 = 2 := by kernel_rfl
@[go_sem] theorem field45_0 : fieldOff Tryz.prog 45 0 = some 0 := by kernel_rfl
@[go_sem] theorem field45_1 : fieldOff Tryz.prog 45 1 = some 1 := by kernel_rfl
@[go_sem] theorem build45 (parts : List (Nat × AV)) : buildA Tryz.prog 45 parts = (fillG (fun j => [(0, 1), (1, 1)][j]?) [.p (.int .i64 0), .p (.int .i64 0)] parts).map mkAgg :=
  buildA_eq _ _ zero45 rfl (by kernel_rfl) (by kernel_rfl) (by funext j; exact placesA_eq _ _ (by kernel_rfl) j)
@[go_sem] theorem eqS45 (d : Nat) (xs ys : List PV) : eqT Tryz.prog (d + 1) 45 xs ys = eqL (eqT Tryz.prog d) [(2, 0, 1), (2, 1, 1)] xs ys := eqT_struct _ (by kernel_rfl) (by kernel_rfl) (by kernel_rfl) (by kernel_rfl) d xs ys
@[go_sem] theorem eqg45 : Tryz.prog.eqGuardType Tryz.prog.depth 45 = false := by kernel_rfl
attribute [go_sem] Tryz.underlying46
@[go_sem] theorem cellsOf46 : Tryz.prog.cellsOf 46 = 2 := by kernel_rfl
@[go_sem] theorem isAgg46 : isAggT Tryz.prog 46 = some true := by kernel_rfl
@[go_sem] theorem ok46 : tyOk Tryz.prog 46 = true := by kernel_rfl
@[go_sem] theorem bytes46 : Tryz.prog.bytesOf 46 = 16 := by kernel_rfl
@[go_sem] theorem zero46 : zeroOf Tryz.prog 46 = some (.p (.agg [(.int .i64 0), (.int .i64 0)])) := by kernel_rfl
@[go_sem] theorem zeroLen46 : appendA.zeroLen Tryz.prog 46 = 2 := by kernel_rfl
@[go_sem] theorem field46_0 : fieldOff Tryz.prog 46 0 = some 0 := by kernel_rfl
@[go_sem] theorem field46_1 : fieldOff Tryz.prog 46 1 = some 1 := by kernel_rfl
@[go_sem] theorem build46 (parts : List (Nat × AV)) : buildA Tryz.prog 46 parts = (fillG (fun j => [(0, 1), (1, 1)][j]?) [.p (.int .i64 0), .p (.int .i64 0)] parts).map mkAgg :=
  buildA_eq _ _ zero46 rfl (by kernel_rfl) (by kernel_rfl) (by funext j; exact placesA_eq _ _ (by kernel_rfl) j)
@[go_sem] theorem eqS46 (d : Nat) (xs ys : List PV) : eqT Tryz.prog (d + 1) 46 xs ys = eqL (eqT Tryz.prog d) [(2, 0, 1), (2, 1, 1)] xs ys := eqT_struct _ (by kernel_rfl) (by kernel_rfl) (by kernel_rfl) (by kernel_rfl) d xs ys
@[go_sem] theorem eqg46 : Tryz.prog.eqGuardType Tryz.prog.depth 46 = false := by kernel_rfl
attribute [go_sem] Tryz.underlying48
@[go_sem] theorem cellsOf48 : Tryz.prog.cellsOf 48 = 1 := by kernel_rfl
@[go_sem] theorem isAgg48 : isAggT Tryz.prog 48 = some false := by kernel_rfl
@[go_sem] theorem ok48 : tyOk Tryz.prog 48 = true := by kernel_rfl
@[go_sem] theorem bytes48 : Tryz.prog.bytesOf 48 = 8 := by kernel_rfl
@[go_sem] theorem zero48 : zeroOf Tryz.prog 48 = some (.p .nilf) := by kernel_rfl
@[go_sem] theorem zeroLen48 : appendA.zeroLen Tryz.prog 48 = 1 := by kernel_rfl
attribute [go_sem] Tryz.underlying49
@[go_sem] theorem cellsOf49 : Tryz.prog.cellsOf 49 = 1 := by kernel_rfl
@[go_sem] theorem isAgg49 : isAggT Tryz.prog 49 = some false := by kernel_rfl
@[go_sem] theorem ok49 : tyOk Tryz.prog 49 = true := by kernel_rfl
@[go_sem] theorem bytes49 : Tryz.prog.bytesOf 49 = 8 := by kernel_rfl
@[go_sem] theorem zero49 : zeroOf Tryz.prog 49 = some (.p .nilf) := by kernel_rfl
@[go_sem] theorem zeroLen49 : appendA.zeroLen Tryz.prog 49 = 1 := by kernel_rfl
attribute [go_sem] Tryz.underlying50
@[go_sem] theorem cellsOf50 : Tryz.prog.cellsOf 50 = 1 := by kernel_rfl
@[go_sem] theorem isAgg50 : isAggT Tryz.prog 50 = some false := by kernel_rfl
@[go_sem] theorem ok50 : tyOk Tryz.prog 50 = true := by kernel_rfl
@[go_sem] theorem bytes50 : Tryz.prog.bytesOf 50 = 8 := by kernel_rfl
@[go_sem] theorem zero50 : zeroOf Tryz.prog 50 = some (.p .nilf) := by kernel_rfl
@[go_sem] theorem zeroLen50 : appendA.zeroLen Tryz.prog 50 = 1 := by kernel_rfl
attribute [go_sem] Tryz.underlying51
@[go_sem] theorem cellsOf51 : Tryz.prog.cellsOf 51 = 1 := by kernel_rfl
@[go_sem] theorem isAgg51 : isAggT Tryz.prog 51 = some false := by kernel_rfl
@[go_sem] theorem ok51 : tyOk Tryz.prog 51 = true := by kernel_rfl
@[go_sem] theorem bytes51 : Tryz.prog.bytesOf 51 = 8 := by kernel_rfl
@[go_sem] theorem zero51 : zeroOf Tryz.prog 51 = some (.p .nilf) := by kernel_rfl
@[go_sem] theorem zeroLen51 : appendA.zeroLen Tryz.prog 51 = 1 := by kernel_rfl
attribute [go_sem] Tryz.underlying52
@[go_sem] theorem cellsOf52 : Tryz.prog.cellsOf 52 = 1 := by kernel_rfl
@[go_sem] theorem isAgg52 : isAggT Tryz.prog 52 = some false := by kernel_rfl
@[go_sem] theorem ok52 : tyOk Tryz.prog 52 = true := by kernel_rfl
@[go_sem] theorem bytes52 : Tryz.prog.bytesOf 52 = 8 := by kernel_rfl
@[go_sem] theorem zero52 : zeroOf Tryz.prog 52 = some (.p .nilf) := by kernel_rfl
@[go_sem] theorem zeroLen52 : appendA.zeroLen Tryz.prog 52 = 1 := by kernel_rfl
attribute [go_sem] Tryz.underlying53
@[go_sem] theorem cellsOf53 : Tryz.prog.cellsOf 53 = 3 := by kernel_rfl
@[go_sem] theorem isAgg53 : isAggT Tryz.prog 53 = some true := by kernel_rfl
@[go_sem] theorem ok53 : tyOk Tryz.prog 53 = true := by kernel_rfl
@[go_sem] theorem bytes53 : Tryz.prog.bytesOf 53 = 32 := by kernel_rfl
@[go_sem] theorem zero53 : zeroOf Tryz.prog 53 = some (.p (.agg [(.int .i64 0), (.int .i64 0), (.str [])])) := by kernel_rfl
@[go_sem] theorem zeroLen53 : appendA.zeroLen Tryz.prog 53 = 3 := by kernel_rfl
@[go_sem] theorem field53_0 : fieldOff Tryz.prog 53 0 = some 0 := by kernel_rfl
@[go_sem] theorem field53_1 : fieldOff Tryz.prog 53 1 = some 1 := by kernel_rfl
@[go_sem] theorem field53_2 : fieldOff Tryz.prog 53 2 = some 2 := by kernel_rfl
@[go_sem] theorem build53 (parts : List (Nat × AV)) : buildA Tryz.prog 53 parts = (fillG (fun j => [(0, 1), (1, 1), (2, 1)][j]?) [.p (.int .i64 0), .p (.int .i64 0), .p (.str [])] parts).map mkAgg :=
  buildA_eq _ _ zero53 rfl (by kernel_rfl) (by kernel_rfl) (by funext j; exact placesA_eq _ _ (by kernel_rfl) j)
@[go_sem] theorem eqS53 (d : Nat) (xs ys : List PV) : eqT Tryz.prog (d + 1) 53 xs ys = eqL (eqT Tryz.prog d) [(3, 0, 1), (2, 1, 1), (9, 2, 1)] xs ys := eqT_struct _ (by kernel_rfl) (by kernel_rfl) (by kernel_rfl) (by kernel_rfl) d xs ys
@[go_sem] theorem eqg53 : Tryz.prog.eqGuardType Tryz.prog.depth 53 = false := by kernel_rfl
attribute [go_sem] Tryz.underlying54
@[go_sem] theorem cellsOf54 : Tryz.prog.cellsOf 54 = 3 := by kernel_rfl
@[go_sem] theorem isAgg54 : isAggT Tryz.prog 54 = some true := by kernel_rfl
@[go_sem] theorem ok54 : tyOk Tryz.prog 54 = true := by kernel_rfl
@[go_sem] theorem bytes54 : Tryz.prog.bytesOf 54 = 32 := by kernel_rfl
@[go_sem] theorem zero54 : zeroOf Tryz.prog 54 = some (.p (.agg [(.int .i64 0), (.int .i64 0), (.str [])])) := by kernel_rfl
@[go_sem] theorem zeroLen54 : appendA.zeroLen Tryz.prog 54 = 3 := by kernel_rfl
@[go_sem] theorem field54_0 : fieldOff Tryz.prog 54 0 = some 0 := by kernel_rfl
@[go_sem] theorem field54_1 : fieldOff Tryz.prog 54 1 = some 1 := by kernel_rfl
@[go_sem] theorem field54_2 : fieldOff Tryz.prog 54 2 = some 2 := by kernel_rfl
@[go_sem] theorem build54 (parts : List (Nat × AV)) : buildA Tryz.prog 54 parts = (fillG (fun j => [(0, 1), (1, 1), (2, 1)][j]?) [.p (.int .i64 0), .p (.int .i64 0), .p (.str [])] parts).map mkAgg :=
  buildA_eq _ _ zero54 rfl (by kernel_rfl) (by kernel_rfl) (by funext j; exact placesA_eq _ _ (by kernel_rfl) j)
@[go_sem] theorem eqS54 (d : Nat) (xs ys : List PV) : eqT Tryz.prog (d + 1) 54 xs ys = eqL (eqT Tryz.prog d) [(3, 0, 1), (2, 1, 1), (9, 2, 1)] xs ys := eqT_struct _ (by kernel_rfl) (by kernel_rfl) (by kernel_rfl) (by kernel_rfl) d xs ys
@[go_sem] theorem eqg54 : Tryz.prog.eqGuardType Tryz.prog.depth 54 = false := by kernel_rfl
attribute [go_sem] Tryz.underlying55
@[go_sem] theorem cellsOf55 : Tryz.prog.cellsOf 55 = 1 := by kernel_rfl
@[go_sem] theorem isAgg55 : isAggT Tryz.prog 55 = some false := by kernel_rfl
@[go_sem] theorem ok55 : tyOk Tryz.prog 55 = true := by kernel_rfl
@[go_sem] theorem bytes55 : Tryz.prog.bytesOf 55 = 24 := by kernel_rfl
@[go_sem] theorem zero55 : zeroOf Tryz.prog 55 = some (.nils) := by kernel_rfl
@[go_sem] theorem zeroLen55 : appendA.zeroLen Tryz.prog 55 = 1 := by kernel_rfl
attribute [go_sem] Tryz.underlying56
@[go_sem] theorem cellsOf56 : Tryz.prog.cellsOf 56 = 2 := by kernel_rfl
@[go_sem] theorem isAgg56 : isAggT Tryz.prog 56 = some true := by kernel_rfl
@[go_sem] theorem ok56 : tyOk Tryz.prog 56 = true := by kernel_rfl
@[go_sem] theorem bytes56 : Tryz.prog.bytesOf 56 = 32 := by kernel_rfl
@[go_sem] theorem zero56 : zeroOf Tryz.prog 56 = some (.agg [.p (.int .i64 0), .nils]) := by kernel_rfl
@[go_sem] theorem zeroLen56 : appendA.zeroLen Tryz.prog 56 = 2 := by kernel_rfl
@[go_sem] theorem field56_0 : fieldOff Tryz.prog 56 0 = some 0 := by kernel_rfl
@[go_sem] theorem field56_1 : fieldOff Tryz.prog 56 1 = some 1 := by kernel_rfl
@[go_sem] theorem build56 (parts : List (Nat × AV)) : buildA Tryz.prog 56 parts = (fillG (fun j => [(0, 1), (1, 1)][j]?) [.p (.int .i64 0), .nils] parts).map mkAgg :=
  buildA_eq _ _ zero56 rfl (by kernel_rfl) (by kernel_rfl) (by funext j; exact placesA_eq _ _ (by kernel_rfl) j)
attribute [go_sem] Tryz.underlying57
@[go_sem] theorem cellsOf57 : Tryz.prog.cellsOf 57 = 2 := by kernel_rfl
@[go_sem] theorem isAgg57 : isAggT Tryz.prog 57 = some true := by kernel_rfl
@[go_sem] theorem ok57 : tyOk Tryz.prog 57 = true := by kernel_rfl
@[go_sem] theorem bytes57 : Tryz.prog.bytesOf 57 = 32 := by kernel_rfl
@[go_sem] theorem zero57 : zeroOf Tryz.prog 57 = some (.agg [.p (.int .i64 0), .nils]) := by kernel_rfl
@[go_sem] theorem zeroLen57 : appendA.zeroLen Tryz.prog 57 = 2 := by kernel_rfl
@[go_sem] theorem field57_0 : fieldOff Tryz.prog 57 0 = some 0 := by kernel_rfl
@[go_sem] theorem field57_1 : fieldOff Tryz.prog 57 1 = some 1 := by kernel_rfl
@[go_sem] theorem build57 (parts : List (Nat × AV)) : buildA Tryz.prog 57 parts = (fillG (fun j => [(0, 1), (1, 1)][j]?) [.p (.int .i64 0), .nils] parts).map mkAgg :=
  buildA_eq _ _ zero57 rfl (by kernel_rfl) (by kernel_rfl) (by funext j; exact placesA_eq _ _ (by kernel_rfl) j)
attribute [go_sem] Tryz.underlying58
@[go_sem] theorem cellsOf58 : Tryz.prog.cellsOf 58 = 1 := by kernel_rfl
@[go_sem] theorem isAgg58 : isAggT Tryz.prog 58 = some false := by kernel_rfl
@[go_sem] theorem ok58 : tyOk Tryz.prog 58 = true := by kernel_rfl
@[go_sem] theorem bytes58 : Tryz.prog.bytesOf 58 = 8 := by kernel_rfl
@[go_sem] theorem zero58 : zeroOf Tryz.prog 58 = some (.p .nilf) := by kernel_rfl
@[go_sem] theorem zeroLen58 : appendA.zeroLen Tryz.prog 58 = 1 := by kernel_rfl
attribute [go_sem] Tryz.underlying59
@[go_sem] theorem cellsOf59 : Tryz.prog.cellsOf 59 = 1 := by kernel_rfl
@[go_sem] theorem isAgg59 : isAggT Tryz.prog 59 = some false := by kernel_rfl
@[go_sem] theorem ok59 : tyOk Tryz.prog 59 = true := by kernel_rfl
@[go_sem] theorem bytes59 : Tryz.prog.bytesOf 59 = 8 := by kernel_rfl
@[go_sem] theorem zero59 : zeroOf Tryz.prog 59 = some (.p .nilf) := by kernel_rfl
@[go_sem] theorem zeroLen59 : appendA.zeroLen Tryz.prog 59 = 1 := by kernel_rfl
attribute [go_sem] Tryz.underlying60
@[go_sem] theorem cellsOf60 : Tryz.prog.cellsOf 60 = 1 := by kernel_rfl
@[go_sem] theorem isAgg60 : isAggT Tryz.prog 60 = some false := by kernel_rfl
@[go_sem] theorem ok60 : tyOk Tryz.prog 60 = true := by kernel_rfl
@[go_sem] theorem bytes60 : Tryz.prog.bytesOf 60 = 8 := by kernel_rfl
@[go_sem] theorem zero60 : zeroOf Tryz.prog 60 = some (.p .nilf) := by kernel_rfl
@[go_sem] theorem zeroLen60 : appendA.zeroLen Tryz.prog 60 = 1 := by kernel_rfl
attribute [go_sem] Tryz.underlying61
@[go_sem] theorem cellsOf61 : Tryz.prog.cellsOf 61 = 1 := by kernel_rfl
@[go_sem] theorem isAgg61 : isAggT Tryz.prog 61 = some false := by kernel_rfl
@[go_sem] theorem ok61 : tyOk Tryz.prog 61 = true := by kernel_rfl
@[go_sem] theorem bytes61 : Tryz.prog.bytesOf 61 = 8 := by kernel_rfl
@[go_sem] theorem zero61 : zeroOf Tryz.prog 61 = some (.p .nilf) := by kernel_rfl
@[go_sem] theorem zeroLen61 : appendA.zeroLen Tryz.prog 61 = 1 := by kernel_rfl
attribute [go_sem] Tryz.underlying62
@[go_sem] theorem cellsOf62 : Tryz.prog.cellsOf 62 = 1 := by kernel_rfl
@[go_sem] theorem isAgg62 : isAggT Tryz.prog 62 = some false := by kernel_rfl
@[go_sem] theorem ok62 : tyOk Tryz.prog 62 = true := by kernel_rfl
@[go_sem] theorem bytes62 : Tryz.prog.bytesOf 62 = 8 := by kernel_rfl
@[go_sem] theorem zero62 : zeroOf Tryz.prog 62 = some (.p .nilf) := by kernel_rfl
@[go_sem] theorem zeroLen62 : appendA.zeroLen Tryz.prog 62 = 1 := by kernel_rfl
attribute [go_sem] Tryz.underlying64
@[go_sem] theorem cellsOf64 : Tryz.prog.cellsOf 64 = 1 := by kernel_rfl
@[go_sem] theorem isAgg64 : isAggT Tryz.prog 64 = some false := by kernel_rfl
@[go_sem] theorem ok64 : tyOk Tryz.prog 64 = true := by kernel_rfl
@[go_sem] theorem bytes64 : Tryz.prog.bytesOf 64 = 24 := by kernel_rfl
@[go_sem] theorem zero64 : zeroOf Tryz.prog 64 = some (.nils) := by kernel_rfl
@[go_sem] theorem zeroLen64 : appendA.zeroLen Tryz.prog 64 = 1 := by kernel_rfl
attribute [go_sem] Tryz.underlying65
@[go_sem] theorem cellsOf65 : Tryz.prog.cellsOf 65 = 1 := by kernel_rfl
@[go_sem] theorem isAgg65 : isAggT Tryz.prog 65 = some false := by kernel_rfl
@[go_sem] theorem ok65 : tyOk Tryz.prog 65 = true := by kernel_rfl
@[go_sem] theorem bytes65 : Tryz.prog.bytesOf 65 = 8 := by kernel_rfl
@[go_sem] theorem zero65 : zeroOf Tryz.prog 65 = some (.p .nilf) := by kernel_rfl
@[go_sem] theorem zeroLen65 : appendA.zeroLen Tryz.prog 65 = 1 := by kernel_rfl
attribute [go_sem] Tryz.underlying66
@[go_sem] theorem cellsOf66 : Tryz.prog.cellsOf 66 = 1 := by kernel_rfl
@[go_sem] theorem isAgg66 : isAggT Tryz.prog 66 = some false := by kernel_rfl
@[go_sem] theorem ok66 : tyOk Tryz.prog 66 = true := by kernel_rfl
@[go_sem] theorem bytes66 : Tryz.prog.bytesOf 66 = 8 := by kernel_rfl
@[go_sem] theorem zero66 : zeroOf Tryz.prog 66 = some (.p .nilf) := by kernel_rfl
@[go_sem] theorem zeroLen66 : appendA.zeroLen Tryz.prog 66 = 1 := by kernel_rfl
attribute [go_sem] Tryz.underlying67
@[go_sem] theorem cellsOf67 : Tryz.prog.cellsOf 67 = 1 := by kernel_rfl
@[go_sem] theorem isAgg67 : isAggT Tryz.prog 67 = some false := by kernel_rfl
@[go_sem] theorem ok67 : tyOk Tryz.prog 67 = true := by kernel_rfl
@[go_sem] theorem bytes67 : Tryz.prog.bytesOf 67 = 8 := by kernel_rfl
@[go_sem] theorem zero67 : zeroOf Tryz.prog 67 = some (.p .nilf) := by kernel_rfl
@[go_sem] theorem zeroLen67 : appendA.zeroLen Tryz.prog 67 = 1 := by kernel_rfl
attribute [go_sem] Tryz.underlying68
@[go_sem] theorem cellsOf68 : Tryz.prog.cellsOf 68 = 1 := by kernel_rfl
@[go_sem] theorem isAgg68 : isAggT Tryz.prog 68 = some false := by kernel_rfl
@[go_sem] theorem ok68 : tyOk Tryz.prog 68 = true := by kernel_rfl
@[go_sem] theorem bytes68 : Tryz.prog.bytesOf 68 = 24 := by kernel_rfl
@[go_sem] theorem zero68 : zeroOf Tryz.prog 68 = some (.nils) := by kernel_rfl
@[go_sem] theorem zeroLen68 : appendA.zeroLen Tryz.prog 68 = 1 := by kernel_rfl
attribute [go_sem] Tryz.underlying70
@[go_sem] theorem cellsOf70 : Tryz.prog.cellsOf 70 = 1 := by kernel_rfl
@[go_sem] theorem isAgg70 : isAggT Tryz.prog 70 = some false := by kernel_rfl
@[go_sem] theorem ok70 : tyOk Tryz.prog 70 = true := by kernel_rfl
@[go_sem] theorem bytes70 : Tryz.prog.bytesOf 70 = 8 := by kernel_rfl
@[go_sem] theorem zero70 : zeroOf Tryz.prog 70 = some (.p .nilf) := by kernel_rfl
@[go_sem] theorem zeroLen70 : appendA.zeroLen Tryz.prog 70 = 1 := by kernel_rfl
attribute [go_sem] Tryz.underlying71
@[go_sem] theorem cellsOf71 : Tryz.prog.cellsOf 71 = 1 := by kernel_rfl
@[go_sem] theorem isAgg71 : isAggT Tryz.prog 71 = some false := by kernel_rfl
@[go_sem] theorem ok71 : tyOk Tryz.prog 71 = true := by kernel_rfl
@[go_sem] theorem bytes71 : Tryz.prog.bytesOf 71 = 8 := by kernel_rfl
@[go_sem] theorem zero71 : zeroOf Tryz.prog 71 = some (.p .nilf) := by kernel_rfl
@[go_sem] theorem zeroLen71 : appendA.zeroLen Tryz.prog 71 = 1 := by kernel_rfl
attribute [go_sem] Tryz.underlying72
@[go_sem] theorem cellsOf72 : Tryz.prog.cellsOf 72 = 1 := by kernel_rfl
@[go_sem] theorem isAgg72 : isAggT Tryz.prog 72 = some false := by kernel_rfl
@[go_sem] theorem ok72 : tyOk Tryz.prog 72 = true := by kernel_rfl
@[go_sem] theorem bytes72 : Tryz.prog.bytesOf 72 = 8 := by kernel_rfl
@[go_sem] theorem zero72 : zeroOf Tryz.prog 72 = some (.p .nilf) := by kernel_rfl
@[go_sem] theorem zeroLen72 : appendA.zeroLen Tryz.prog 72 = 1 := by kernel_rfl
attribute [go_sem] Tryz.underlying75
@[go_sem] theorem cellsOf75 : Tryz.prog.cellsOf 75 = 1 := by kernel_rfl
@[go_sem] theorem isAgg75 : isAggT Tryz.prog 75 = some false := by kernel_rfl
@[go_sem] theorem ok75 : tyOk Tryz.prog 75 = true := by kernel_rfl
@[go_sem] theorem bytes75 : Tryz.prog.bytesOf 75 = 8 := by kernel_rfl
@[go_sem] theorem zero75 : zeroOf Tryz.prog 75 = some (.p .nilf) := by kernel_rfl
@[go_sem] theorem zeroLen75 : appendA.zeroLen Tryz.prog 75 = 1 := by kernel_rfl
attribute [go_sem] Tryz.underlying76
@[go_sem] theorem cellsOf76 : Tryz.prog.cellsOf 76 = 1 := by kernel_rfl
@[go_sem] theorem isAgg76 : isAggT Tryz.prog 76 = some false := by kernel_rfl
@[go_sem] theorem ok76 : tyOk Tryz.prog 76 = true := by kernel_rfl
@[go_sem] theorem bytes76 : Tryz.prog.bytesOf 76 = 8 := by kernel_rfl
@[go_sem] theorem zero76 : zeroOf Tryz.prog 76 = some (.p .nilf) := by kernel_rfl
@[go_sem] theorem zeroLen76 : appendA.zeroLen Tryz.prog 76 = 1 := by kernel_rfl
attribute [go_sem] Tryz.underlying78
@[go_sem] theorem cellsOf78 : Tryz.prog.cellsOf 78 = 1 := by kernel_rfl
@[go_sem] theorem isAgg78 : isAggT Tryz.prog 78 = some false := by kernel_rfl
@[go_sem] theorem ok78 : tyOk Tryz.prog 78 = true := by kernel_rfl
@[go_sem] theorem bytes78 : Tryz.prog.bytesOf 78 = 8 := by kernel_rfl
@[go_sem] theorem zero78 : zeroOf Tryz.prog 78 = some (.p .nilf) := by kernel_rfl
@[go_sem] theorem zeroLen78 : appendA.zeroLen Tryz.prog 78 = 1 := by kernel_rfl
attribute [go_sem] Tryz.underlying80
@[go_sem] theorem cellsOf80 : Tryz.prog.cellsOf 80 = 1 := by kernel_rfl
@[go_sem] theorem isAgg80 : isAggT Tryz.prog 80 = some false := by kernel_rfl
@[go_sem] theorem ok80 : tyOk Tryz.prog 80 = true := by kernel_rfl
@[go_sem] theorem bytes80 : Tryz.prog.bytesOf 80 = 8 := by kernel_rfl
@[go_sem] theorem zero80 : zeroOf Tryz.prog 80 = some (.p .nilf) := by kernel_rfl
@[go_sem] theorem zeroLen80 : appendA.zeroLen Tryz.prog 80 = 1 := by kernel_rfl
attribute [go_sem] Tryz.underlying83
@[go_sem] theorem cellsOf83 : Tryz.prog.cellsOf 83 = 1 := by kernel_rfl
@[go_sem] theorem isAgg83 : isAggT Tryz.prog 83 = some false := by kernel_rfl
@[go_sem] theorem ok83 : tyOk Tryz.prog 83 = true := by kernel_rfl
@[go_sem] theorem bytes83 : Tryz.prog.bytesOf 83 = 8 := by kernel_rfl
@[go_sem] theorem zero83 : zeroOf Tryz.prog 83 = some (.p .nilf) := by kernel_rfl
@[go_sem] theorem zeroLen83 : appendA.zeroLen Tryz.prog 83 = 1 := by kernel_rfl
attribute [go_sem] Tryz.underlying84
@[go_sem] theorem cellsOf84 : Tryz.prog.cellsOf 84 = 1 := by kernel_rfl
@[go_sem] theorem isAgg84 : isAggT Tryz.prog 84 = some false := by kernel_rfl
@[go_sem] theorem ok84 : tyOk Tryz.prog 84 = true := by kernel_rfl
@[go_sem] theorem bytes84 : Tryz.prog.bytesOf 84 = 8 := by kernel_rfl
@[go_sem] theorem zero84 : zeroOf Tryz.prog 84 = some (.p .nilf) := by kernel_rfl
@[go_sem] theorem zeroLen84 : appendA.zeroLen Tryz.prog 84 = 1 := by kernel_rfl
attribute [go_sem] Tryz.underlying85
@[go_sem] theorem cellsOf85 : Tryz.prog.cellsOf 85 = 1 := by kernel_rfl
@[go_sem] theorem isAgg85 : isAggT Tryz.prog 85 = some false := by kernel_rfl
@[go_sem] theorem ok85 : tyOk Tryz.prog 85 = true := by kernel_rfl
@[go_sem] theorem bytes85 : Tryz.prog.bytesOf 85 = 8 := by kernel_rfl
@[go_sem] theorem zero85 : zeroOf Tryz.prog 85 = some (.p .nilf) := by kernel_rfl
@[go_sem] theorem zeroLen85 : appendA.zeroLen Tryz.prog 85 = 1 := by kernel_rfl
attribute [go_sem] Tryz.underlying87
@[go_sem] theorem cellsOf87 : Tryz.prog.cellsOf 87 = 1 := by kernel_rfl
@[go_sem] theorem isAgg87 : isAggT Tryz.prog 87 = some false := by kernel_rfl
@[go_sem] theorem ok87 : tyOk Tryz.prog 87 = true := by kernel_rfl
@[go_sem] theorem bytes87 : Tryz.prog.bytesOf 87 = 8 := by kernel_rfl
@[go_sem] theorem zero87 : zeroOf Tryz.prog 87 = some (.p .nilf) := by kernel_rfl
@[go_sem] theorem zeroLen87 : appendA.zeroLen Tryz.prog 87 = 1 := by kernel_rfl
attribute [go_sem] Tryz.underlying93
@[go_sem] theorem cellsOf93 : Tryz.prog.cellsOf 93 = 1 := by kernel_rfl
@[go_sem] theorem isAgg93 : isAggT Tryz.prog 93 = some false := by kernel_rfl
@[go_sem] theorem ok93 : tyOk Tryz.prog 93 = true := by kernel_rfl
@[go_sem] theorem bytes93 : Tryz.prog.bytesOf 93 = 8 := by kernel_rfl
@[go_sem] theorem zero93 : zeroOf Tryz.prog 93 = some (.p (.int .u64 0)) := by kernel_rfl
@[go_sem] theorem zeroLen93 : appendA.zeroLen Tryz.prog 93 = 1 := by kernel_rfl
@[go_sem] theorem eqI93 (d : Nat) (k k' : IntKind) (a b : Int) : eqT Tryz.prog (d + 1) 93 [.int k a] [.int k' b] = if k = k' then some (a == b) else none := eqT_int _ Tryz.underlying93 d k k' a b
attribute [go_sem] Tryz.underlying96
@[go_sem] theorem cellsOf96 : Tryz.prog.cellsOf 96 = 1 := by kernel_rfl
@[go_sem] theorem isAgg96 : isAggT Tryz.prog 96 = some false := by kernel_rfl
@[go_sem] theorem ok96 : tyOk Tryz.prog 96 = true := by kernel_rfl
@[go_sem] theorem bytes96 : Tryz.prog.bytesOf 96 = 8 := by kernel_rfl
@[go_sem] theorem zero96 : zeroOf Tryz.prog 96 = some (.p .nilf) := by kernel_rfl
@[go_sem] theorem zeroLen96 : appendA.zeroLen Tryz.prog 96 = 1 := by kernel_rfl
attribute [go_sem] Tryz.underlying97
@[go_sem] theorem cellsOf97 : Tryz.prog.cellsOf 97 = 1 := by kernel_rfl
@[go_sem] theorem isAgg97 : isAggT Tryz.prog 97 = some false := by kernel_rfl
@[go_sem] theorem ok97 : tyOk Tryz.prog 97 = true := by kernel_rfl
@[go_sem] theorem bytes97 : Tryz.prog.bytesOf 97 = 8 := by kernel_rfl
@[go_sem] theorem zero97 : zeroOf Tryz.prog 97 = some (.p .nilf) := by kernel_rfl
@[go_sem] theorem zeroLen97 : appendA.zeroLen Tryz.prog 97 = 1 := by kernel_rfl
attribute [go_sem] Tryz.underlying98
@[go_sem] theorem cellsOf98 : Tryz.prog.cellsOf 98 = 1 := by kernel_rfl
@[go_sem] theorem isAgg98 : isAggT Tryz.prog 98 = some false := by kernel_rfl
@[go_sem] theorem ok98 : tyOk Tryz.prog 98 = true := by kernel_rfl
@[go_sem] theorem bytes98 : Tryz.prog.bytesOf 98 = 8 := by kernel_rfl
@[go_sem] theorem zero98 : zeroOf Tryz.prog 98 = some (.p .nilf) := by kernel_rfl
@[go_sem] theorem zeroLen98 : appendA.zeroLen Tryz.prog 98 = 1 := by kernel_rfl
attribute [go_sem] Tryz.underlying100
@[go_sem] theorem cellsOf100 : Tryz.prog.cellsOf 100 = 1 := by kernel_rfl
@[go_sem] theorem isAgg100 : isAggT Tryz.prog 100 = some false := by kernel_rfl
@[go_sem] theorem ok100 : tyOk Tryz.prog 100 = true := by kernel_rfl
@[go_sem] theorem bytes100 : Tryz.prog.bytesOf 100 = 8 := by kernel_rfl
@[go_sem] theorem zero100 : zeroOf Tryz.prog 100 = some (.p .nilf) := by kernel_rfl
@[go_sem] theorem zeroLen100 : appendA.zeroLen Tryz.prog 100 = 1 := by kernel_rfl
attribute [go_sem] Tryz.underlying103
@[go_sem] theorem cellsOf103 : Tryz.prog.cellsOf 103 = 1 := by kernel_rfl
@[go_sem] theorem isAgg103 : isAggT Tryz.prog 103 = some false := by kernel_rfl
@[go_sem] theorem ok103 : tyOk Tryz.prog 103 = true := by kernel_rfl
@[go_sem] theorem bytes103 : Tryz.prog.bytesOf 103 = 8 := by kernel_rfl
@[go_sem] theorem zero103 : zeroOf Tryz.prog 103 = some (.p .nilf) := by kernel_rfl
@[go_sem] theorem zeroLen103 : appendA.zeroLen Tryz.prog 103 = 1 := by kernel_rfl
attribute [go_sem] Tryz.underlying104
@[go_sem] theorem cellsOf104 : Tryz.prog.cellsOf 104 = 1 := by kernel_rfl
@[go_sem] theorem isAgg104 : isAggT Tryz.prog 104 = some false := by kernel_rfl
@[go_sem] theorem ok104 : tyOk Tryz.prog 104 = true := by kernel_rfl
@[go_sem] theorem bytes104 : Tryz.prog.bytesOf 104 = 8 := by kernel_rfl
@[go_sem] theorem zero104 : zeroOf Tryz.prog 104 = some (.p .nilf) := by kernel_rfl
@[go_sem] theorem zeroLen104 : appendA.zeroLen Tryz.prog 104 = 1 := by kernel_rfl
attribute [go_sem] Tryz.underlying105
@[go_sem] theorem cellsOf105 : Tryz.prog.cellsOf 105 = 1 := by kernel_rfl
@[go_sem] theorem isAgg105 : isAggT Tryz.prog 105 = some false := by kernel_rfl
@[go_sem] theorem ok105 : tyOk Tryz.prog 105 = true := by kernel_rfl
@[go_sem] theorem bytes105 : Tryz.prog.bytesOf 105 = 8 := by kernel_rfl
@[go_sem] theorem zero105 : zeroOf Tryz.prog 105 = some (.p (.int .u64 0)) := by kernel_rfl
@[go_sem] theorem zeroLen105 : appendA.zeroLen Tryz.prog 105 = 1 := by kernel_rfl
@[go_sem] theorem eqI105 (d : Nat) (k k' : IntKind) (a b : Int) : eqT Tryz.prog (d + 1) 105 [.int k a] [.int k' b] = if k = k' then some (a == b) else none := eqT_int _ Tryz.underlying105 d k k' a b
attribute [go_sem] Tryz.underlying109
@[go_sem] theorem cellsOf109 : Tryz.prog.cellsOf 109 = 1 := by kernel_rfl
@[go_sem] theorem isAgg109 : isAggT Tryz.prog 109 = some false := by kernel_rfl
@[go_sem] theorem ok109 : tyOk Tryz.prog 109 = true := by kernel_rfl
@[go_sem] theorem bytes109 : Tryz.prog.bytesOf 109 = 8 := by kernel_rfl
@[go_sem] theorem zero109 : zeroOf Tryz.prog 109 = some (.p .nilf) := by kernel_rfl
@[go_sem] theorem zeroLen109 : appendA.zeroLen Tryz.prog 109 = 1 := by kernel_rfl
attribute [go_sem] Tryz.underlying111
@[go_sem] theorem cellsOf111 : Tryz.prog.cellsOf 111 = 1 := by kernel_rfl
@[go_sem] theorem isAgg111 : isAggT Tryz.prog 111 = some false := by kernel_rfl
@[go_sem] theorem ok111 : tyOk Tryz.prog 111 = true := by kernel_rfl
@[go_sem] theorem bytes111 : Tryz.prog.bytesOf 111 = 8 := by kernel_rfl
@[go_sem] theorem zero111 : zeroOf Tryz.prog 111 = some (.p (.int .i64 0)) := by kernel_rfl
@[go_sem] theorem zeroLen111 : appendA.zeroLen Tryz.prog 111 = 1 := by kernel_rfl
@[go_sem] theorem eqI111 (d : Nat) (k k' : IntKind) (a b : Int) : eqT Tryz.prog (d + 1) 111 [.int k a] [.int k' b] = if k = k' then some (a == b) else none := eqT_int _ Tryz.underlying111 d k k' a b
attribute [go_sem] Tryz.underlying113
@[go_sem] theorem cellsOf113 : Tryz.prog.cellsOf 113 = 1 := by kernel_rfl
@[go_sem] theorem isAgg113 : isAggT Tryz.prog 113 = some false := by kernel_rfl
@[go_sem] theorem ok113 : tyOk Tryz.prog 113 = true := by kernel_rfl
@[go_sem] theorem bytes113 : Tryz.prog.bytesOf 113 = 8 := by kernel_rfl
@[go_sem] theorem zero113 : zeroOf Tryz.prog 113 = some (.p .nilf) := by kernel_rfl
@[go_sem] theorem zeroLen113 : appendA.zeroLen Tryz.prog 113 = 1 := by kernel_rfl
attribute [go_sem] Tryz.underlying116
@[go_sem] theorem cellsOf116 : Tryz.prog.cellsOf 116 = 1 := by kernel_rfl
@[go_sem] theorem isAgg116 : isAggT Tryz.prog 116 = some false := by kernel_rfl
@[go_sem] theorem ok116 : tyOk Tryz.prog 116 = true := by kernel_rfl
@[go_sem] theorem bytes116 : Tryz.prog.bytesOf 116 = 8 := by kernel_rfl
@[go_sem] theorem zero116 : zeroOf Tryz.prog 116 = some (.p .nilf) := by kernel_rfl
@[go_sem] theorem zeroLen116 : appendA.zeroLen Tryz.prog 116 = 1 := by kernel_rfl
attribute [go_sem] Tryz.underlying118
@[go_sem] theorem cellsOf118 : Tryz.prog.cellsOf 118 = 1 := by kernel_rfl
@[go_sem] theorem isAgg118 : isAggT Tryz.prog 118 = some false := by kernel_rfl
@[go_sem] theorem ok118 : tyOk Tryz.prog 118 = true := by kernel_rfl
@[go_sem] theorem bytes118 : Tryz.prog.bytesOf 118 = 4 := by kernel_rfl
@[go_sem] theorem zero118 : zeroOf Tryz.prog 118 = some (.p (.int .u32 0)) := by kernel_rfl
@[go_sem] theorem zeroLen118 : appendA.zeroLen Tryz.prog 118 = 1 := by kernel_rfl
@[go_sem] theorem eqI118 (d : Nat) (k k' : IntKind) (a b : Int) : eqT Tryz.prog (d + 1) 118 [.int k a] [.int k' b] = if k = k' then some (a == b) else none := eqT_int _ Tryz.underlying118 d k k' a b
attribute [go_sem] Tryz.underlying120
@[go_sem] theorem cellsOf120 : Tryz.prog.cellsOf 120 = 1 := by kernel_rfl
@[go_sem] theorem isAgg120 : isAggT Tryz.prog 120 = some false := by kernel_rfl
@[go_sem] theorem ok120 : tyOk Tryz.prog 120 = true := by kernel_rfl
@[go_sem] theorem bytes120 : Tryz.prog.bytesOf 120 = 8 := by kernel_rfl
@[go_sem] theorem zero120 : zeroOf Tryz.prog 120 = some (.p .nilf) := by kernel_rfl
@[go_sem] theorem zeroLen120 : appendA.zeroLen Tryz.prog 120 = 1 := by kernel_rfl
attribute [go_sem] Tryz.underlying124
@[go_sem] theorem cellsOf124 : Tryz.prog.cellsOf 124 = 1 := by kernel_rfl
@[go_sem] theorem isAgg124 : isAggT Tryz.prog 124 = some false := by kernel_rfl
@[go_sem] theorem ok124 : tyOk Tryz.prog 124 = true := by kernel_rfl
@[go_sem] theorem bytes124 : Tryz.prog.bytesOf 124 = 8 := by kernel_rfl
@[go_sem] theorem zero124 : zeroOf Tryz.prog 124 = some (.p .nilp) := by kernel_rfl
@[go_sem] theorem zeroLen124 : appendA.zeroLen Tryz.prog 124 = 1 := by kernel_rfl
attribute [go_sem] Tryz.underlying125
@[go_sem] theorem cellsOf125 : Tryz.prog.cellsOf 125 = 1 := by kernel_rfl
@[go_sem] theorem isAgg125 : isAggT Tryz.prog 125 = some false := by kernel_rfl
@[go_sem] theorem ok125 : tyOk Tryz.prog 125 = true := by kernel_rfl
@[go_sem] theorem bytes125 : Tryz.prog.bytesOf 125 = 24 := by kernel_rfl
@[go_sem] theorem zero125 : zeroOf Tryz.prog 125 = some (.nils) := by kernel_rfl
@[go_sem] theorem zeroLen125 : appendA.zeroLen Tryz.prog 125 = 1 := by kernel_rfl
attribute [go_sem] Tryz.underlying126
@[go_sem] theorem cellsOf126 : Tryz.prog.cellsOf 126 = 2 := by kernel_rfl
@[go_sem] theorem isAgg126 : isAggT Tryz.prog 126 = some true := by kernel_rfl
@[go_sem] theorem ok126 : tyOk Tryz.prog 126 = true := by kernel_rfl
@[go_sem] theorem bytes126 : Tryz.prog.bytesOf 126 = 32 := by kernel_rfl
@[go_sem] theorem zero126 : zeroOf Tryz.prog 126 = some (.agg [.p .nilp, .nils]) := by kernel_rfl
@[go_sem] theorem zeroLen126 : appendA.zeroLen Tryz.prog 126 = 2 := by kernel_rfl
@[go_sem] theorem field126_0 : fieldOff Tryz.prog 126 0 = some 0 := by kernel_rfl
@[go_sem] theorem field126_1 : fieldOff Tryz.prog 126 1 = some 1 := by kernel_rfl
@[go_sem] theorem build126 (parts : List (Nat × AV)) : buildA Tryz.prog 126 parts = (fillG (fun j => [(0, 1), (1, 1)][j]?) [.p .nilp, .nils] parts).map mkAgg :=
  buildA_eq _ _ zero126 rfl (by kernel_rfl) (by kernel_rfl) (by funext j; exact placesA_eq _ _ (by kernel_rfl) j)
attribute [go_sem] Tryz.underlying127
@[go_sem] theorem cellsOf127 : Tryz.prog.cellsOf 127 = 2 := by kernel_rfl
@[go_sem] theorem isAgg127 : isAggT Tryz.prog 127 = some true := by kernel_rfl
@[go_sem] theorem ok127 : tyOk Tryz.prog 127 = true := by kernel_rfl
@[go_sem] theorem bytes127 : Tryz.prog.bytesOf 127 = 32 := by kernel_rfl
@[go_sem] theorem zero127 : zeroOf Tryz.prog 127 = some (.agg [.p .nilp, .nils]) := by kernel_rfl
@[go_sem] theorem zeroLen127 : appendA.zeroLen Tryz.prog 127 = 2 := by kernel_rfl
@[go_sem] theorem field127_0 : fieldOff Tryz.prog 127 0 = some 0 := by kernel_rfl
@[go_sem] theorem field127_1 : fieldOff Tryz.prog 127 1 = some 1 := by kernel_rfl
@[go_sem] theorem build127 (parts : List (Nat × AV)) : buildA Tryz.prog 127 parts = (fillG (fun j => [(0, 1), (1, 1)][j]?) [.p .nilp, .nils] parts).map mkAgg :=
  buildA_eq _ _ zero127 rfl (by kernel_rfl) (by kernel_rfl) (by funext j; exact placesA_eq _ _ (by kernel_rfl) j)
attribute [go_sem] Tryz.underlying129
@[go_sem] theorem cellsOf129 : Tryz.prog.cellsOf 129 = 1 := by kernel_rfl
@[go_sem] theorem isAgg129 : isAggT Tryz.prog 129 = some false := by kernel_rfl
@[go_sem] theorem ok129 : tyOk Tryz.prog 129 = true := by kernel_rfl
@[go_sem] theorem bytes129 : Tryz.prog.bytesOf 129 = 16 := by kernel_rfl
@[go_sem] theorem zero129 : zeroOf Tryz.prog 129 = some (.p .nili) := by kernel_rfl
@[go_sem] theorem zeroLen129 : appendA.zeroLen Tryz.prog 129 = 1 := by kernel_rfl
attribute [go_sem] Tryz.underlying130
@[go_sem] theorem cellsOf130 : Tryz.prog.cellsOf 130 = 1 := by kernel_rfl
@[go_sem] theorem isAgg130 : isAggT Tryz.prog 130 = some false := by kernel_rfl
@[go_sem] theorem ok130 : tyOk Tryz.prog 130 = true := by kernel_rfl
@[go_sem] theorem bytes130 : Tryz.prog.bytesOf 130 = 16 := by kernel_rfl
@[go_sem] theorem zero130 : zeroOf Tryz.prog 130 = some (.p .nili) := by kernel_rfl
@[go_sem] theorem zeroLen130 : appendA.zeroLen Tryz.prog 130 = 1 := by kernel_rfl
attribute [go_sem] Tryz.underlying134
@[go_sem] theorem cellsOf134 : Tryz.prog.cellsOf 134 = 1 := by kernel_rfl
@[go_sem] theorem isAgg134 : isAggT Tryz.prog 134 = some false := by kernel_rfl
@[go_sem] theorem ok134 : tyOk Tryz.prog 134 = true := by kernel_rfl
@[go_sem] theorem bytes134 : Tryz.prog.bytesOf 134 = 8 := by kernel_rfl
@[go_sem] theorem zero134 : zeroOf Tryz.prog 134 = some (.p .nilf) := by kernel_rfl
@[go_sem] theorem zeroLen134 : appendA.zeroLen Tryz.prog 134 = 1 := by kernel_rfl
attribute [go_sem] Tryz.underlying139
@[go_sem] theorem cellsOf139 : Tryz.prog.cellsOf 139 = 1 := by kernel_rfl
@[go_sem] theorem isAgg139 : isAggT Tryz.prog 139 = some false := by kernel_rfl
@[go_sem] theorem ok139 : tyOk Tryz.prog 139 = true := by kernel_rfl
@[go_sem] theorem bytes139 : Tryz.prog.bytesOf 139 = 8 := by kernel_rfl
@[go_sem] theorem zero139 : zeroOf Tryz.prog 139 = some (.p .nilf) := by kernel_rfl
@[go_sem] theorem zeroLen139 : appendA.zeroLen Tryz.prog 139 = 1 := by kernel_rfl
attribute [go_sem] Tryz.underlying143
@[go_sem] theorem cellsOf143 : Tryz.prog.cellsOf 143 = 1 := by kernel_rfl
@[go_sem] theorem isAgg143 : isAggT Tryz.prog 143 = some false := by kernel_rfl
@[go_sem] theorem ok143 : tyOk Tryz.prog 143 = true := by kernel_rfl
@[go_sem] theorem bytes143 : Tryz.prog.bytesOf 143 = 8 := by kernel_rfl
@[go_sem] theorem zero143 : zeroOf Tryz.prog 143 = some (.p .nilf) := by kernel_rfl
@[go_sem] theorem zeroLen143 : appendA.zeroLen Tryz.prog 143 = 1 := by kernel_rfl
attribute [go_sem] Tryz.underlying144
@[go_sem] theorem cellsOf144 : Tryz.prog.cellsOf 144 = 1 := by kernel_rfl
@[go_sem] theorem isAgg144 : isAggT Tryz.prog 144 = some false := by kernel_rfl
@[go_sem] theorem ok144 : tyOk Tryz.prog 144 = true := by kernel_rfl
@[go_sem] theorem bytes144 : Tryz.prog.bytesOf 144 = 8 := by kernel_rfl
@[go_sem] theorem zero144 : zeroOf Tryz.prog 144 = some (.p .nilf) := by kernel_rfl
@[go_sem] theorem zeroLen144 : appendA.zeroLen Tryz.prog 144 = 1 := by kernel_rfl
attribute [go_sem] Tryz.underlying146
@[go_sem] theorem cellsOf146 : Tryz.prog.cellsOf 146 = 2 := by kernel_rfl
@[go_sem] theorem isAgg146 : isAggT Tryz.prog 146 = some true := by kernel_rfl
@[go_sem] theorem ok146 : tyOk Tryz.prog 146 = true := by kernel_rfl
@[go_sem] theorem bytes146 : Tryz.prog.bytesOf 146 = 16 := by kernel_rfl
@[go_sem] theorem zero146 : zeroOf Tryz.prog 146 = some (.p (.agg [(.int .u64 0), (.int .u64 0)])) := by kernel_rfl
@[go_sem] theorem zeroLen146 : appendA.zeroLen Tryz.prog 146 = 2 := by kernel_rfl
@[go_sem] theorem field146_0 : fieldOff Tryz.prog 146 0 = some 0 := by kernel_rfl
@[go_sem] theorem field146_1 : fieldOff Tryz.prog 146 1 = some 1 := by kernel_rfl
@[go_sem] theorem build146 (parts : List (Nat × AV)) : buildA Tryz.prog 146 parts = (fillG (fun j => [(0, 1), (1, 1)][j]?) [.p (.int .u64 0), .p (.int .u64 0)] parts).map mkAgg :=
  buildA_eq _ _ zero146 rfl (by kernel_rfl) (by kernel_rfl) (by funext j; exact placesA_eq _ _ (by kernel_rfl) j)
@[go_sem] theorem eqS146 (d : Nat) (xs ys : List PV) : eqT Tryz.prog (d + 1) 146 xs ys = eqL (eqT Tryz.prog d) [(105, 0, 1), (105, 1, 1)] xs ys := eqT_struct _ (by kernel_rfl) (by kernel_rfl) (by kernel_rfl) (by kernel_rfl) d xs ys
@[go_sem] theorem eqg146 : Tryz.prog.eqGuardType Tryz.prog.depth 146 = false := by kernel_rfl
attribute [go_sem] Tryz.underlying147
@[go_sem] theorem cellsOf147 : Tryz.prog.cellsOf 147 = 2 := by kernel_rfl
@[go_sem] theorem isAgg147 : isAggT Tryz.prog 147 = some true := by kernel_rfl
@[go_sem] theorem ok147 : tyOk Tryz.prog 147 = true := by kernel_rfl
@[go_sem] theorem bytes147 : Tryz.prog.bytesOf 147 = 16 := by kernel_rfl
@[go_sem] theorem zero147 : zeroOf Tryz.prog 147 = some (.p (.agg [(.int .u64 0), (.int .u64 0)])) := by kernel_rfl
@[go_sem] theorem zeroLen147 : appendA.zeroLen Tryz.prog 147 = 2 := by kernel_rfl
@[go_sem] theorem field147_0 : fieldOff Tryz.prog 147 0 = some 0 := by kernel_rfl
@[go_sem] theorem field147_1 : fieldOff Tryz.prog 147 1 = some 1 := by kernel_rfl
@[go_sem] theorem build147 (parts : List (Nat × AV)) : buildA Tryz.prog 147 parts = (fillG (fun j => [(0, 1), (1, 1)][j]?) [.p (.int .u64 0), .p (.int .u64 0)] parts).map mkAgg :=
  buildA_eq _ _ zero147 rfl (by kernel_rfl) (by kernel_rfl) (by funext j; exact placesA_eq _ _ (by kernel_rfl) j)
@[go_sem] theorem eqS147 (d : Nat) (xs ys : List PV) : eqT Tryz.prog (d + 1) 147 xs ys = eqL (eqT Tryz.prog d) [(105, 0, 1), (105, 1, 1)] xs ys := eqT_struct _ (by kernel_rfl) (by kernel_rfl) (by kernel_rfl) (by kernel_rfl) d xs ys
@[go_sem] theorem eqg147 : Tryz.prog.eqGuardType Tryz.prog.depth 147 = false := by kernel_rfl
attribute [go_sem] Tryz.underlying149
@[go_sem] theorem cellsOf149 : Tryz.prog.cellsOf 149 = 1 := by kernel_rfl
@[go_sem] theorem isAgg149 : isAggT Tryz.prog 149 = some false := by kernel_rfl
@[go_sem] theorem ok149 : tyOk Tryz.prog 149 = true := by kernel_rfl
@[go_sem] theorem bytes149 : Tryz.prog.bytesOf 149 = 8 := by kernel_rfl
@[go_sem] theorem zero149 : zeroOf Tryz.prog 149 = some (.p (.int .u64 0)) := by kernel_rfl
@[go_sem] theorem zeroLen149 : appendA.zeroLen Tryz.prog 149 = 1 := by kernel_rfl
@[go_sem] theorem eqI149 (d : Nat) (k k' : IntKind) (a b : Int) : eqT Tryz.prog (d + 1) 149 [.int k a] [.int k' b] = if k = k' then some (a == b) else none := eqT_int _ Tryz.underlying149 d k k' a b
attribute [go_sem] Tryz.underlying153
@[go_sem] theorem cellsOf153 : Tryz.prog.cellsOf 153 = 1 := by kernel_rfl
@[go_sem] theorem isAgg153 : isAggT Tryz.prog 153 = some false := by kernel_rfl
@[go_sem] theorem ok153 : tyOk Tryz.prog 153 = true := by kernel_rfl
@[go_sem] theorem bytes153 : Tryz.prog.bytesOf 153 = 8 := by kernel_rfl
@[go_sem] theorem zero153 : zeroOf Tryz.prog 153 = some (.p .nilp) := by kernel_rfl
@[go_sem] theorem zeroLen153 : appendA.zeroLen Tryz.prog 153 = 1 := by kernel_rfl
attribute [go_sem] Tryz.underlying160
@[go_sem] theorem cellsOf160 : Tryz.prog.cellsOf 160 = 1 := by kernel_rfl
@[go_sem] theorem isAgg160 : isAggT Tryz.prog 160 = some false := by kernel_rfl
@[go_sem] theorem ok160 : tyOk Tryz.prog 160 = true := by kernel_rfl
@[go_sem] theorem bytes160 : Tryz.prog.bytesOf 160 = 8 := by kernel_rfl
@[go_sem] theorem zero160 : zeroOf Tryz.prog 160 = some (.p .nilp) := by kernel_rfl
@[go_sem] theorem zeroLen160 : appendA.zeroLen Tryz.prog 160 = 1 := by kernel_rfl
attribute [go_sem] Tryz.underlying173
@[go_sem] theorem cellsOf173 : Tryz.prog.cellsOf 173 = 1 := by kernel_rfl
@[go_sem] theorem isAgg173 : isAggT Tryz.prog 173 = some false := by kernel_rfl
@[go_sem] theorem ok173 : tyOk Tryz.prog 173 = true := by kernel_rfl
@[go_sem] theorem bytes173 : Tryz.prog.bytesOf 173 = 8 := by kernel_rfl
@[go_sem] theorem zero173 : zeroOf Tryz.prog 173 = some (.p .nilp) := by kernel_rfl
@[go_sem] theorem zeroLen173 : appendA.zeroLen Tryz.prog 173 = 1 := by kernel_rfl
attribute [go_sem] Tryz.underlying185
@[go_sem] theorem cellsOf185 : Tryz.prog.cellsOf 185 = 4 := by kernel_rfl
@[go_sem] theorem isAgg185 : isAggT Tryz.prog 185 = some true := by kernel_rfl
@[go_sem] theorem ok185 : tyOk Tryz.prog 185 = true := by kernel_rfl
@[go_sem] theorem bytes185 : Tryz.prog.bytesOf 185 = 40 := by kernel_rfl
@[go_sem] theorem zero185 : zeroOf Tryz.prog 185 = some (.p (.agg [.nilp, .nilp, .nilp, (.str [])])) := by kernel_rfl
@[go_sem] theorem zeroLen185 : appendA.zeroLen Tryz.prog 185 = 4 := by kernel_rfl
@[go_sem] theorem field185_0 : fieldOff Tryz.prog 185 0 = some 0 := by kernel_rfl
@[go_sem] theorem field185_1 : fieldOff Tryz.prog 185 1 = some 1 := by kernel_rfl
@[go_sem] theorem field185_2 : fieldOff Tryz.prog 185 2 = some 2 := by kernel_rfl
@[go_sem] theorem field185_3 : fieldOff Tryz.prog 185 3 = some 3 := by kernel_rfl
@[go_sem] theorem build185 (parts : List (Nat × AV)) : buildA Tryz.prog 185 parts = (fillG (fun j => [(0, 1), (1, 1), (2, 1), (3, 1)][j]?) [.p .nilp, .p .nilp, .p .nilp, .p (.str [])] parts).map mkAgg :=
  buildA_eq _ _ zero185 rfl (by kernel_rfl) (by kernel_rfl) (by funext j; exact placesA_eq _ _ (by kernel_rfl) j)
attribute [go_sem] Tryz.underlying186
@[go_sem] theorem cellsOf186 : Tryz.prog.cellsOf 186 = 4 := by kernel_rfl
@[go_sem] theorem isAgg186 : isAggT Tryz.prog 186 = some true := by kernel_rfl
@[go_sem] theorem ok186 : tyOk Tryz.prog 186 = true := by kernel_rfl
@[go_sem] theorem bytes186 : Tryz.prog.bytesOf 186 = 40 := by kernel_rfl
@[go_sem] theorem zero186 : zeroOf Tryz.prog 186 = some (.p (.agg [.nilp, .nilp, .nilp, (.str [])])) := by kernel_rfl
@[go_sem] theorem zeroLen186 : appendA.zeroLen Tryz.prog 186 = 4 := by kernel_rfl
@[go_sem] theorem field186_0 : fieldOff Tryz.prog 186 0 = some 0 := by kernel_rfl
@[go_sem] theorem field186_1 : fieldOff Tryz.prog 186 1 = some 1 := by kernel_rfl
@[go_sem] theorem field186_2 : fieldOff Tryz.prog 186 2 = some 2 := by kernel_rfl
@[go_sem] theorem field186_3 : fieldOff Tryz.prog 186 3 = some 3 := by kernel_rfl
@[go_sem] theorem build186 (parts : List (Nat × AV)) : buildA Tryz.prog 186 parts = (fillG (fun j => [(0, 1), (1, 1), (2, 1), (3, 1)][j]?) [.p .nilp, .p .nilp, .p .nilp, .p (.str [])] parts).map mkAgg :=
  buildA_eq _ _ zero186 rfl (by kernel_rfl) (by kernel_rfl) (by funext j; exact placesA_eq _ _ (by kernel_rfl) j)
attribute [go_sem] Tryz.underlying187
@[go_sem] theorem cellsOf187 : Tryz.prog.cellsOf 187 = 0 := by kernel_rfl
@[go_sem] theorem isAgg187 : isAggT Tryz.prog 187 = some true := by kernel_rfl
@[go_sem] theorem ok187 : tyOk Tryz.prog 187 = true := by kernel_rfl
@[go_sem] theorem bytes187 : Tryz.prog.bytesOf 187 = 0 := by kernel_rfl
@[go_sem] theorem zero187 : zeroOf Tryz.prog 187 = some (.p (.agg [])) := by kernel_rfl
@[go_sem] theorem zeroLen187 : appendA.zeroLen Tryz.prog 187 = 0 := by kernel_rfl
attribute [go_sem] Tryz.underlying188
@[go_sem] theorem cellsOf188 : Tryz.prog.cellsOf 188 = 0 := by kernel_rfl
@[go_sem] theorem isAgg188 : isAggT Tryz.prog 188 = some true := by kernel_rfl
@[go_sem] theorem ok188 : tyOk Tryz.prog 188 = true := by kernel_rfl
@[go_sem] theorem bytes188 : Tryz.prog.bytesOf 188 = 0 := by kernel_rfl
@[go_sem] theorem zero188 : zeroOf Tryz.prog 188 = some (.p (.agg [])) := by kernel_rfl
@[go_sem] theorem zeroLen188 : appendA.zeroLen Tryz.prog 188 = 0 := by kernel_rfl
@[go_sem] theorem build188 (parts : List (Nat × AV)) : buildA Tryz.prog 188 parts = (fillG (fun j => [(0, 0)][j]?) [] parts).map mkAgg :=
  buildA_eq _ _ zero188 rfl (by kernel_rfl) (by kernel_rfl) (by funext j; exact placesA_eq _ _ (by kernel_rfl) j)
attribute [go_sem] Tryz.underlying189
@[go_sem] theorem cellsOf189 : Tryz.prog.cellsOf 189 = 0 := by kernel_rfl
@[go_sem] theorem isAgg189 : isAggT Tryz.prog 189 = some true := by kernel_rfl
@[go_sem] theorem ok189 : tyOk Tryz.prog 189 = true := by kernel_rfl
@[go_sem] theorem bytes189 : Tryz.prog.bytesOf 189 = 0 := by kernel_rfl
@[go_sem] theorem zero189 : zeroOf Tryz.prog 189 = some (.p (.agg [])) := by kernel_rfl
@[go_sem] theorem zeroLen189 : appendA.zeroLen Tryz.prog 189 = 0 := by kernel_rfl
@[go_sem] theorem build189 (parts : List (Nat × AV)) : buildA Tryz.prog 189 parts = (fillG (fun j => [(0, 0)][j]?) [] parts).map mkAgg :=
  buildA_eq _ _ zero189 rfl (by kernel_rfl) (by kernel_rfl) (by funext j; exact placesA_eq _ _ (by kernel_rfl) j)
attribute [go_sem] Tryz.underlying190
@[go_sem] theorem cellsOf190 : Tryz.prog.cellsOf 190 = 1 := by kernel_rfl
@[go_sem] theorem isAgg190 : isAggT Tryz.prog 190 = some false := by kernel_rfl
@[go_sem] theorem ok190 : tyOk Tryz.prog 190 = true := by kernel_rfl
@[go_sem] theorem bytes190 : Tryz.prog.bytesOf 190 = 1 := by kernel_rfl
@[go_sem] theorem zero190 : zeroOf Tryz.prog 190 = some (.p (.int .u8 0)) := by kernel_rfl
@[go_sem] theorem zeroLen190 : appendA.zeroLen Tryz.prog 190 = 1 := by kernel_rfl
@[go_sem] theorem eqI190 (d : Nat) (k k' : IntKind) (a b : Int) : eqT Tryz.prog (d + 1) 190 [.int k a] [.int k' b] = if k = k' then some (a == b) else none := eqT_int _ Tryz.underlying190 d k k' a b
attribute [go_sem] Tryz.underlying191
@[go_sem] theorem cellsOf191 : Tryz.prog.cellsOf 191 = 1 := by kernel_rfl
@[go_sem] theorem isAgg191 : isAggT Tryz.prog 191 = some false := by kernel_rfl
@[go_sem] theorem ok191 : tyOk Tryz.prog 191 = true := by kernel_rfl
@[go_sem] theorem bytes191 : Tryz.prog.bytesOf 191 = 1 := by kernel_rfl
@[go_sem] theorem zero191 : zeroOf Tryz.prog 191 = some (.p (.int .u8 0)) := by kernel_rfl
@[go_sem] theorem zeroLen191 : appendA.zeroLen Tryz.prog 191 = 1 := by kernel_rfl
@[go_sem] theorem eqI191 (d : Nat) (k k' : IntKind) (a b : Int) : eqT Tryz.prog (d + 1) 191 [.int k a] [.int k' b] = if k = k' then some (a == b) else none := eqT_int _ Tryz.underlying191 d k k' a b
attribute [go_sem] Tryz.underlying192
@[go_sem] theorem cellsOf192 : Tryz.prog.cellsOf 192 = 1 := by kernel_rfl
@[go_sem] theorem isAgg192 : isAggT Tryz.prog 192 = some false := by kernel_rfl
@[go_sem] theorem ok192 : tyOk Tryz.prog 192 = true := by kernel_rfl
@[go_sem] theorem bytes192 : Tryz.prog.bytesOf 192 = 8 := by kernel_rfl
@[go_sem] theorem zero192 : zeroOf Tryz.prog 192 = some (.p .nilf) := by kernel_rfl
@[go_sem] theorem zeroLen192 : appendA.zeroLen Tryz.prog 192 = 1 := by kernel_rfl
attribute [go_sem] Tryz.underlying193
@[go_sem] theorem cellsOf193 : Tryz.prog.cellsOf 193 = 1 := by kernel_rfl
@[go_sem] theorem isAgg193 : isAggT Tryz.prog 193 = some false := by kernel_rfl
@[go_sem] theorem ok193 : tyOk Tryz.prog 193 = true := by kernel_rfl
@[go_sem] theorem bytes193 : Tryz.prog.bytesOf 193 = 4 := by kernel_rfl
@[go_sem] theorem zero193 : zeroOf Tryz.prog 193 = some (.p (.int .i32 0)) := by kernel_rfl
@[go_sem] theorem zeroLen193 : appendA.zeroLen Tryz.prog 193 = 1 := by kernel_rfl
@[go_sem] theorem eqI193 (d : Nat) (k k' : IntKind) (a b : Int) : eqT Tryz.prog (d + 1) 193 [.int k a] [.int k' b] = if k = k' then some (a == b) else none := eqT_int _ Tryz.underlying193 d k k' a b
attribute [go_sem] Tryz.underlying194
@[go_sem] theorem cellsOf194 : Tryz.prog.cellsOf 194 = 1 := by kernel_rfl
@[go_sem] theorem isAgg194 : isAggT Tryz.prog 194 = some false := by kernel_rfl
@[go_sem] theorem ok194 : tyOk Tryz.prog 194 = true := by kernel_rfl
@[go_sem] theorem bytes194 : Tryz.prog.bytesOf 194 = 4 := by kernel_rfl
@[go_sem] theorem zero194 : zeroOf Tryz.prog 194 = some (.p (.int .i32 0)) := by kernel_rfl
@[go_sem] theorem zeroLen194 : appendA.zeroLen Tryz.prog 194 = 1 := by kernel_rfl
@[go_sem] theorem eqI194 (d : Nat) (k k' : IntKind) (a b : Int) : eqT Tryz.prog (d + 1) 194 [.int k a] [.int k' b] = if k = k' then some (a == b) else none := eqT_int _ Tryz.underlying194 d k k' a b
attribute [go_sem] Tryz.underlying195
@[go_sem] theorem cellsOf195 : Tryz.prog.cellsOf 195 = 11 := by kernel_rfl
@[go_sem] theorem isAgg195 : isAggT Tryz.prog 195 = some true := by kernel_rfl
@[go_sem] theorem ok195 : tyOk Tryz.prog 195 = true := by kernel_rfl
@[go_sem] theorem bytes195 : Tryz.prog.bytesOf 195 = 48 := by kernel_rfl
@[go_sem] theorem zero195 : zeroOf Tryz.prog 195 = some (.p (.agg [(.int .u64 0), (.int .u64 0), (.int .u32 0), (.int .u8 0), (.int .u8 0), (.int .u8 0), (.int .u8 0), .nilf, .nilp, (.int .i32 0), (.int .i32 0)])) := by kernel_rfl
@[go_sem] theorem zeroLen195 : appendA.zeroLen Tryz.prog 195 = 11 := by kernel_rfl
@[go_sem] theorem field195_0 : fieldOff Tryz.prog 195 0 = some 0 := by kernel_rfl
@[go_sem] theorem field195_1 : fieldOff Tryz.prog 195 1 = some 1 := by kernel_rfl
@[go_sem] theorem field195_2 : fieldOff Tryz.prog 195 2 = some 2 := by kernel_rfl
@[go_sem] theorem field195_3 : fieldOff Tryz.prog 195 3 = some 3 := by kernel_rfl
@[go_sem] theorem field195_4 : fieldOff Tryz.prog 195 4 = some 4 := by kernel_rfl
@[go_sem] theorem field195_5 : fieldOff Tryz.prog 195 5 = some 5 := by kernel_rfl
@[go_sem] theorem field195_6 : fieldOff Tryz.prog 195 6 = some 6 := by kernel_rfl
@[go_sem] theorem field195_7 : fieldOff Tryz.prog 195 7 = some 7 := by kernel_rfl
@[go_sem] theorem field195_8 : fieldOff Tryz.prog 195 8 = some 8 := by kernel_rfl
@[go_sem] theorem field195_9 : fieldOff Tryz.prog 195 9 = some 9 := by kernel_rfl
@[go_sem] theorem field195_10 : fieldOff Tryz.prog 195 10 = some 10 := by kernel_rfl
@[go_sem] theorem build195 (parts : List (Nat × AV)) : buildA Tryz.prog 195 parts = (fillG (fun j => [(0, 1), (1, 1), (2, 1), (3, 1), (4, 1), (5, 1), (6, 1), (7, 1), (8, 1), (9, 1), (10, 1)][j]?) [.p (.int .u64 0), .p (.int .u64 0), .p (.int .u32 0), .p (.int .u8 0), .p (.int .u8 0), .p (.int .u8 0), .p (.int .u8 0), .p .nilf, .p .nilp, .p (.int .i32 0), .p (.int .i32 0)] parts).map mkAgg :=
  buildA_eq _ _ zero195 rfl (by kernel_rfl) (by kernel_rfl) (by funext j; exact placesA_eq _ _ (by kernel_rfl) j)
attribute [go_sem] Tryz.underlying196
@[go_sem] theorem cellsOf196 : Tryz.prog.cellsOf 196 = 11 := by kernel_rfl
@[go_sem] theorem isAgg196 : isAggT Tryz.prog 196 = some true := by kernel_rfl
@[go_sem] theorem ok196 : tyOk Tryz.prog 196 = true := by kernel_rfl
@[go_sem] theorem bytes196 : Tryz.prog.bytesOf 196 = 48 := by kernel_rfl
@[go_sem] theorem zero196 : zeroOf Tryz.prog 196 = some (.p (.agg [(.int .u64 0), (.int .u64 0), (.int .u32 0), (.int .u8 0), (.int .u8 0), (.int .u8 0), (.int .u8 0), .nilf, .nilp, (.int .i32 0), (.int .i32 0)])) := by kernel_rfl
@[go_sem] theorem zeroLen196 : appendA.zeroLen Tryz.prog 196 = 11 := by kernel_rfl
@[go_sem] theorem field196_0 : fieldOff Tryz.prog 196 0 = some 0 := by kernel_rfl
@[go_sem] theorem field196_1 : fieldOff Tryz.prog 196 1 = some 1 := by kernel_rfl
@[go_sem] theorem field196_2 : fieldOff Tryz.prog 196 2 = some 2 := by kernel_rfl
@[go_sem] theorem field196_3 : fieldOff Tryz.prog 196 3 = some 3 := by kernel_rfl
@[go_sem] theorem field196_4 : fieldOff Tryz.prog 196 4 = some 4 := by kernel_rfl
@[go_sem] theorem field196_5 : fieldOff Tryz.prog 196 5 = some 5 := by kernel_rfl
@[go_sem] theorem field196_6 : fieldOff Tryz.prog 196 6 = some 6 := by kernel_rfl
@[go_sem] theorem field196_7 : fieldOff Tryz.prog 196 7 = some 7 := by kernel_rfl
@[go_sem] theorem field196_8 : fieldOff Tryz.prog 196 8 = some 8 := by kernel_rfl
@[go_sem] theorem field196_9 : fieldOff Tryz.prog 196 9 = some 9 := by kernel_rfl
@[go_sem] theorem field196_10 : fieldOff Tryz.prog 196 10 = some 10 := by kernel_rfl
@[go_sem] theorem build196 (parts : List (Nat × AV)) : buildA Tryz.prog 196 parts = (fillG (fun j => [(0, 1), (1, 1), (2, 1), (3, 1), (4, 1), (5, 1), (6, 1), (7, 1), (8, 1), (9, 1), (10, 1)][j]?) [.p (.int .u64 0), .p (.int .u64 0), .p (.int .u32 0), .p (.int .u8 0), .p (.int .u8 0), .p (.int .u8 0), .p (.int .u8 0), .p .nilf, .p .nilp, .p (.int .i32 0), .p (.int .i32 0)] parts).map mkAgg :=
  buildA_eq _ _ zero196 rfl (by kernel_rfl) (by kernel_rfl) (by funext j; exact placesA_eq _ _ (by kernel_rfl) j)
end Go.Proofs.YtbiklagfjeileaaGreat.Ty
