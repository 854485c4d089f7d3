/- What the logic asks of the types of the translation. -/
import Derived.Test.YtlaodgbkpmdhoaaGreatDoorProg
import Derived.KernelRfl
import Derived.Test.YtlaodgbkpmdhoaaGreatDoorA2
namespace Go.Proofs.YtlaodgbkpmdhoaaGreatDoor.Ty
open Go Go.Ab
set_option linter.unusedVariables false
attribute [go_sem] Tryz.underlying1
@[go_sem] theorem ok1 : tyOk Tryz.prog 1 = true := by kernel_rfl
attribute [go_sem] Tryz.underlying2
@[go_sem] theorem cellsOf2 : Tryz.prog.cellsOf 2 = 1 := by kernel_rfl
@[go_sem] theorem isAgg2 : isAggT Tryz.prog 2 = some false := by kernel_rfl
@[go_sem] theorem ok2 : tyOk Tryz.prog 2 = true := by kernel_rfl
@[go_sem] theorem bytes2 : Tryz.prog.bytesOf 2 = 8 := by kernel_rfl
@[go_sem] theorem zero2 : zeroOf Tryz.prog 2 = some (.p (.int .i64 0)) := by kernel_rfl
@[go_sem] theorem zeroLen2 : appendA.zeroLen Tryz.prog 2 = 1 := by kernel_rfl
@[go_sem] theorem eqI2 (d : Nat) (k k' : IntKind) (a b : Int) : eqT Tryz.prog (d + 1) 2 [.int k a] [.int k' b] = if k = k' then some (a == b) else none := eqT_int _ Tryz.underlying2 d k k' a b
attribute [go_sem] Tryz.underlying3
@[go_sem] theorem cellsOf3 : Tryz.prog.cellsOf 3 = 1 := by kernel_rfl
@[go_sem] theorem isAgg3 : isAggT Tryz.prog 3 = some false := by kernel_rfl
@[go_sem] theorem ok3 : tyOk Tryz.prog 3 = true := by kernel_rfl
@[go_sem] theorem bytes3 : Tryz.prog.bytesOf 3 = 8 := by kernel_rfl
@[go_sem] theorem zero3 : zeroOf Tryz.prog 3 = some (.p (.int .i64 0)) := by kernel_rfl
@[go_sem] theorem zeroLen3 : appendA.zeroLen Tryz.prog 3 = 1 := by kernel_rfl
@[go_sem] theorem eqI3 (d : Nat) (k k' : IntKind) (a b : Int) : eqT Tryz.prog (d + 1) 3 [.int k a] [.int k' b] = if k = k' then some (a == b) else none := eqT_int _ Tryz.underlying3 d k k' a b
attribute [go_sem] Tryz.underlying4
@[go_sem] theorem isAgg4 : isAggT Tryz.prog 4 = some false := by kernel_rfl
@[go_sem] theorem zero4 : zeroOf Tryz.prog 4 = some (.p (.bool false)) := by kernel_rfl
attribute [go_sem] Tryz.underlying5
@[go_sem] theorem cellsOf5 : Tryz.prog.cellsOf 5 = 1 := by kernel_rfl
@[go_sem] theorem isAgg5 : isAggT Tryz.prog 5 = some false := by kernel_rfl
@[go_sem] theorem ok5 : tyOk Tryz.prog 5 = true := by kernel_rfl
@[go_sem] theorem zero5 : zeroOf Tryz.prog 5 = some (.p (.int .u8 0)) := by kernel_rfl
attribute [go_sem] Tryz.underlying6
attribute [go_sem] Tryz.underlying7
attribute [go_sem] Tryz.underlying8
attribute [go_sem] Tryz.underlying9
@[go_sem] theorem cellsOf9 : Tryz.prog.cellsOf 9 = 1 := by kernel_rfl
@[go_sem] theorem isAgg9 : isAggT Tryz.prog 9 = some false := by kernel_rfl
@[go_sem] theorem ok9 : tyOk Tryz.prog 9 = true := by kernel_rfl
@[go_sem] theorem bytes9 : Tryz.prog.bytesOf 9 = 16 := by kernel_rfl
@[go_sem] theorem zero9 : zeroOf Tryz.prog 9 = some (.p (.str [])) := by kernel_rfl
@[go_sem] theorem zeroLen9 : appendA.zeroLen Tryz.prog 9 = 1 := by kernel_rfl
@[go_sem] theorem eqI9 (d : Nat) (a b : List UInt8) : eqT Tryz.prog (d + 1) 9 [.str a] [.str b] = some (a == b) := eqT_str _ Tryz.underlying9 d a b
attribute [go_sem] Tryz.underlying10
attribute [go_sem] Tryz.underlying11
attribute [go_sem] Tryz.underlying12
attribute [go_sem] Tryz.underlying13
attribute [go_sem] Tryz.underlying14
attribute [go_sem] Tryz.underlying15
attribute [go_sem] Tryz.underlying16
attribute [go_sem] Tryz.underlying17
attribute [go_sem] Tryz.underlying18
attribute [go_sem] Tryz.underlying19
attribute [go_sem] Tryz.underlying20
attribute [go_sem] Tryz.underlying21
attribute [go_sem] Tryz.underlying22
@[go_sem] theorem cellsOf22 : Tryz.prog.cellsOf 22 = 1 := by kernel_rfl
@[go_sem] theorem isAgg22 : isAggT Tryz.prog 22 = some false := by kernel_rfl
attribute [go_sem] Tryz.underlying23
attribute [go_sem] Tryz.underlying24
@[go_sem] theorem cellsOf24 : Tryz.prog.cellsOf 24 = 2 := by kernel_rfl
@[go_sem] theorem isAgg24 : isAggT Tryz.prog 24 = some true := by kernel_rfl
@[go_sem] theorem ok24 : tyOk Tryz.prog 24 = true := by kernel_rfl
@[go_sem] theorem bytes24 : Tryz.prog.bytesOf 24 = 32 := by kernel_rfl
@[go_sem] theorem zero24 : zeroOf Tryz.prog 24 = some (.agg [.p (.int .i64 0), .nils]) := by kernel_rfl
@[go_sem] theorem zeroLen24 : appendA.zeroLen Tryz.prog 24 = 2 := by kernel_rfl
@[go_sem] theorem field24_0 : fieldOff Tryz.prog 24 0 = some 0 := by kernel_rfl
@[go_sem] theorem field24_1 : fieldOff Tryz.prog 24 1 = some 1 := by kernel_rfl
@[go_sem] theorem build24 (parts : List (Nat × AV)) : buildA Tryz.prog 24 parts = (fillG (fun j => [(0, 1), (1, 1)][j]?) [.p (.int .i64 0), .nils] parts).map mkAgg :=
  buildA_eq _ _ zero24 rfl (by kernel_rfl) (by kernel_rfl) (by funext j; exact placesA_eq _ _ (by kernel_rfl) j)
attribute [go_sem] Tryz.underlying25
attribute [go_sem] Tryz.underlying26
attribute [go_sem] Tryz.underlying27
@[go_sem] theorem cellsOf27 : Tryz.prog.cellsOf 27 = 3 := by kernel_rfl
@[go_sem] theorem isAgg27 : isAggT Tryz.prog 27 = some true := by kernel_rfl
@[go_sem] theorem ok27 : tyOk Tryz.prog 27 = true := by kernel_rfl
@[go_sem] theorem bytes27 : Tryz.prog.bytesOf 27 = 32 := by kernel_rfl
@[go_sem] theorem zero27 : zeroOf Tryz.prog 27 = some (.p (.agg [(.int .i64 0), (.int .i64 0), (.str [])])) := by kernel_rfl
@[go_sem] theorem zeroLen27 : appendA.zeroLen Tryz.prog 27 = 3 := by kernel_rfl
@[go_sem] theorem field27_0 : fieldOff Tryz.prog 27 0 = some 0 := by kernel_rfl
@[go_sem] theorem field27_1 : fieldOff Tryz.prog 27 1 = some 1 := by kernel_rfl
@[go_sem] theorem field27_2 : fieldOff Tryz.prog 27 2 = some 2 := by kernel_rfl
@[go_sem] theorem build27 (parts : List (Nat × AV)) : buildA Tryz.prog 27 parts = (fillG (fun j => [(0, 1), (1, 1), (2, 1)][j]?) [.p (.int .i64 0), .p (.int .i64 0), .p (.str [])] parts).map mkAgg :=
  buildA_eq _ _ zero27 rfl (by kernel_rfl) (by kernel_rfl) (by funext j; exact placesA_eq _ _ (by kernel_rfl) j)
@[go_sem] theorem eqS27 (d : Nat) (xs ys : List PV) : eqT Tryz.prog (d + 1) 27 xs ys = eqL (eqT Tryz.prog d) [(3, 0, 1), (2, 1, 1), (9, 2, 1)] xs ys := eqT_struct _ (by kernel_rfl) (by kernel_rfl) (by kernel_rfl) (by kernel_rfl) d xs ys
@[go_sem] theorem eqg27 : Tryz.prog.eqGuardType Tryz.prog.depth 27 = false := by kernel_rfl
attribute [go_sem] Tryz.underlying28
attribute [go_sem] Tryz.underlying29
@[go_sem] theorem cellsOf29 : Tryz.prog.cellsOf 29 = 5 := by kernel_rfl
@[go_sem] theorem isAgg29 : isAggT Tryz.prog 29 = some true := by kernel_rfl
@[go_sem] theorem ok29 : tyOk Tryz.prog 29 = true := by kernel_rfl
@[go_sem] theorem bytes29 : Tryz.prog.bytesOf 29 = 48 := by kernel_rfl
@[go_sem] theorem zero29 : zeroOf Tryz.prog 29 = some (.p (.agg [(.int .i64 0), (.int .i64 0), (.int .i64 0), (.int .i64 0), (.str [])])) := by kernel_rfl
@[go_sem] theorem zeroLen29 : appendA.zeroLen Tryz.prog 29 = 5 := by kernel_rfl
@[go_sem] theorem field29_0 : fieldOff Tryz.prog 29 0 = some 0 := by kernel_rfl
@[go_sem] theorem field29_1 : fieldOff Tryz.prog 29 1 = some 1 := by kernel_rfl
@[go_sem] theorem field29_2 : fieldOff Tryz.prog 29 2 = some 2 := by kernel_rfl
@[go_sem] theorem build29 (parts : List (Nat × AV)) : buildA Tryz.prog 29 parts = (fillG (fun j => [(0, 1), (1, 1), (2, 3)][j]?) [.p (.int .i64 0), .p (.int .i64 0), .p (.int .i64 0), .p (.int .i64 0), .p (.str [])] parts).map mkAgg :=
  buildA_eq _ _ zero29 rfl (by kernel_rfl) (by kernel_rfl) (by funext j; exact placesA_eq _ _ (by kernel_rfl) j)
@[go_sem] theorem eqS29 (d : Nat) (xs ys : List PV) : eqT Tryz.prog (d + 1) 29 xs ys = eqL (eqT Tryz.prog d) [(3, 0, 1), (3, 1, 1), (27, 2, 3)] xs ys := eqT_struct _ (by kernel_rfl) (by kernel_rfl) (by kernel_rfl) (by kernel_rfl) d xs ys
@[go_sem] theorem eqg29 : Tryz.prog.eqGuardType Tryz.prog.depth 29 = false := by kernel_rfl
attribute [go_sem] Tryz.underlying30
attribute [go_sem] Tryz.underlying31
@[go_sem] theorem cellsOf31 : Tryz.prog.cellsOf 31 = 11 := by kernel_rfl
@[go_sem] theorem isAgg31 : isAggT Tryz.prog 31 = some true := by kernel_rfl
@[go_sem] theorem ok31 : tyOk Tryz.prog 31 = true := by kernel_rfl
@[go_sem] theorem bytes31 : Tryz.prog.bytesOf 31 = 104 := by kernel_rfl
@[go_sem] theorem zero31 : zeroOf Tryz.prog 31 = some (.p (.agg [(.int .i64 0), (.int .i64 0), (.int .i64 0), (.int .i64 0), (.str []), (.int .i64 0), (.int .i64 0), (.int .i64 0), (.int .i64 0), (.int .i64 0), (.str [])])) := by kernel_rfl
@[go_sem] theorem zeroLen31 : appendA.zeroLen Tryz.prog 31 = 11 := by kernel_rfl
@[go_sem] theorem field31_0 : fieldOff Tryz.prog 31 0 = some 0 := by kernel_rfl
@[go_sem] theorem field31_1 : fieldOff Tryz.prog 31 1 = some 5 := by kernel_rfl
@[go_sem] theorem field31_2 : fieldOff Tryz.prog 31 2 = some 6 := by kernel_rfl
@[go_sem] theorem build31 (parts : List (Nat × AV)) : buildA Tryz.prog 31 parts = (fillG (fun j => [(0, 5), (5, 1), (6, 5)][j]?) [.p (.int .i64 0), .p (.int .i64 0), .p (.int .i64 0), .p (.int .i64 0), .p (.str []), .p (.int .i64 0), .p (.int .i64 0), .p (.int .i64 0), .p (.int .i64 0), .p (.int .i64 0), .p (.str [])] parts).map mkAgg :=
  buildA_eq _ _ zero31 rfl (by kernel_rfl) (by kernel_rfl) (by funext j; exact placesA_eq _ _ (by kernel_rfl) j)
@[go_sem] theorem eqS31 (d : Nat) (xs ys : List PV) : eqT Tryz.prog (d + 1) 31 xs ys = eqL (eqT Tryz.prog d) [(29, 0, 5), (3, 5, 1), (29, 6, 5)] xs ys := eqT_struct _ (by kernel_rfl) (by kernel_rfl) (by kernel_rfl) (by kernel_rfl) d xs ys
@[go_sem] theorem eqg31 : Tryz.prog.eqGuardType Tryz.prog.depth 31 = false := by kernel_rfl
attribute [go_sem] Tryz.underlying32
attribute [go_sem] Tryz.underlying33
attribute [go_sem] Tryz.underlying34
@[go_sem] theorem cellsOf34 : Tryz.prog.cellsOf 34 = 1 := by kernel_rfl
@[go_sem] theorem isAgg34 : isAggT Tryz.prog 34 = some false := by kernel_rfl
attribute [go_sem] Tryz.underlying35
attribute [go_sem] Tryz.underlying36
@[go_sem] theorem cellsOf36 : Tryz.prog.cellsOf 36 = 3 := by kernel_rfl
@[go_sem] theorem isAgg36 : isAggT Tryz.prog 36 = some true := by kernel_rfl
@[go_sem] theorem zero36 : zeroOf Tryz.prog 36 = some (.agg [.p (.int .u8 0), .p (.int .u8 0), .nils]) := by kernel_rfl
@[go_sem] theorem field36_0 : fieldOff Tryz.prog 36 0 = some 0 := by kernel_rfl
@[go_sem] theorem field36_1 : fieldOff Tryz.prog 36 1 = some 1 := by kernel_rfl
@[go_sem] theorem field36_2 : fieldOff Tryz.prog 36 2 = some 2 := by kernel_rfl
@[go_sem] theorem build36 (parts : List (Nat × AV)) : buildA Tryz.prog 36 parts = (fillG (fun j => [(0, 1), (1, 1), (2, 1)][j]?) [.p (.int .u8 0), .p (.int .u8 0), .nils] parts).map mkAgg :=
  buildA_eq _ _ zero36 rfl (by kernel_rfl) (by kernel_rfl) (by funext j; exact placesA_eq _ _ (by kernel_rfl) j)
attribute [go_sem] Tryz.underlying37
@[go_sem] theorem isAgg37 : isAggT Tryz.prog 37 = some false := by kernel_rfl
attribute [go_sem] Tryz.underlying38
@[go_sem] theorem cellsOf38 : Tryz.prog.cellsOf 38 = 1 := by kernel_rfl
@[go_sem] theorem isAgg38 : isAggT Tryz.prog 38 = some false := by kernel_rfl
attribute [go_sem] Tryz.underlying39
@[go_sem] theorem cellsOf39 : Tryz.prog.cellsOf 39 = 1 := by kernel_rfl
@[go_sem] theorem isAgg39 : isAggT Tryz.prog 39 = some false := by kernel_rfl
attribute [go_sem] Tryz.underlying40
attribute [go_sem] Tryz.underlying41
@[go_sem] theorem cellsOf41 : Tryz.prog.cellsOf 41 = 3 := by kernel_rfl
@[go_sem] theorem isAgg41 : isAggT Tryz.prog 41 = some true := by kernel_rfl
@[go_sem] theorem zero41 : zeroOf Tryz.prog 41 = some (.agg [.p (.str []), .nils, .nils]) := by kernel_rfl
@[go_sem] theorem field41_0 : fieldOff Tryz.prog 41 0 = some 0 := by kernel_rfl
@[go_sem] theorem field41_1 : fieldOff Tryz.prog 41 1 = some 1 := by kernel_rfl
@[go_sem] theorem field41_2 : fieldOff Tryz.prog 41 2 = some 2 := by kernel_rfl
@[go_sem] theorem build41 (parts : List (Nat × AV)) : buildA Tryz.prog 41 parts = (fillG (fun j => [(0, 1), (1, 1), (2, 1)][j]?) [.p (.str []), .nils, .nils] parts).map mkAgg :=
  buildA_eq _ _ zero41 rfl (by kernel_rfl) (by kernel_rfl) (by funext j; exact placesA_eq _ _ (by kernel_rfl) j)
attribute [go_sem] Tryz.underlying43
attribute [go_sem] Tryz.underlying44
@[go_sem] theorem cellsOf44 : Tryz.prog.cellsOf 44 = 1 := by kernel_rfl
@[go_sem] theorem isAgg44 : isAggT Tryz.prog 44 = some false := by kernel_rfl
attribute [go_sem] Tryz.underlying45
attribute [go_sem] Tryz.underlying46
@[go_sem] theorem cellsOf46 : Tryz.prog.cellsOf 46 = 2 := by kernel_rfl
@[go_sem] theorem isAgg46 : isAggT Tryz.prog 46 = some true := by kernel_rfl
@[go_sem] theorem ok46 : tyOk Tryz.prog 46 = true := by kernel_rfl
@[go_sem] theorem zero46 : zeroOf Tryz.prog 46 = some (.p (.agg [(.int .u32 0), (.int .u32 0)])) := by kernel_rfl
@[go_sem] theorem field46_0 : fieldOff Tryz.prog 46 0 = some 0 := by kernel_rfl
@[go_sem] theorem field46_1 : fieldOff Tryz.prog 46 1 = some 1 := by kernel_rfl
@[go_sem] theorem build46 (parts : List (Nat × AV)) : buildA Tryz.prog 46 parts = (fillG (fun j => [(0, 1), (1, 1)][j]?) [.p (.int .u32 0), .p (.int .u32 0)] parts).map mkAgg :=
  buildA_eq _ _ zero46 rfl (by kernel_rfl) (by kernel_rfl) (by funext j; exact placesA_eq _ _ (by kernel_rfl) j)
attribute [go_sem] Tryz.underlying47
attribute [go_sem] Tryz.underlying48
attribute [go_sem] Tryz.underlying50
attribute [go_sem] Tryz.underlying51
attribute [go_sem] Tryz.underlying52
@[go_sem] theorem cellsOf52 : Tryz.prog.cellsOf 52 = 1 := by kernel_rfl
@[go_sem] theorem isAgg52 : isAggT Tryz.prog 52 = some false := by kernel_rfl
@[go_sem] theorem zero52 : zeroOf Tryz.prog 52 = some (.nils) := by kernel_rfl
attribute [go_sem] Tryz.underlying53
@[go_sem] theorem cellsOf53 : Tryz.prog.cellsOf 53 = 1 := by kernel_rfl
@[go_sem] theorem isAgg53 : isAggT Tryz.prog 53 = some false := by kernel_rfl
attribute [go_sem] Tryz.underlying54
attribute [go_sem] Tryz.underlying55
@[go_sem] theorem cellsOf55 : Tryz.prog.cellsOf 55 = 2 := by kernel_rfl
@[go_sem] theorem isAgg55 : isAggT Tryz.prog 55 = some true := by kernel_rfl
@[go_sem] theorem ok55 : tyOk Tryz.prog 55 = true := by kernel_rfl
@[go_sem] theorem bytes55 : Tryz.prog.bytesOf 55 = 32 := by kernel_rfl
@[go_sem] theorem zero55 : zeroOf Tryz.prog 55 = some (.agg [.p (.int .i64 0), .nils]) := by kernel_rfl
@[go_sem] theorem zeroLen55 : appendA.zeroLen Tryz.prog 55 = 2 := by kernel_rfl
@[go_sem] theorem field55_0 : fieldOff Tryz.prog 55 0 = some 0 := by kernel_rfl
@[go_sem] theorem field55_1 : fieldOff Tryz.prog 55 1 = some 1 := by kernel_rfl
@[go_sem] theorem build55 (parts : List (Nat × AV)) : buildA Tryz.prog 55 parts = (fillG (fun j => [(0, 1), (1, 1)][j]?) [.p (.int .i64 0), .nils] parts).map mkAgg :=
  buildA_eq _ _ zero55 rfl (by kernel_rfl) (by kernel_rfl) (by funext j; exact placesA_eq _ _ (by kernel_rfl) j)
attribute [go_sem] Tryz.underlying56
attribute [go_sem] Tryz.underlying57
@[go_sem] theorem cellsOf57 : Tryz.prog.cellsOf 57 = 1 := by kernel_rfl
@[go_sem] theorem isAgg57 : isAggT Tryz.prog 57 = some false := by kernel_rfl
@[go_sem] theorem ok57 : tyOk Tryz.prog 57 = true := by kernel_rfl
@[go_sem] theorem bytes57 : Tryz.prog.bytesOf 57 = 24 := by kernel_rfl
@[go_sem] theorem zero57 : zeroOf Tryz.prog 57 = some (.nils) := by kernel_rfl
@[go_sem] theorem zeroLen57 : appendA.zeroLen Tryz.prog 57 = 1 := by kernel_rfl
attribute [go_sem] Tryz.underlying59
attribute [go_sem] Tryz.underlying60
attribute [go_sem] Tryz.underlying61
attribute [go_sem] Tryz.underlying62
@[go_sem] theorem cellsOf62 : Tryz.prog.cellsOf 62 = 1 := by kernel_rfl
@[go_sem] theorem isAgg62 : isAggT Tryz.prog 62 = some false := by kernel_rfl
@[go_sem] theorem ok62 : tyOk Tryz.prog 62 = true := by kernel_rfl
@[go_sem] theorem bytes62 : Tryz.prog.bytesOf 62 = 24 := by kernel_rfl
@[go_sem] theorem zero62 : zeroOf Tryz.prog 62 = some (.nils) := by kernel_rfl
@[go_sem] theorem zeroLen62 : appendA.zeroLen Tryz.prog 62 = 1 := by kernel_rfl
attribute [go_sem] Tryz.underlying63
attribute [go_sem] Tryz.underlying64
@[go_sem] theorem cellsOf64 : Tryz.prog.cellsOf 64 = 2 := by kernel_rfl
@[go_sem] theorem isAgg64 : isAggT Tryz.prog 64 = some true := by kernel_rfl
@[go_sem] theorem zero64 : zeroOf Tryz.prog 64 = some (.agg [.nils, .nils]) := by kernel_rfl
@[go_sem] theorem field64_0 : fieldOff Tryz.prog 64 0 = some 0 := by kernel_rfl
@[go_sem] theorem field64_1 : fieldOff Tryz.prog 64 1 = some 1 := by kernel_rfl
@[go_sem] theorem build64 (parts : List (Nat × AV)) : buildA Tryz.prog 64 parts = (fillG (fun j => [(0, 1), (1, 1)][j]?) [.nils, .nils] parts).map mkAgg :=
  buildA_eq _ _ zero64 rfl (by kernel_rfl) (by kernel_rfl) (by funext j; exact placesA_eq _ _ (by kernel_rfl) j)
attribute [go_sem] Tryz.underlying65
attribute [go_sem] Tryz.underlying66
attribute [go_sem] Tryz.underlying68
attribute [go_sem] Tryz.underlying69
attribute [go_sem] Tryz.underlying70
@[go_sem] theorem cellsOf70 : Tryz.prog.cellsOf 70 = 1 := by kernel_rfl
@[go_sem] theorem isAgg70 : isAggT Tryz.prog 70 = some false := by kernel_rfl
attribute [go_sem] Tryz.underlying71
attribute [go_sem] Tryz.underlying72
@[go_sem] theorem cellsOf72 : Tryz.prog.cellsOf 72 = 2 := by kernel_rfl
@[go_sem] theorem isAgg72 : isAggT Tryz.prog 72 = some true := by kernel_rfl
@[go_sem] theorem field72_0 : fieldOff Tryz.prog 72 0 = some 0 := by kernel_rfl
@[go_sem] theorem field72_1 : fieldOff Tryz.prog 72 1 = some 1 := by kernel_rfl
attribute [go_sem] Tryz.underlying74
attribute [go_sem] Tryz.underlying75
attribute [go_sem] Tryz.underlying76
attribute [go_sem] Tryz.underlying77
attribute [go_sem] Tryz.underlying78
attribute [go_sem] Tryz.underlying80
attribute [go_sem] Tryz.underlying81
attribute [go_sem] Tryz.underlying82
attribute [go_sem] Tryz.underlying83
attribute [go_sem] Tryz.underlying84
attribute [go_sem] Tryz.underlying86
attribute [go_sem] Tryz.underlying87
attribute [go_sem] Tryz.underlying88
attribute [go_sem] Tryz.underlying89
attribute [go_sem] Tryz.underlying90
attribute [go_sem] Tryz.underlying91
attribute [go_sem] Tryz.underlying92
attribute [go_sem] Tryz.underlying93
attribute [go_sem] Tryz.underlying94
attribute [go_sem] Tryz.underlying95
attribute [go_sem] Tryz.underlying96
attribute [go_sem] Tryz.underlying97
attribute [go_sem] Tryz.underlying98
attribute [go_sem] Tryz.underlying99
attribute [go_sem] Tryz.underlying100
attribute [go_sem] Tryz.underlying101
attribute [go_sem] Tryz.underlying102
@[go_sem] theorem cellsOf102 : Tryz.prog.cellsOf 102 = 1 := by kernel_rfl
@[go_sem] theorem isAgg102 : isAggT Tryz.prog 102 = some false := by kernel_rfl
@[go_sem] theorem ok102 : tyOk Tryz.prog 102 = true := by kernel_rfl
@[go_sem] theorem zero102 : zeroOf Tryz.prog 102 = some (.nils) := by kernel_rfl
attribute [go_sem] Tryz.underlying103
attribute [go_sem] Tryz.underlying104
attribute [go_sem] Tryz.underlying105
attribute [go_sem] Tryz.underlying106
attribute [go_sem] Tryz.underlying107
attribute [go_sem] Tryz.underlying108
attribute [go_sem] Tryz.underlying109
attribute [go_sem] Tryz.underlying110
attribute [go_sem] Tryz.underlying111
attribute [go_sem] Tryz.underlying112
attribute [go_sem] Tryz.underlying113
attribute [go_sem] Tryz.underlying114
attribute [go_sem] Tryz.underlying115
attribute [go_sem] Tryz.underlying116
attribute [go_sem] Tryz.underlying117
attribute [go_sem] Tryz.underlying118
attribute [go_sem] Tryz.underlying119
attribute [go_sem] Tryz.underlying120
attribute [go_sem] Tryz.underlying121
attribute [go_sem] Tryz.underlying122
@[go_sem] theorem cellsOf122 : Tryz.prog.cellsOf 122 = 2 := by kernel_rfl
@[go_sem] theorem isAgg122 : isAggT Tryz.prog 122 = some true := by kernel_rfl
@[go_sem] theorem field122_0 : fieldOff Tryz.prog 122 0 = some 0 := by kernel_rfl
@[go_sem] theorem field122_1 : fieldOff Tryz.prog 122 1 = some 1 := by kernel_rfl
attribute [go_sem] Tryz.underlying123
attribute [go_sem] Tryz.underlying124
@[go_sem] theorem cellsOf124 : Tryz.prog.cellsOf 124 = 5 := by kernel_rfl
@[go_sem] theorem isAgg124 : isAggT Tryz.prog 124 = some true := by kernel_rfl
@[go_sem] theorem ok124 : tyOk Tryz.prog 124 = true := by kernel_rfl
@[go_sem] theorem zero124 : zeroOf Tryz.prog 124 = some (.p (.agg [(.int .u8 0), (.int .u8 0), (.int .u8 0), (.int .u8 0), (.int .u8 0)])) := by kernel_rfl
@[go_sem] theorem field124_0 : fieldOff Tryz.prog 124 0 = some 0 := by kernel_rfl
@[go_sem] theorem field124_1 : fieldOff Tryz.prog 124 1 = some 2 := by kernel_rfl
@[go_sem] theorem field124_2 : fieldOff Tryz.prog 124 2 = some 3 := by kernel_rfl
attribute [go_sem] Tryz.underlying125
attribute [go_sem] Tryz.underlying126
@[go_sem] theorem cellsOf126 : Tryz.prog.cellsOf 126 = 1 := by kernel_rfl
@[go_sem] theorem isAgg126 : isAggT Tryz.prog 126 = some false := by kernel_rfl
@[go_sem] theorem zero126 : zeroOf Tryz.prog 126 = some (.p .nilp) := by kernel_rfl
attribute [go_sem] Tryz.underlying127
@[go_sem] theorem cellsOf127 : Tryz.prog.cellsOf 127 = 1 := by kernel_rfl
@[go_sem] theorem isAgg127 : isAggT Tryz.prog 127 = some false := by kernel_rfl
attribute [go_sem] Tryz.underlying128
@[go_sem] theorem cellsOf128 : Tryz.prog.cellsOf 128 = 1 := by kernel_rfl
@[go_sem] theorem isAgg128 : isAggT Tryz.prog 128 = some false := by kernel_rfl
attribute [go_sem] Tryz.underlying129
attribute [go_sem] Tryz.underlying130
@[go_sem] theorem zero130 : zeroOf Tryz.prog 130 = some (.agg [.nils, .nils]) := by kernel_rfl
@[go_sem] theorem field130_0 : fieldOff Tryz.prog 130 0 = some 0 := by kernel_rfl
@[go_sem] theorem field130_1 : fieldOff Tryz.prog 130 1 = some 1 := by kernel_rfl
@[go_sem] theorem build130 (parts : List (Nat × AV)) : buildA Tryz.prog 130 parts = (fillG (fun j => [(0, 1), (1, 1)][j]?) [.nils, .nils] parts).map mkAgg :=
  buildA_eq _ _ zero130 rfl (by kernel_rfl) (by kernel_rfl) (by funext j; exact placesA_eq _ _ (by kernel_rfl) j)
attribute [go_sem] Tryz.underlying131
attribute [go_sem] Tryz.underlying132
attribute [go_sem] Tryz.underlying133
attribute [go_sem] Tryz.underlying134
@[go_sem] theorem cellsOf134 : Tryz.prog.cellsOf 134 = 1 := by kernel_rfl
@[go_sem] theorem isAgg134 : isAggT Tryz.prog 134 = some false := by kernel_rfl
@[go_sem] theorem zero134 : zeroOf Tryz.prog 134 = some (.p (.mapv [] [])) := by kernel_rfl
attribute [go_sem] Tryz.underlying135
attribute [go_sem] Tryz.underlying136
attribute [go_sem] Tryz.underlying137
@[go_sem] theorem cellsOf137 : Tryz.prog.cellsOf 137 = 3 := by kernel_rfl
@[go_sem] theorem isAgg137 : isAggT Tryz.prog 137 = some true := by kernel_rfl
@[go_sem] theorem zero137 : zeroOf Tryz.prog 137 = some (.p (.agg [(.int .i64 0), (.int .i64 0), (.int .i64 0)])) := by kernel_rfl
@[go_sem] theorem eqS137 (d : Nat) (xs ys : List PV) : eqT Tryz.prog (d + 1) 137 xs ys = eqL (eqT Tryz.prog d) [(2, 0, 1), (2, 1, 1), (2, 2, 1)] xs ys := eqT_array _ Tryz.underlying137 (by kernel_rfl) (by kernel_rfl) d xs ys
attribute [go_sem] Tryz.underlying138
attribute [go_sem] Tryz.underlying139
attribute [go_sem] Tryz.underlying140
@[go_sem] theorem isAgg140 : isAggT Tryz.prog 140 = some false := by kernel_rfl
attribute [go_sem] Tryz.underlying141
attribute [go_sem] Tryz.underlying143
attribute [go_sem] Tryz.underlying144
attribute [go_sem] Tryz.underlying145
attribute [go_sem] Tryz.underlying146
attribute [go_sem] Tryz.underlying147
attribute [go_sem] Tryz.underlying148
attribute [go_sem] Tryz.underlying149
attribute [go_sem] Tryz.underlying150
attribute [go_sem] Tryz.underlying152
attribute [go_sem] Tryz.underlying153
attribute [go_sem] Tryz.underlying154
attribute [go_sem] Tryz.underlying155
attribute [go_sem] Tryz.underlying156
attribute [go_sem] Tryz.underlying157
attribute [go_sem] Tryz.underlying158
attribute [go_sem] Tryz.underlying159
attribute [go_sem] Tryz.underlying160
attribute [go_sem] Tryz.underlying161
attribute [go_sem] Tryz.underlying162
attribute [go_sem] Tryz.underlying163
attribute [go_sem] Tryz.underlying164
attribute [go_sem] Tryz.underlying165
attribute [go_sem] Tryz.underlying166
attribute [go_sem] Tryz.underlying167
attribute [go_sem] Tryz.underlying168
attribute [go_sem] Tryz.underlying169
attribute [go_sem] Tryz.underlying170
attribute [go_sem] Tryz.underlying171
attribute [go_sem] Tryz.underlying172
attribute [go_sem] Tryz.underlying173
attribute [go_sem] Tryz.underlying174
attribute [go_sem] Tryz.underlying175
attribute [go_sem] Tryz.underlying176
attribute [go_sem] Tryz.underlying177
attribute [go_sem] Tryz.underlying178
attribute [go_sem] Tryz.underlying179
@[go_sem] theorem isAgg179 : isAggT Tryz.prog 179 = some false := by kernel_rfl
attribute [go_sem] Tryz.underlying180
attribute [go_sem] Tryz.underlying181
attribute [go_sem] Tryz.underlying182
attribute [go_sem] Tryz.underlying183
attribute [go_sem] Tryz.underlying184
attribute [go_sem] Tryz.underlying185
attribute [go_sem] Tryz.underlying186
attribute [go_sem] Tryz.underlying187
attribute [go_sem] Tryz.underlying188
attribute [go_sem] Tryz.underlying189
attribute [go_sem] Tryz.underlying190
attribute [go_sem] Tryz.underlying191
attribute [go_sem] Tryz.underlying192
attribute [go_sem] Tryz.underlying193
attribute [go_sem] Tryz.underlying194
attribute [go_sem] Tryz.underlying195
@[go_sem] theorem isAgg195 : isAggT Tryz.prog 195 = some false := by kernel_rfl
attribute [go_sem] Tryz.underlying197
attribute [go_sem] Tryz.underlying198
attribute [go_sem] Tryz.underlying199
attribute [go_sem] Tryz.underlying200
attribute [go_sem] Tryz.underlying201
attribute [go_sem] Tryz.underlying202
attribute [go_sem] Tryz.underlying203
@[go_sem] theorem isAgg203 : isAggT Tryz.prog 203 = some false := by kernel_rfl
attribute [go_sem] Tryz.underlying204
attribute [go_sem] Tryz.underlying205
attribute [go_sem] Tryz.underlying206
attribute [go_sem] Tryz.underlying207
attribute [go_sem] Tryz.underlying208
attribute [go_sem] Tryz.underlying209
attribute [go_sem] Tryz.underlying210
attribute [go_sem] Tryz.underlying211
attribute [go_sem] Tryz.underlying212
attribute [go_sem] Tryz.underlying213
attribute [go_sem] Tryz.underlying214
@[go_sem] theorem isAgg214 : isAggT Tryz.prog 214 = some false := by kernel_rfl
attribute [go_sem] Tryz.underlying215
attribute [go_sem] Tryz.underlying216
attribute [go_sem] Tryz.underlying217
attribute [go_sem] Tryz.underlying218
@[go_sem] theorem isAgg218 : isAggT Tryz.prog 218 = some false := by kernel_rfl
attribute [go_sem] Tryz.underlying219
attribute [go_sem] Tryz.underlying220
attribute [go_sem] Tryz.underlying221
attribute [go_sem] Tryz.underlying222
attribute [go_sem] Tryz.underlying223
@[go_sem] theorem isAgg223 : isAggT Tryz.prog 223 = some false := by kernel_rfl
attribute [go_sem] Tryz.underlying225
attribute [go_sem] Tryz.underlying226
attribute [go_sem] Tryz.underlying227
attribute [go_sem] Tryz.underlying228
attribute [go_sem] Tryz.underlying229
attribute [go_sem] Tryz.underlying230
attribute [go_sem] Tryz.underlying231
attribute [go_sem] Tryz.underlying232
attribute [go_sem] Tryz.underlying233
attribute [go_sem] Tryz.underlying234
attribute [go_sem] Tryz.underlying235
attribute [go_sem] Tryz.underlying236
attribute [go_sem] Tryz.underlying237
attribute [go_sem] Tryz.underlying238
attribute [go_sem] Tryz.underlying239
attribute [go_sem] Tryz.underlying240
attribute [go_sem] Tryz.underlying241
end Go.Proofs.YtlaodgbkpmdhoaaGreatDoor.Ty
