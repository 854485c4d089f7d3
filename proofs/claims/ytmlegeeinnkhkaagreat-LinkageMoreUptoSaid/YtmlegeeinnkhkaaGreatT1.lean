/- What the logic asks of the types of the translation. -/
import Derived.Test.YtmlegeeinnkhkaaGreatProg
import Derived.KernelRfl
import Derived.Test.YtmlegeeinnkhkaaGreatA2
set_option linter.unusedVariables false
set_option linter.unusedSimpArgs false
namespace Go.Proofs.YtmlegeeinnkhkaaGreat.Ty
open Go Go.Ab
attribute [go_sem] Tryz.underlying1
@[go_sem] theorem ok1:tyOk Tryz.prog 1=true:=by kernel_rfl
attribute [go_sem] Tryz.underlying2
@[go_sem] theorem cellsOf2:Tryz.prog.cellsOf 2=1:=by kernel_rfl
@[go_sem] theorem isAgg2:isAggT Tryz.prog 2=some false:=by kernel_rfl
@[go_sem] theorem ok2:tyOk Tryz.prog 2=true:=by kernel_rfl
@[go_sem] theorem bytes2:Tryz.prog.bytesOf 2=8:=by kernel_rfl
@[go_sem] theorem zero2:zeroOf Tryz.prog 2=some (.p (.int .i64 0)):=by kernel_rfl
@[go_sem] theorem zeroLen2:appendA.zeroLen Tryz.prog 2=1:=by kernel_rfl
@[go_sem] theorem eqI2 (d:Nat) (k k':IntKind) (a b:Int):eqT Tryz.prog (d+1) 2 [.int k a] [.int k' b]=if k=k' then some (a == b) else none:=eqT_int _ Tryz.underlying2 d k k' a b
attribute [go_sem] Tryz.underlying3
@[go_sem] theorem cellsOf3:Tryz.prog.cellsOf 3=1:=by kernel_rfl
@[go_sem] theorem isAgg3:isAggT Tryz.prog 3=some false:=by kernel_rfl
@[go_sem] theorem ok3:tyOk Tryz.prog 3=true:=by kernel_rfl
@[go_sem] theorem bytes3:Tryz.prog.bytesOf 3=8:=by kernel_rfl
@[go_sem] theorem zero3:zeroOf Tryz.prog 3=some (.p (.int .i64 0)):=by kernel_rfl
@[go_sem] theorem zeroLen3:appendA.zeroLen Tryz.prog 3=1:=by kernel_rfl
@[go_sem] theorem eqI3 (d:Nat) (k k':IntKind) (a b:Int):eqT Tryz.prog (d+1) 3 [.int k a] [.int k' b]=if k=k' then some (a == b) else none:=eqT_int _ Tryz.underlying3 d k k' a b
attribute [go_sem] Tryz.underlying4
@[go_sem] theorem cellsOf4:Tryz.prog.cellsOf 4=1:=by kernel_rfl
@[go_sem] theorem isAgg4:isAggT Tryz.prog 4=some false:=by kernel_rfl
@[go_sem] theorem ok4:tyOk Tryz.prog 4=true:=by kernel_rfl
@[go_sem] theorem bytes4:Tryz.prog.bytesOf 4=1:=by kernel_rfl
@[go_sem] theorem zero4:zeroOf Tryz.prog 4=some (.p (.bool false)):=by kernel_rfl
attribute [go_sem] Tryz.underlying5
@[go_sem] theorem cellsOf5:Tryz.prog.cellsOf 5=1:=by kernel_rfl
@[go_sem] theorem isAgg5:isAggT Tryz.prog 5=some false:=by kernel_rfl
@[go_sem] theorem ok5:tyOk Tryz.prog 5=true:=by kernel_rfl
attribute [go_sem] Tryz.underlying6
attribute [go_sem] Tryz.underlying7
attribute [go_sem] Tryz.underlying8
attribute [go_sem] Tryz.underlying9
@[go_sem] theorem cellsOf9:Tryz.prog.cellsOf 9=1:=by kernel_rfl
@[go_sem] theorem isAgg9:isAggT Tryz.prog 9=some false:=by kernel_rfl
@[go_sem] theorem ok9:tyOk Tryz.prog 9=true:=by kernel_rfl
@[go_sem] theorem bytes9:Tryz.prog.bytesOf 9=16:=by kernel_rfl
@[go_sem] theorem zero9:zeroOf Tryz.prog 9=some (.p (.str [])):=by kernel_rfl
@[go_sem] theorem zeroLen9:appendA.zeroLen Tryz.prog 9=1:=by kernel_rfl
@[go_sem] theorem eqI9 (d:Nat) (a b:List UInt8):eqT Tryz.prog (d+1) 9 [.str a] [.str b]=some (a == b):=eqT_str _ Tryz.underlying9 d a b
attribute [go_sem] Tryz.underlying10
attribute [go_sem] Tryz.underlying11
attribute [go_sem] Tryz.underlying12
attribute [go_sem] Tryz.underlying13
attribute [go_sem] Tryz.underlying14
attribute [go_sem] Tryz.underlying15
attribute [go_sem] Tryz.underlying16
attribute [go_sem] Tryz.underlying17
attribute [go_sem] Tryz.underlying18
attribute [go_sem] Tryz.underlying19
attribute [go_sem] Tryz.underlying20
@[go_sem] theorem isAgg20:isAggT Tryz.prog 20=some false:=by kernel_rfl
attribute [go_sem] Tryz.underlying21
attribute [go_sem] Tryz.underlying22
@[go_sem] theorem cellsOf22:Tryz.prog.cellsOf 22=1:=by kernel_rfl
@[go_sem] theorem isAgg22:isAggT Tryz.prog 22=some false:=by kernel_rfl
attribute [go_sem] Tryz.underlying23
@[go_sem] theorem cellsOf23:Tryz.prog.cellsOf 23=1:=by kernel_rfl
@[go_sem] theorem isAgg23:isAggT Tryz.prog 23=some false:=by kernel_rfl
@[go_sem] theorem ok23:tyOk Tryz.prog 23=true:=by kernel_rfl
@[go_sem] theorem bytes23:Tryz.prog.bytesOf 23=24:=by kernel_rfl
@[go_sem] theorem zero23:zeroOf Tryz.prog 23=some (.nils):=by kernel_rfl
@[go_sem] theorem zeroLen23:appendA.zeroLen Tryz.prog 23=1:=by kernel_rfl
attribute [go_sem] Tryz.underlying24
attribute [go_sem] Tryz.underlying25
@[go_sem] theorem cellsOf25:Tryz.prog.cellsOf 25=3:=by kernel_rfl
@[go_sem] theorem isAgg25:isAggT Tryz.prog 25=some true:=by kernel_rfl
@[go_sem] theorem zero25:zeroOf Tryz.prog 25=some (.agg [.nils,.nils,.nils]):=by kernel_rfl
@[go_sem] theorem field25_0:fieldOff Tryz.prog 25 0=some 0:=by kernel_rfl
@[go_sem] theorem field25_1:fieldOff Tryz.prog 25 1=some 1:=by kernel_rfl
@[go_sem] theorem field25_2:fieldOff Tryz.prog 25 2=some 2:=by kernel_rfl
@[go_sem] theorem build25 (parts:List (Nat×AV)):buildA Tryz.prog 25 parts=(fillG (fun j=>[(0,1),(1,1),(2,1)][j]?) [.nils,.nils,.nils] parts).map mkAgg :=
  buildA_eq _ _ zero25 rfl (by kernel_rfl) (by kernel_rfl) (by funext j;exact placesA_eq _ _ (by kernel_rfl) j)
attribute [go_sem] Tryz.underlying26
attribute [go_sem] Tryz.underlying27
attribute [go_sem] Tryz.underlying28
attribute [go_sem] Tryz.underlying29
attribute [go_sem] Tryz.underlying30
attribute [go_sem] Tryz.underlying31
@[go_sem] theorem cellsOf31:Tryz.prog.cellsOf 31=1:=by kernel_rfl
@[go_sem] theorem isAgg31:isAggT Tryz.prog 31=some false:=by kernel_rfl
attribute [go_sem] Tryz.underlying32
attribute [go_sem] Tryz.underlying33
@[go_sem] theorem cellsOf33:Tryz.prog.cellsOf 33=3:=by kernel_rfl
@[go_sem] theorem isAgg33:isAggT Tryz.prog 33=some true:=by kernel_rfl
@[go_sem] theorem field33_0:fieldOff Tryz.prog 33 0=some 0:=by kernel_rfl
@[go_sem] theorem field33_1:fieldOff Tryz.prog 33 1=some 1:=by kernel_rfl
@[go_sem] theorem field33_2:fieldOff Tryz.prog 33 2=some 2:=by kernel_rfl
attribute [go_sem] Tryz.underlying34
@[go_sem] theorem cellsOf34:Tryz.prog.cellsOf 34=1:=by kernel_rfl
@[go_sem] theorem isAgg34:isAggT Tryz.prog 34=some false:=by kernel_rfl
attribute [go_sem] Tryz.underlying35
@[go_sem] theorem cellsOf35:Tryz.prog.cellsOf 35=1:=by kernel_rfl
@[go_sem] theorem isAgg35:isAggT Tryz.prog 35=some false:=by kernel_rfl
@[go_sem] theorem ok35:tyOk Tryz.prog 35=true:=by kernel_rfl
attribute [go_sem] Tryz.underlying36
attribute [go_sem] Tryz.underlying37
@[go_sem] theorem cellsOf37:Tryz.prog.cellsOf 37=3:=by kernel_rfl
@[go_sem] theorem isAgg37:isAggT Tryz.prog 37=some true:=by kernel_rfl
@[go_sem] theorem field37_0:fieldOff Tryz.prog 37 0=some 0:=by kernel_rfl
@[go_sem] theorem field37_1:fieldOff Tryz.prog 37 1=some 1:=by kernel_rfl
@[go_sem] theorem field37_2:fieldOff Tryz.prog 37 2=some 2:=by kernel_rfl
attribute [go_sem] Tryz.underlying38
@[go_sem] theorem cellsOf38:Tryz.prog.cellsOf 38=1:=by kernel_rfl
@[go_sem] theorem isAgg38:isAggT Tryz.prog 38=some false:=by kernel_rfl
attribute [go_sem] Tryz.underlying39
@[go_sem] theorem cellsOf39:Tryz.prog.cellsOf 39=1:=by kernel_rfl
@[go_sem] theorem isAgg39:isAggT Tryz.prog 39=some false:=by kernel_rfl
attribute [go_sem] Tryz.underlying40
attribute [go_sem] Tryz.underlying41
@[go_sem] theorem cellsOf41:Tryz.prog.cellsOf 41=3:=by kernel_rfl
@[go_sem] theorem isAgg41:isAggT Tryz.prog 41=some true:=by kernel_rfl
@[go_sem] theorem zero41:zeroOf Tryz.prog 41=some (.agg [.p (.str []),.nils,.nils]):=by kernel_rfl
@[go_sem] theorem field41_0:fieldOff Tryz.prog 41 0=some 0:=by kernel_rfl
@[go_sem] theorem field41_1:fieldOff Tryz.prog 41 1=some 1:=by kernel_rfl
@[go_sem] theorem field41_2:fieldOff Tryz.prog 41 2=some 2:=by kernel_rfl
@[go_sem] theorem build41 (parts:List (Nat×AV)):buildA Tryz.prog 41 parts=(fillG (fun j=>[(0,1),(1,1),(2,1)][j]?) [.p (.str []),.nils,.nils] parts).map mkAgg :=
  buildA_eq _ _ zero41 rfl (by kernel_rfl) (by kernel_rfl) (by funext j;exact placesA_eq _ _ (by kernel_rfl) j)
attribute [go_sem] Tryz.underlying43
attribute [go_sem] Tryz.underlying44
attribute [go_sem] Tryz.underlying46
attribute [go_sem] Tryz.underlying47
attribute [go_sem] Tryz.underlying48
attribute [go_sem] Tryz.underlying49
attribute [go_sem] Tryz.underlying50
attribute [go_sem] Tryz.underlying51
@[go_sem] theorem cellsOf51:Tryz.prog.cellsOf 51=3:=by kernel_rfl
@[go_sem] theorem isAgg51:isAggT Tryz.prog 51=some true:=by kernel_rfl
@[go_sem] theorem ok51:tyOk Tryz.prog 51=true:=by kernel_rfl
@[go_sem] theorem zero51:zeroOf Tryz.prog 51=some (.p (.agg [(.int .u8 0),(.int .u8 0),(.int .u8 0)])):=by kernel_rfl
@[go_sem] theorem field51_0:fieldOff Tryz.prog 51 0=some 0:=by kernel_rfl
@[go_sem] theorem field51_1:fieldOff Tryz.prog 51 1=some 1:=by kernel_rfl
@[go_sem] theorem field51_2:fieldOff Tryz.prog 51 2=some 2:=by kernel_rfl
attribute [go_sem] Tryz.underlying52
@[go_sem] theorem cellsOf52:Tryz.prog.cellsOf 52=1:=by kernel_rfl
@[go_sem] theorem isAgg52:isAggT Tryz.prog 52=some false:=by kernel_rfl
attribute [go_sem] Tryz.underlying54
attribute [go_sem] Tryz.underlying55
@[go_sem] theorem cellsOf55:Tryz.prog.cellsOf 55=1:=by kernel_rfl
@[go_sem] theorem isAgg55:isAggT Tryz.prog 55=some false:=by kernel_rfl
@[go_sem] theorem ok55:tyOk Tryz.prog 55=true:=by kernel_rfl
@[go_sem] theorem bytes55:Tryz.prog.bytesOf 55=24:=by kernel_rfl
@[go_sem] theorem zero55:zeroOf Tryz.prog 55=some (.nils):=by kernel_rfl
@[go_sem] theorem zeroLen55:appendA.zeroLen Tryz.prog 55=1:=by kernel_rfl
attribute [go_sem] Tryz.underlying57
attribute [go_sem] Tryz.underlying58
@[go_sem] theorem cellsOf58:Tryz.prog.cellsOf 58=2:=by kernel_rfl
@[go_sem] theorem isAgg58:isAggT Tryz.prog 58=some true:=by kernel_rfl
@[go_sem] theorem ok58:tyOk Tryz.prog 58=true:=by kernel_rfl
@[go_sem] theorem bytes58:Tryz.prog.bytesOf 58=16:=by kernel_rfl
@[go_sem] theorem zero58:zeroOf Tryz.prog 58=some (.p (.agg [(.int .i64 0),(.int .i64 0)])):=by kernel_rfl
@[go_sem] theorem zeroLen58:appendA.zeroLen Tryz.prog 58=2:=by kernel_rfl
@[go_sem] theorem build58 (parts:List (Nat×AV)):buildA Tryz.prog 58 parts=(fillG (fun i=>some (i * 1,1)) [.p (.int .i64 0),.p (.int .i64 0)] parts).map mkAgg :=
  buildA_arr _ _ zero58 rfl Tryz.underlying58 (by kernel_rfl) (by kernel_rfl)
@[go_sem] theorem eqS58 (d:Nat) (xs ys:List PV):eqT Tryz.prog (d+1) 58 xs ys=eqL (eqT Tryz.prog d) [(2,0,1),(2,1,1)] xs ys:=eqT_array _ Tryz.underlying58 (by kernel_rfl) (by kernel_rfl) d xs ys
@[go_sem] theorem eqg58:Tryz.prog.eqGuardType Tryz.prog.depth 58=false:=by kernel_rfl
attribute [go_sem] Tryz.underlying59
attribute [go_sem] Tryz.underlying60
attribute [go_sem] Tryz.underlying61
attribute [go_sem] Tryz.underlying62
attribute [go_sem] Tryz.underlying63
@[go_sem] theorem cellsOf63:Tryz.prog.cellsOf 63=1:=by kernel_rfl
@[go_sem] theorem isAgg63:isAggT Tryz.prog 63=some false:=by kernel_rfl
@[go_sem] theorem ok63:tyOk Tryz.prog 63=true:=by kernel_rfl
@[go_sem] theorem bytes63:Tryz.prog.bytesOf 63=24:=by kernel_rfl
@[go_sem] theorem zero63:zeroOf Tryz.prog 63=some (.nils):=by kernel_rfl
@[go_sem] theorem zeroLen63:appendA.zeroLen Tryz.prog 63=1:=by kernel_rfl
attribute [go_sem] Tryz.underlying64
@[go_sem] theorem cellsOf64:Tryz.prog.cellsOf 64=1:=by kernel_rfl
@[go_sem] theorem isAgg64:isAggT Tryz.prog 64=some false:=by kernel_rfl
attribute [go_sem] Tryz.underlying65
attribute [go_sem] Tryz.underlying66
@[go_sem] theorem cellsOf66:Tryz.prog.cellsOf 66=2:=by kernel_rfl
@[go_sem] theorem isAgg66:isAggT Tryz.prog 66=some true:=by kernel_rfl
@[go_sem] theorem ok66:tyOk Tryz.prog 66=true:=by kernel_rfl
@[go_sem] theorem bytes66:Tryz.prog.bytesOf 66=32:=by kernel_rfl
@[go_sem] theorem zero66:zeroOf Tryz.prog 66=some (.agg [.p (.int .i64 0),.nils]):=by kernel_rfl
@[go_sem] theorem zeroLen66:appendA.zeroLen Tryz.prog 66=2:=by kernel_rfl
@[go_sem] theorem field66_0:fieldOff Tryz.prog 66 0=some 0:=by kernel_rfl
@[go_sem] theorem field66_1:fieldOff Tryz.prog 66 1=some 1:=by kernel_rfl
@[go_sem] theorem build66 (parts:List (Nat×AV)):buildA Tryz.prog 66 parts=(fillG (fun j=>[(0,1),(1,1)][j]?) [.p (.int .i64 0),.nils] parts).map mkAgg :=
  buildA_eq _ _ zero66 rfl (by kernel_rfl) (by kernel_rfl) (by funext j;exact placesA_eq _ _ (by kernel_rfl) j)
attribute [go_sem] Tryz.underlying67
attribute [go_sem] Tryz.underlying68
attribute [go_sem] Tryz.underlying69
attribute [go_sem] Tryz.underlying71
attribute [go_sem] Tryz.underlying73
attribute [go_sem] Tryz.underlying74
attribute [go_sem] Tryz.underlying75
attribute [go_sem] Tryz.underlying76
@[go_sem] theorem cellsOf76:Tryz.prog.cellsOf 76=2:=by kernel_rfl
@[go_sem] theorem isAgg76:isAggT Tryz.prog 76=some true:=by kernel_rfl
@[go_sem] theorem zero76:zeroOf Tryz.prog 76=some (.p (.agg [(.int .i64 0),(.int .i64 0)])):=by kernel_rfl
@[go_sem] theorem field76_0:fieldOff Tryz.prog 76 0=some 0:=by kernel_rfl
@[go_sem] theorem field76_1:fieldOff Tryz.prog 76 1=some 1:=by kernel_rfl
@[go_sem] theorem build76 (parts:List (Nat×AV)):buildA Tryz.prog 76 parts=(fillG (fun j=>[(0,1),(1,1)][j]?) [.p (.int .i64 0),.p (.int .i64 0)] parts).map mkAgg :=
  buildA_eq _ _ zero76 rfl (by kernel_rfl) (by kernel_rfl) (by funext j;exact placesA_eq _ _ (by kernel_rfl) j)
@[go_sem] theorem eqS76 (d:Nat) (xs ys:List PV):eqT Tryz.prog (d+1) 76 xs ys=eqL (eqT Tryz.prog d) [(2,0,1),(2,1,1)] xs ys:=eqT_struct _ (by kernel_rfl) (by kernel_rfl) (by kernel_rfl) (by kernel_rfl) d xs ys
@[go_sem] theorem eqg76:Tryz.prog.eqGuardType Tryz.prog.depth 76=false:=by kernel_rfl
attribute [go_sem] Tryz.underlying78
attribute [go_sem] Tryz.underlying80
attribute [go_sem] Tryz.underlying81
attribute [go_sem] Tryz.underlying82
attribute [go_sem] Tryz.underlying83
attribute [go_sem] Tryz.underlying85
attribute [go_sem] Tryz.underlying86
attribute [go_sem] Tryz.underlying87
attribute [go_sem] Tryz.underlying88
attribute [go_sem] Tryz.underlying89
attribute [go_sem] Tryz.underlying91
attribute [go_sem] Tryz.underlying92
attribute [go_sem] Tryz.underlying93
@[go_sem] theorem cellsOf93:Tryz.prog.cellsOf 93=1:=by kernel_rfl
@[go_sem] theorem isAgg93:isAggT Tryz.prog 93=some false:=by kernel_rfl
@[go_sem] theorem ok93:tyOk Tryz.prog 93=true:=by kernel_rfl
@[go_sem] theorem bytes93:Tryz.prog.bytesOf 93=24:=by kernel_rfl
@[go_sem] theorem zero93:zeroOf Tryz.prog 93=some (.nils):=by kernel_rfl
@[go_sem] theorem zeroLen93:appendA.zeroLen Tryz.prog 93=1:=by kernel_rfl
attribute [go_sem] Tryz.underlying94
attribute [go_sem] Tryz.underlying95
@[go_sem] theorem cellsOf95:Tryz.prog.cellsOf 95=3:=by kernel_rfl
@[go_sem] theorem isAgg95:isAggT Tryz.prog 95=some true:=by kernel_rfl
@[go_sem] theorem ok95:tyOk Tryz.prog 95=true:=by kernel_rfl
@[go_sem] theorem bytes95:Tryz.prog.bytesOf 95=24:=by kernel_rfl
@[go_sem] theorem zero95:zeroOf Tryz.prog 95=some (.p (.agg [(.int .i64 0),(.int .i64 0),(.int .i64 0)])):=by kernel_rfl
@[go_sem] theorem zeroLen95:appendA.zeroLen Tryz.prog 95=3:=by kernel_rfl
@[go_sem] theorem field95_0:fieldOff Tryz.prog 95 0=some 0:=by kernel_rfl
@[go_sem] theorem field95_1:fieldOff Tryz.prog 95 1=some 1:=by kernel_rfl
@[go_sem] theorem field95_2:fieldOff Tryz.prog 95 2=some 2:=by kernel_rfl
@[go_sem] theorem build95 (parts:List (Nat×AV)):buildA Tryz.prog 95 parts=(fillG (fun j=>[(0,1),(1,1),(2,1)][j]?) [.p (.int .i64 0),.p (.int .i64 0),.p (.int .i64 0)] parts).map mkAgg :=
  buildA_eq _ _ zero95 rfl (by kernel_rfl) (by kernel_rfl) (by funext j;exact placesA_eq _ _ (by kernel_rfl) j)
attribute [go_sem] Tryz.underlying97
attribute [go_sem] Tryz.underlying98
attribute [go_sem] Tryz.underlying99
attribute [go_sem] Tryz.underlying100
attribute [go_sem] Tryz.underlying101
attribute [go_sem] Tryz.underlying102
attribute [go_sem] Tryz.underlying103
attribute [go_sem] Tryz.underlying105
attribute [go_sem] Tryz.underlying106
@[go_sem] theorem cellsOf106:Tryz.prog.cellsOf 106=1:=by kernel_rfl
@[go_sem] theorem isAgg106:isAggT Tryz.prog 106=some false:=by kernel_rfl
@[go_sem] theorem ok106:tyOk Tryz.prog 106=true:=by kernel_rfl
@[go_sem] theorem zero106:zeroOf Tryz.prog 106=some (.nils):=by kernel_rfl
attribute [go_sem] Tryz.underlying107
attribute [go_sem] Tryz.underlying108
@[go_sem] theorem cellsOf108:Tryz.prog.cellsOf 108=2:=by kernel_rfl
@[go_sem] theorem isAgg108:isAggT Tryz.prog 108=some true:=by kernel_rfl
@[go_sem] theorem ok108:tyOk Tryz.prog 108=true:=by kernel_rfl
@[go_sem] theorem bytes108:Tryz.prog.bytesOf 108=16:=by kernel_rfl
@[go_sem] theorem zero108:zeroOf Tryz.prog 108=some (.p (.agg [(.int .i64 0),(.int .i64 0)])):=by kernel_rfl
@[go_sem] theorem zeroLen108:appendA.zeroLen Tryz.prog 108=2:=by kernel_rfl
@[go_sem] theorem build108 (parts:List (Nat×AV)):buildA Tryz.prog 108 parts=(fillG (fun i=>some (i * 1,1)) [.p (.int .i64 0),.p (.int .i64 0)] parts).map mkAgg :=
  buildA_arr _ _ zero108 rfl Tryz.underlying108 (by kernel_rfl) (by kernel_rfl)
@[go_sem] theorem eqS108 (d:Nat) (xs ys:List PV):eqT Tryz.prog (d+1) 108 xs ys=eqL (eqT Tryz.prog d) [(3,0,1),(3,1,1)] xs ys:=eqT_array _ Tryz.underlying108 (by kernel_rfl) (by kernel_rfl) d xs ys
attribute [go_sem] Tryz.underlying109
attribute [go_sem] Tryz.underlying110
attribute [go_sem] Tryz.underlying111
attribute [go_sem] Tryz.underlying113
attribute [go_sem] Tryz.underlying114
attribute [go_sem] Tryz.underlying115
attribute [go_sem] Tryz.underlying116
@[go_sem] theorem isAgg116:isAggT Tryz.prog 116=some false:=by kernel_rfl
attribute [go_sem] Tryz.underlying117
attribute [go_sem] Tryz.underlying119
attribute [go_sem] Tryz.underlying120
attribute [go_sem] Tryz.underlying122
attribute [go_sem] Tryz.underlying123
attribute [go_sem] Tryz.underlying124
attribute [go_sem] Tryz.underlying125
attribute [go_sem] Tryz.underlying126
@[go_sem] theorem cellsOf126:Tryz.prog.cellsOf 126=3:=by kernel_rfl
@[go_sem] theorem isAgg126:isAggT Tryz.prog 126=some true:=by kernel_rfl
@[go_sem] theorem ok126:tyOk Tryz.prog 126=true:=by kernel_rfl
@[go_sem] theorem bytes126:Tryz.prog.bytesOf 126=24:=by kernel_rfl
@[go_sem] theorem zero126:zeroOf Tryz.prog 126=some (.p (.agg [(.int .i64 0),(.int .i64 0),(.int .i64 0)])):=by kernel_rfl
@[go_sem] theorem zeroLen126:appendA.zeroLen Tryz.prog 126=3:=by kernel_rfl
@[go_sem] theorem field126_0:fieldOff Tryz.prog 126 0=some 0:=by kernel_rfl
@[go_sem] theorem field126_1:fieldOff Tryz.prog 126 1=some 1:=by kernel_rfl
@[go_sem] theorem field126_2:fieldOff Tryz.prog 126 2=some 2:=by kernel_rfl
@[go_sem] theorem build126 (parts:List (Nat×AV)):buildA Tryz.prog 126 parts=(fillG (fun j=>[(0,1),(1,1),(2,1)][j]?) [.p (.int .i64 0),.p (.int .i64 0),.p (.int .i64 0)] parts).map mkAgg :=
  buildA_eq _ _ zero126 rfl (by kernel_rfl) (by kernel_rfl) (by funext j;exact placesA_eq _ _ (by kernel_rfl) j)
attribute [go_sem] Tryz.underlying127
attribute [go_sem] Tryz.underlying128
attribute [go_sem] Tryz.underlying129
attribute [go_sem] Tryz.underlying130
attribute [go_sem] Tryz.underlying132
attribute [go_sem] Tryz.underlying133
attribute [go_sem] Tryz.underlying134
attribute [go_sem] Tryz.underlying135
attribute [go_sem] Tryz.underlying136
attribute [go_sem] Tryz.underlying137
attribute [go_sem] Tryz.underlying138
attribute [go_sem] Tryz.underlying139
attribute [go_sem] Tryz.underlying140
attribute [go_sem] Tryz.underlying141
attribute [go_sem] Tryz.underlying142
@[go_sem] theorem cellsOf142:Tryz.prog.cellsOf 142=3:=by kernel_rfl
@[go_sem] theorem isAgg142:isAggT Tryz.prog 142=some true:=by kernel_rfl
@[go_sem] theorem ok142:tyOk Tryz.prog 142=true:=by kernel_rfl
@[go_sem] theorem bytes142:Tryz.prog.bytesOf 142=32:=by kernel_rfl
@[go_sem] theorem zero142:zeroOf Tryz.prog 142=some (.p (.agg [(.int .i64 0),(.int .i64 0),(.str [])])):=by kernel_rfl
@[go_sem] theorem zeroLen142:appendA.zeroLen Tryz.prog 142=3:=by kernel_rfl
@[go_sem] theorem field142_0:fieldOff Tryz.prog 142 0=some 0:=by kernel_rfl
@[go_sem] theorem field142_1:fieldOff Tryz.prog 142 1=some 1:=by kernel_rfl
@[go_sem] theorem field142_2:fieldOff Tryz.prog 142 2=some 2:=by kernel_rfl
@[go_sem] theorem build142 (parts:List (Nat×AV)):buildA Tryz.prog 142 parts=(fillG (fun j=>[(0,1),(1,1),(2,1)][j]?) [.p (.int .i64 0),.p (.int .i64 0),.p (.str [])] parts).map mkAgg :=
  buildA_eq _ _ zero142 rfl (by kernel_rfl) (by kernel_rfl) (by funext j;exact placesA_eq _ _ (by kernel_rfl) j)
@[go_sem] theorem eqS142 (d:Nat) (xs ys:List PV):eqT Tryz.prog (d+1) 142 xs ys=eqL (eqT Tryz.prog d) [(3,0,1),(2,1,1),(9,2,1)] xs ys:=eqT_struct _ (by kernel_rfl) (by kernel_rfl) (by kernel_rfl) (by kernel_rfl) d xs ys
@[go_sem] theorem eqg142:Tryz.prog.eqGuardType Tryz.prog.depth 142=false:=by kernel_rfl
attribute [go_sem] Tryz.underlying143
attribute [go_sem] Tryz.underlying144
attribute [go_sem] Tryz.underlying145
attribute [go_sem] Tryz.underlying146
attribute [go_sem] Tryz.underlying147
attribute [go_sem] Tryz.underlying148
attribute [go_sem] Tryz.underlying149
attribute [go_sem] Tryz.underlying150
@[go_sem] theorem isAgg150:isAggT Tryz.prog 150=some false:=by kernel_rfl
attribute [go_sem] Tryz.underlying151
attribute [go_sem] Tryz.underlying152
attribute [go_sem] Tryz.underlying153
attribute [go_sem] Tryz.underlying154
attribute [go_sem] Tryz.underlying155
attribute [go_sem] Tryz.underlying156
attribute [go_sem] Tryz.underlying157
attribute [go_sem] Tryz.underlying158
attribute [go_sem] Tryz.underlying159
attribute [go_sem] Tryz.underlying160
attribute [go_sem] Tryz.underlying161
attribute [go_sem] Tryz.underlying162
attribute [go_sem] Tryz.underlying164
attribute [go_sem] Tryz.underlying165
attribute [go_sem] Tryz.underlying166
@[go_sem] theorem cellsOf166:Tryz.prog.cellsOf 166=1:=by kernel_rfl
@[go_sem] theorem isAgg166:isAggT Tryz.prog 166=some false:=by kernel_rfl
attribute [go_sem] Tryz.underlying167
attribute [go_sem] Tryz.underlying168
attribute [go_sem] Tryz.underlying169
attribute [go_sem] Tryz.underlying170
attribute [go_sem] Tryz.underlying171
attribute [go_sem] Tryz.underlying172
attribute [go_sem] Tryz.underlying173
attribute [go_sem] Tryz.underlying174
attribute [go_sem] Tryz.underlying175
attribute [go_sem] Tryz.underlying176
attribute [go_sem] Tryz.underlying178
attribute [go_sem] Tryz.underlying179
attribute [go_sem] Tryz.underlying180
attribute [go_sem] Tryz.underlying181
attribute [go_sem] Tryz.underlying182
attribute [go_sem] Tryz.underlying183
attribute [go_sem] Tryz.underlying184
attribute [go_sem] Tryz.underlying185
attribute [go_sem] Tryz.underlying186
attribute [go_sem] Tryz.underlying187
attribute [go_sem] Tryz.underlying188
attribute [go_sem] Tryz.underlying189
attribute [go_sem] Tryz.underlying190
attribute [go_sem] Tryz.underlying191
@[go_sem] theorem cellsOf191:Tryz.prog.cellsOf 191=2:=by kernel_rfl
@[go_sem] theorem isAgg191:isAggT Tryz.prog 191=some true:=by kernel_rfl
@[go_sem] theorem zero191:zeroOf Tryz.prog 191=some (.p (.agg [(.int .u64 0),(.int .u64 0)])):=by kernel_rfl
@[go_sem] theorem field191_0:fieldOff Tryz.prog 191 0=some 0:=by kernel_rfl
@[go_sem] theorem field191_1:fieldOff Tryz.prog 191 1=some 1:=by kernel_rfl
@[go_sem] theorem build191 (parts:List (Nat×AV)):buildA Tryz.prog 191 parts=(fillG (fun j=>[(0,1),(1,1)][j]?) [.p (.int .u64 0),.p (.int .u64 0)] parts).map mkAgg :=
  buildA_eq _ _ zero191 rfl (by kernel_rfl) (by kernel_rfl) (by funext j;exact placesA_eq _ _ (by kernel_rfl) j)
attribute [go_sem] Tryz.underlying192
attribute [go_sem] Tryz.underlying193
attribute [go_sem] Tryz.underlying194
attribute [go_sem] Tryz.underlying196
attribute [go_sem] Tryz.underlying197
attribute [go_sem] Tryz.underlying198
attribute [go_sem] Tryz.underlying199
@[go_sem] theorem isAgg199:isAggT Tryz.prog 199=some false:=by kernel_rfl
attribute [go_sem] Tryz.underlying201
attribute [go_sem] Tryz.underlying202
attribute [go_sem] Tryz.underlying203
attribute [go_sem] Tryz.underlying204
attribute [go_sem] Tryz.underlying205
attribute [go_sem] Tryz.underlying206
attribute [go_sem] Tryz.underlying207
@[go_sem] theorem isAgg207:isAggT Tryz.prog 207=some false:=by kernel_rfl
attribute [go_sem] Tryz.underlying208
attribute [go_sem] Tryz.underlying209
attribute [go_sem] Tryz.underlying210
attribute [go_sem] Tryz.underlying211
attribute [go_sem] Tryz.underlying212
attribute [go_sem] Tryz.underlying213
attribute [go_sem] Tryz.underlying214
attribute [go_sem] Tryz.underlying215
attribute [go_sem] Tryz.underlying216
attribute [go_sem] Tryz.underlying217
attribute [go_sem] Tryz.underlying218
@[go_sem] theorem zero218:zeroOf Tryz.prog 218=some (.agg [.nils,.nils,.nils,.p (.int .i64 0)]):=by kernel_rfl
@[go_sem] theorem field218_0:fieldOff Tryz.prog 218 0=some 0:=by kernel_rfl
@[go_sem] theorem field218_1:fieldOff Tryz.prog 218 1=some 1:=by kernel_rfl
@[go_sem] theorem field218_2:fieldOff Tryz.prog 218 2=some 2:=by kernel_rfl
@[go_sem] theorem field218_3:fieldOff Tryz.prog 218 3=some 3:=by kernel_rfl
@[go_sem] theorem build218 (parts:List (Nat×AV)):buildA Tryz.prog 218 parts=(fillG (fun j=>[(0,1),(1,1),(2,1),(3,1)][j]?) [.nils,.nils,.nils,.p (.int .i64 0)] parts).map mkAgg :=
  buildA_eq _ _ zero218 rfl (by kernel_rfl) (by kernel_rfl) (by funext j;exact placesA_eq _ _ (by kernel_rfl) j)
attribute [go_sem] Tryz.underlying219
attribute [go_sem] Tryz.underlying220
attribute [go_sem] Tryz.underlying221
attribute [go_sem] Tryz.underlying222
attribute [go_sem] Tryz.underlying223
attribute [go_sem] Tryz.underlying224
attribute [go_sem] Tryz.underlying225
attribute [go_sem] Tryz.underlying226
attribute [go_sem] Tryz.underlying227
attribute [go_sem] Tryz.underlying228
attribute [go_sem] Tryz.underlying229
attribute [go_sem] Tryz.underlying230
attribute [go_sem] Tryz.underlying231
attribute [go_sem] Tryz.underlying232
attribute [go_sem] Tryz.underlying234
attribute [go_sem] Tryz.underlying235
attribute [go_sem] Tryz.underlying236
attribute [go_sem] Tryz.underlying238
attribute [go_sem] Tryz.underlying239
attribute [go_sem] Tryz.underlying240
attribute [go_sem] Tryz.underlying241
attribute [go_sem] Tryz.underlying242
attribute [go_sem] Tryz.underlying243
attribute [go_sem] Tryz.underlying244
attribute [go_sem] Tryz.underlying245
attribute [go_sem] Tryz.underlying247
attribute [go_sem] Tryz.underlying248
attribute [go_sem] Tryz.underlying249
attribute [go_sem] Tryz.underlying250
attribute [go_sem] Tryz.underlying251
attribute [go_sem] Tryz.underlying252
attribute [go_sem] Tryz.underlying253
@[go_sem] theorem isAgg253:isAggT Tryz.prog 253=some false:=by kernel_rfl
attribute [go_sem] Tryz.underlying254
attribute [go_sem] Tryz.underlying255
attribute [go_sem] Tryz.underlying256
attribute [go_sem] Tryz.underlying257
@[go_sem] theorem isAgg257:isAggT Tryz.prog 257=some false:=by kernel_rfl
attribute [go_sem] Tryz.underlying258
attribute [go_sem] Tryz.underlying259
attribute [go_sem] Tryz.underlying260
attribute [go_sem] Tryz.underlying261
attribute [go_sem] Tryz.underlying263
attribute [go_sem] Tryz.underlying264
attribute [go_sem] Tryz.underlying265
attribute [go_sem] Tryz.underlying266
attribute [go_sem] Tryz.underlying267
attribute [go_sem] Tryz.underlying268
attribute [go_sem] Tryz.underlying269
attribute [go_sem] Tryz.underlying270
attribute [go_sem] Tryz.underlying271
attribute [go_sem] Tryz.underlying272
attribute [go_sem] Tryz.underlying273
attribute [go_sem] Tryz.underlying274
@[go_sem] theorem isAgg274:isAggT Tryz.prog 274=some false:=by kernel_rfl
attribute [go_sem] Tryz.underlying275
attribute [go_sem] Tryz.underlying276
@[go_sem] theorem isAgg276:isAggT Tryz.prog 276=some true:=by kernel_rfl
attribute [go_sem] Tryz.underlying277
attribute [go_sem] Tryz.underlying278
attribute [go_sem] Tryz.underlying279
@[go_sem] theorem isAgg279:isAggT Tryz.prog 279=some false:=by kernel_rfl
attribute [go_sem] Tryz.underlying281
attribute [go_sem] Tryz.underlying282
attribute [go_sem] Tryz.underlying283
attribute [go_sem] Tryz.underlying284
attribute [go_sem] Tryz.underlying285
@[go_sem] theorem isAgg285:isAggT Tryz.prog 285=some false:=by kernel_rfl
attribute [go_sem] Tryz.underlying287
attribute [go_sem] Tryz.underlying288
attribute [go_sem] Tryz.underlying289
attribute [go_sem] Tryz.underlying291
attribute [go_sem] Tryz.underlying293
attribute [go_sem] Tryz.underlying294
attribute [go_sem] Tryz.underlying295
attribute [go_sem] Tryz.underlying296
attribute [go_sem] Tryz.underlying297
attribute [go_sem] Tryz.underlying298
attribute [go_sem] Tryz.underlying299
@[go_sem] theorem isAgg299:isAggT Tryz.prog 299=some false:=by kernel_rfl
attribute [go_sem] Tryz.underlying300
attribute [go_sem] Tryz.underlying301
attribute [go_sem] Tryz.underlying302
attribute [go_sem] Tryz.underlying303
attribute [go_sem] Tryz.underlying304
attribute [go_sem] Tryz.underlying305
attribute [go_sem] Tryz.underlying306
attribute [go_sem] Tryz.underlying308
attribute [go_sem] Tryz.underlying309
attribute [go_sem] Tryz.underlying310
attribute [go_sem] Tryz.underlying311
attribute [go_sem] Tryz.underlying312
attribute [go_sem] Tryz.underlying313
attribute [go_sem] Tryz.underlying314
attribute [go_sem] Tryz.underlying315
attribute [go_sem] Tryz.underlying316
attribute [go_sem] Tryz.underlying317
attribute [go_sem] Tryz.underlying318
attribute [go_sem] Tryz.underlying319
attribute [go_sem] Tryz.underlying320
attribute [go_sem] Tryz.underlying321
attribute [go_sem] Tryz.underlying322
attribute [go_sem] Tryz.underlying323
attribute [go_sem] Tryz.underlying324
end Go.Proofs.YtmlegeeinnkhkaaGreat.Ty
