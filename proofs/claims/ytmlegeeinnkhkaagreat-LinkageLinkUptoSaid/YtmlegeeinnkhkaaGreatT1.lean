/- -/
import Derived.Test.YtmlegeeinnkhkaaGreatProg
import Derived.KernelRfl
import Derived.Test.YtmlegeeinnkhkaaGreatA2
set_option linter.unusedVariables false
set_option linter.unusedSimpArgs false
namespace Go.Proofs.YtmlegeeinnkhkaaGreat.Ty
open Go Go.Ab
attribute [go_sem] Tryz.underlying1
@[go_sem] theorem ok1:qw4 Tryz.prog 1=true:=by kernel_rfl
attribute [go_sem] Tryz.underlying2
@[go_sem] theorem cellsOf2:Tryz.prog.cellsOf 2=1:=by kernel_rfl
@[go_sem] theorem isAgg2:qaw Tryz.prog 2=some false:=by kernel_rfl
@[go_sem] theorem ok2:qw4 Tryz.prog 2=true:=by kernel_rfl
@[go_sem] theorem bytes2:Tryz.prog.bytesOf 2=8:=by kernel_rfl
@[go_sem] theorem zero2:qb8 Tryz.prog 2=some (.p (.int .i64 0)):=by kernel_rfl
@[go_sem] theorem zeroLen2:qij.zeroLen Tryz.prog 2=1:=by kernel_rfl
@[go_sem] theorem eqI2 (d:Nat) (k k':IntKind) (a b:Int):eqT Tryz.prog (d+1) 2 [.int k a] [.int k' b]=if k=k' then some (a == b) else none:=vip _ Tryz.underlying2 d k k' a b
attribute [go_sem] Tryz.underlying3
@[go_sem] theorem cellsOf3:Tryz.prog.cellsOf 3=1:=by kernel_rfl
@[go_sem] theorem isAgg3:qaw Tryz.prog 3=some false:=by kernel_rfl
@[go_sem] theorem ok3:qw4 Tryz.prog 3=true:=by kernel_rfl
@[go_sem] theorem bytes3:Tryz.prog.bytesOf 3=8:=by kernel_rfl
@[go_sem] theorem zero3:qb8 Tryz.prog 3=some (.p (.int .i64 0)):=by kernel_rfl
@[go_sem] theorem zeroLen3:qij.zeroLen Tryz.prog 3=1:=by kernel_rfl
@[go_sem] theorem eqI3 (d:Nat) (k k':IntKind) (a b:Int):eqT Tryz.prog (d+1) 3 [.int k a] [.int k' b]=if k=k' then some (a == b) else none:=vip _ Tryz.underlying3 d k k' a b
attribute [go_sem] Tryz.underlying4
@[go_sem] theorem cellsOf4:Tryz.prog.cellsOf 4=1:=by kernel_rfl
@[go_sem] theorem isAgg4:qaw Tryz.prog 4=some false:=by kernel_rfl
@[go_sem] theorem ok4:qw4 Tryz.prog 4=true:=by kernel_rfl
@[go_sem] theorem bytes4:Tryz.prog.bytesOf 4=1:=by kernel_rfl
@[go_sem] theorem zero4:qb8 Tryz.prog 4=some (.p (.bool false)):=by kernel_rfl
attribute [go_sem] Tryz.underlying5
@[go_sem] theorem cellsOf5:Tryz.prog.cellsOf 5=1:=by kernel_rfl
@[go_sem] theorem isAgg5:qaw Tryz.prog 5=some false:=by kernel_rfl
@[go_sem] theorem ok5:qw4 Tryz.prog 5=true:=by kernel_rfl
attribute [go_sem] Tryz.underlying6 Tryz.underlying7 Tryz.underlying8 Tryz.underlying9
@[go_sem] theorem cellsOf9:Tryz.prog.cellsOf 9=1:=by kernel_rfl
@[go_sem] theorem isAgg9:qaw Tryz.prog 9=some false:=by kernel_rfl
@[go_sem] theorem ok9:qw4 Tryz.prog 9=true:=by kernel_rfl
@[go_sem] theorem bytes9:Tryz.prog.bytesOf 9=16:=by kernel_rfl
@[go_sem] theorem zero9:qb8 Tryz.prog 9=some (.p (.str [])):=by kernel_rfl
@[go_sem] theorem zeroLen9:qij.zeroLen Tryz.prog 9=1:=by kernel_rfl
@[go_sem] theorem eqI9 (d:Nat) (a b:List UInt8):eqT Tryz.prog (d+1) 9 [.str a] [.str b]=some (a == b):=vqs _ Tryz.underlying9 d a b
attribute [go_sem] Tryz.underlying10 Tryz.underlying11 Tryz.underlying12 Tryz.underlying13 Tryz.underlying14 Tryz.underlying15 Tryz.underlying16 Tryz.underlying17 Tryz.underlying18 Tryz.underlying19 Tryz.underlying20
@[go_sem] theorem isAgg20:qaw Tryz.prog 20=some false:=by kernel_rfl
attribute [go_sem] Tryz.underlying21 Tryz.underlying22
@[go_sem] theorem vwr:Tryz.prog.cellsOf 22=1:=by kernel_rfl
@[go_sem] theorem isAgg22:qaw Tryz.prog 22=some false:=by kernel_rfl
attribute [go_sem] Tryz.underlying23
@[go_sem] theorem vws:Tryz.prog.cellsOf 23=1:=by kernel_rfl
@[go_sem] theorem isAgg23:qaw Tryz.prog 23=some false:=by kernel_rfl
@[go_sem] theorem ok23:qw4 Tryz.prog 23=true:=by kernel_rfl
@[go_sem] theorem bytes23:Tryz.prog.bytesOf 23=24:=by kernel_rfl
@[go_sem] theorem zero23:qb8 Tryz.prog 23=some (.nils):=by kernel_rfl
@[go_sem] theorem vwt:qij.zeroLen Tryz.prog 23=1:=by kernel_rfl
attribute [go_sem] Tryz.underlying24 Tryz.underlying25
@[go_sem] theorem vwu:Tryz.prog.cellsOf 25=3:=by kernel_rfl
@[go_sem] theorem isAgg25:qaw Tryz.prog 25=some true:=by kernel_rfl
@[go_sem] theorem vwv:qb8 Tryz.prog 25=some (.agg [.nils,.nils,.nils]):=by kernel_rfl
@[go_sem] theorem vww:qa5 Tryz.prog 25 0=some 0:=by kernel_rfl
@[go_sem] theorem vwx:qa5 Tryz.prog 25 1=some 1:=by kernel_rfl
@[go_sem] theorem vwy:qa5 Tryz.prog 25 2=some 2:=by kernel_rfl
@[go_sem] theorem build25 (qa3:List (Nat×AV)):qlb Tryz.prog 25 qa3=(qnz (fun j=>[(0,1),(1,1),(2,1)][j]?) [.nils,.nils,.nils] qa3).map qog :=
  qjp _ _ vwv rfl (by kernel_rfl) (by kernel_rfl) (by funext j;exact qhc _ _ (by kernel_rfl) j)
attribute [go_sem] Tryz.underlying26 Tryz.underlying27 Tryz.underlying28 Tryz.underlying29 Tryz.underlying30 Tryz.underlying31
@[go_sem] theorem vwz:Tryz.prog.cellsOf 31=1:=by kernel_rfl
@[go_sem] theorem isAgg31:qaw Tryz.prog 31=some false:=by kernel_rfl
attribute [go_sem] Tryz.underlying32 Tryz.underlying33
@[go_sem] theorem vw0:Tryz.prog.cellsOf 33=3:=by kernel_rfl
@[go_sem] theorem isAgg33:qaw Tryz.prog 33=some true:=by kernel_rfl
@[go_sem] theorem vw1:qa5 Tryz.prog 33 0=some 0:=by kernel_rfl
@[go_sem] theorem vw2:qa5 Tryz.prog 33 1=some 1:=by kernel_rfl
@[go_sem] theorem vw3:qa5 Tryz.prog 33 2=some 2:=by kernel_rfl
attribute [go_sem] Tryz.underlying34
@[go_sem] theorem vw4:Tryz.prog.cellsOf 34=1:=by kernel_rfl
@[go_sem] theorem isAgg34:qaw Tryz.prog 34=some false:=by kernel_rfl
attribute [go_sem] Tryz.underlying35
@[go_sem] theorem vw5:Tryz.prog.cellsOf 35=1:=by kernel_rfl
@[go_sem] theorem isAgg35:qaw Tryz.prog 35=some false:=by kernel_rfl
@[go_sem] theorem ok35:qw4 Tryz.prog 35=true:=by kernel_rfl
attribute [go_sem] Tryz.underlying36 Tryz.underlying37
@[go_sem] theorem vw6:Tryz.prog.cellsOf 37=3:=by kernel_rfl
@[go_sem] theorem isAgg37:qaw Tryz.prog 37=some true:=by kernel_rfl
@[go_sem] theorem vw7:qa5 Tryz.prog 37 0=some 0:=by kernel_rfl
@[go_sem] theorem vw8:qa5 Tryz.prog 37 1=some 1:=by kernel_rfl
@[go_sem] theorem vw9:qa5 Tryz.prog 37 2=some 2:=by kernel_rfl
attribute [go_sem] Tryz.underlying38
@[go_sem] theorem vxa:Tryz.prog.cellsOf 38=1:=by kernel_rfl
@[go_sem] theorem isAgg38:qaw Tryz.prog 38=some false:=by kernel_rfl
attribute [go_sem] Tryz.underlying39
@[go_sem] theorem vxb:Tryz.prog.cellsOf 39=1:=by kernel_rfl
@[go_sem] theorem isAgg39:qaw Tryz.prog 39=some false:=by kernel_rfl
attribute [go_sem] Tryz.underlying40 Tryz.underlying41
@[go_sem] theorem vxc:Tryz.prog.cellsOf 41=3:=by kernel_rfl
@[go_sem] theorem isAgg41:qaw Tryz.prog 41=some true:=by kernel_rfl
@[go_sem] theorem vxd:qb8 Tryz.prog 41=some (.agg [.p (.str []),.nils,.nils]):=by kernel_rfl
@[go_sem] theorem vxe:qa5 Tryz.prog 41 0=some 0:=by kernel_rfl
@[go_sem] theorem vxf:qa5 Tryz.prog 41 1=some 1:=by kernel_rfl
@[go_sem] theorem vxg:qa5 Tryz.prog 41 2=some 2:=by kernel_rfl
@[go_sem] theorem build41 (qa3:List (Nat×AV)):qlb Tryz.prog 41 qa3=(qnz (fun j=>[(0,1),(1,1),(2,1)][j]?) [.p (.str []),.nils,.nils] qa3).map qog :=
  qjp _ _ vxd rfl (by kernel_rfl) (by kernel_rfl) (by funext j;exact qhc _ _ (by kernel_rfl) j)
attribute [go_sem] Tryz.underlying43 Tryz.underlying44 Tryz.underlying46 Tryz.underlying47 Tryz.underlying48 Tryz.underlying49 Tryz.underlying50 Tryz.underlying51
@[go_sem] theorem vxh:Tryz.prog.cellsOf 51=3:=by kernel_rfl
@[go_sem] theorem isAgg51:qaw Tryz.prog 51=some true:=by kernel_rfl
@[go_sem] theorem ok51:qw4 Tryz.prog 51=true:=by kernel_rfl
@[go_sem] theorem zero51:qb8 Tryz.prog 51=some (.p (.agg [(.int .u8 0),(.int .u8 0),(.int .u8 0)])):=by kernel_rfl
@[go_sem] theorem vxi:qa5 Tryz.prog 51 0=some 0:=by kernel_rfl
@[go_sem] theorem vxj:qa5 Tryz.prog 51 1=some 1:=by kernel_rfl
@[go_sem] theorem vxk:qa5 Tryz.prog 51 2=some 2:=by kernel_rfl
attribute [go_sem] Tryz.underlying52
@[go_sem] theorem vxl:Tryz.prog.cellsOf 52=1:=by kernel_rfl
@[go_sem] theorem isAgg52:qaw Tryz.prog 52=some false:=by kernel_rfl
attribute [go_sem] Tryz.underlying54 Tryz.underlying55
@[go_sem] theorem vxm:Tryz.prog.cellsOf 55=1:=by kernel_rfl
@[go_sem] theorem isAgg55:qaw Tryz.prog 55=some false:=by kernel_rfl
@[go_sem] theorem ok55:qw4 Tryz.prog 55=true:=by kernel_rfl
attribute [go_sem] Tryz.underlying57 Tryz.underlying58
@[go_sem] theorem vxn:Tryz.prog.cellsOf 58=2:=by kernel_rfl
@[go_sem] theorem isAgg58:qaw Tryz.prog 58=some true:=by kernel_rfl
@[go_sem] theorem ok58:qw4 Tryz.prog 58=true:=by kernel_rfl
@[go_sem] theorem bytes58:Tryz.prog.bytesOf 58=16:=by kernel_rfl
@[go_sem] theorem vxo:qb8 Tryz.prog 58=some (.p (.agg [(.int .i64 0),(.int .i64 0)])):=by kernel_rfl
@[go_sem] theorem vxp:qij.zeroLen Tryz.prog 58=2:=by kernel_rfl
@[go_sem] theorem build58 (qa3:List (Nat×AV)):qlb Tryz.prog 58 qa3=(qnz (fun i=>some (i * 1,1)) [.p (.int .i64 0),.p (.int .i64 0)] qa3).map qog :=
  q4m _ _ vxo rfl Tryz.underlying58 (by kernel_rfl) (by kernel_rfl)
@[go_sem] theorem eqS58 (d:Nat) (xs ys:List PV):eqT Tryz.prog (d+1) 58 xs ys=eqL (eqT Tryz.prog d) [(2,0,1),(2,1,1)] xs ys:=q83 _ Tryz.underlying58 (by kernel_rfl) (by kernel_rfl) d xs ys
@[go_sem] theorem eqg58:Tryz.prog.eqGuardType Tryz.prog.depth 58=false:=by kernel_rfl
attribute [go_sem] Tryz.underlying59 Tryz.underlying60 Tryz.underlying61 Tryz.underlying62 Tryz.underlying63
@[go_sem] theorem vxq:Tryz.prog.cellsOf 63=1:=by kernel_rfl
@[go_sem] theorem isAgg63:qaw Tryz.prog 63=some false:=by kernel_rfl
@[go_sem] theorem ok63:qw4 Tryz.prog 63=true:=by kernel_rfl
@[go_sem] theorem bytes63:Tryz.prog.bytesOf 63=24:=by kernel_rfl
@[go_sem] theorem zero63:qb8 Tryz.prog 63=some (.nils):=by kernel_rfl
@[go_sem] theorem vxr:qij.zeroLen Tryz.prog 63=1:=by kernel_rfl
attribute [go_sem] Tryz.underlying64
@[go_sem] theorem vxs:Tryz.prog.cellsOf 64=1:=by kernel_rfl
@[go_sem] theorem isAgg64:qaw Tryz.prog 64=some false:=by kernel_rfl
attribute [go_sem] Tryz.underlying65 Tryz.underlying66
@[go_sem] theorem vxt:Tryz.prog.cellsOf 66=2:=by kernel_rfl
@[go_sem] theorem isAgg66:qaw Tryz.prog 66=some true:=by kernel_rfl
@[go_sem] theorem ok66:qw4 Tryz.prog 66=true:=by kernel_rfl
@[go_sem] theorem bytes66:Tryz.prog.bytesOf 66=32:=by kernel_rfl
@[go_sem] theorem vxu:qb8 Tryz.prog 66=some (.agg [.p (.int .i64 0),.nils]):=by kernel_rfl
@[go_sem] theorem vxv:qij.zeroLen Tryz.prog 66=2:=by kernel_rfl
@[go_sem] theorem vxw:qa5 Tryz.prog 66 0=some 0:=by kernel_rfl
@[go_sem] theorem vxx:qa5 Tryz.prog 66 1=some 1:=by kernel_rfl
@[go_sem] theorem build66 (qa3:List (Nat×AV)):qlb Tryz.prog 66 qa3=(qnz (fun j=>[(0,1),(1,1)][j]?) [.p (.int .i64 0),.nils] qa3).map qog :=
  qjp _ _ vxu rfl (by kernel_rfl) (by kernel_rfl) (by funext j;exact qhc _ _ (by kernel_rfl) j)
attribute [go_sem] Tryz.underlying67 Tryz.underlying68 Tryz.underlying69 Tryz.underlying71 Tryz.underlying73 Tryz.underlying74 Tryz.underlying75 Tryz.underlying76
@[go_sem] theorem vxy:Tryz.prog.cellsOf 76=2:=by kernel_rfl
@[go_sem] theorem isAgg76:qaw Tryz.prog 76=some true:=by kernel_rfl
@[go_sem] theorem vxz:qb8 Tryz.prog 76=some (.p (.agg [(.int .i64 0),(.int .i64 0)])):=by kernel_rfl
@[go_sem] theorem vx0:qa5 Tryz.prog 76 0=some 0:=by kernel_rfl
@[go_sem] theorem vx1:qa5 Tryz.prog 76 1=some 1:=by kernel_rfl
@[go_sem] theorem build76 (qa3:List (Nat×AV)):qlb Tryz.prog 76 qa3=(qnz (fun j=>[(0,1),(1,1)][j]?) [.p (.int .i64 0),.p (.int .i64 0)] qa3).map qog :=
  qjp _ _ vxz rfl (by kernel_rfl) (by kernel_rfl) (by funext j;exact qhc _ _ (by kernel_rfl) j)
@[go_sem] theorem eqS76 (d:Nat) (xs ys:List PV):eqT Tryz.prog (d+1) 76 xs ys=eqL (eqT Tryz.prog d) [(2,0,1),(2,1,1)] xs ys:=q4l _ (by kernel_rfl) (by kernel_rfl) (by kernel_rfl) (by kernel_rfl) d xs ys
@[go_sem] theorem eqg76:Tryz.prog.eqGuardType Tryz.prog.depth 76=false:=by kernel_rfl
attribute [go_sem] Tryz.underlying78 Tryz.underlying80 Tryz.underlying81 Tryz.underlying82 Tryz.underlying83
@[go_sem] theorem vx2:Tryz.prog.cellsOf 83=5:=by kernel_rfl
@[go_sem] theorem isAgg83:qaw Tryz.prog 83=some true:=by kernel_rfl
@[go_sem] theorem vx3:qb8 Tryz.prog 83=some (.agg [.p (.str []),.nils,.nils,.nils,.nils]):=by kernel_rfl
@[go_sem] theorem vx4:qa5 Tryz.prog 83 0=some 0:=by kernel_rfl
@[go_sem] theorem vx5:qa5 Tryz.prog 83 1=some 3:=by kernel_rfl
@[go_sem] theorem vx6:qa5 Tryz.prog 83 2=some 4:=by kernel_rfl
@[go_sem] theorem build83 (qa3:List (Nat×AV)):qlb Tryz.prog 83 qa3=(qnz (fun j=>[(0,3),(3,1),(4,1)][j]?) [.p (.str []),.nils,.nils,.nils,.nils] qa3).map qog :=
  qjp _ _ vx3 rfl (by kernel_rfl) (by kernel_rfl) (by funext j;exact qhc _ _ (by kernel_rfl) j)
attribute [go_sem] Tryz.underlying85 Tryz.underlying86 Tryz.underlying87 Tryz.underlying88 Tryz.underlying89 Tryz.underlying91 Tryz.underlying92 Tryz.underlying93
@[go_sem] theorem vx7:Tryz.prog.cellsOf 93=1:=by kernel_rfl
@[go_sem] theorem isAgg93:qaw Tryz.prog 93=some false:=by kernel_rfl
@[go_sem] theorem ok93:qw4 Tryz.prog 93=true:=by kernel_rfl
@[go_sem] theorem bytes93:Tryz.prog.bytesOf 93=24:=by kernel_rfl
@[go_sem] theorem zero93:qb8 Tryz.prog 93=some (.nils):=by kernel_rfl
@[go_sem] theorem vx8:qij.zeroLen Tryz.prog 93=1:=by kernel_rfl
attribute [go_sem] Tryz.underlying94 Tryz.underlying95
@[go_sem] theorem vx9:Tryz.prog.cellsOf 95=3:=by kernel_rfl
@[go_sem] theorem isAgg95:qaw Tryz.prog 95=some true:=by kernel_rfl
@[go_sem] theorem ok95:qw4 Tryz.prog 95=true:=by kernel_rfl
@[go_sem] theorem bytes95:Tryz.prog.bytesOf 95=24:=by kernel_rfl
@[go_sem] theorem vya:qb8 Tryz.prog 95=some (.p (.agg [(.int .i64 0),(.int .i64 0),(.int .i64 0)])):=by kernel_rfl
@[go_sem] theorem vyb:qij.zeroLen Tryz.prog 95=3:=by kernel_rfl
@[go_sem] theorem vyc:qa5 Tryz.prog 95 0=some 0:=by kernel_rfl
@[go_sem] theorem vyd:qa5 Tryz.prog 95 1=some 1:=by kernel_rfl
@[go_sem] theorem vye:qa5 Tryz.prog 95 2=some 2:=by kernel_rfl
@[go_sem] theorem build95 (qa3:List (Nat×AV)):qlb Tryz.prog 95 qa3=(qnz (fun j=>[(0,1),(1,1),(2,1)][j]?) [.p (.int .i64 0),.p (.int .i64 0),.p (.int .i64 0)] qa3).map qog :=
  qjp _ _ vya rfl (by kernel_rfl) (by kernel_rfl) (by funext j;exact qhc _ _ (by kernel_rfl) j)
attribute [go_sem] Tryz.underlying97 Tryz.underlying98 Tryz.underlying99 Tryz.underlying100 Tryz.underlying101 Tryz.underlying102 Tryz.underlying103 Tryz.underlying105 Tryz.underlying106
@[go_sem] theorem vul:Tryz.prog.cellsOf 106=1:=by kernel_rfl
@[go_sem] theorem isAgg106:qaw Tryz.prog 106=some false:=by kernel_rfl
@[go_sem] theorem ok106:qw4 Tryz.prog 106=true:=by kernel_rfl
@[go_sem] theorem zero106:qb8 Tryz.prog 106=some (.nils):=by kernel_rfl
attribute [go_sem] Tryz.underlying107 Tryz.underlying108
@[go_sem] theorem vum:Tryz.prog.cellsOf 108=2:=by kernel_rfl
@[go_sem] theorem isAgg108:qaw Tryz.prog 108=some true:=by kernel_rfl
@[go_sem] theorem ok108:qw4 Tryz.prog 108=true:=by kernel_rfl
@[go_sem] theorem bytes108:Tryz.prog.bytesOf 108=16:=by kernel_rfl
@[go_sem] theorem vsm:qb8 Tryz.prog 108=some (.p (.agg [(.int .i64 0),(.int .i64 0)])):=by kernel_rfl
@[go_sem] theorem vun:qij.zeroLen Tryz.prog 108=2:=by kernel_rfl
@[go_sem] theorem build108 (qa3:List (Nat×AV)):qlb Tryz.prog 108 qa3=(qnz (fun i=>some (i * 1,1)) [.p (.int .i64 0),.p (.int .i64 0)] qa3).map qog :=
  q4m _ _ vsm rfl Tryz.underlying108 (by kernel_rfl) (by kernel_rfl)
@[go_sem] theorem eqS108 (d:Nat) (xs ys:List PV):eqT Tryz.prog (d+1) 108 xs ys=eqL (eqT Tryz.prog d) [(3,0,1),(3,1,1)] xs ys:=q83 _ Tryz.underlying108 (by kernel_rfl) (by kernel_rfl) d xs ys
attribute [go_sem] Tryz.underlying109 Tryz.underlying110 Tryz.underlying111 Tryz.underlying113 Tryz.underlying114 Tryz.underlying115 Tryz.underlying116
@[go_sem] theorem isAgg116:qaw Tryz.prog 116=some false:=by kernel_rfl
attribute [go_sem] Tryz.underlying117 Tryz.underlying119 Tryz.underlying120 Tryz.underlying122 Tryz.underlying123 Tryz.underlying124 Tryz.underlying125 Tryz.underlying126
@[go_sem] theorem vuo:Tryz.prog.cellsOf 126=3:=by kernel_rfl
@[go_sem] theorem isAgg126:qaw Tryz.prog 126=some true:=by kernel_rfl
@[go_sem] theorem ok126:qw4 Tryz.prog 126=true:=by kernel_rfl
@[go_sem] theorem bytes126:Tryz.prog.bytesOf 126=24:=by kernel_rfl
@[go_sem] theorem vsn:qb8 Tryz.prog 126=some (.p (.agg [(.int .i64 0),(.int .i64 0),(.int .i64 0)])):=by kernel_rfl
@[go_sem] theorem vup:qij.zeroLen Tryz.prog 126=3:=by kernel_rfl
@[go_sem] theorem vuq:qa5 Tryz.prog 126 0=some 0:=by kernel_rfl
@[go_sem] theorem vur:qa5 Tryz.prog 126 1=some 1:=by kernel_rfl
@[go_sem] theorem vus:qa5 Tryz.prog 126 2=some 2:=by kernel_rfl
@[go_sem] theorem build126 (qa3:List (Nat×AV)):qlb Tryz.prog 126 qa3=(qnz (fun j=>[(0,1),(1,1),(2,1)][j]?) [.p (.int .i64 0),.p (.int .i64 0),.p (.int .i64 0)] qa3).map qog :=
  qjp _ _ vsn rfl (by kernel_rfl) (by kernel_rfl) (by funext j;exact qhc _ _ (by kernel_rfl) j)
attribute [go_sem] Tryz.underlying127 Tryz.underlying128 Tryz.underlying129 Tryz.underlying130 Tryz.underlying132 Tryz.underlying133 Tryz.underlying134 Tryz.underlying135 Tryz.underlying136 Tryz.underlying137 Tryz.underlying138 Tryz.underlying139 Tryz.underlying140 Tryz.underlying141 Tryz.underlying142
@[go_sem] theorem vut:Tryz.prog.cellsOf 142=3:=by kernel_rfl
@[go_sem] theorem isAgg142:qaw Tryz.prog 142=some true:=by kernel_rfl
@[go_sem] theorem ok142:qw4 Tryz.prog 142=true:=by kernel_rfl
@[go_sem] theorem bytes142:Tryz.prog.bytesOf 142=32:=by kernel_rfl
@[go_sem] theorem vso:qb8 Tryz.prog 142=some (.p (.agg [(.int .i64 0),(.int .i64 0),(.str [])])):=by kernel_rfl
@[go_sem] theorem vuu:qij.zeroLen Tryz.prog 142=3:=by kernel_rfl
@[go_sem] theorem vuv:qa5 Tryz.prog 142 0=some 0:=by kernel_rfl
@[go_sem] theorem vuw:qa5 Tryz.prog 142 1=some 1:=by kernel_rfl
@[go_sem] theorem vux:qa5 Tryz.prog 142 2=some 2:=by kernel_rfl
@[go_sem] theorem build142 (qa3:List (Nat×AV)):qlb Tryz.prog 142 qa3=(qnz (fun j=>[(0,1),(1,1),(2,1)][j]?) [.p (.int .i64 0),.p (.int .i64 0),.p (.str [])] qa3).map qog :=
  qjp _ _ vso rfl (by kernel_rfl) (by kernel_rfl) (by funext j;exact qhc _ _ (by kernel_rfl) j)
@[go_sem] theorem eqS142 (d:Nat) (xs ys:List PV):eqT Tryz.prog (d+1) 142 xs ys=eqL (eqT Tryz.prog d) [(3,0,1),(2,1,1),(9,2,1)] xs ys:=q4l _ (by kernel_rfl) (by kernel_rfl) (by kernel_rfl) (by kernel_rfl) d xs ys
@[go_sem] theorem eqg142:Tryz.prog.eqGuardType Tryz.prog.depth 142=false:=by kernel_rfl
attribute [go_sem] Tryz.underlying143 Tryz.underlying144 Tryz.underlying145 Tryz.underlying146 Tryz.underlying147 Tryz.underlying148 Tryz.underlying149 Tryz.underlying150
@[go_sem] theorem isAgg150:qaw Tryz.prog 150=some false:=by kernel_rfl
attribute [go_sem] Tryz.underlying151 Tryz.underlying152 Tryz.underlying153 Tryz.underlying154 Tryz.underlying155 Tryz.underlying156 Tryz.underlying157 Tryz.underlying158 Tryz.underlying159 Tryz.underlying160 Tryz.underlying161 Tryz.underlying162 Tryz.underlying164 Tryz.underlying165 Tryz.underlying166
@[go_sem] theorem vuy:Tryz.prog.cellsOf 166=1:=by kernel_rfl
@[go_sem] theorem isAgg166:qaw Tryz.prog 166=some false:=by kernel_rfl
attribute [go_sem] Tryz.underlying167 Tryz.underlying168 Tryz.underlying169 Tryz.underlying170 Tryz.underlying171 Tryz.underlying172 Tryz.underlying173 Tryz.underlying174 Tryz.underlying175 Tryz.underlying176 Tryz.underlying178 Tryz.underlying179 Tryz.underlying180 Tryz.underlying181 Tryz.underlying182 Tryz.underlying183 Tryz.underlying184
@[go_sem] theorem vuz:Tryz.prog.cellsOf 184=3:=by kernel_rfl
@[go_sem] theorem isAgg184:qaw Tryz.prog 184=some true:=by kernel_rfl
@[go_sem] theorem vsp:qb8 Tryz.prog 184=some (.agg [.p (.int .i64 0),.nils,.nils]):=by kernel_rfl
@[go_sem] theorem vu0:qa5 Tryz.prog 184 0=some 0:=by kernel_rfl
@[go_sem] theorem vu1:qa5 Tryz.prog 184 1=some 2:=by kernel_rfl
@[go_sem] theorem build184 (qa3:List (Nat×AV)):qlb Tryz.prog 184 qa3=(qnz (fun j=>[(0,2),(2,1)][j]?) [.p (.int .i64 0),.nils,.nils] qa3).map qog :=
  qjp _ _ vsp rfl (by kernel_rfl) (by kernel_rfl) (by funext j;exact qhc _ _ (by kernel_rfl) j)
attribute [go_sem] Tryz.underlying185 Tryz.underlying186 Tryz.underlying187 Tryz.underlying188 Tryz.underlying189 Tryz.underlying190 Tryz.underlying191
@[go_sem] theorem vu2:Tryz.prog.cellsOf 191=2:=by kernel_rfl
@[go_sem] theorem isAgg191:qaw Tryz.prog 191=some true:=by kernel_rfl
@[go_sem] theorem vsq:qb8 Tryz.prog 191=some (.p (.agg [(.int .u64 0),(.int .u64 0)])):=by kernel_rfl
@[go_sem] theorem vu3:qa5 Tryz.prog 191 0=some 0:=by kernel_rfl
@[go_sem] theorem vu4:qa5 Tryz.prog 191 1=some 1:=by kernel_rfl
@[go_sem] theorem build191 (qa3:List (Nat×AV)):qlb Tryz.prog 191 qa3=(qnz (fun j=>[(0,1),(1,1)][j]?) [.p (.int .u64 0),.p (.int .u64 0)] qa3).map qog :=
  qjp _ _ vsq rfl (by kernel_rfl) (by kernel_rfl) (by funext j;exact qhc _ _ (by kernel_rfl) j)
attribute [go_sem] Tryz.underlying192 Tryz.underlying193 Tryz.underlying194 Tryz.underlying196 Tryz.underlying197 Tryz.underlying198 Tryz.underlying199
@[go_sem] theorem isAgg199:qaw Tryz.prog 199=some false:=by kernel_rfl
attribute [go_sem] Tryz.underlying201 Tryz.underlying202 Tryz.underlying203 Tryz.underlying204 Tryz.underlying205 Tryz.underlying206 Tryz.underlying207
@[go_sem] theorem isAgg207:qaw Tryz.prog 207=some false:=by kernel_rfl
attribute [go_sem] Tryz.underlying208 Tryz.underlying209 Tryz.underlying210 Tryz.underlying211 Tryz.underlying212 Tryz.underlying213 Tryz.underlying214 Tryz.underlying215 Tryz.underlying216 Tryz.underlying217 Tryz.underlying218
@[go_sem] theorem vsr:qb8 Tryz.prog 218=some (.agg [.nils,.nils,.nils,.p (.int .i64 0)]):=by kernel_rfl
@[go_sem] theorem vu5:qa5 Tryz.prog 218 0=some 0:=by kernel_rfl
@[go_sem] theorem vu6:qa5 Tryz.prog 218 1=some 1:=by kernel_rfl
@[go_sem] theorem vu7:qa5 Tryz.prog 218 2=some 2:=by kernel_rfl
@[go_sem] theorem vu8:qa5 Tryz.prog 218 3=some 3:=by kernel_rfl
@[go_sem] theorem build218 (qa3:List (Nat×AV)):qlb Tryz.prog 218 qa3=(qnz (fun j=>[(0,1),(1,1),(2,1),(3,1)][j]?) [.nils,.nils,.nils,.p (.int .i64 0)] qa3).map qog :=
  qjp _ _ vsr rfl (by kernel_rfl) (by kernel_rfl) (by funext j;exact qhc _ _ (by kernel_rfl) j)
attribute [go_sem] Tryz.underlying219 Tryz.underlying220 Tryz.underlying221 Tryz.underlying222 Tryz.underlying223 Tryz.underlying224 Tryz.underlying225 Tryz.underlying226 Tryz.underlying227 Tryz.underlying228 Tryz.underlying229 Tryz.underlying230 Tryz.underlying231 Tryz.underlying232
@[go_sem] theorem vu9:Tryz.prog.cellsOf 232=1:=by kernel_rfl
@[go_sem] theorem isAgg232:qaw Tryz.prog 232=some false:=by kernel_rfl
@[go_sem] theorem zero232:qb8 Tryz.prog 232=some (.p (.mapv [] [])):=by kernel_rfl
attribute [go_sem] Tryz.underlying234 Tryz.underlying235 Tryz.underlying236 Tryz.underlying238 Tryz.underlying239 Tryz.underlying240 Tryz.underlying241
@[go_sem] theorem vva:Tryz.prog.cellsOf 241=4:=by kernel_rfl
@[go_sem] theorem isAgg241:qaw Tryz.prog 241=some true:=by kernel_rfl
@[go_sem] theorem vss:qb8 Tryz.prog 241=some (.p (.agg [(.int .i64 0),(.int .i64 0),(.str []),(.int .i64 0)])):=by kernel_rfl
@[go_sem] theorem vvb:qa5 Tryz.prog 241 0=some 0:=by kernel_rfl
@[go_sem] theorem vvc:qa5 Tryz.prog 241 1=some 3:=by kernel_rfl
@[go_sem] theorem build241 (qa3:List (Nat×AV)):qlb Tryz.prog 241 qa3=(qnz (fun j=>[(0,3),(3,1)][j]?) [.p (.int .i64 0),.p (.int .i64 0),.p (.str []),.p (.int .i64 0)] qa3).map qog :=
  qjp _ _ vss rfl (by kernel_rfl) (by kernel_rfl) (by funext j;exact qhc _ _ (by kernel_rfl) j)
attribute [go_sem] Tryz.underlying242 Tryz.underlying243 Tryz.underlying244 Tryz.underlying245 Tryz.underlying247 Tryz.underlying248 Tryz.underlying249 Tryz.underlying250 Tryz.underlying251 Tryz.underlying252 Tryz.underlying253
@[go_sem] theorem isAgg253:qaw Tryz.prog 253=some false:=by kernel_rfl
attribute [go_sem] Tryz.underlying254 Tryz.underlying255 Tryz.underlying256 Tryz.underlying257
@[go_sem] theorem isAgg257:qaw Tryz.prog 257=some false:=by kernel_rfl
attribute [go_sem] Tryz.underlying258 Tryz.underlying259 Tryz.underlying260 Tryz.underlying261 Tryz.underlying263 Tryz.underlying264 Tryz.underlying265 Tryz.underlying266 Tryz.underlying267 Tryz.underlying268 Tryz.underlying269 Tryz.underlying270 Tryz.underlying271 Tryz.underlying272 Tryz.underlying273 Tryz.underlying274
@[go_sem] theorem isAgg274:qaw Tryz.prog 274=some false:=by kernel_rfl
attribute [go_sem] Tryz.underlying275 Tryz.underlying276
@[go_sem] theorem isAgg276:qaw Tryz.prog 276=some true:=by kernel_rfl
attribute [go_sem] Tryz.underlying277 Tryz.underlying278 Tryz.underlying279
@[go_sem] theorem isAgg279:qaw Tryz.prog 279=some false:=by kernel_rfl
attribute [go_sem] Tryz.underlying281 Tryz.underlying282 Tryz.underlying283 Tryz.underlying284 Tryz.underlying285
@[go_sem] theorem isAgg285:qaw Tryz.prog 285=some false:=by kernel_rfl
attribute [go_sem] Tryz.underlying287 Tryz.underlying288 Tryz.underlying289 Tryz.underlying291 Tryz.underlying293 Tryz.underlying294 Tryz.underlying295 Tryz.underlying296 Tryz.underlying297 Tryz.underlying298 Tryz.underlying299
@[go_sem] theorem isAgg299:qaw Tryz.prog 299=some false:=by kernel_rfl
attribute [go_sem] Tryz.underlying300 Tryz.underlying301 Tryz.underlying302 Tryz.underlying303 Tryz.underlying304 Tryz.underlying305 Tryz.underlying306 Tryz.underlying308 Tryz.underlying309 Tryz.underlying310 Tryz.underlying311 Tryz.underlying312 Tryz.underlying313 Tryz.underlying314 Tryz.underlying315 Tryz.underlying316 Tryz.underlying317 Tryz.underlying318 Tryz.underlying319 Tryz.underlying320 Tryz.underlying321 Tryz.underlying322 Tryz.underlying323 Tryz.underlying324
end Go.Proofs.YtmlegeeinnkhkaaGreat.Ty
