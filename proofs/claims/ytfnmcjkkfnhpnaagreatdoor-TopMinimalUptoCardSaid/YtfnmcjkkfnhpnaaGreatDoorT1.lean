/- What the logic asks of the types of the translation. -/
import Derived.Test.YtfnmcjkkfnhpnaaGreatDoorProg
import Derived.KernelRfl
import Derived.Test.YtfnmcjkkfnhpnaaGreatDoorA2
set_option linter.unusedVariables false
set_option linter.unusedSimpArgs false
namespace Go.Proofs.YtfnmcjkkfnhpnaaGreatDoor.Ty
open Go Go.Ab
attribute [go_sem] Tryz.underlying1
@[go_sem] theorem ok1:qmo Tryz.prog 1=true:=by kernel_rfl
attribute [go_sem] Tryz.underlying2
@[go_sem] theorem cellsOf2:Tryz.prog.cellsOf 2=1:=by kernel_rfl
@[go_sem] theorem isAgg2:qaj Tryz.prog 2=some false:=by kernel_rfl
@[go_sem] theorem ok2:qmo Tryz.prog 2=true:=by kernel_rfl
@[go_sem] theorem bytes2:Tryz.prog.bytesOf 2=8:=by kernel_rfl
@[go_sem] theorem zero2:qa2 Tryz.prog 2=some (.p (.int .i64 0)):=by kernel_rfl
@[go_sem] theorem zeroLen2:qb3.zeroLen Tryz.prog 2=1:=by kernel_rfl
@[go_sem] theorem eqI2 (d:Nat) (k k':IntKind) (a b:Int):eqT Tryz.prog (d+1) 2 [.int k a] [.int k' b]=if k=k' then some (a == b) else none:=q7t _ Tryz.underlying2 d k k' a b
attribute [go_sem] Tryz.underlying3
@[go_sem] theorem cellsOf3:Tryz.prog.cellsOf 3=1:=by kernel_rfl
@[go_sem] theorem isAgg3:qaj Tryz.prog 3=some false:=by kernel_rfl
@[go_sem] theorem ok3:qmo Tryz.prog 3=true:=by kernel_rfl
@[go_sem] theorem bytes3:Tryz.prog.bytesOf 3=8:=by kernel_rfl
@[go_sem] theorem zero3:qa2 Tryz.prog 3=some (.p (.int .i64 0)):=by kernel_rfl
@[go_sem] theorem zeroLen3:qb3.zeroLen Tryz.prog 3=1:=by kernel_rfl
@[go_sem] theorem eqI3 (d:Nat) (k k':IntKind) (a b:Int):eqT Tryz.prog (d+1) 3 [.int k a] [.int k' b]=if k=k' then some (a == b) else none:=q7t _ Tryz.underlying3 d k k' a b
attribute [go_sem] Tryz.underlying4
@[go_sem] theorem cellsOf4:Tryz.prog.cellsOf 4=1:=by kernel_rfl
@[go_sem] theorem isAgg4:qaj Tryz.prog 4=some false:=by kernel_rfl
@[go_sem] theorem zero4:qa2 Tryz.prog 4=some (.p (.bool false)):=by kernel_rfl
attribute [go_sem] Tryz.underlying5
@[go_sem] theorem cellsOf5:Tryz.prog.cellsOf 5=1:=by kernel_rfl
@[go_sem] theorem isAgg5:qaj Tryz.prog 5=some false:=by kernel_rfl
@[go_sem] theorem ok5:qmo Tryz.prog 5=true:=by kernel_rfl
attribute [go_sem] Tryz.underlying6 Tryz.underlying7 Tryz.underlying8 Tryz.underlying9
@[go_sem] theorem cellsOf9:Tryz.prog.cellsOf 9=1:=by kernel_rfl
@[go_sem] theorem isAgg9:qaj Tryz.prog 9=some false:=by kernel_rfl
@[go_sem] theorem ok9:qmo Tryz.prog 9=true:=by kernel_rfl
@[go_sem] theorem bytes9:Tryz.prog.bytesOf 9=16:=by kernel_rfl
@[go_sem] theorem zero9:qa2 Tryz.prog 9=some (.p (.str [])):=by kernel_rfl
@[go_sem] theorem zeroLen9:qb3.zeroLen Tryz.prog 9=1:=by kernel_rfl
@[go_sem] theorem eqI9 (d:Nat) (a b:List UInt8):eqT Tryz.prog (d+1) 9 [.str a] [.str b]=some (a == b):=vf8 _ Tryz.underlying9 d a b
attribute [go_sem] Tryz.underlying10 Tryz.underlying11 Tryz.underlying12 Tryz.underlying13 Tryz.underlying14 Tryz.underlying15 Tryz.underlying16 Tryz.underlying17 Tryz.underlying18 Tryz.underlying19 Tryz.underlying20
@[go_sem] theorem isAgg20:qaj Tryz.prog 20=some false:=by kernel_rfl
attribute [go_sem] Tryz.underlying21 Tryz.underlying22
@[go_sem] theorem vmw:Tryz.prog.cellsOf 22=1:=by kernel_rfl
@[go_sem] theorem isAgg22:qaj Tryz.prog 22=some false:=by kernel_rfl
attribute [go_sem] Tryz.underlying23 Tryz.underlying24
@[go_sem] theorem vmx:Tryz.prog.cellsOf 24=3:=by kernel_rfl
@[go_sem] theorem isAgg24:qaj Tryz.prog 24=some true:=by kernel_rfl
@[go_sem] theorem vmy:qah Tryz.prog 24 0=some 0:=by kernel_rfl
@[go_sem] theorem vmz:qah Tryz.prog 24 1=some 1:=by kernel_rfl
@[go_sem] theorem vm0:qah Tryz.prog 24 2=some 2:=by kernel_rfl
attribute [go_sem] Tryz.underlying25
@[go_sem] theorem vm1:Tryz.prog.cellsOf 25=1:=by kernel_rfl
@[go_sem] theorem isAgg25:qaj Tryz.prog 25=some false:=by kernel_rfl
attribute [go_sem] Tryz.underlying26
@[go_sem] theorem vm2:Tryz.prog.cellsOf 26=1:=by kernel_rfl
@[go_sem] theorem isAgg26:qaj Tryz.prog 26=some false:=by kernel_rfl
@[go_sem] theorem ok26:qmo Tryz.prog 26=true:=by kernel_rfl
attribute [go_sem] Tryz.underlying27 Tryz.underlying28
@[go_sem] theorem vm3:Tryz.prog.cellsOf 28=5:=by kernel_rfl
@[go_sem] theorem isAgg28:qaj Tryz.prog 28=some true:=by kernel_rfl
@[go_sem] theorem vm4:qah Tryz.prog 28 0=some 0:=by kernel_rfl
@[go_sem] theorem vm5:qah Tryz.prog 28 1=some 3:=by kernel_rfl
@[go_sem] theorem vm6:qah Tryz.prog 28 2=some 4:=by kernel_rfl
attribute [go_sem] Tryz.underlying29
@[go_sem] theorem vm7:Tryz.prog.cellsOf 29=1:=by kernel_rfl
@[go_sem] theorem isAgg29:qaj Tryz.prog 29=some false:=by kernel_rfl
attribute [go_sem] Tryz.underlying30
@[go_sem] theorem vm8:Tryz.prog.cellsOf 30=1:=by kernel_rfl
@[go_sem] theorem isAgg30:qaj Tryz.prog 30=some false:=by kernel_rfl
attribute [go_sem] Tryz.underlying31 Tryz.underlying32
@[go_sem] theorem vm9:Tryz.prog.cellsOf 32=3:=by kernel_rfl
@[go_sem] theorem isAgg32:qaj Tryz.prog 32=some true:=by kernel_rfl
@[go_sem] theorem vna:qa2 Tryz.prog 32=some (.agg [.p (.str []),.nils,.nils]):=by kernel_rfl
@[go_sem] theorem vnb:qah Tryz.prog 32 0=some 0:=by kernel_rfl
@[go_sem] theorem vnc:qah Tryz.prog 32 1=some 1:=by kernel_rfl
@[go_sem] theorem vnd:qah Tryz.prog 32 2=some 2:=by kernel_rfl
@[go_sem] theorem build32 (qap:List (Nat×AV)):qhy Tryz.prog 32 qap=(qkh (fun j=>[(0,1),(1,1),(2,1)][j]?) [.p (.str []),.nils,.nils] qap).map qjw :=
  qf0 _ _ vna rfl (by kernel_rfl) (by kernel_rfl) (by funext j;exact qef _ _ (by kernel_rfl) j)
attribute [go_sem] Tryz.underlying33 Tryz.underlying34
@[go_sem] theorem vne:Tryz.prog.cellsOf 34=1:=by kernel_rfl
@[go_sem] theorem isAgg34:qaj Tryz.prog 34=some false:=by kernel_rfl
@[go_sem] theorem ok34:qmo Tryz.prog 34=true:=by kernel_rfl
@[go_sem] theorem bytes34:Tryz.prog.bytesOf 34=24:=by kernel_rfl
@[go_sem] theorem zero34:qa2 Tryz.prog 34=some (.nils):=by kernel_rfl
@[go_sem] theorem vnf:qb3.zeroLen Tryz.prog 34=1:=by kernel_rfl
attribute [go_sem] Tryz.underlying36 Tryz.underlying37 Tryz.underlying38
@[go_sem] theorem isAgg38:qaj Tryz.prog 38=some false:=by kernel_rfl
attribute [go_sem] Tryz.underlying39
@[go_sem] theorem vng:Tryz.prog.cellsOf 39=1:=by kernel_rfl
@[go_sem] theorem isAgg39:qaj Tryz.prog 39=some false:=by kernel_rfl
attribute [go_sem] Tryz.underlying40 Tryz.underlying41 Tryz.underlying42
@[go_sem] theorem vnh:Tryz.prog.cellsOf 42=1:=by kernel_rfl
@[go_sem] theorem isAgg42:qaj Tryz.prog 42=some false:=by kernel_rfl
@[go_sem] theorem zero42:qa2 Tryz.prog 42=some (.nils):=by kernel_rfl
attribute [go_sem] Tryz.underlying43 Tryz.underlying44
@[go_sem] theorem vni:Tryz.prog.cellsOf 44=2:=by kernel_rfl
@[go_sem] theorem isAgg44:qaj Tryz.prog 44=some true:=by kernel_rfl
@[go_sem] theorem vnj:qa2 Tryz.prog 44=some (.agg [.nils,.nils]):=by kernel_rfl
@[go_sem] theorem vnk:qah Tryz.prog 44 0=some 0:=by kernel_rfl
@[go_sem] theorem vnl:qah Tryz.prog 44 1=some 1:=by kernel_rfl
@[go_sem] theorem build44 (qap:List (Nat×AV)):qhy Tryz.prog 44 qap=(qkh (fun j=>[(0,1),(1,1)][j]?) [.nils,.nils] qap).map qjw :=
  qf0 _ _ vnj rfl (by kernel_rfl) (by kernel_rfl) (by funext j;exact qef _ _ (by kernel_rfl) j)
attribute [go_sem] Tryz.underlying45 Tryz.underlying47 Tryz.underlying49 Tryz.underlying50 Tryz.underlying52 Tryz.underlying53 Tryz.underlying54 Tryz.underlying56 Tryz.underlying58 Tryz.underlying59
@[go_sem] theorem vnm:Tryz.prog.cellsOf 59=1:=by kernel_rfl
@[go_sem] theorem isAgg59:qaj Tryz.prog 59=some false:=by kernel_rfl
attribute [go_sem] Tryz.underlying60 Tryz.underlying61 Tryz.underlying62
@[go_sem] theorem vnn:Tryz.prog.cellsOf 62=2:=by kernel_rfl
@[go_sem] theorem isAgg62:qaj Tryz.prog 62=some true:=by kernel_rfl
@[go_sem] theorem ok62:qmo Tryz.prog 62=true:=by kernel_rfl
@[go_sem] theorem bytes62:Tryz.prog.bytesOf 62=32:=by kernel_rfl
@[go_sem] theorem vno:qa2 Tryz.prog 62=some (.agg [.p (.int .i64 0),.nils]):=by kernel_rfl
@[go_sem] theorem vnp:qb3.zeroLen Tryz.prog 62=2:=by kernel_rfl
@[go_sem] theorem vnq:qah Tryz.prog 62 0=some 0:=by kernel_rfl
@[go_sem] theorem vnr:qah Tryz.prog 62 1=some 1:=by kernel_rfl
@[go_sem] theorem build62 (qap:List (Nat×AV)):qhy Tryz.prog 62 qap=(qkh (fun j=>[(0,1),(1,1)][j]?) [.p (.int .i64 0),.nils] qap).map qjw :=
  qf0 _ _ vno rfl (by kernel_rfl) (by kernel_rfl) (by funext j;exact qef _ _ (by kernel_rfl) j)
attribute [go_sem] Tryz.underlying63 Tryz.underlying64 Tryz.underlying65
@[go_sem] theorem vns:Tryz.prog.cellsOf 65=2:=by kernel_rfl
@[go_sem] theorem isAgg65:qaj Tryz.prog 65=some true:=by kernel_rfl
@[go_sem] theorem ok65:qmo Tryz.prog 65=true:=by kernel_rfl
@[go_sem] theorem bytes65:Tryz.prog.bytesOf 65=8:=by kernel_rfl
@[go_sem] theorem vnt:qa2 Tryz.prog 65=some (.p (.agg [(.int .u32 0),(.int .u32 0)])):=by kernel_rfl
@[go_sem] theorem vnu:qb3.zeroLen Tryz.prog 65=2:=by kernel_rfl
@[go_sem] theorem vnv:qah Tryz.prog 65 0=some 0:=by kernel_rfl
@[go_sem] theorem vnw:qah Tryz.prog 65 1=some 1:=by kernel_rfl
@[go_sem] theorem build65 (qap:List (Nat×AV)):qhy Tryz.prog 65 qap=(qkh (fun j=>[(0,1),(1,1)][j]?) [.p (.int .u32 0),.p (.int .u32 0)] qap).map qjw :=
  qf0 _ _ vnt rfl (by kernel_rfl) (by kernel_rfl) (by funext j;exact qef _ _ (by kernel_rfl) j)
attribute [go_sem] Tryz.underlying66 Tryz.underlying67 Tryz.underlying68 Tryz.underlying69 Tryz.underlying71 Tryz.underlying72
@[go_sem] theorem isAgg72:qaj Tryz.prog 72=some false:=by kernel_rfl
attribute [go_sem] Tryz.underlying73
@[go_sem] theorem isAgg73:qaj Tryz.prog 73=some false:=by kernel_rfl
attribute [go_sem] Tryz.underlying74 Tryz.underlying75 Tryz.underlying77 Tryz.underlying78 Tryz.underlying79
@[go_sem] theorem vnx:Tryz.prog.cellsOf 79=1:=by kernel_rfl
@[go_sem] theorem isAgg79:qaj Tryz.prog 79=some false:=by kernel_rfl
attribute [go_sem] Tryz.underlying80 Tryz.underlying81 Tryz.underlying82
@[go_sem] theorem vny:Tryz.prog.cellsOf 82=1:=by kernel_rfl
@[go_sem] theorem isAgg82:qaj Tryz.prog 82=some false:=by kernel_rfl
attribute [go_sem] Tryz.underlying83 Tryz.underlying84
@[go_sem] theorem vnz:Tryz.prog.cellsOf 84=3:=by kernel_rfl
@[go_sem] theorem isAgg84:qaj Tryz.prog 84=some true:=by kernel_rfl
@[go_sem] theorem vn0:qa2 Tryz.prog 84=some (.agg [.nils,.p (.int .i64 0),.nils]):=by kernel_rfl
@[go_sem] theorem vn1:qah Tryz.prog 84 0=some 0:=by kernel_rfl
@[go_sem] theorem vn2:qah Tryz.prog 84 1=some 1:=by kernel_rfl
@[go_sem] theorem vn3:qah Tryz.prog 84 2=some 2:=by kernel_rfl
@[go_sem] theorem build84 (qap:List (Nat×AV)):qhy Tryz.prog 84 qap=(qkh (fun j=>[(0,1),(1,1),(2,1)][j]?) [.nils,.p (.int .i64 0),.nils] qap).map qjw :=
  qf0 _ _ vn0 rfl (by kernel_rfl) (by kernel_rfl) (by funext j;exact qef _ _ (by kernel_rfl) j)
attribute [go_sem] Tryz.underlying85 Tryz.underlying86
@[go_sem] theorem vn4:Tryz.prog.cellsOf 86=2:=by kernel_rfl
@[go_sem] theorem isAgg86:qaj Tryz.prog 86=some true:=by kernel_rfl
@[go_sem] theorem vn5:qa2 Tryz.prog 86=some (.agg [.nils,.nils]):=by kernel_rfl
@[go_sem] theorem vn6:qah Tryz.prog 86 0=some 0:=by kernel_rfl
@[go_sem] theorem vn7:qah Tryz.prog 86 1=some 1:=by kernel_rfl
@[go_sem] theorem build86 (qap:List (Nat×AV)):qhy Tryz.prog 86 qap=(qkh (fun j=>[(0,1),(1,1)][j]?) [.nils,.nils] qap).map qjw :=
  qf0 _ _ vn5 rfl (by kernel_rfl) (by kernel_rfl) (by funext j;exact qef _ _ (by kernel_rfl) j)
attribute [go_sem] Tryz.underlying87
@[go_sem] theorem vn8:Tryz.prog.cellsOf 87=1:=by kernel_rfl
@[go_sem] theorem isAgg87:qaj Tryz.prog 87=some false:=by kernel_rfl
attribute [go_sem] Tryz.underlying88 Tryz.underlying89
@[go_sem] theorem vn9:Tryz.prog.cellsOf 89=2:=by kernel_rfl
@[go_sem] theorem isAgg89:qaj Tryz.prog 89=some true:=by kernel_rfl
@[go_sem] theorem ok89:qmo Tryz.prog 89=true:=by kernel_rfl
@[go_sem] theorem bytes89:Tryz.prog.bytesOf 89=32:=by kernel_rfl
@[go_sem] theorem voa:qa2 Tryz.prog 89=some (.agg [.p (.int .i64 0),.nils]):=by kernel_rfl
@[go_sem] theorem vob:qb3.zeroLen Tryz.prog 89=2:=by kernel_rfl
@[go_sem] theorem voc:qah Tryz.prog 89 0=some 0:=by kernel_rfl
@[go_sem] theorem vod:qah Tryz.prog 89 1=some 1:=by kernel_rfl
@[go_sem] theorem build89 (qap:List (Nat×AV)):qhy Tryz.prog 89 qap=(qkh (fun j=>[(0,1),(1,1)][j]?) [.p (.int .i64 0),.nils] qap).map qjw :=
  qf0 _ _ voa rfl (by kernel_rfl) (by kernel_rfl) (by funext j;exact qef _ _ (by kernel_rfl) j)
attribute [go_sem] Tryz.underlying90 Tryz.underlying91
@[go_sem] theorem voe:Tryz.prog.cellsOf 91=18:=by kernel_rfl
@[go_sem] theorem isAgg91:qaj Tryz.prog 91=some true:=by kernel_rfl
@[go_sem] theorem ok91:qmo Tryz.prog 91=true:=by kernel_rfl
@[go_sem] theorem bytes91:Tryz.prog.bytesOf 91=272:=by kernel_rfl
@[go_sem] theorem vof:qa2 Tryz.prog 91=some (.agg [.p (.str []),.p (.str []),.p (.int .i64 0),.p (.int .u32 0),.p (.int .u32 0),.p (.int .u32 0),.p (.int .u32 0),.p (.str []),.nils,.p (.str []),.nils,.nils,.p (.int .i64 0),.nils,.nils,.nils,.p (.int .i64 0),.nils]):=by kernel_rfl
@[go_sem] theorem vog:qb3.zeroLen Tryz.prog 91=18:=by kernel_rfl
@[go_sem] theorem voh:qah Tryz.prog 91 1=some 1:=by kernel_rfl
@[go_sem] theorem voi:qah Tryz.prog 91 2=some 2:=by kernel_rfl
@[go_sem] theorem voj:qah Tryz.prog 91 3=some 3:=by kernel_rfl
@[go_sem] theorem vok:qah Tryz.prog 91 6=some 11:=by kernel_rfl
@[go_sem] theorem vol:qah Tryz.prog 91 7=some 14:=by kernel_rfl
@[go_sem] theorem vom:qah Tryz.prog 91 8=some 16:=by kernel_rfl
@[go_sem] theorem build91 (qap:List (Nat×AV)):qhy Tryz.prog 91 qap=(qkh (fun j=>[(0,1),(1,1),(2,1),(3,2),(5,2),(7,4),(11,3),(14,2),(16,2)][j]?) [.p (.str []),.p (.str []),.p (.int .i64 0),.p (.int .u32 0),.p (.int .u32 0),.p (.int .u32 0),.p (.int .u32 0),.p (.str []),.nils,.p (.str []),.nils,.nils,.p (.int .i64 0),.nils,.nils,.nils,.p (.int .i64 0),.nils] qap).map qjw :=
  qf0 _ _ vof rfl (by kernel_rfl) (by kernel_rfl) (by funext j;exact qef _ _ (by kernel_rfl) j)
attribute [go_sem] Tryz.underlying93 Tryz.underlying94 Tryz.underlying95 Tryz.underlying97 Tryz.underlying99 Tryz.underlying100 Tryz.underlying101 Tryz.underlying102 Tryz.underlying103 Tryz.underlying104 Tryz.underlying106 Tryz.underlying107 Tryz.underlying108 Tryz.underlying109 Tryz.underlying110 Tryz.underlying111 Tryz.underlying112 Tryz.underlying114 Tryz.underlying115 Tryz.underlying116
@[go_sem] theorem vju:Tryz.prog.cellsOf 116=2:=by kernel_rfl
@[go_sem] theorem isAgg116:qaj Tryz.prog 116=some true:=by kernel_rfl
@[go_sem] theorem ok116:qmo Tryz.prog 116=true:=by kernel_rfl
@[go_sem] theorem zero116:qa2 Tryz.prog 116=some (.p (.agg [(.int .u8 0),(.int .u8 0)])):=by kernel_rfl
@[go_sem] theorem vjv:qah Tryz.prog 116 0=some 0:=by kernel_rfl
@[go_sem] theorem vjw:qah Tryz.prog 116 1=some 1:=by kernel_rfl
attribute [go_sem] Tryz.underlying117 Tryz.underlying118
@[go_sem] theorem vjx:Tryz.prog.cellsOf 118=3:=by kernel_rfl
@[go_sem] theorem isAgg118:qaj Tryz.prog 118=some true:=by kernel_rfl
@[go_sem] theorem vjy:qah Tryz.prog 118 0=some 0:=by kernel_rfl
@[go_sem] theorem vjz:qah Tryz.prog 118 1=some 1:=by kernel_rfl
@[go_sem] theorem vj0:qah Tryz.prog 118 2=some 2:=by kernel_rfl
attribute [go_sem] Tryz.underlying119 Tryz.underlying120
@[go_sem] theorem vj1:Tryz.prog.cellsOf 120=2:=by kernel_rfl
@[go_sem] theorem isAgg120:qaj Tryz.prog 120=some true:=by kernel_rfl
@[go_sem] theorem vj2:qah Tryz.prog 120 0=some 0:=by kernel_rfl
@[go_sem] theorem vj3:qah Tryz.prog 120 1=some 1:=by kernel_rfl
attribute [go_sem] Tryz.underlying121
@[go_sem] theorem vj4:Tryz.prog.cellsOf 121=1:=by kernel_rfl
@[go_sem] theorem isAgg121:qaj Tryz.prog 121=some false:=by kernel_rfl
attribute [go_sem] Tryz.underlying122 Tryz.underlying123
@[go_sem] theorem vj5:Tryz.prog.cellsOf 123=2:=by kernel_rfl
@[go_sem] theorem isAgg123:qaj Tryz.prog 123=some true:=by kernel_rfl
@[go_sem] theorem vj6:qah Tryz.prog 123 0=some 0:=by kernel_rfl
@[go_sem] theorem vj7:qah Tryz.prog 123 1=some 1:=by kernel_rfl
attribute [go_sem] Tryz.underlying124 Tryz.underlying125
@[go_sem] theorem vj8:Tryz.prog.cellsOf 125=10:=by kernel_rfl
@[go_sem] theorem isAgg125:qaj Tryz.prog 125=some true:=by kernel_rfl
@[go_sem] theorem ok125:qmo Tryz.prog 125=true:=by kernel_rfl
@[go_sem] theorem vj9:qah Tryz.prog 125 0=some 0:=by kernel_rfl
@[go_sem] theorem vka:qah Tryz.prog 125 1=some 1:=by kernel_rfl
@[go_sem] theorem vkb:qah Tryz.prog 125 2=some 3:=by kernel_rfl
@[go_sem] theorem vkc:qah Tryz.prog 125 3=some 6:=by kernel_rfl
@[go_sem] theorem vkd:qah Tryz.prog 125 4=some 8:=by kernel_rfl
attribute [go_sem] Tryz.underlying126 Tryz.underlying127
@[go_sem] theorem vke:Tryz.prog.cellsOf 127=3:=by kernel_rfl
@[go_sem] theorem isAgg127:qaj Tryz.prog 127=some true:=by kernel_rfl
@[go_sem] theorem ok127:qmo Tryz.prog 127=true:=by kernel_rfl
@[go_sem] theorem bytes127:Tryz.prog.bytesOf 127=32:=by kernel_rfl
@[go_sem] theorem vii:qa2 Tryz.prog 127=some (.p (.agg [(.int .i64 0),(.int .i64 0),(.str [])])):=by kernel_rfl
@[go_sem] theorem vkf:qb3.zeroLen Tryz.prog 127=3:=by kernel_rfl
@[go_sem] theorem vkg:qah Tryz.prog 127 0=some 0:=by kernel_rfl
@[go_sem] theorem vkh:qah Tryz.prog 127 1=some 1:=by kernel_rfl
@[go_sem] theorem vki:qah Tryz.prog 127 2=some 2:=by kernel_rfl
@[go_sem] theorem build127 (qap:List (Nat×AV)):qhy Tryz.prog 127 qap=(qkh (fun j=>[(0,1),(1,1),(2,1)][j]?) [.p (.int .i64 0),.p (.int .i64 0),.p (.str [])] qap).map qjw :=
  qf0 _ _ vii rfl (by kernel_rfl) (by kernel_rfl) (by funext j;exact qef _ _ (by kernel_rfl) j)
@[go_sem] theorem eqS127 (d:Nat) (xs ys:List PV):eqT Tryz.prog (d+1) 127 xs ys=eqL (eqT Tryz.prog d) [(3,0,1),(2,1,1),(9,2,1)] xs ys:=q5e _ (by kernel_rfl) (by kernel_rfl) (by kernel_rfl) (by kernel_rfl) d xs ys
@[go_sem] theorem eqg127:Tryz.prog.eqGuardType Tryz.prog.depth 127=false:=by kernel_rfl
attribute [go_sem] Tryz.underlying128 Tryz.underlying129 Tryz.underlying130 Tryz.underlying131 Tryz.underlying133 Tryz.underlying135 Tryz.underlying137 Tryz.underlying138 Tryz.underlying140 Tryz.underlying141 Tryz.underlying142
@[go_sem] theorem isAgg142:qaj Tryz.prog 142=some true:=by kernel_rfl
attribute [go_sem] Tryz.underlying143 Tryz.underlying145 Tryz.underlying146 Tryz.underlying147 Tryz.underlying148 Tryz.underlying149
@[go_sem] theorem isAgg149:qaj Tryz.prog 149=some false:=by kernel_rfl
attribute [go_sem] Tryz.underlying150 Tryz.underlying151 Tryz.underlying152 Tryz.underlying154 Tryz.underlying155 Tryz.underlying156 Tryz.underlying157 Tryz.underlying158 Tryz.underlying159 Tryz.underlying160 Tryz.underlying161 Tryz.underlying162 Tryz.underlying163 Tryz.underlying164 Tryz.underlying165
@[go_sem] theorem vkj:Tryz.prog.cellsOf 165=1:=by kernel_rfl
@[go_sem] theorem isAgg165:qaj Tryz.prog 165=some false:=by kernel_rfl
@[go_sem] theorem zero165:qa2 Tryz.prog 165=some (.p (.mapv [] [])):=by kernel_rfl
attribute [go_sem] Tryz.underlying166
@[go_sem] theorem vkk:Tryz.prog.cellsOf 166=3:=by kernel_rfl
@[go_sem] theorem isAgg166:qaj Tryz.prog 166=some true:=by kernel_rfl
@[go_sem] theorem zero166:qa2 Tryz.prog 166=some (.p (.agg [(.int .i64 0),(.int .i64 0),(.int .i64 0)])):=by kernel_rfl
@[go_sem] theorem eqS166 (d:Nat) (xs ys:List PV):eqT Tryz.prog (d+1) 166 xs ys=eqL (eqT Tryz.prog d) [(2,0,1),(2,1,1),(2,2,1)] xs ys:=q7u _ Tryz.underlying166 (by kernel_rfl) (by kernel_rfl) d xs ys
attribute [go_sem] Tryz.underlying167 Tryz.underlying168 Tryz.underlying169 Tryz.underlying170
@[go_sem] theorem isAgg170:qaj Tryz.prog 170=some false:=by kernel_rfl
attribute [go_sem] Tryz.underlying171 Tryz.underlying173 Tryz.underlying174 Tryz.underlying175 Tryz.underlying176
@[go_sem] theorem isAgg176:qaj Tryz.prog 176=some false:=by kernel_rfl
attribute [go_sem] Tryz.underlying177 Tryz.underlying178 Tryz.underlying179 Tryz.underlying180 Tryz.underlying181 Tryz.underlying183 Tryz.underlying184 Tryz.underlying185 Tryz.underlying186 Tryz.underlying187 Tryz.underlying188 Tryz.underlying189 Tryz.underlying190 Tryz.underlying191 Tryz.underlying192 Tryz.underlying193 Tryz.underlying194 Tryz.underlying195 Tryz.underlying196 Tryz.underlying197 Tryz.underlying198 Tryz.underlying199 Tryz.underlying200 Tryz.underlying201
@[go_sem] theorem isAgg201:qaj Tryz.prog 201=some false:=by kernel_rfl
attribute [go_sem] Tryz.underlying202 Tryz.underlying203 Tryz.underlying204 Tryz.underlying205 Tryz.underlying206 Tryz.underlying207 Tryz.underlying208 Tryz.underlying209 Tryz.underlying210 Tryz.underlying211 Tryz.underlying212 Tryz.underlying213 Tryz.underlying214 Tryz.underlying216 Tryz.underlying217 Tryz.underlying218 Tryz.underlying219 Tryz.underlying220 Tryz.underlying221 Tryz.underlying222 Tryz.underlying224 Tryz.underlying225 Tryz.underlying226 Tryz.underlying227 Tryz.underlying228 Tryz.underlying229 Tryz.underlying230
@[go_sem] theorem vkl:Tryz.prog.cellsOf 230=5:=by kernel_rfl
@[go_sem] theorem isAgg230:qaj Tryz.prog 230=some true:=by kernel_rfl
@[go_sem] theorem vij:qa2 Tryz.prog 230=some (.p (.agg [(.int .i64 0),(.int .i64 0),(.int .i64 0),(.int .i64 0),(.str [])])):=by kernel_rfl
@[go_sem] theorem vkm:qah Tryz.prog 230 0=some 0:=by kernel_rfl
@[go_sem] theorem vkn:qah Tryz.prog 230 1=some 1:=by kernel_rfl
@[go_sem] theorem vko:qah Tryz.prog 230 2=some 2:=by kernel_rfl
@[go_sem] theorem build230 (qap:List (Nat×AV)):qhy Tryz.prog 230 qap=(qkh (fun j=>[(0,1),(1,1),(2,3)][j]?) [.p (.int .i64 0),.p (.int .i64 0),.p (.int .i64 0),.p (.int .i64 0),.p (.str [])] qap).map qjw :=
  qf0 _ _ vij rfl (by kernel_rfl) (by kernel_rfl) (by funext j;exact qef _ _ (by kernel_rfl) j)
attribute [go_sem] Tryz.underlying231 Tryz.underlying232
@[go_sem] theorem vkp:Tryz.prog.cellsOf 232=11:=by kernel_rfl
@[go_sem] theorem isAgg232:qaj Tryz.prog 232=some true:=by kernel_rfl
@[go_sem] theorem ok232:qmo Tryz.prog 232=true:=by kernel_rfl
@[go_sem] theorem bytes232:Tryz.prog.bytesOf 232=104:=by kernel_rfl
@[go_sem] theorem vik:qa2 Tryz.prog 232=some (.p (.agg [(.int .i64 0),(.int .i64 0),(.int .i64 0),(.int .i64 0),(.str []),(.int .i64 0),(.int .i64 0),(.int .i64 0),(.int .i64 0),(.int .i64 0),(.str [])])):=by kernel_rfl
@[go_sem] theorem vkq:qb3.zeroLen Tryz.prog 232=11:=by kernel_rfl
@[go_sem] theorem vkr:qah Tryz.prog 232 0=some 0:=by kernel_rfl
@[go_sem] theorem vks:qah Tryz.prog 232 1=some 5:=by kernel_rfl
@[go_sem] theorem vkt:qah Tryz.prog 232 2=some 6:=by kernel_rfl
@[go_sem] theorem build232 (qap:List (Nat×AV)):qhy Tryz.prog 232 qap=(qkh (fun j=>[(0,5),(5,1),(6,5)][j]?) [.p (.int .i64 0),.p (.int .i64 0),.p (.int .i64 0),.p (.int .i64 0),.p (.str []),.p (.int .i64 0),.p (.int .i64 0),.p (.int .i64 0),.p (.int .i64 0),.p (.int .i64 0),.p (.str [])] qap).map qjw :=
  qf0 _ _ vik rfl (by kernel_rfl) (by kernel_rfl) (by funext j;exact qef _ _ (by kernel_rfl) j)
attribute [go_sem] Tryz.underlying233 Tryz.underlying234 Tryz.underlying235 Tryz.underlying236 Tryz.underlying237 Tryz.underlying238 Tryz.underlying239
@[go_sem] theorem vku:Tryz.prog.cellsOf 239=4:=by kernel_rfl
@[go_sem] theorem isAgg239:qaj Tryz.prog 239=some true:=by kernel_rfl
@[go_sem] theorem ok239:qmo Tryz.prog 239=true:=by kernel_rfl
@[go_sem] theorem bytes239:Tryz.prog.bytesOf 239=40:=by kernel_rfl
@[go_sem] theorem vil:qa2 Tryz.prog 239=some (.p (.agg [(.bool false),(.int .i64 0),(.int .i64 0),(.str [])])):=by kernel_rfl
@[go_sem] theorem vkv:qb3.zeroLen Tryz.prog 239=4:=by kernel_rfl
@[go_sem] theorem vkw:qah Tryz.prog 239 0=some 0:=by kernel_rfl
@[go_sem] theorem vkx:qah Tryz.prog 239 1=some 1:=by kernel_rfl
@[go_sem] theorem build239 (qap:List (Nat×AV)):qhy Tryz.prog 239 qap=(qkh (fun j=>[(0,1),(1,3)][j]?) [.p (.bool false),.p (.int .i64 0),.p (.int .i64 0),.p (.str [])] qap).map qjw :=
  qf0 _ _ vil rfl (by kernel_rfl) (by kernel_rfl) (by funext j;exact qef _ _ (by kernel_rfl) j)
attribute [go_sem] Tryz.underlying240 Tryz.underlying241 Tryz.underlying242 Tryz.underlying243 Tryz.underlying244 Tryz.underlying245 Tryz.underlying246 Tryz.underlying247 Tryz.underlying248 Tryz.underlying249 Tryz.underlying250 Tryz.underlying251 Tryz.underlying252 Tryz.underlying253 Tryz.underlying254 Tryz.underlying255 Tryz.underlying256 Tryz.underlying257 Tryz.underlying258 Tryz.underlying259 Tryz.underlying260 Tryz.underlying261 Tryz.underlying262
@[go_sem] theorem vky:Tryz.prog.cellsOf 262=2:=by kernel_rfl
@[go_sem] theorem isAgg262:qaj Tryz.prog 262=some true:=by kernel_rfl
@[go_sem] theorem vkz:qah Tryz.prog 262 0=some 0:=by kernel_rfl
@[go_sem] theorem vk0:qah Tryz.prog 262 1=some 1:=by kernel_rfl
attribute [go_sem] Tryz.underlying263 Tryz.underlying264
@[go_sem] theorem vk1:Tryz.prog.cellsOf 264=5:=by kernel_rfl
@[go_sem] theorem isAgg264:qaj Tryz.prog 264=some true:=by kernel_rfl
@[go_sem] theorem ok264:qmo Tryz.prog 264=true:=by kernel_rfl
@[go_sem] theorem zero264:qa2 Tryz.prog 264=some (.p (.agg [(.int .u8 0),(.int .u8 0),(.int .u8 0),(.int .u8 0),(.int .u8 0)])):=by kernel_rfl
@[go_sem] theorem vk2:qah Tryz.prog 264 0=some 0:=by kernel_rfl
@[go_sem] theorem vk3:qah Tryz.prog 264 1=some 2:=by kernel_rfl
@[go_sem] theorem vk4:qah Tryz.prog 264 2=some 3:=by kernel_rfl
attribute [go_sem] Tryz.underlying265 Tryz.underlying266 Tryz.underlying267 Tryz.underlying268 Tryz.underlying269 Tryz.underlying270 Tryz.underlying271 Tryz.underlying272 Tryz.underlying273 Tryz.underlying275 Tryz.underlying276 Tryz.underlying277 Tryz.underlying278 Tryz.underlying279 Tryz.underlying280 Tryz.underlying281 Tryz.underlying282 Tryz.underlying283 Tryz.underlying284 Tryz.underlying285
@[go_sem] theorem isAgg285:qaj Tryz.prog 285=some false:=by kernel_rfl
attribute [go_sem] Tryz.underlying287 Tryz.underlying288 Tryz.underlying289 Tryz.underlying290 Tryz.underlying291 Tryz.underlying292 Tryz.underlying293
@[go_sem] theorem isAgg293:qaj Tryz.prog 293=some false:=by kernel_rfl
attribute [go_sem] Tryz.underlying294 Tryz.underlying295 Tryz.underlying296 Tryz.underlying297 Tryz.underlying298 Tryz.underlying299 Tryz.underlying300 Tryz.underlying301 Tryz.underlying302 Tryz.underlying303 Tryz.underlying304 Tryz.underlying305 Tryz.underlying306 Tryz.underlying307 Tryz.underlying308 Tryz.underlying309 Tryz.underlying310 Tryz.underlying311 Tryz.underlying312 Tryz.underlying313 Tryz.underlying314 Tryz.underlying315 Tryz.underlying316 Tryz.underlying317 Tryz.underlying318 Tryz.underlying319 Tryz.underlying320 Tryz.underlying321 Tryz.underlying322 Tryz.underlying323 Tryz.underlying324 Tryz.underlying325 Tryz.underlying326 Tryz.underlying327 Tryz.underlying328 Tryz.underlying329 Tryz.underlying330 Tryz.underlying331 Tryz.underlying332
@[go_sem] theorem isAgg332:qaj Tryz.prog 332=some false:=by kernel_rfl
attribute [go_sem] Tryz.underlying333 Tryz.underlying334 Tryz.underlying335 Tryz.underlying336
@[go_sem] theorem isAgg336:qaj Tryz.prog 336=some false:=by kernel_rfl
attribute [go_sem] Tryz.underlying337 Tryz.underlying338 Tryz.underlying339 Tryz.underlying340 Tryz.underlying341 Tryz.underlying342 Tryz.underlying343 Tryz.underlying344 Tryz.underlying345 Tryz.underlying346 Tryz.underlying347 Tryz.underlying348 Tryz.underlying349 Tryz.underlying350 Tryz.underlying351 Tryz.underlying352 Tryz.underlying353 Tryz.underlying354 Tryz.underlying355 Tryz.underlying356 Tryz.underlying357 Tryz.underlying358 Tryz.underlying359
@[go_sem] theorem isAgg359:qaj Tryz.prog 359=some false:=by kernel_rfl
attribute [go_sem] Tryz.underlying361 Tryz.underlying362 Tryz.underlying363 Tryz.underlying364 Tryz.underlying365 Tryz.underlying366 Tryz.underlying367 Tryz.underlying368 Tryz.underlying369 Tryz.underlying370 Tryz.underlying371 Tryz.underlying372 Tryz.underlying373 Tryz.underlying374 Tryz.underlying375 Tryz.underlying376 Tryz.underlying377 Tryz.underlying378 Tryz.underlying379 Tryz.underlying380 Tryz.underlying381 Tryz.underlying382 Tryz.underlying383 Tryz.underlying384
end Go.Proofs.YtfnmcjkkfnhpnaaGreatDoor.Ty
