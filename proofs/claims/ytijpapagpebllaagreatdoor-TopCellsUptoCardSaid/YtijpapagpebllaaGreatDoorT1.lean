/- -/
import Derived.Test.YtijpapagpebllaaGreatDoorProg
import Derived.KernelRfl
import Derived.Test.YtijpapagpebllaaGreatDoorA2
set_option linter.unusedVariables false
set_option linter.unusedSimpArgs false
namespace Go.Proofs.YtijpapagpebllaaGreatDoor.Ty
open Go Go.Ab Tryz
attribute [go_sem] underlying1 underlying2
@[go_sem]theorem cellsOf2:prog.cellsOf 2=1:=by kernel_rfl
@[go_sem]theorem isAgg2:qat prog 2=some false:=by kernel_rfl
@[go_sem]theorem ok2:qsc prog 2=true:=by kernel_rfl
@[go_sem]theorem bytes2:prog.bytesOf 2=8:=by kernel_rfl
@[go_sem]theorem zero2:qbm prog 2=some (.p (.int .i64 0)):=by kernel_rfl
@[go_sem]theorem zeroLen2:qdk.zeroLen prog 2=1:=by kernel_rfl
@[go_sem]theorem eqI2(d:Nat)(k k':IntKind)(a b:Int):eqT prog (d+1) 2 [.int k a] [.int k' b]=if k=k' then some (a==b) else none:=vjh _ underlying2 d k k' a b
attribute [go_sem] underlying3
@[go_sem]theorem cellsOf3:prog.cellsOf 3=1:=by kernel_rfl
@[go_sem]theorem isAgg3:qat prog 3=some false:=by kernel_rfl
@[go_sem]theorem ok3:qsc prog 3=true:=by kernel_rfl
@[go_sem]theorem bytes3:prog.bytesOf 3=8:=by kernel_rfl
@[go_sem]theorem zero3:qbm prog 3=some (.p (.int .i64 0)):=by kernel_rfl
@[go_sem]theorem zeroLen3:qdk.zeroLen prog 3=1:=by kernel_rfl
@[go_sem]theorem eqI3(d:Nat)(k k':IntKind)(a b:Int):eqT prog (d+1) 3 [.int k a] [.int k' b]=if k=k' then some (a==b) else none:=vjh _ underlying3 d k k' a b
attribute [go_sem] underlying4
@[go_sem]theorem isAgg4:qat prog 4=some false:=by kernel_rfl
@[go_sem]theorem zero4:qbm prog 4=some (.p (.bool false)):=by kernel_rfl
attribute [go_sem] underlying5
@[go_sem]theorem cellsOf5:prog.cellsOf 5=1:=by kernel_rfl
@[go_sem]theorem isAgg5:qat prog 5=some false:=by kernel_rfl
@[go_sem]theorem ok5:qsc prog 5=true:=by kernel_rfl
@[go_sem]theorem bytes5:prog.bytesOf 5=1:=by kernel_rfl
@[go_sem]theorem zero5:qbm prog 5=some (.p (.int .u8 0)):=by kernel_rfl
@[go_sem]theorem zeroLen5:qdk.zeroLen prog 5=1:=by kernel_rfl
attribute [go_sem] underlying6 underlying7 underlying8 underlying9
@[go_sem]theorem cellsOf9:prog.cellsOf 9=1:=by kernel_rfl
@[go_sem]theorem isAgg9:qat prog 9=some false:=by kernel_rfl
@[go_sem]theorem ok9:qsc prog 9=true:=by kernel_rfl
@[go_sem]theorem bytes9:prog.bytesOf 9=16:=by kernel_rfl
@[go_sem]theorem zero9:qbm prog 9=some (.p (.str [])):=by kernel_rfl
@[go_sem]theorem zeroLen9:qdk.zeroLen prog 9=1:=by kernel_rfl
@[go_sem]theorem eqI9(d:Nat)(a b:List UInt8):eqT prog (d+1) 9 [.str a] [.str b]=some (a==b):=vt0 _ underlying9 d a b
attribute [go_sem] underlying10 underlying11 underlying12 underlying13 underlying14 underlying15 underlying16 underlying17 underlying18 underlying19 underlying20
@[go_sem]theorem isAgg20:qat prog 20=some false:=by kernel_rfl
attribute [go_sem] underlying21 underlying22
@[go_sem]theorem v1x:prog.cellsOf 22=1:=by kernel_rfl
@[go_sem]theorem isAgg22:qat prog 22=some false:=by kernel_rfl
attribute [go_sem] underlying23 underlying24
@[go_sem]theorem v1y:prog.cellsOf 24=3:=by kernel_rfl
@[go_sem]theorem isAgg24:qat prog 24=some true:=by kernel_rfl
@[go_sem]theorem v1z:qau prog 24 0=some 0:=by kernel_rfl
@[go_sem]theorem v10:qau prog 24 1=some 1:=by kernel_rfl
@[go_sem]theorem v11:qau prog 24 2=some 2:=by kernel_rfl
attribute [go_sem] underlying25
@[go_sem]theorem v12:prog.cellsOf 25=1:=by kernel_rfl
@[go_sem]theorem isAgg25:qat prog 25=some false:=by kernel_rfl
attribute [go_sem] underlying26 underlying27
@[go_sem]theorem v13:prog.cellsOf 27=4:=by kernel_rfl
@[go_sem]theorem isAgg27:qat prog 27=some true:=by kernel_rfl
@[go_sem]theorem v14:qau prog 27 0=some 0:=by kernel_rfl
@[go_sem]theorem v15:qau prog 27 1=some 3:=by kernel_rfl
attribute [go_sem] underlying28
@[go_sem]theorem v16:prog.cellsOf 28=1:=by kernel_rfl
@[go_sem]theorem isAgg28:qat prog 28=some false:=by kernel_rfl
attribute [go_sem] underlying29
@[go_sem]theorem v17:prog.cellsOf 29=1:=by kernel_rfl
@[go_sem]theorem isAgg29:qat prog 29=some false:=by kernel_rfl
attribute [go_sem] underlying30 underlying31
@[go_sem]theorem v18:prog.cellsOf 31=3:=by kernel_rfl
@[go_sem]theorem isAgg31:qat prog 31=some true:=by kernel_rfl
@[go_sem]theorem ok31:qsc prog 31=true:=by kernel_rfl
@[go_sem]theorem v19:qbm prog 31=some (.agg [.p (.str []),.nils,.nils]):=by kernel_rfl
@[go_sem]theorem v2a:qau prog 31 0=some 0:=by kernel_rfl
@[go_sem]theorem v2b:qau prog 31 1=some 1:=by kernel_rfl
@[go_sem]theorem v2c:qau prog 31 2=some 2:=by kernel_rfl
@[go_sem]theorem build31(parts:List (Nat×AV)):qhc prog 31 parts=(qkk (fun j=>[(0,1),(1,1),(2,1)][j]?) [.p (.str []),.nils,.nils] parts).map qkz :=
  qcp _ _ v19 rfl (by kernel_rfl) (by kernel_rfl) (by funext j;exact qbz _ _ (by kernel_rfl) j)
attribute [go_sem] underlying32 underlying34 underlying35 underlying36
@[go_sem]theorem v2d:prog.cellsOf 36=1:=by kernel_rfl
@[go_sem]theorem isAgg36:qat prog 36=some false:=by kernel_rfl
@[go_sem]theorem ok36:qsc prog 36=true:=by kernel_rfl
@[go_sem]theorem bytes36:prog.bytesOf 36=24:=by kernel_rfl
@[go_sem]theorem zero36:qbm prog 36=some (.nils):=by kernel_rfl
@[go_sem]theorem v2e:qdk.zeroLen prog 36=1:=by kernel_rfl
attribute [go_sem] underlying37
@[go_sem]theorem v2f:prog.cellsOf 37=1:=by kernel_rfl
@[go_sem]theorem isAgg37:qat prog 37=some false:=by kernel_rfl
attribute [go_sem] underlying38
@[go_sem]theorem v2g:prog.cellsOf 38=1:=by kernel_rfl
@[go_sem]theorem isAgg38:qat prog 38=some false:=by kernel_rfl
@[go_sem]theorem ok38:qsc prog 38=true:=by kernel_rfl
@[go_sem]theorem zero38:qbm prog 38=some (.nils):=by kernel_rfl
attribute [go_sem] underlying39 underlying40
@[go_sem]theorem v2h:prog.cellsOf 40=6:=by kernel_rfl
@[go_sem]theorem isAgg40:qat prog 40=some true:=by kernel_rfl
@[go_sem]theorem v2i:qbm prog 40=some (.agg [.nils,.p (.str []),.nils,.nils,.nils,.nils]):=by kernel_rfl
@[go_sem]theorem v2j:qau prog 40 0=some 0:=by kernel_rfl
@[go_sem]theorem v2k:qau prog 40 1=some 1:=by kernel_rfl
@[go_sem]theorem v2l:qau prog 40 2=some 4:=by kernel_rfl
@[go_sem]theorem v2m:qau prog 40 3=some 5:=by kernel_rfl
@[go_sem]theorem build40(parts:List (Nat×AV)):qhc prog 40 parts=(qkk (fun j=>[(0,1),(1,3),(4,1),(5,1)][j]?) [.nils,.p (.str []),.nils,.nils,.nils,.nils] parts).map qkz :=
  qcp _ _ v2i rfl (by kernel_rfl) (by kernel_rfl) (by funext j;exact qbz _ _ (by kernel_rfl) j)
attribute [go_sem] underlying41 underlying43 underlying44
@[go_sem]theorem v2n:prog.cellsOf 44=1:=by kernel_rfl
@[go_sem]theorem isAgg44:qat prog 44=some false:=by kernel_rfl
@[go_sem]theorem ok44:qsc prog 44=true:=by kernel_rfl
@[go_sem]theorem bytes44:prog.bytesOf 44=24:=by kernel_rfl
@[go_sem]theorem zero44:qbm prog 44=some (.nils):=by kernel_rfl
@[go_sem]theorem v2o:qdk.zeroLen prog 44=1:=by kernel_rfl
attribute [go_sem] underlying45 underlying46
@[go_sem]theorem v2p:prog.cellsOf 46=3:=by kernel_rfl
@[go_sem]theorem isAgg46:qat prog 46=some true:=by kernel_rfl
@[go_sem]theorem v2q:qbm prog 46=some (.agg [.nils,.p (.int .i64 0),.nils]):=by kernel_rfl
@[go_sem]theorem v2r:qau prog 46 0=some 0:=by kernel_rfl
@[go_sem]theorem v2s:qau prog 46 1=some 1:=by kernel_rfl
@[go_sem]theorem build46(parts:List (Nat×AV)):qhc prog 46 parts=(qkk (fun j=>[(0,1),(1,1),(2,1)][j]?) [.nils,.p (.int .i64 0),.nils] parts).map qkz :=
  qcp _ _ v2q rfl (by kernel_rfl) (by kernel_rfl) (by funext j;exact qbz _ _ (by kernel_rfl) j)
attribute [go_sem] underlying48 underlying49 underlying50 underlying51 underlying53 underlying54
@[go_sem]theorem v2t:prog.cellsOf 54=1:=by kernel_rfl
@[go_sem]theorem isAgg54:qat prog 54=some false:=by kernel_rfl
attribute [go_sem] underlying55 underlying56
@[go_sem]theorem v2u:prog.cellsOf 56=1:=by kernel_rfl
@[go_sem]theorem isAgg56:qat prog 56=some true:=by kernel_rfl
@[go_sem]theorem v2v:qbm prog 56=some (.agg [.nils]):=by kernel_rfl
@[go_sem]theorem v2w:qau prog 56 0=some 0:=by kernel_rfl
@[go_sem]theorem build56(parts:List (Nat×AV)):qhc prog 56 parts=(qkk (fun j=>[(0,1)][j]?) [.nils] parts).map qkz :=
  qcp _ _ v2v rfl (by kernel_rfl) (by kernel_rfl) (by funext j;exact qbz _ _ (by kernel_rfl) j)
attribute [go_sem] underlying57 underlying58 underlying59 underlying60 underlying61
@[go_sem]theorem v2x:prog.cellsOf 61=1:=by kernel_rfl
@[go_sem]theorem isAgg61:qat prog 61=some false:=by kernel_rfl
@[go_sem]theorem ok61:qsc prog 61=true:=by kernel_rfl
@[go_sem]theorem zero61:qbm prog 61=some (.nils):=by kernel_rfl
attribute [go_sem] underlying62
@[go_sem]theorem v2y:prog.cellsOf 62=1:=by kernel_rfl
@[go_sem]theorem isAgg62:qat prog 62=some false:=by kernel_rfl
attribute [go_sem] underlying63 underlying64 underlying65
@[go_sem]theorem v2z:prog.cellsOf 65=2:=by kernel_rfl
@[go_sem]theorem isAgg65:qat prog 65=some true:=by kernel_rfl
@[go_sem]theorem ok65:qsc prog 65=true:=by kernel_rfl
@[go_sem]theorem bytes65:prog.bytesOf 65=32:=by kernel_rfl
@[go_sem]theorem v21:qbm prog 65=some (.agg [.p (.int .i64 0),.nils]):=by kernel_rfl
@[go_sem]theorem v24:qdk.zeroLen prog 65=2:=by kernel_rfl
@[go_sem]theorem v26:qau prog 65 0=some 0:=by kernel_rfl
@[go_sem]theorem v27:qau prog 65 1=some 1:=by kernel_rfl
@[go_sem]theorem build65(parts:List (Nat×AV)):qhc prog 65 parts=(qkk (fun j=>[(0,1),(1,1)][j]?) [.p (.int .i64 0),.nils] parts).map qkz :=
  qcp _ _ v21 rfl (by kernel_rfl) (by kernel_rfl) (by funext j;exact qbz _ _ (by kernel_rfl) j)
attribute [go_sem] underlying66
@[go_sem]theorem isAgg66:qat prog 66=some false:=by kernel_rfl
attribute [go_sem] underlying67
@[go_sem]theorem v28:prog.cellsOf 67=1:=by kernel_rfl
@[go_sem]theorem isAgg67:qat prog 67=some false:=by kernel_rfl
attribute [go_sem] underlying68 underlying69
@[go_sem]theorem v29:prog.cellsOf 69=2:=by kernel_rfl
@[go_sem]theorem isAgg69:qat prog 69=some true:=by kernel_rfl
@[go_sem]theorem ok69:qsc prog 69=true:=by kernel_rfl
@[go_sem]theorem bytes69:prog.bytesOf 69=8:=by kernel_rfl
@[go_sem]theorem v3a:qbm prog 69=some (.p (.agg [(.int .u32 0),(.int .u32 0)])):=by kernel_rfl
@[go_sem]theorem v3b:qdk.zeroLen prog 69=2:=by kernel_rfl
@[go_sem]theorem v3c:qau prog 69 0=some 0:=by kernel_rfl
@[go_sem]theorem v3d:qau prog 69 1=some 1:=by kernel_rfl
@[go_sem]theorem build69(parts:List (Nat×AV)):qhc prog 69 parts=(qkk (fun j=>[(0,1),(1,1)][j]?) [.p (.int .u32 0),.p (.int .u32 0)] parts).map qkz :=
  qcp _ _ v3a rfl (by kernel_rfl) (by kernel_rfl) (by funext j;exact qbz _ _ (by kernel_rfl) j)
attribute [go_sem] underlying70 underlying71
@[go_sem]theorem v3e:prog.cellsOf 71=1:=by kernel_rfl
@[go_sem]theorem isAgg71:qat prog 71=some false:=by kernel_rfl
@[go_sem]theorem ok71:qsc prog 71=true:=by kernel_rfl
@[go_sem]theorem bytes71:prog.bytesOf 71=24:=by kernel_rfl
@[go_sem]theorem zero71:qbm prog 71=some (.nils):=by kernel_rfl
@[go_sem]theorem v3f:qdk.zeroLen prog 71=1:=by kernel_rfl
attribute [go_sem] underlying72 underlying73 underlying74 underlying75 underlying76 underlying77 underlying78 underlying79
@[go_sem]theorem v3g:prog.cellsOf 79=1:=by kernel_rfl
@[go_sem]theorem isAgg79:qat prog 79=some false:=by kernel_rfl
attribute [go_sem] underlying80 underlying81
@[go_sem]theorem v3h:prog.cellsOf 81=2:=by kernel_rfl
@[go_sem]theorem isAgg81:qat prog 81=some true:=by kernel_rfl
@[go_sem]theorem ok81:qsc prog 81=true:=by kernel_rfl
@[go_sem]theorem bytes81:prog.bytesOf 81=32:=by kernel_rfl
@[go_sem]theorem v3i:qbm prog 81=some (.agg [.p (.int .i64 0),.nils]):=by kernel_rfl
@[go_sem]theorem v3j:qdk.zeroLen prog 81=2:=by kernel_rfl
@[go_sem]theorem v3k:qau prog 81 0=some 0:=by kernel_rfl
@[go_sem]theorem v3l:qau prog 81 1=some 1:=by kernel_rfl
@[go_sem]theorem build81(parts:List (Nat×AV)):qhc prog 81 parts=(qkk (fun j=>[(0,1),(1,1)][j]?) [.p (.int .i64 0),.nils] parts).map qkz :=
  qcp _ _ v3i rfl (by kernel_rfl) (by kernel_rfl) (by funext j;exact qbz _ _ (by kernel_rfl) j)
attribute [go_sem] underlying82 underlying83
@[go_sem]theorem v3m:prog.cellsOf 83=18:=by kernel_rfl
@[go_sem]theorem isAgg83:qat prog 83=some true:=by kernel_rfl
@[go_sem]theorem ok83:qsc prog 83=true:=by kernel_rfl
@[go_sem]theorem bytes83:prog.bytesOf 83=272:=by kernel_rfl
@[go_sem]theorem v3n:qbm prog 83=some (.agg [.p (.str []),.p (.str []),.p (.int .i64 0),.p (.int .u32 0),.p (.int .u32 0),.p (.int .u32 0),.p (.int .u32 0),.p (.str []),.nils,.p (.str []),.nils,.nils,.p (.int .i64 0),.nils,.nils,.nils,.p (.int .i64 0),.nils]):=by kernel_rfl
@[go_sem]theorem v3o:qdk.zeroLen prog 83=18:=by kernel_rfl
@[go_sem]theorem v3p:qau prog 83 0=some 0:=by kernel_rfl
@[go_sem]theorem v3q:qau prog 83 1=some 1:=by kernel_rfl
@[go_sem]theorem v3r:qau prog 83 2=some 2:=by kernel_rfl
@[go_sem]theorem v3s:qau prog 83 3=some 3:=by kernel_rfl
@[go_sem]theorem build83(parts:List (Nat×AV)):qhc prog 83 parts=(qkk (fun j=>[(0,1),(1,1),(2,1),(3,2),(5,2),(7,4),(11,3),(14,2),(16,2)][j]?) [.p (.str []),.p (.str []),.p (.int .i64 0),.p (.int .u32 0),.p (.int .u32 0),.p (.int .u32 0),.p (.int .u32 0),.p (.str []),.nils,.p (.str []),.nils,.nils,.p (.int .i64 0),.nils,.nils,.nils,.p (.int .i64 0),.nils] parts).map qkz :=
  qcp _ _ v3n rfl (by kernel_rfl) (by kernel_rfl) (by funext j;exact qbz _ _ (by kernel_rfl) j)
attribute [go_sem] underlying84
@[go_sem]theorem v3t:prog.cellsOf 84=1:=by kernel_rfl
@[go_sem]theorem isAgg84:qat prog 84=some false:=by kernel_rfl
@[go_sem]theorem zero84:qbm prog 84=some (.nils):=by kernel_rfl
attribute [go_sem] underlying85 underlying86
@[go_sem]theorem v3u:prog.cellsOf 86=2:=by kernel_rfl
@[go_sem]theorem isAgg86:qat prog 86=some true:=by kernel_rfl
@[go_sem]theorem ok86:qsc prog 86=true:=by kernel_rfl
@[go_sem]theorem bytes86:prog.bytesOf 86=48:=by kernel_rfl
@[go_sem]theorem v3v:qbm prog 86=some (.agg [.nils,.nils]):=by kernel_rfl
@[go_sem]theorem v3w:qdk.zeroLen prog 86=2:=by kernel_rfl
@[go_sem]theorem v3x:qau prog 86 0=some 0:=by kernel_rfl
@[go_sem]theorem v3y:qau prog 86 1=some 1:=by kernel_rfl
@[go_sem]theorem build86(parts:List (Nat×AV)):qhc prog 86 parts=(qkk (fun j=>[(0,1),(1,1)][j]?) [.nils,.nils] parts).map qkz :=
  qcp _ _ v3v rfl (by kernel_rfl) (by kernel_rfl) (by funext j;exact qbz _ _ (by kernel_rfl) j)
attribute [go_sem] underlying88 underlying90 underlying91 underlying92
@[go_sem]theorem v3z:prog.cellsOf 92=1:=by kernel_rfl
@[go_sem]theorem isAgg92:qat prog 92=some false:=by kernel_rfl
attribute [go_sem] underlying93 underlying94
@[go_sem]theorem v30:prog.cellsOf 94=2:=by kernel_rfl
@[go_sem]theorem isAgg94:qat prog 94=some true:=by kernel_rfl
@[go_sem]theorem v31:qbm prog 94=some (.agg [.nils,.nils]):=by kernel_rfl
@[go_sem]theorem v33:qau prog 94 0=some 0:=by kernel_rfl
@[go_sem]theorem v34:qau prog 94 1=some 1:=by kernel_rfl
@[go_sem]theorem build94(parts:List (Nat×AV)):qhc prog 94 parts=(qkk (fun j=>[(0,1),(1,1)][j]?) [.nils,.nils] parts).map qkz :=
  qcp _ _ v31 rfl (by kernel_rfl) (by kernel_rfl) (by funext j;exact qbz _ _ (by kernel_rfl) j)
attribute [go_sem] underlying96 underlying98 underlying99 underlying100
@[go_sem]theorem vyc:prog.cellsOf 100=2:=by kernel_rfl
@[go_sem]theorem isAgg100:qat prog 100=some true:=by kernel_rfl
@[go_sem]theorem ok100:qsc prog 100=true:=by kernel_rfl
@[go_sem]theorem bytes100:prog.bytesOf 100=16:=by kernel_rfl
@[go_sem]theorem vvz:qbm prog 100=some (.p (.agg [(.int .i64 0),(.int .i64 0)])):=by kernel_rfl
@[go_sem]theorem vyd:qdk.zeroLen prog 100=2:=by kernel_rfl
@[go_sem]theorem vye:qau prog 100 0=some 0:=by kernel_rfl
@[go_sem]theorem vyf:qau prog 100 1=some 1:=by kernel_rfl
@[go_sem]theorem build100(parts:List (Nat×AV)):qhc prog 100 parts=(qkk (fun j=>[(0,1),(1,1)][j]?) [.p (.int .i64 0),.p (.int .i64 0)] parts).map qkz :=
  qcp _ _ vvz rfl (by kernel_rfl) (by kernel_rfl) (by funext j;exact qbz _ _ (by kernel_rfl) j)
@[go_sem]theorem eqS100(d:Nat)(xs ys:List PV):eqT prog (d+1) 100 xs ys=eqL (eqT prog d) [(2,0,1),(3,1,1)] xs ys:=q3f _ (by kernel_rfl) (by kernel_rfl) (by kernel_rfl) (by kernel_rfl) d xs ys
@[go_sem]theorem eqg100:prog.eqGuardType prog.depth 100=false:=by kernel_rfl
attribute [go_sem] underlying101 underlying103 underlying105 underlying106 underlying107 underlying108 underlying109
@[go_sem]theorem isAgg109:qat prog 109=some false:=by kernel_rfl
attribute [go_sem] underlying111 underlying112 underlying113 underlying114 underlying116 underlying117
@[go_sem]theorem isAgg117:qat prog 117=some false:=by kernel_rfl
attribute [go_sem] underlying118 underlying119 underlying121 underlying122 underlying123
@[go_sem]theorem vyg:prog.cellsOf 123=3:=by kernel_rfl
@[go_sem]theorem isAgg123:qat prog 123=some true:=by kernel_rfl
@[go_sem]theorem ok123:qsc prog 123=true:=by kernel_rfl
@[go_sem]theorem bytes123:prog.bytesOf 123=32:=by kernel_rfl
@[go_sem]theorem vv0:qbm prog 123=some (.p (.agg [(.int .i64 0),(.int .i64 0),(.str [])])):=by kernel_rfl
@[go_sem]theorem vyh:qdk.zeroLen prog 123=3:=by kernel_rfl
@[go_sem]theorem vyi:qau prog 123 0=some 0:=by kernel_rfl
@[go_sem]theorem vyj:qau prog 123 1=some 1:=by kernel_rfl
@[go_sem]theorem vyk:qau prog 123 2=some 2:=by kernel_rfl
@[go_sem]theorem build123(parts:List (Nat×AV)):qhc prog 123 parts=(qkk (fun j=>[(0,1),(1,1),(2,1)][j]?) [.p (.int .i64 0),.p (.int .i64 0),.p (.str [])] parts).map qkz :=
  qcp _ _ vv0 rfl (by kernel_rfl) (by kernel_rfl) (by funext j;exact qbz _ _ (by kernel_rfl) j)
@[go_sem]theorem eqS123(d:Nat)(xs ys:List PV):eqT prog (d+1) 123 xs ys=eqL (eqT prog d) [(3,0,1),(2,1,1),(9,2,1)] xs ys:=q3f _ (by kernel_rfl) (by kernel_rfl) (by kernel_rfl) (by kernel_rfl) d xs ys
@[go_sem]theorem eqg123:prog.eqGuardType prog.depth 123=false:=by kernel_rfl
attribute [go_sem] underlying124 underlying125 underlying126 underlying127
@[go_sem]theorem vyl:prog.cellsOf 127=2:=by kernel_rfl
@[go_sem]theorem ok127:qsc prog 127=true:=by kernel_rfl
@[go_sem]theorem vym:qau prog 127 0=some 0:=by kernel_rfl
@[go_sem]theorem vyn:qau prog 127 1=some 1:=by kernel_rfl
attribute [go_sem] underlying128 underlying130 underlying132 underlying133 underlying134 underlying135 underlying136 underlying138 underlying139 underlying140 underlying141 underlying142 underlying143 underlying144 underlying146 underlying147 underlying148 underlying149 underlying150
@[go_sem]theorem vv1:qbm prog 150=some (.agg [.nils,.p (.int .i64 0)]):=by kernel_rfl
@[go_sem]theorem vyo:qau prog 150 0=some 0:=by kernel_rfl
@[go_sem]theorem vyp:qau prog 150 1=some 1:=by kernel_rfl
@[go_sem]theorem build150(parts:List (Nat×AV)):qhc prog 150 parts=(qkk (fun j=>[(0,1),(1,1)][j]?) [.nils,.p (.int .i64 0)] parts).map qkz :=
  qcp _ _ vv1 rfl (by kernel_rfl) (by kernel_rfl) (by funext j;exact qbz _ _ (by kernel_rfl) j)
attribute [go_sem] underlying151
@[go_sem]theorem vyq:prog.cellsOf 151=1:=by kernel_rfl
@[go_sem]theorem isAgg151:qat prog 151=some false:=by kernel_rfl
attribute [go_sem] underlying152 underlying153 underlying154 underlying155 underlying156 underlying157 underlying158 underlying159 underlying160 underlying161 underlying162 underlying163
@[go_sem]theorem vyr:prog.cellsOf 163=1:=by kernel_rfl
@[go_sem]theorem isAgg163:qat prog 163=some false:=by kernel_rfl
attribute [go_sem] underlying164 underlying165
@[go_sem]theorem vv2:qbm prog 165=some (.agg [.p (.int .i64 0),.nils,.nils]):=by kernel_rfl
@[go_sem]theorem vys:qau prog 165 0=some 0:=by kernel_rfl
@[go_sem]theorem vyt:qau prog 165 1=some 1:=by kernel_rfl
@[go_sem]theorem vyu:qau prog 165 2=some 2:=by kernel_rfl
@[go_sem]theorem build165(parts:List (Nat×AV)):qhc prog 165 parts=(qkk (fun j=>[(0,1),(1,1),(2,1)][j]?) [.p (.int .i64 0),.nils,.nils] parts).map qkz :=
  qcp _ _ vv2 rfl (by kernel_rfl) (by kernel_rfl) (by funext j;exact qbz _ _ (by kernel_rfl) j)
attribute [go_sem] underlying166
@[go_sem]theorem vyv:prog.cellsOf 166=1:=by kernel_rfl
@[go_sem]theorem isAgg166:qat prog 166=some false:=by kernel_rfl
@[go_sem]theorem ok166:qsc prog 166=true:=by kernel_rfl
@[go_sem]theorem bytes166:prog.bytesOf 166=8:=by kernel_rfl
@[go_sem]theorem zero166:qbm prog 166=some (.p .nilp):=by kernel_rfl
@[go_sem]theorem vyw:qdk.zeroLen prog 166=1:=by kernel_rfl
attribute [go_sem] underlying168 underlying169 underlying170 underlying171
@[go_sem]theorem isAgg171:qat prog 171=some false:=by kernel_rfl
attribute [go_sem] underlying172 underlying173 underlying174 underlying175 underlying176 underlying177 underlying178 underlying179 underlying180 underlying181 underlying182 underlying183 underlying184 underlying186 underlying188 underlying189 underlying190 underlying191
@[go_sem]theorem vyx:prog.cellsOf 191=2:=by kernel_rfl
@[go_sem]theorem bytes191:prog.bytesOf 191=32:=by kernel_rfl
@[go_sem]theorem vv3:qbm prog 191=some (.agg [.p (.int .i64 0),.nils]):=by kernel_rfl
@[go_sem]theorem vyy:qdk.zeroLen prog 191=2:=by kernel_rfl
@[go_sem]theorem build191(parts:List (Nat×AV)):qhc prog 191 parts=(qkk (fun j=>[(0,1),(1,1)][j]?) [.p (.int .i64 0),.nils] parts).map qkz :=
  qcp _ _ vv3 rfl (by kernel_rfl) (by kernel_rfl) (by funext j;exact qbz _ _ (by kernel_rfl) j)
attribute [go_sem] underlying192 underlying193 underlying194 underlying195 underlying196 underlying197 underlying198 underlying199
@[go_sem]theorem vyz:prog.cellsOf 199=1:=by kernel_rfl
@[go_sem]theorem isAgg199:qat prog 199=some false:=by kernel_rfl
@[go_sem]theorem zero199:qbm prog 199=some (.p (.mapv [] [])):=by kernel_rfl
attribute [go_sem] underlying200
@[go_sem]theorem vy0:prog.cellsOf 200=3:=by kernel_rfl
@[go_sem]theorem isAgg200:qat prog 200=some true:=by kernel_rfl
@[go_sem]theorem zero200:qbm prog 200=some (.p (.agg [(.int .i64 0),(.int .i64 0),(.int .i64 0)])):=by kernel_rfl
@[go_sem]theorem eqS200(d:Nat)(xs ys:List PV):eqT prog (d+1) 200 xs ys=eqL (eqT prog d) [(2,0,1),(2,1,1),(2,2,1)] xs ys:=vji _ underlying200 (by kernel_rfl) (by kernel_rfl) d xs ys
attribute [go_sem] underlying201 underlying202 underlying203 underlying204 underlying205
@[go_sem]theorem isAgg205:qat prog 205=some false:=by kernel_rfl
attribute [go_sem] underlying206 underlying207 underlying208 underlying209 underlying210
@[go_sem]theorem vy1:prog.cellsOf 210=1:=by kernel_rfl
@[go_sem]theorem isAgg210:qat prog 210=some false:=by kernel_rfl
@[go_sem]theorem bytes210:prog.bytesOf 210=24:=by kernel_rfl
@[go_sem]theorem zero210:qbm prog 210=some (.nils):=by kernel_rfl
@[go_sem]theorem vy2:qdk.zeroLen prog 210=1:=by kernel_rfl
attribute [go_sem] underlying212 underlying213 underlying214 underlying215 underlying216 underlying217 underlying218 underlying219 underlying220 underlying221 underlying222
@[go_sem]theorem vv4:qbm prog 222=some (.agg [.nils,.nils,.nils,.p (.int .i64 0)]):=by kernel_rfl
@[go_sem]theorem vy3:qau prog 222 0=some 0:=by kernel_rfl
@[go_sem]theorem vy4:qau prog 222 1=some 2:=by kernel_rfl
@[go_sem]theorem vy5:qau prog 222 2=some 3:=by kernel_rfl
@[go_sem]theorem build222(parts:List (Nat×AV)):qhc prog 222 parts=(qkk (fun j=>[(0,2),(2,1),(3,1)][j]?) [.nils,.nils,.nils,.p (.int .i64 0)] parts).map qkz :=
  qcp _ _ vv4 rfl (by kernel_rfl) (by kernel_rfl) (by funext j;exact qbz _ _ (by kernel_rfl) j)
attribute [go_sem] underlying223
@[go_sem]theorem vy6:prog.cellsOf 223=1:=by kernel_rfl
@[go_sem]theorem isAgg223:qat prog 223=some false:=by kernel_rfl
attribute [go_sem] underlying225 underlying226 underlying227 underlying228 underlying229 underlying230
@[go_sem]theorem vy7:prog.cellsOf 230=2:=by kernel_rfl
@[go_sem]theorem isAgg230:qat prog 230=some true:=by kernel_rfl
@[go_sem]theorem ok230:qsc prog 230=true:=by kernel_rfl
@[go_sem]theorem bytes230:prog.bytesOf 230=32:=by kernel_rfl
@[go_sem]theorem vv5:qbm prog 230=some (.agg [.p (.int .i64 0),.nils]):=by kernel_rfl
@[go_sem]theorem vy8:qdk.zeroLen prog 230=2:=by kernel_rfl
@[go_sem]theorem vy9:qau prog 230 0=some 0:=by kernel_rfl
@[go_sem]theorem vza:qau prog 230 1=some 1:=by kernel_rfl
@[go_sem]theorem build230(parts:List (Nat×AV)):qhc prog 230 parts=(qkk (fun j=>[(0,1),(1,1)][j]?) [.p (.int .i64 0),.nils] parts).map qkz :=
  qcp _ _ vv5 rfl (by kernel_rfl) (by kernel_rfl) (by funext j;exact qbz _ _ (by kernel_rfl) j)
attribute [go_sem] underlying231 underlying232 underlying233
@[go_sem]theorem isAgg233:qat prog 233=some false:=by kernel_rfl
attribute [go_sem] underlying235 underlying236 underlying237 underlying238 underlying239 underlying240 underlying241
@[go_sem]theorem vzb:prog.cellsOf 241=1:=by kernel_rfl
@[go_sem]theorem isAgg241:qat prog 241=some false:=by kernel_rfl
@[go_sem]theorem ok241:qsc prog 241=true:=by kernel_rfl
@[go_sem]theorem bytes241:prog.bytesOf 241=8:=by kernel_rfl
@[go_sem]theorem zero241:qbm prog 241=some (.p (.int .u64 0)):=by kernel_rfl
@[go_sem]theorem vzc:qdk.zeroLen prog 241=1:=by kernel_rfl
attribute [go_sem] underlying242 underlying243 underlying244 underlying245 underlying246 underlying247 underlying248 underlying249 underlying250 underlying252 underlying253 underlying254 underlying255 underlying256 underlying258 underlying259 underlying260 underlying261
@[go_sem]theorem vzd:prog.cellsOf 261=5:=by kernel_rfl
@[go_sem]theorem isAgg261:qat prog 261=some true:=by kernel_rfl
@[go_sem]theorem vv6:qbm prog 261=some (.p (.agg [(.int .i64 0),(.int .i64 0),(.int .i64 0),(.int .i64 0),(.str [])])):=by kernel_rfl
@[go_sem]theorem vze:qau prog 261 0=some 0:=by kernel_rfl
@[go_sem]theorem vzf:qau prog 261 1=some 1:=by kernel_rfl
@[go_sem]theorem vzg:qau prog 261 2=some 2:=by kernel_rfl
@[go_sem]theorem build261(parts:List (Nat×AV)):qhc prog 261 parts=(qkk (fun j=>[(0,1),(1,1),(2,3)][j]?) [.p (.int .i64 0),.p (.int .i64 0),.p (.int .i64 0),.p (.int .i64 0),.p (.str [])] parts).map qkz :=
  qcp _ _ vv6 rfl (by kernel_rfl) (by kernel_rfl) (by funext j;exact qbz _ _ (by kernel_rfl) j)
attribute [go_sem] underlying262 underlying263
@[go_sem]theorem vzh:prog.cellsOf 263=11:=by kernel_rfl
@[go_sem]theorem isAgg263:qat prog 263=some true:=by kernel_rfl
@[go_sem]theorem ok263:qsc prog 263=true:=by kernel_rfl
@[go_sem]theorem bytes263:prog.bytesOf 263=104:=by kernel_rfl
@[go_sem]theorem vv7:qbm prog 263=some (.p (.agg [(.int .i64 0),(.int .i64 0),(.int .i64 0),(.int .i64 0),(.str []),(.int .i64 0),(.int .i64 0),(.int .i64 0),(.int .i64 0),(.int .i64 0),(.str [])])):=by kernel_rfl
@[go_sem]theorem vzi:qdk.zeroLen prog 263=11:=by kernel_rfl
@[go_sem]theorem vzj:qau prog 263 0=some 0:=by kernel_rfl
@[go_sem]theorem vzk:qau prog 263 1=some 5:=by kernel_rfl
@[go_sem]theorem vzl:qau prog 263 2=some 6:=by kernel_rfl
@[go_sem]theorem build263(parts:List (Nat×AV)):qhc prog 263 parts=(qkk (fun j=>[(0,5),(5,1),(6,5)][j]?) [.p (.int .i64 0),.p (.int .i64 0),.p (.int .i64 0),.p (.int .i64 0),.p (.str []),.p (.int .i64 0),.p (.int .i64 0),.p (.int .i64 0),.p (.int .i64 0),.p (.int .i64 0),.p (.str [])] parts).map qkz :=
  qcp _ _ vv7 rfl (by kernel_rfl) (by kernel_rfl) (by funext j;exact qbz _ _ (by kernel_rfl) j)
attribute [go_sem] underlying264 underlying265 underlying266 underlying267 underlying268 underlying269 underlying270 underlying271 underlying272 underlying273 underlying274 underlying275 underlying276 underlying277 underlying278 underlying279 underlying280 underlying281 underlying282 underlying283 underlying284 underlying285 underlying286 underlying287 underlying288
@[go_sem]theorem vzm:prog.cellsOf 288=1:=by kernel_rfl
@[go_sem]theorem isAgg288:qat prog 288=some false:=by kernel_rfl
attribute [go_sem] underlying289 underlying290
@[go_sem]theorem vzn:prog.cellsOf 290=3:=by kernel_rfl
@[go_sem]theorem isAgg290:qat prog 290=some true:=by kernel_rfl
@[go_sem]theorem vv8:qbm prog 290=some (.agg [.p (.int .i64 0),.nils,.p .nilf]):=by kernel_rfl
@[go_sem]theorem vzo:qau prog 290 0=some 0:=by kernel_rfl
@[go_sem]theorem vzp:qau prog 290 1=some 1:=by kernel_rfl
@[go_sem]theorem vzq:qau prog 290 2=some 2:=by kernel_rfl
@[go_sem]theorem build290(parts:List (Nat×AV)):qhc prog 290 parts=(qkk (fun j=>[(0,1),(1,1),(2,1)][j]?) [.p (.int .i64 0),.nils,.p .nilf] parts).map qkz :=
  qcp _ _ vv8 rfl (by kernel_rfl) (by kernel_rfl) (by funext j;exact qbz _ _ (by kernel_rfl) j)
attribute [go_sem] underlying291 underlying292 underlying293 underlying294 underlying295 underlying296 underlying297 underlying298 underlying299 underlying300 underlying301 underlying302 underlying303 underlying304 underlying305
@[go_sem]theorem vzr:prog.cellsOf 305=2:=by kernel_rfl
@[go_sem]theorem isAgg305:qat prog 305=some true:=by kernel_rfl
@[go_sem]theorem ok305:qsc prog 305=true:=by kernel_rfl
@[go_sem]theorem bytes305:prog.bytesOf 305=16:=by kernel_rfl
@[go_sem]theorem vv9:qbm prog 305=some (.p (.agg [(.int .i64 0),(.int .i64 0)])):=by kernel_rfl
@[go_sem]theorem vzs:qdk.zeroLen prog 305=2:=by kernel_rfl
@[go_sem]theorem vzt:qau prog 305 0=some 0:=by kernel_rfl
@[go_sem]theorem vzu:qau prog 305 1=some 1:=by kernel_rfl
@[go_sem]theorem build305(parts:List (Nat×AV)):qhc prog 305 parts=(qkk (fun j=>[(0,1),(1,1)][j]?) [.p (.int .i64 0),.p (.int .i64 0)] parts).map qkz :=
  qcp _ _ vv9 rfl (by kernel_rfl) (by kernel_rfl) (by funext j;exact qbz _ _ (by kernel_rfl) j)
attribute [go_sem] underlying306 underlying307 underlying308
@[go_sem]theorem isAgg308:qat prog 308=some false:=by kernel_rfl
attribute [go_sem] underlying309 underlying310 underlying311 underlying312
@[go_sem]theorem isAgg312:qat prog 312=some false:=by kernel_rfl
attribute [go_sem] underlying313 underlying314 underlying315 underlying316 underlying317 underlying318 underlying319 underlying320
@[go_sem]theorem vzv:prog.cellsOf 320=2:=by kernel_rfl
@[go_sem]theorem isAgg320:qat prog 320=some true:=by kernel_rfl
@[go_sem]theorem vwa:qbm prog 320=some (.agg [.p (.int .i64 0),.nils]):=by kernel_rfl
@[go_sem]theorem vzw:qau prog 320 1=some 1:=by kernel_rfl
@[go_sem]theorem build320(parts:List (Nat×AV)):qhc prog 320 parts=(qkk (fun j=>[(0,1),(1,1)][j]?) [.p (.int .i64 0),.nils] parts).map qkz :=
  qcp _ _ vwa rfl (by kernel_rfl) (by kernel_rfl) (by funext j;exact qbz _ _ (by kernel_rfl) j)
attribute [go_sem] underlying322 underlying323 underlying324 underlying325 underlying326 underlying327 underlying328 underlying329 underlying330 underlying331 underlying332 underlying333 underlying334 underlying335 underlying336 underlying337 underlying338 underlying339 underlying340 underlying341 underlying342 underlying343 underlying344 underlying345 underlying346 underlying347 underlying348 underlying349 underlying350
@[go_sem]theorem isAgg350:qat prog 350=some false:=by kernel_rfl
attribute [go_sem] underlying352 underlying353 underlying354 underlying355
@[go_sem]theorem isAgg355:qat prog 355=some false:=by kernel_rfl
attribute [go_sem] underlying356 underlying357
@[go_sem]theorem vzx:prog.cellsOf 357=2:=by kernel_rfl
@[go_sem]theorem isAgg357:qat prog 357=some true:=by kernel_rfl
@[go_sem]theorem zero357:qbm prog 357=some (.agg [.p .nilp,.nils]):=by kernel_rfl
attribute [go_sem] underlying359 underlying360 underlying361
@[go_sem]theorem isAgg361:qat prog 361=some false:=by kernel_rfl
attribute [go_sem] underlying363 underlying364 underlying365 underlying366 underlying367 underlying368 underlying369 underlying370 underlying371 underlying372 underlying373 underlying374 underlying375 underlying376 underlying377 underlying378 underlying379 underlying380
@[go_sem]theorem isAgg380:qat prog 380=some false:=by kernel_rfl
attribute [go_sem] underlying381 underlying382 underlying383 underlying384 underlying385 underlying386 underlying388 underlying389 underlying390 underlying391 underlying392 underlying393 underlying394 underlying395 underlying396 underlying397 underlying398 underlying399 underlying400 underlying401
end Go.Proofs.YtijpapagpebllaaGreatDoor.Ty
