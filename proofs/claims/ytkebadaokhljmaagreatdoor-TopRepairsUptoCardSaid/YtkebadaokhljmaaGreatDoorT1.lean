/- -/
import Derived.Test.YtkebadaokhljmaaGreatDoorProg
import Derived.KernelRfl
import Derived.Test.YtkebadaokhljmaaGreatDoorA2
set_option linter.unusedVariables false
set_option linter.unusedSimpArgs false
namespace Go.Proofs.YtkebadaokhljmaaGreatDoor.Ty
open Go Go.Ab
attribute [go_sem] Tryz.underlying1
@[go_sem] theorem ok1:qog Tryz.prog 1=true:=by kernel_rfl
attribute [go_sem] Tryz.underlying2
@[go_sem] theorem cellsOf2:Tryz.prog.cellsOf 2=1:=by kernel_rfl
@[go_sem] theorem isAgg2:qan Tryz.prog 2=some false:=by kernel_rfl
@[go_sem] theorem ok2:qog Tryz.prog 2=true:=by kernel_rfl
@[go_sem] theorem bytes2:Tryz.prog.bytesOf 2=8:=by kernel_rfl
@[go_sem] theorem zero2:qa9 Tryz.prog 2=some (.p (.int .i64 0)):=by kernel_rfl
@[go_sem] theorem zeroLen2:qct.zeroLen Tryz.prog 2=1:=by kernel_rfl
@[go_sem] theorem eqI2 (d:Nat) (k k':IntKind) (a b:Int):eqT Tryz.prog (d+1) 2 [.int k a] [.int k' b]=if k=k' then some (a == b) else none:=vgk _ Tryz.underlying2 d k k' a b
attribute [go_sem] Tryz.underlying3
@[go_sem] theorem cellsOf3:Tryz.prog.cellsOf 3=1:=by kernel_rfl
@[go_sem] theorem isAgg3:qan Tryz.prog 3=some false:=by kernel_rfl
@[go_sem] theorem ok3:qog Tryz.prog 3=true:=by kernel_rfl
@[go_sem] theorem bytes3:Tryz.prog.bytesOf 3=8:=by kernel_rfl
@[go_sem] theorem zero3:qa9 Tryz.prog 3=some (.p (.int .i64 0)):=by kernel_rfl
@[go_sem] theorem zeroLen3:qct.zeroLen Tryz.prog 3=1:=by kernel_rfl
@[go_sem] theorem eqI3 (d:Nat) (k k':IntKind) (a b:Int):eqT Tryz.prog (d+1) 3 [.int k a] [.int k' b]=if k=k' then some (a == b) else none:=vgk _ Tryz.underlying3 d k k' a b
attribute [go_sem] Tryz.underlying4
@[go_sem] theorem cellsOf4:Tryz.prog.cellsOf 4=1:=by kernel_rfl
@[go_sem] theorem isAgg4:qan Tryz.prog 4=some false:=by kernel_rfl
@[go_sem] theorem ok4:qog Tryz.prog 4=true:=by kernel_rfl
@[go_sem] theorem bytes4:Tryz.prog.bytesOf 4=1:=by kernel_rfl
@[go_sem] theorem zero4:qa9 Tryz.prog 4=some (.p (.bool false)):=by kernel_rfl
attribute [go_sem] Tryz.underlying5
@[go_sem] theorem cellsOf5:Tryz.prog.cellsOf 5=1:=by kernel_rfl
@[go_sem] theorem isAgg5:qan Tryz.prog 5=some false:=by kernel_rfl
@[go_sem] theorem ok5:qog Tryz.prog 5=true:=by kernel_rfl
@[go_sem] theorem bytes5:Tryz.prog.bytesOf 5=1:=by kernel_rfl
@[go_sem] theorem zero5:qa9 Tryz.prog 5=some (.p (.int .u8 0)):=by kernel_rfl
@[go_sem] theorem zeroLen5:qct.zeroLen Tryz.prog 5=1:=by kernel_rfl
attribute [go_sem] Tryz.underlying6 Tryz.underlying7 Tryz.underlying8 Tryz.underlying9
@[go_sem] theorem cellsOf9:Tryz.prog.cellsOf 9=1:=by kernel_rfl
@[go_sem] theorem isAgg9:qan Tryz.prog 9=some false:=by kernel_rfl
@[go_sem] theorem ok9:qog Tryz.prog 9=true:=by kernel_rfl
@[go_sem] theorem bytes9:Tryz.prog.bytesOf 9=16:=by kernel_rfl
@[go_sem] theorem zero9:qa9 Tryz.prog 9=some (.p (.str [])):=by kernel_rfl
@[go_sem] theorem zeroLen9:qct.zeroLen Tryz.prog 9=1:=by kernel_rfl
@[go_sem] theorem eqI9 (d:Nat) (a b:List UInt8):eqT Tryz.prog (d+1) 9 [.str a] [.str b]=some (a == b):=vqj _ Tryz.underlying9 d a b
attribute [go_sem] Tryz.underlying10 Tryz.underlying11 Tryz.underlying12 Tryz.underlying13 Tryz.underlying14 Tryz.underlying15 Tryz.underlying16 Tryz.underlying17 Tryz.underlying18 Tryz.underlying19 Tryz.underlying20
@[go_sem] theorem isAgg20:qan Tryz.prog 20=some false:=by kernel_rfl
attribute [go_sem] Tryz.underlying21 Tryz.underlying22
@[go_sem] theorem vyp:Tryz.prog.cellsOf 22=1:=by kernel_rfl
@[go_sem] theorem isAgg22:qan Tryz.prog 22=some false:=by kernel_rfl
attribute [go_sem] Tryz.underlying23 Tryz.underlying24
@[go_sem] theorem vyq:Tryz.prog.cellsOf 24=3:=by kernel_rfl
@[go_sem] theorem isAgg24:qan Tryz.prog 24=some true:=by kernel_rfl
@[go_sem] theorem vyr:qah Tryz.prog 24 0=some 0:=by kernel_rfl
@[go_sem] theorem vys:qah Tryz.prog 24 1=some 1:=by kernel_rfl
@[go_sem] theorem vyt:qah Tryz.prog 24 2=some 2:=by kernel_rfl
attribute [go_sem] Tryz.underlying25 Tryz.underlying26
@[go_sem] theorem vyu:Tryz.prog.cellsOf 26=1:=by kernel_rfl
@[go_sem] theorem isAgg26:qan Tryz.prog 26=some false:=by kernel_rfl
attribute [go_sem] Tryz.underlying27
@[go_sem] theorem vyv:Tryz.prog.cellsOf 27=1:=by kernel_rfl
@[go_sem] theorem isAgg27:qan Tryz.prog 27=some false:=by kernel_rfl
attribute [go_sem] Tryz.underlying28 Tryz.underlying29
@[go_sem] theorem vyw:Tryz.prog.cellsOf 29=3:=by kernel_rfl
@[go_sem] theorem isAgg29:qan Tryz.prog 29=some true:=by kernel_rfl
@[go_sem] theorem ok29:qog Tryz.prog 29=true:=by kernel_rfl
@[go_sem] theorem vyx:qa9 Tryz.prog 29=some (.agg [.p (.str []),.nils,.nils]):=by kernel_rfl
@[go_sem] theorem vyy:qah Tryz.prog 29 0=some 0:=by kernel_rfl
@[go_sem] theorem vyz:qah Tryz.prog 29 1=some 1:=by kernel_rfl
@[go_sem] theorem vy0:qah Tryz.prog 29 2=some 2:=by kernel_rfl
@[go_sem] theorem build29 (qas:List (Nat×AV)):qh0 Tryz.prog 29 qas=(qk3 (fun j=>[(0,1),(1,1),(2,1)][j]?) [.p (.str []),.nils,.nils] qas).map qks :=
  qes _ _ vyx rfl (by kernel_rfl) (by kernel_rfl) (by funext j;exact qdw _ _ (by kernel_rfl) j)
attribute [go_sem] Tryz.underlying31 Tryz.underlying32 Tryz.underlying34 Tryz.underlying35 Tryz.underlying36 Tryz.underlying37
@[go_sem] theorem vy1:Tryz.prog.cellsOf 37=1:=by kernel_rfl
@[go_sem] theorem isAgg37:qan Tryz.prog 37=some false:=by kernel_rfl
@[go_sem] theorem ok37:qog Tryz.prog 37=true:=by kernel_rfl
@[go_sem] theorem bytes37:Tryz.prog.bytesOf 37=24:=by kernel_rfl
@[go_sem] theorem zero37:qa9 Tryz.prog 37=some (.nils):=by kernel_rfl
@[go_sem] theorem vy2:qct.zeroLen Tryz.prog 37=1:=by kernel_rfl
attribute [go_sem] Tryz.underlying38
@[go_sem] theorem vy3:Tryz.prog.cellsOf 38=1:=by kernel_rfl
@[go_sem] theorem isAgg38:qan Tryz.prog 38=some false:=by kernel_rfl
@[go_sem] theorem zero38:qa9 Tryz.prog 38=some (.nils):=by kernel_rfl
attribute [go_sem] Tryz.underlying39 Tryz.underlying40
@[go_sem] theorem vy4:Tryz.prog.cellsOf 40=2:=by kernel_rfl
@[go_sem] theorem isAgg40:qan Tryz.prog 40=some true:=by kernel_rfl
@[go_sem] theorem vy5:qa9 Tryz.prog 40=some (.agg [.nils,.nils]):=by kernel_rfl
@[go_sem] theorem vy6:qah Tryz.prog 40 0=some 0:=by kernel_rfl
@[go_sem] theorem vy7:qah Tryz.prog 40 1=some 1:=by kernel_rfl
@[go_sem] theorem build40 (qas:List (Nat×AV)):qh0 Tryz.prog 40 qas=(qk3 (fun j=>[(0,1),(1,1)][j]?) [.nils,.nils] qas).map qks :=
  qes _ _ vy5 rfl (by kernel_rfl) (by kernel_rfl) (by funext j;exact qdw _ _ (by kernel_rfl) j)
attribute [go_sem] Tryz.underlying41 Tryz.underlying43 Tryz.underlying44 Tryz.underlying46 Tryz.underlying47
@[go_sem] theorem vy8:Tryz.prog.cellsOf 47=1:=by kernel_rfl
@[go_sem] theorem isAgg47:qan Tryz.prog 47=some false:=by kernel_rfl
attribute [go_sem] Tryz.underlying48 Tryz.underlying49
@[go_sem] theorem vy9:Tryz.prog.cellsOf 49=1:=by kernel_rfl
@[go_sem] theorem isAgg49:qan Tryz.prog 49=some true:=by kernel_rfl
@[go_sem] theorem vza:qa9 Tryz.prog 49=some (.agg [.nils]):=by kernel_rfl
@[go_sem] theorem vzb:qah Tryz.prog 49 0=some 0:=by kernel_rfl
@[go_sem] theorem build49 (qas:List (Nat×AV)):qh0 Tryz.prog 49 qas=(qk3 (fun j=>[(0,1)][j]?) [.nils] qas).map qks :=
  qes _ _ vza rfl (by kernel_rfl) (by kernel_rfl) (by funext j;exact qdw _ _ (by kernel_rfl) j)
attribute [go_sem] Tryz.underlying50 Tryz.underlying51 Tryz.underlying52 Tryz.underlying53 Tryz.underlying55 Tryz.underlying56 Tryz.underlying57 Tryz.underlying58 Tryz.underlying59
@[go_sem] theorem isAgg59:qan Tryz.prog 59=some false:=by kernel_rfl
attribute [go_sem] Tryz.underlying60
@[go_sem] theorem vzc:Tryz.prog.cellsOf 60=1:=by kernel_rfl
@[go_sem] theorem isAgg60:qan Tryz.prog 60=some false:=by kernel_rfl
@[go_sem] theorem zero60:qa9 Tryz.prog 60=some (.p (.int .u32 0)):=by kernel_rfl
attribute [go_sem] Tryz.underlying61 Tryz.underlying62
@[go_sem] theorem vzd:Tryz.prog.cellsOf 62=2:=by kernel_rfl
@[go_sem] theorem isAgg62:qan Tryz.prog 62=some true:=by kernel_rfl
@[go_sem] theorem ok62:qog Tryz.prog 62=true:=by kernel_rfl
@[go_sem] theorem bytes62:Tryz.prog.bytesOf 62=8:=by kernel_rfl
@[go_sem] theorem vze:qa9 Tryz.prog 62=some (.p (.agg [(.int .u32 0),(.int .u32 0)])):=by kernel_rfl
@[go_sem] theorem vzf:qct.zeroLen Tryz.prog 62=2:=by kernel_rfl
@[go_sem] theorem vzg:qah Tryz.prog 62 0=some 0:=by kernel_rfl
@[go_sem] theorem vzh:qah Tryz.prog 62 1=some 1:=by kernel_rfl
@[go_sem] theorem build62 (qas:List (Nat×AV)):qh0 Tryz.prog 62 qas=(qk3 (fun j=>[(0,1),(1,1)][j]?) [.p (.int .u32 0),.p (.int .u32 0)] qas).map qks :=
  qes _ _ vze rfl (by kernel_rfl) (by kernel_rfl) (by funext j;exact qdw _ _ (by kernel_rfl) j)
attribute [go_sem] Tryz.underlying63
@[go_sem] theorem vzi:qah Tryz.prog 63 0=some 0:=by kernel_rfl
@[go_sem] theorem vzj:qah Tryz.prog 63 1=some 1:=by kernel_rfl
attribute [go_sem] Tryz.underlying64
@[go_sem] theorem vzk:Tryz.prog.cellsOf 64=1:=by kernel_rfl
@[go_sem] theorem isAgg64:qan Tryz.prog 64=some false:=by kernel_rfl
@[go_sem] theorem ok64:qog Tryz.prog 64=true:=by kernel_rfl
@[go_sem] theorem bytes64:Tryz.prog.bytesOf 64=24:=by kernel_rfl
@[go_sem] theorem zero64:qa9 Tryz.prog 64=some (.nils):=by kernel_rfl
@[go_sem] theorem vzl:qct.zeroLen Tryz.prog 64=1:=by kernel_rfl
attribute [go_sem] Tryz.underlying65 Tryz.underlying66
@[go_sem] theorem vzm:Tryz.prog.cellsOf 66=4:=by kernel_rfl
@[go_sem] theorem isAgg66:qan Tryz.prog 66=some true:=by kernel_rfl
@[go_sem] theorem vzn:qah Tryz.prog 66 0=some 0:=by kernel_rfl
@[go_sem] theorem vzo:qah Tryz.prog 66 1=some 1:=by kernel_rfl
@[go_sem] theorem vzp:qah Tryz.prog 66 2=some 2:=by kernel_rfl
@[go_sem] theorem vzq:qah Tryz.prog 66 3=some 3:=by kernel_rfl
attribute [go_sem] Tryz.underlying67
@[go_sem] theorem vzr:Tryz.prog.cellsOf 67=1:=by kernel_rfl
@[go_sem] theorem isAgg67:qan Tryz.prog 67=some false:=by kernel_rfl
attribute [go_sem] Tryz.underlying68 Tryz.underlying69
@[go_sem] theorem vzs:Tryz.prog.cellsOf 69=3:=by kernel_rfl
@[go_sem] theorem isAgg69:qan Tryz.prog 69=some true:=by kernel_rfl
@[go_sem] theorem vzt:qa9 Tryz.prog 69=some (.agg [.nils,.p (.int .i64 0),.nils]):=by kernel_rfl
@[go_sem] theorem vzu:qah Tryz.prog 69 0=some 0:=by kernel_rfl
@[go_sem] theorem vzv:qah Tryz.prog 69 1=some 1:=by kernel_rfl
@[go_sem] theorem vzw:qah Tryz.prog 69 2=some 2:=by kernel_rfl
@[go_sem] theorem build69 (qas:List (Nat×AV)):qh0 Tryz.prog 69 qas=(qk3 (fun j=>[(0,1),(1,1),(2,1)][j]?) [.nils,.p (.int .i64 0),.nils] qas).map qks :=
  qes _ _ vzt rfl (by kernel_rfl) (by kernel_rfl) (by funext j;exact qdw _ _ (by kernel_rfl) j)
attribute [go_sem] Tryz.underlying70 Tryz.underlying71
@[go_sem] theorem vzx:Tryz.prog.cellsOf 71=2:=by kernel_rfl
@[go_sem] theorem isAgg71:qan Tryz.prog 71=some true:=by kernel_rfl
@[go_sem] theorem vzy:qa9 Tryz.prog 71=some (.agg [.nils,.nils]):=by kernel_rfl
@[go_sem] theorem vzz:qah Tryz.prog 71 0=some 0:=by kernel_rfl
@[go_sem] theorem vz0:qah Tryz.prog 71 1=some 1:=by kernel_rfl
@[go_sem] theorem build71 (qas:List (Nat×AV)):qh0 Tryz.prog 71 qas=(qk3 (fun j=>[(0,1),(1,1)][j]?) [.nils,.nils] qas).map qks :=
  qes _ _ vzy rfl (by kernel_rfl) (by kernel_rfl) (by funext j;exact qdw _ _ (by kernel_rfl) j)
attribute [go_sem] Tryz.underlying72
@[go_sem] theorem vz1:Tryz.prog.cellsOf 72=1:=by kernel_rfl
@[go_sem] theorem isAgg72:qan Tryz.prog 72=some false:=by kernel_rfl
attribute [go_sem] Tryz.underlying73 Tryz.underlying74
@[go_sem] theorem vz2:Tryz.prog.cellsOf 74=2:=by kernel_rfl
@[go_sem] theorem isAgg74:qan Tryz.prog 74=some true:=by kernel_rfl
@[go_sem] theorem ok74:qog Tryz.prog 74=true:=by kernel_rfl
@[go_sem] theorem bytes74:Tryz.prog.bytesOf 74=32:=by kernel_rfl
@[go_sem] theorem vz3:qa9 Tryz.prog 74=some (.agg [.p (.int .i64 0),.nils]):=by kernel_rfl
@[go_sem] theorem vz4:qct.zeroLen Tryz.prog 74=2:=by kernel_rfl
@[go_sem] theorem vz5:qah Tryz.prog 74 0=some 0:=by kernel_rfl
@[go_sem] theorem vz6:qah Tryz.prog 74 1=some 1:=by kernel_rfl
@[go_sem] theorem build74 (qas:List (Nat×AV)):qh0 Tryz.prog 74 qas=(qk3 (fun j=>[(0,1),(1,1)][j]?) [.p (.int .i64 0),.nils] qas).map qks :=
  qes _ _ vz3 rfl (by kernel_rfl) (by kernel_rfl) (by funext j;exact qdw _ _ (by kernel_rfl) j)
attribute [go_sem] Tryz.underlying75 Tryz.underlying76
@[go_sem] theorem vz7:Tryz.prog.cellsOf 76=18:=by kernel_rfl
@[go_sem] theorem isAgg76:qan Tryz.prog 76=some true:=by kernel_rfl
@[go_sem] theorem ok76:qog Tryz.prog 76=true:=by kernel_rfl
@[go_sem] theorem bytes76:Tryz.prog.bytesOf 76=272:=by kernel_rfl
@[go_sem] theorem vz8:qa9 Tryz.prog 76=some (.agg [.p (.str []),.p (.str []),.p (.int .i64 0),.p (.int .u32 0),.p (.int .u32 0),.p (.int .u32 0),.p (.int .u32 0),.p (.str []),.nils,.p (.str []),.nils,.nils,.p (.int .i64 0),.nils,.nils,.nils,.p (.int .i64 0),.nils]):=by kernel_rfl
@[go_sem] theorem vz9:qct.zeroLen Tryz.prog 76=18:=by kernel_rfl
@[go_sem] theorem v0a:qah Tryz.prog 76 0=some 0:=by kernel_rfl
@[go_sem] theorem v0b:qah Tryz.prog 76 1=some 1:=by kernel_rfl
@[go_sem] theorem v0c:qah Tryz.prog 76 2=some 2:=by kernel_rfl
@[go_sem] theorem v0d:qah Tryz.prog 76 3=some 3:=by kernel_rfl
@[go_sem] theorem v0e:qah Tryz.prog 76 4=some 5:=by kernel_rfl
@[go_sem] theorem v0f:qah Tryz.prog 76 5=some 7:=by kernel_rfl
@[go_sem] theorem v0g:qah Tryz.prog 76 6=some 11:=by kernel_rfl
@[go_sem] theorem v0h:qah Tryz.prog 76 7=some 14:=by kernel_rfl
@[go_sem] theorem v0i:qah Tryz.prog 76 8=some 16:=by kernel_rfl
@[go_sem] theorem build76 (qas:List (Nat×AV)):qh0 Tryz.prog 76 qas=(qk3 (fun j=>[(0,1),(1,1),(2,1),(3,2),(5,2),(7,4),(11,3),(14,2),(16,2)][j]?) [.p (.str []),.p (.str []),.p (.int .i64 0),.p (.int .u32 0),.p (.int .u32 0),.p (.int .u32 0),.p (.int .u32 0),.p (.str []),.nils,.p (.str []),.nils,.nils,.p (.int .i64 0),.nils,.nils,.nils,.p (.int .i64 0),.nils] qas).map qks :=
  qes _ _ vz8 rfl (by kernel_rfl) (by kernel_rfl) (by funext j;exact qdw _ _ (by kernel_rfl) j)
attribute [go_sem] Tryz.underlying78 Tryz.underlying79 Tryz.underlying80
@[go_sem] theorem v0j:Tryz.prog.cellsOf 80=2:=by kernel_rfl
@[go_sem] theorem isAgg80:qan Tryz.prog 80=some true:=by kernel_rfl
@[go_sem] theorem ok80:qog Tryz.prog 80=true:=by kernel_rfl
@[go_sem] theorem zero80:qa9 Tryz.prog 80=some (.p (.agg [(.int .u8 0),(.int .u8 0)])):=by kernel_rfl
@[go_sem] theorem v0k:qah Tryz.prog 80 0=some 0:=by kernel_rfl
@[go_sem] theorem v0l:qah Tryz.prog 80 1=some 1:=by kernel_rfl
attribute [go_sem] Tryz.underlying81
@[go_sem] theorem v0m:Tryz.prog.cellsOf 81=1:=by kernel_rfl
@[go_sem] theorem isAgg81:qan Tryz.prog 81=some false:=by kernel_rfl
@[go_sem] theorem ok81:qog Tryz.prog 81=true:=by kernel_rfl
attribute [go_sem] Tryz.underlying82 Tryz.underlying83
@[go_sem] theorem v0n:Tryz.prog.cellsOf 83=3:=by kernel_rfl
@[go_sem] theorem isAgg83:qan Tryz.prog 83=some true:=by kernel_rfl
@[go_sem] theorem v0o:qah Tryz.prog 83 0=some 0:=by kernel_rfl
@[go_sem] theorem v0p:qah Tryz.prog 83 1=some 1:=by kernel_rfl
@[go_sem] theorem v0q:qah Tryz.prog 83 2=some 2:=by kernel_rfl
attribute [go_sem] Tryz.underlying84 Tryz.underlying85
@[go_sem] theorem v0r:Tryz.prog.cellsOf 85=2:=by kernel_rfl
@[go_sem] theorem isAgg85:qan Tryz.prog 85=some true:=by kernel_rfl
@[go_sem] theorem v0s:qah Tryz.prog 85 0=some 0:=by kernel_rfl
@[go_sem] theorem v0t:qah Tryz.prog 85 1=some 1:=by kernel_rfl
attribute [go_sem] Tryz.underlying86
@[go_sem] theorem v0u:Tryz.prog.cellsOf 86=1:=by kernel_rfl
@[go_sem] theorem isAgg86:qan Tryz.prog 86=some false:=by kernel_rfl
attribute [go_sem] Tryz.underlying87 Tryz.underlying88
@[go_sem] theorem v0v:Tryz.prog.cellsOf 88=2:=by kernel_rfl
@[go_sem] theorem isAgg88:qan Tryz.prog 88=some true:=by kernel_rfl
@[go_sem] theorem v0w:qah Tryz.prog 88 0=some 0:=by kernel_rfl
@[go_sem] theorem v0x:qah Tryz.prog 88 1=some 1:=by kernel_rfl
attribute [go_sem] Tryz.underlying89 Tryz.underlying90
@[go_sem] theorem v0y:Tryz.prog.cellsOf 90=10:=by kernel_rfl
@[go_sem] theorem isAgg90:qan Tryz.prog 90=some true:=by kernel_rfl
@[go_sem] theorem ok90:qog Tryz.prog 90=true:=by kernel_rfl
@[go_sem] theorem v0z:qah Tryz.prog 90 0=some 0:=by kernel_rfl
@[go_sem] theorem v00:qah Tryz.prog 90 1=some 1:=by kernel_rfl
@[go_sem] theorem v01:qah Tryz.prog 90 2=some 3:=by kernel_rfl
@[go_sem] theorem v02:qah Tryz.prog 90 3=some 6:=by kernel_rfl
@[go_sem] theorem v03:qah Tryz.prog 90 4=some 8:=by kernel_rfl
attribute [go_sem] Tryz.underlying91
@[go_sem] theorem v04:Tryz.prog.cellsOf 91=1:=by kernel_rfl
@[go_sem] theorem isAgg91:qan Tryz.prog 91=some false:=by kernel_rfl
attribute [go_sem] Tryz.underlying92 Tryz.underlying93 Tryz.underlying94
@[go_sem] theorem v05:Tryz.prog.cellsOf 94=2:=by kernel_rfl
@[go_sem] theorem isAgg94:qan Tryz.prog 94=some true:=by kernel_rfl
@[go_sem] theorem ok94:qog Tryz.prog 94=true:=by kernel_rfl
@[go_sem] theorem bytes94:Tryz.prog.bytesOf 94=32:=by kernel_rfl
@[go_sem] theorem v06:qa9 Tryz.prog 94=some (.agg [.p (.int .i64 0),.nils]):=by kernel_rfl
@[go_sem] theorem v07:qct.zeroLen Tryz.prog 94=2:=by kernel_rfl
@[go_sem] theorem v08:qah Tryz.prog 94 0=some 0:=by kernel_rfl
@[go_sem] theorem v09:qah Tryz.prog 94 1=some 1:=by kernel_rfl
@[go_sem] theorem build94 (qas:List (Nat×AV)):qh0 Tryz.prog 94 qas=(qk3 (fun j=>[(0,1),(1,1)][j]?) [.p (.int .i64 0),.nils] qas).map qks :=
  qes _ _ v06 rfl (by kernel_rfl) (by kernel_rfl) (by funext j;exact qdw _ _ (by kernel_rfl) j)
attribute [go_sem] Tryz.underlying95 Tryz.underlying96 Tryz.underlying97 Tryz.underlying98 Tryz.underlying99 Tryz.underlying101 Tryz.underlying102 Tryz.underlying103 Tryz.underlying104 Tryz.underlying105 Tryz.underlying107 Tryz.underlying109 Tryz.underlying110 Tryz.underlying111 Tryz.underlying113 Tryz.underlying114 Tryz.underlying115 Tryz.underlying116 Tryz.underlying118 Tryz.underlying119 Tryz.underlying120 Tryz.underlying121 Tryz.underlying122 Tryz.underlying123 Tryz.underlying124
@[go_sem] theorem vvj:Tryz.prog.cellsOf 124=1:=by kernel_rfl
@[go_sem] theorem isAgg124:qan Tryz.prog 124=some false:=by kernel_rfl
@[go_sem] theorem zero124:qa9 Tryz.prog 124=some (.nils):=by kernel_rfl
attribute [go_sem] Tryz.underlying126 Tryz.underlying127
@[go_sem] theorem vvk:Tryz.prog.cellsOf 127=1:=by kernel_rfl
@[go_sem] theorem isAgg127:qan Tryz.prog 127=some false:=by kernel_rfl
@[go_sem] theorem ok127:qog Tryz.prog 127=true:=by kernel_rfl
@[go_sem] theorem bytes127:Tryz.prog.bytesOf 127=8:=by kernel_rfl
@[go_sem] theorem zero127:qa9 Tryz.prog 127=some (.p (.int .u64 0)):=by kernel_rfl
@[go_sem] theorem vvl:qct.zeroLen Tryz.prog 127=1:=by kernel_rfl
attribute [go_sem] Tryz.underlying128 Tryz.underlying129 Tryz.underlying130
@[go_sem] theorem vvm:Tryz.prog.cellsOf 130=3:=by kernel_rfl
@[go_sem] theorem isAgg130:qan Tryz.prog 130=some true:=by kernel_rfl
@[go_sem] theorem ok130:qog Tryz.prog 130=true:=by kernel_rfl
@[go_sem] theorem bytes130:Tryz.prog.bytesOf 130=32:=by kernel_rfl
@[go_sem] theorem vta:qa9 Tryz.prog 130=some (.p (.agg [(.int .i64 0),(.int .i64 0),(.str [])])):=by kernel_rfl
@[go_sem] theorem vvn:qct.zeroLen Tryz.prog 130=3:=by kernel_rfl
@[go_sem] theorem vvo:qah Tryz.prog 130 0=some 0:=by kernel_rfl
@[go_sem] theorem vvp:qah Tryz.prog 130 1=some 1:=by kernel_rfl
@[go_sem] theorem vvq:qah Tryz.prog 130 2=some 2:=by kernel_rfl
@[go_sem] theorem build130 (qas:List (Nat×AV)):qh0 Tryz.prog 130 qas=(qk3 (fun j=>[(0,1),(1,1),(2,1)][j]?) [.p (.int .i64 0),.p (.int .i64 0),.p (.str [])] qas).map qks :=
  qes _ _ vta rfl (by kernel_rfl) (by kernel_rfl) (by funext j;exact qdw _ _ (by kernel_rfl) j)
@[go_sem] theorem eqS130 (d:Nat) (xs ys:List PV):eqT Tryz.prog (d+1) 130 xs ys=eqL (eqT Tryz.prog d) [(3,0,1),(2,1,1),(9,2,1)] xs ys:=vdi _ (by kernel_rfl) (by kernel_rfl) (by kernel_rfl) (by kernel_rfl) d xs ys
@[go_sem] theorem eqg130:Tryz.prog.eqGuardType Tryz.prog.depth 130=false:=by kernel_rfl
attribute [go_sem] Tryz.underlying131 Tryz.underlying132 Tryz.underlying133 Tryz.underlying135 Tryz.underlying136 Tryz.underlying137 Tryz.underlying138
@[go_sem] theorem vvr:Tryz.prog.cellsOf 138=1:=by kernel_rfl
@[go_sem] theorem isAgg138:qan Tryz.prog 138=some false:=by kernel_rfl
attribute [go_sem] Tryz.underlying139 Tryz.underlying140 Tryz.underlying142 Tryz.underlying144 Tryz.underlying146 Tryz.underlying147 Tryz.underlying149 Tryz.underlying150 Tryz.underlying151 Tryz.underlying152 Tryz.underlying154 Tryz.underlying155 Tryz.underlying156 Tryz.underlying157 Tryz.underlying158 Tryz.underlying159 Tryz.underlying160 Tryz.underlying162 Tryz.underlying163 Tryz.underlying164 Tryz.underlying165 Tryz.underlying166 Tryz.underlying167 Tryz.underlying168 Tryz.underlying169 Tryz.underlying170 Tryz.underlying171 Tryz.underlying172 Tryz.underlying173
@[go_sem] theorem vvs:Tryz.prog.cellsOf 173=1:=by kernel_rfl
@[go_sem] theorem isAgg173:qan Tryz.prog 173=some false:=by kernel_rfl
@[go_sem] theorem zero173:qa9 Tryz.prog 173=some (.p (.mapv [] [])):=by kernel_rfl
attribute [go_sem] Tryz.underlying174
@[go_sem] theorem vvt:Tryz.prog.cellsOf 174=3:=by kernel_rfl
@[go_sem] theorem isAgg174:qan Tryz.prog 174=some true:=by kernel_rfl
@[go_sem] theorem zero174:qa9 Tryz.prog 174=some (.p (.agg [(.int .i64 0),(.int .i64 0),(.int .i64 0)])):=by kernel_rfl
@[go_sem] theorem eqS174 (d:Nat) (xs ys:List PV):eqT Tryz.prog (d+1) 174 xs ys=eqL (eqT Tryz.prog d) [(2,0,1),(2,1,1),(2,2,1)] xs ys:=vgl _ Tryz.underlying174 (by kernel_rfl) (by kernel_rfl) d xs ys
attribute [go_sem] Tryz.underlying175 Tryz.underlying176 Tryz.underlying177 Tryz.underlying178 Tryz.underlying179
@[go_sem] theorem isAgg179:qan Tryz.prog 179=some false:=by kernel_rfl
attribute [go_sem] Tryz.underlying180 Tryz.underlying182 Tryz.underlying183 Tryz.underlying184 Tryz.underlying185
@[go_sem] theorem vvu:Tryz.prog.cellsOf 185=2:=by kernel_rfl
@[go_sem] theorem bytes185:Tryz.prog.bytesOf 185=32:=by kernel_rfl
@[go_sem] theorem vtb:qa9 Tryz.prog 185=some (.agg [.p (.int .i64 0),.nils]):=by kernel_rfl
@[go_sem] theorem vvv:qct.zeroLen Tryz.prog 185=2:=by kernel_rfl
@[go_sem] theorem build185 (qas:List (Nat×AV)):qh0 Tryz.prog 185 qas=(qk3 (fun j=>[(0,1),(1,1)][j]?) [.p (.int .i64 0),.nils] qas).map qks :=
  qes _ _ vtb rfl (by kernel_rfl) (by kernel_rfl) (by funext j;exact qdw _ _ (by kernel_rfl) j)
attribute [go_sem] Tryz.underlying186 Tryz.underlying188 Tryz.underlying189 Tryz.underlying190 Tryz.underlying191
@[go_sem] theorem vvw:Tryz.prog.cellsOf 191=1:=by kernel_rfl
@[go_sem] theorem isAgg191:qan Tryz.prog 191=some false:=by kernel_rfl
attribute [go_sem] Tryz.underlying192 Tryz.underlying193
@[go_sem] theorem vvx:Tryz.prog.cellsOf 193=3:=by kernel_rfl
@[go_sem] theorem isAgg193:qan Tryz.prog 193=some true:=by kernel_rfl
@[go_sem] theorem vtc:qa9 Tryz.prog 193=some (.agg [.p (.int .i64 0),.nils,.p .nilf]):=by kernel_rfl
@[go_sem] theorem vvy:qah Tryz.prog 193 0=some 0:=by kernel_rfl
@[go_sem] theorem vvz:qah Tryz.prog 193 1=some 1:=by kernel_rfl
@[go_sem] theorem vv0:qah Tryz.prog 193 2=some 2:=by kernel_rfl
@[go_sem] theorem build193 (qas:List (Nat×AV)):qh0 Tryz.prog 193 qas=(qk3 (fun j=>[(0,1),(1,1),(2,1)][j]?) [.p (.int .i64 0),.nils,.p .nilf] qas).map qks :=
  qes _ _ vtc rfl (by kernel_rfl) (by kernel_rfl) (by funext j;exact qdw _ _ (by kernel_rfl) j)
attribute [go_sem] Tryz.underlying194 Tryz.underlying195 Tryz.underlying196 Tryz.underlying197 Tryz.underlying198
@[go_sem] theorem vv1:Tryz.prog.cellsOf 198=4:=by kernel_rfl
@[go_sem] theorem isAgg198:qan Tryz.prog 198=some true:=by kernel_rfl
@[go_sem] theorem ok198:qog Tryz.prog 198=true:=by kernel_rfl
@[go_sem] theorem bytes198:Tryz.prog.bytesOf 198=40:=by kernel_rfl
@[go_sem] theorem vtd:qa9 Tryz.prog 198=some (.p (.agg [(.bool false),(.int .i64 0),(.int .i64 0),(.str [])])):=by kernel_rfl
@[go_sem] theorem vv2:qct.zeroLen Tryz.prog 198=4:=by kernel_rfl
@[go_sem] theorem vv3:qah Tryz.prog 198 0=some 0:=by kernel_rfl
@[go_sem] theorem vv4:qah Tryz.prog 198 1=some 1:=by kernel_rfl
@[go_sem] theorem build198 (qas:List (Nat×AV)):qh0 Tryz.prog 198 qas=(qk3 (fun j=>[(0,1),(1,3)][j]?) [.p (.bool false),.p (.int .i64 0),.p (.int .i64 0),.p (.str [])] qas).map qks :=
  qes _ _ vtd rfl (by kernel_rfl) (by kernel_rfl) (by funext j;exact qdw _ _ (by kernel_rfl) j)
attribute [go_sem] Tryz.underlying199 Tryz.underlying200 Tryz.underlying201
@[go_sem] theorem vv5:Tryz.prog.cellsOf 201=2:=by kernel_rfl
@[go_sem] theorem isAgg201:qan Tryz.prog 201=some true:=by kernel_rfl
@[go_sem] theorem vv6:qah Tryz.prog 201 0=some 0:=by kernel_rfl
@[go_sem] theorem vv7:qah Tryz.prog 201 1=some 1:=by kernel_rfl
attribute [go_sem] Tryz.underlying202 Tryz.underlying203
@[go_sem] theorem vv8:Tryz.prog.cellsOf 203=5:=by kernel_rfl
@[go_sem] theorem isAgg203:qan Tryz.prog 203=some true:=by kernel_rfl
@[go_sem] theorem ok203:qog Tryz.prog 203=true:=by kernel_rfl
@[go_sem] theorem zero203:qa9 Tryz.prog 203=some (.p (.agg [(.int .u8 0),(.int .u8 0),(.int .u8 0),(.int .u8 0),(.int .u8 0)])):=by kernel_rfl
@[go_sem] theorem vv9:qah Tryz.prog 203 0=some 0:=by kernel_rfl
@[go_sem] theorem vwa:qah Tryz.prog 203 1=some 2:=by kernel_rfl
@[go_sem] theorem vwb:qah Tryz.prog 203 2=some 3:=by kernel_rfl
attribute [go_sem] Tryz.underlying204 Tryz.underlying205
@[go_sem] theorem vwc:Tryz.prog.cellsOf 205=5:=by kernel_rfl
@[go_sem] theorem isAgg205:qan Tryz.prog 205=some true:=by kernel_rfl
@[go_sem] theorem vte:qa9 Tryz.prog 205=some (.p (.agg [(.int .i64 0),(.int .i64 0),(.int .i64 0),(.int .i64 0),(.str [])])):=by kernel_rfl
@[go_sem] theorem vwd:qah Tryz.prog 205 0=some 0:=by kernel_rfl
@[go_sem] theorem vwe:qah Tryz.prog 205 1=some 1:=by kernel_rfl
@[go_sem] theorem vwf:qah Tryz.prog 205 2=some 2:=by kernel_rfl
@[go_sem] theorem build205 (qas:List (Nat×AV)):qh0 Tryz.prog 205 qas=(qk3 (fun j=>[(0,1),(1,1),(2,3)][j]?) [.p (.int .i64 0),.p (.int .i64 0),.p (.int .i64 0),.p (.int .i64 0),.p (.str [])] qas).map qks :=
  qes _ _ vte rfl (by kernel_rfl) (by kernel_rfl) (by funext j;exact qdw _ _ (by kernel_rfl) j)
attribute [go_sem] Tryz.underlying206 Tryz.underlying207 Tryz.underlying208
@[go_sem] theorem vwg:Tryz.prog.cellsOf 208=11:=by kernel_rfl
@[go_sem] theorem isAgg208:qan Tryz.prog 208=some true:=by kernel_rfl
@[go_sem] theorem ok208:qog Tryz.prog 208=true:=by kernel_rfl
@[go_sem] theorem bytes208:Tryz.prog.bytesOf 208=104:=by kernel_rfl
@[go_sem] theorem vtf:qa9 Tryz.prog 208=some (.p (.agg [(.int .i64 0),(.int .i64 0),(.int .i64 0),(.int .i64 0),(.str []),(.int .i64 0),(.int .i64 0),(.int .i64 0),(.int .i64 0),(.int .i64 0),(.str [])])):=by kernel_rfl
@[go_sem] theorem vwh:qct.zeroLen Tryz.prog 208=11:=by kernel_rfl
@[go_sem] theorem vwi:qah Tryz.prog 208 0=some 0:=by kernel_rfl
@[go_sem] theorem vwj:qah Tryz.prog 208 1=some 5:=by kernel_rfl
@[go_sem] theorem vwk:qah Tryz.prog 208 2=some 6:=by kernel_rfl
@[go_sem] theorem build208 (qas:List (Nat×AV)):qh0 Tryz.prog 208 qas=(qk3 (fun j=>[(0,5),(5,1),(6,5)][j]?) [.p (.int .i64 0),.p (.int .i64 0),.p (.int .i64 0),.p (.int .i64 0),.p (.str []),.p (.int .i64 0),.p (.int .i64 0),.p (.int .i64 0),.p (.int .i64 0),.p (.int .i64 0),.p (.str [])] qas).map qks :=
  qes _ _ vtf rfl (by kernel_rfl) (by kernel_rfl) (by funext j;exact qdw _ _ (by kernel_rfl) j)
attribute [go_sem] Tryz.underlying209 Tryz.underlying210 Tryz.underlying212 Tryz.underlying213 Tryz.underlying214 Tryz.underlying215 Tryz.underlying216 Tryz.underlying217 Tryz.underlying218 Tryz.underlying219 Tryz.underlying220 Tryz.underlying221 Tryz.underlying222 Tryz.underlying223 Tryz.underlying224 Tryz.underlying225 Tryz.underlying226 Tryz.underlying227 Tryz.underlying228 Tryz.underlying229 Tryz.underlying230 Tryz.underlying231 Tryz.underlying232 Tryz.underlying233 Tryz.underlying234 Tryz.underlying235 Tryz.underlying236 Tryz.underlying237 Tryz.underlying238 Tryz.underlying239 Tryz.underlying241 Tryz.underlying242 Tryz.underlying243 Tryz.underlying244
@[go_sem] theorem isAgg244:qan Tryz.prog 244=some false:=by kernel_rfl
attribute [go_sem] Tryz.underlying245 Tryz.underlying246 Tryz.underlying247 Tryz.underlying248 Tryz.underlying249 Tryz.underlying250 Tryz.underlying251 Tryz.underlying252 Tryz.underlying253 Tryz.underlying254 Tryz.underlying255 Tryz.underlying256 Tryz.underlying257 Tryz.underlying258 Tryz.underlying259 Tryz.underlying260 Tryz.underlying261 Tryz.underlying262 Tryz.underlying263 Tryz.underlying264 Tryz.underlying265 Tryz.underlying266 Tryz.underlying267 Tryz.underlying268 Tryz.underlying269 Tryz.underlying270 Tryz.underlying271 Tryz.underlying272 Tryz.underlying273 Tryz.underlying274 Tryz.underlying275 Tryz.underlying276 Tryz.underlying277 Tryz.underlying278 Tryz.underlying279 Tryz.underlying281 Tryz.underlying282 Tryz.underlying283 Tryz.underlying284 Tryz.underlying285 Tryz.underlying286 Tryz.underlying287 Tryz.underlying288 Tryz.underlying289 Tryz.underlying290 Tryz.underlying291 Tryz.underlying292 Tryz.underlying293 Tryz.underlying295 Tryz.underlying296 Tryz.underlying297 Tryz.underlying298 Tryz.underlying299 Tryz.underlying300 Tryz.underlying301 Tryz.underlying302 Tryz.underlying303 Tryz.underlying304 Tryz.underlying305 Tryz.underlying306 Tryz.underlying307
@[go_sem] theorem isAgg307:qan Tryz.prog 307=some false:=by kernel_rfl
attribute [go_sem] Tryz.underlying309 Tryz.underlying310 Tryz.underlying311 Tryz.underlying312 Tryz.underlying313 Tryz.underlying314 Tryz.underlying315 Tryz.underlying316 Tryz.underlying317 Tryz.underlying318 Tryz.underlying319 Tryz.underlying320 Tryz.underlying321 Tryz.underlying322 Tryz.underlying323 Tryz.underlying324 Tryz.underlying325 Tryz.underlying326 Tryz.underlying327 Tryz.underlying328 Tryz.underlying329 Tryz.underlying330 Tryz.underlying331 Tryz.underlying332 Tryz.underlying333 Tryz.underlying334 Tryz.underlying335 Tryz.underlying336 Tryz.underlying337
@[go_sem] theorem vwl:Tryz.prog.cellsOf 337=2:=by kernel_rfl
@[go_sem] theorem isAgg337:qan Tryz.prog 337=some true:=by kernel_rfl
@[go_sem] theorem vtg:qa9 Tryz.prog 337=some (.agg [.p (.int .i64 0),.nils]):=by kernel_rfl
@[go_sem] theorem vwm:qah Tryz.prog 337 1=some 1:=by kernel_rfl
@[go_sem] theorem build337 (qas:List (Nat×AV)):qh0 Tryz.prog 337 qas=(qk3 (fun j=>[(0,1),(1,1)][j]?) [.p (.int .i64 0),.nils] qas).map qks :=
  qes _ _ vtg rfl (by kernel_rfl) (by kernel_rfl) (by funext j;exact qdw _ _ (by kernel_rfl) j)
attribute [go_sem] Tryz.underlying339 Tryz.underlying340 Tryz.underlying341 Tryz.underlying342 Tryz.underlying343 Tryz.underlying344 Tryz.underlying345 Tryz.underlying346 Tryz.underlying347 Tryz.underlying348 Tryz.underlying349 Tryz.underlying350 Tryz.underlying351 Tryz.underlying352 Tryz.underlying353 Tryz.underlying354 Tryz.underlying355 Tryz.underlying356 Tryz.underlying357 Tryz.underlying358 Tryz.underlying359
@[go_sem] theorem isAgg359:qan Tryz.prog 359=some false:=by kernel_rfl
attribute [go_sem] Tryz.underlying360 Tryz.underlying361 Tryz.underlying362 Tryz.underlying363
@[go_sem] theorem isAgg363:qan Tryz.prog 363=some false:=by kernel_rfl
attribute [go_sem] Tryz.underlying364 Tryz.underlying365 Tryz.underlying366 Tryz.underlying367 Tryz.underlying368 Tryz.underlying369 Tryz.underlying370 Tryz.underlying371 Tryz.underlying372 Tryz.underlying373 Tryz.underlying374 Tryz.underlying375 Tryz.underlying376
@[go_sem] theorem isAgg376:qan Tryz.prog 376=some false:=by kernel_rfl
attribute [go_sem] Tryz.underlying377 Tryz.underlying378
@[go_sem] theorem vwn:Tryz.prog.cellsOf 378=2:=by kernel_rfl
@[go_sem] theorem isAgg378:qan Tryz.prog 378=some true:=by kernel_rfl
@[go_sem] theorem zero378:qa9 Tryz.prog 378=some (.agg [.p .nilp,.nils]):=by kernel_rfl
attribute [go_sem] Tryz.underlying380 Tryz.underlying381 Tryz.underlying382
@[go_sem] theorem isAgg382:qan Tryz.prog 382=some false:=by kernel_rfl
attribute [go_sem] Tryz.underlying384 Tryz.underlying385 Tryz.underlying386 Tryz.underlying387 Tryz.underlying388 Tryz.underlying389 Tryz.underlying390 Tryz.underlying391 Tryz.underlying392 Tryz.underlying393 Tryz.underlying394 Tryz.underlying395 Tryz.underlying396 Tryz.underlying397
@[go_sem] theorem isAgg397:qan Tryz.prog 397=some false:=by kernel_rfl
attribute [go_sem] Tryz.underlying399 Tryz.underlying400 Tryz.underlying401 Tryz.underlying402 Tryz.underlying403 Tryz.underlying404 Tryz.underlying405
@[go_sem] theorem isAgg405:qan Tryz.prog 405=some false:=by kernel_rfl
attribute [go_sem] Tryz.underlying406 Tryz.underlying407 Tryz.underlying408 Tryz.underlying409 Tryz.underlying410 Tryz.underlying411 Tryz.underlying413 Tryz.underlying414 Tryz.underlying415 Tryz.underlying416 Tryz.underlying417 Tryz.underlying418 Tryz.underlying419 Tryz.underlying420 Tryz.underlying421 Tryz.underlying422 Tryz.underlying423 Tryz.underlying424 Tryz.underlying425 Tryz.underlying426
end Go.Proofs.YtkebadaokhljmaaGreatDoor.Ty
