/- -/
import Derived.Test.YtpealiejioeonaaGreatDoorProg
import Derived.KernelRfl
import Derived.Test.YtpealiejioeonaaGreatDoorA2
set_option linter.unusedVariables false
set_option linter.unusedSimpArgs false
namespace Go.Proofs.YtpealiejioeonaaGreatDoor.Ty
open Go Go.Ab Tryz
attribute [go_sem] underlying1
@[go_sem] theorem ok1:qn7 prog 1=true:=by kernel_rfl
attribute [go_sem] underlying2
@[go_sem] theorem cellsOf2:prog.cellsOf 2=1:=by kernel_rfl
@[go_sem] theorem isAgg2:qap prog 2=some false:=by kernel_rfl
@[go_sem] theorem ok2:qn7 prog 2=true:=by kernel_rfl
@[go_sem] theorem bytes2:prog.bytesOf 2=8:=by kernel_rfl
@[go_sem] theorem zero2:qbf prog 2=some (.p (.int .i64 0)):=by kernel_rfl
@[go_sem] theorem zeroLen2:qca.zeroLen prog 2=1:=by kernel_rfl
@[go_sem] theorem eqI2 (d:Nat) (k k':IntKind) (a b:Int):eqT prog (d+1) 2 [.int k a] [.int k' b]=if k=k' then some (a == b) else none:=vdr _ underlying2 d k k' a b
attribute [go_sem] underlying3
@[go_sem] theorem cellsOf3:prog.cellsOf 3=1:=by kernel_rfl
@[go_sem] theorem isAgg3:qap prog 3=some false:=by kernel_rfl
@[go_sem] theorem ok3:qn7 prog 3=true:=by kernel_rfl
@[go_sem] theorem bytes3:prog.bytesOf 3=8:=by kernel_rfl
@[go_sem] theorem zero3:qbf prog 3=some (.p (.int .i64 0)):=by kernel_rfl
@[go_sem] theorem zeroLen3:qca.zeroLen prog 3=1:=by kernel_rfl
@[go_sem] theorem eqI3 (d:Nat) (k k':IntKind) (a b:Int):eqT prog (d+1) 3 [.int k a] [.int k' b]=if k=k' then some (a == b) else none:=vdr _ underlying3 d k k' a b
attribute [go_sem] underlying4
@[go_sem] theorem cellsOf4:prog.cellsOf 4=1:=by kernel_rfl
@[go_sem] theorem isAgg4:qap prog 4=some false:=by kernel_rfl
@[go_sem] theorem ok4:qn7 prog 4=true:=by kernel_rfl
@[go_sem] theorem bytes4:prog.bytesOf 4=1:=by kernel_rfl
@[go_sem] theorem zero4:qbf prog 4=some (.p (.bool false)):=by kernel_rfl
attribute [go_sem] underlying5
@[go_sem] theorem cellsOf5:prog.cellsOf 5=1:=by kernel_rfl
@[go_sem] theorem isAgg5:qap prog 5=some false:=by kernel_rfl
@[go_sem] theorem ok5:qn7 prog 5=true:=by kernel_rfl
attribute [go_sem] underlying6 underlying7 underlying8 underlying9
@[go_sem] theorem cellsOf9:prog.cellsOf 9=1:=by kernel_rfl
@[go_sem] theorem isAgg9:qap prog 9=some false:=by kernel_rfl
@[go_sem] theorem ok9:qn7 prog 9=true:=by kernel_rfl
@[go_sem] theorem bytes9:prog.bytesOf 9=16:=by kernel_rfl
@[go_sem] theorem zero9:qbf prog 9=some (.p (.str [])):=by kernel_rfl
@[go_sem] theorem zeroLen9:qca.zeroLen prog 9=1:=by kernel_rfl
@[go_sem] theorem eqI9 (d:Nat) (a b:List UInt8):eqT prog (d+1) 9 [.str a] [.str b]=some (a == b):=vm0 _ underlying9 d a b
attribute [go_sem] underlying10 underlying11 underlying12 underlying13 underlying14 underlying15 underlying16 underlying17 underlying18 underlying19 underlying20
@[go_sem] theorem isAgg20:qap prog 20=some false:=by kernel_rfl
attribute [go_sem] underlying21 underlying22
@[go_sem] theorem vul:prog.cellsOf 22=1:=by kernel_rfl
@[go_sem] theorem isAgg22:qap prog 22=some false:=by kernel_rfl
attribute [go_sem] underlying23 underlying24
@[go_sem] theorem vum:prog.cellsOf 24=3:=by kernel_rfl
@[go_sem] theorem isAgg24:qap prog 24=some true:=by kernel_rfl
@[go_sem] theorem vun:qar prog 24 0=some 0:=by kernel_rfl
@[go_sem] theorem vuo:qar prog 24 1=some 1:=by kernel_rfl
@[go_sem] theorem vup:qar prog 24 2=some 2:=by kernel_rfl
attribute [go_sem] underlying25 underlying26
@[go_sem] theorem vuq:prog.cellsOf 26=1:=by kernel_rfl
@[go_sem] theorem isAgg26:qap prog 26=some false:=by kernel_rfl
@[go_sem] theorem ok26:qn7 prog 26=true:=by kernel_rfl
attribute [go_sem] underlying27
@[go_sem] theorem vur:prog.cellsOf 27=1:=by kernel_rfl
@[go_sem] theorem isAgg27:qap prog 27=some false:=by kernel_rfl
attribute [go_sem] underlying28
@[go_sem] theorem vus:prog.cellsOf 28=1:=by kernel_rfl
@[go_sem] theorem isAgg28:qap prog 28=some false:=by kernel_rfl
attribute [go_sem] underlying29 underlying30
@[go_sem] theorem vut:prog.cellsOf 30=3:=by kernel_rfl
@[go_sem] theorem isAgg30:qap prog 30=some true:=by kernel_rfl
@[go_sem] theorem vuu:qbf prog 30=some (.agg [.p (.str []),.nils,.nils]):=by kernel_rfl
@[go_sem] theorem vuv:qar prog 30 0=some 0:=by kernel_rfl
@[go_sem] theorem vuw:qar prog 30 1=some 1:=by kernel_rfl
@[go_sem] theorem vux:qar prog 30 2=some 2:=by kernel_rfl
@[go_sem] theorem build30 (parts:List (Nat×AV)):qh0 prog 30 parts=(qk5 (fun j=>[(0,1),(1,1),(2,1)][j]?) [.p (.str []),.nils,.nils] parts).map qku :=
  qhd _ _ vuu rfl (by kernel_rfl) (by kernel_rfl) (by funext j;exact qfl _ _ (by kernel_rfl) j)
attribute [go_sem] underlying32 underlying33 underlying34
@[go_sem] theorem vuy:prog.cellsOf 34=1:=by kernel_rfl
@[go_sem] theorem isAgg34:qap prog 34=some false:=by kernel_rfl
@[go_sem] theorem ok34:qn7 prog 34=true:=by kernel_rfl
@[go_sem] theorem bytes34:prog.bytesOf 34=24:=by kernel_rfl
@[go_sem] theorem zero34:qbf prog 34=some (.nils):=by kernel_rfl
@[go_sem] theorem vuz:qca.zeroLen prog 34=1:=by kernel_rfl
attribute [go_sem] underlying35
@[go_sem] theorem vu0:prog.cellsOf 35=1:=by kernel_rfl
@[go_sem] theorem isAgg35:qap prog 35=some false:=by kernel_rfl
@[go_sem] theorem zero35:qbf prog 35=some (.nils):=by kernel_rfl
attribute [go_sem] underlying36 underlying37
@[go_sem] theorem vu1:prog.cellsOf 37=2:=by kernel_rfl
@[go_sem] theorem isAgg37:qap prog 37=some true:=by kernel_rfl
@[go_sem] theorem vu2:qbf prog 37=some (.agg [.nils,.nils]):=by kernel_rfl
@[go_sem] theorem vu3:qar prog 37 0=some 0:=by kernel_rfl
@[go_sem] theorem vu4:qar prog 37 1=some 1:=by kernel_rfl
@[go_sem] theorem build37 (parts:List (Nat×AV)):qh0 prog 37 parts=(qk5 (fun j=>[(0,1),(1,1)][j]?) [.nils,.nils] parts).map qku :=
  qhd _ _ vu2 rfl (by kernel_rfl) (by kernel_rfl) (by funext j;exact qfl _ _ (by kernel_rfl) j)
attribute [go_sem] underlying38 underlying40 underlying41 underlying42 underlying43 underlying44 underlying46 underlying47 underlying48 underlying49
@[go_sem] theorem vu5:prog.cellsOf 49=2:=by kernel_rfl
@[go_sem] theorem isAgg49:qap prog 49=some true:=by kernel_rfl
@[go_sem] theorem ok49:qn7 prog 49=true:=by kernel_rfl
@[go_sem] theorem bytes49:prog.bytesOf 49=16:=by kernel_rfl
@[go_sem] theorem vu6:qbf prog 49=some (.p (.agg [(.int .i64 0),(.int .i64 0)])):=by kernel_rfl
@[go_sem] theorem vu7:qca.zeroLen prog 49=2:=by kernel_rfl
@[go_sem] theorem build49 (parts:List (Nat×AV)):qh0 prog 49 parts=(qk5 (fun i=>some (i * 1,1)) [.p (.int .i64 0),.p (.int .i64 0)] parts).map qku :=
  qz7 _ _ vu6 rfl underlying49 (by kernel_rfl) (by kernel_rfl)
attribute [go_sem] underlying50 underlying52 underlying53 underlying54 underlying55 underlying57 underlying59 underlying60 underlying61 underlying62
@[go_sem] theorem vu8:prog.cellsOf 62=1:=by kernel_rfl
@[go_sem] theorem isAgg62:qap prog 62=some false:=by kernel_rfl
attribute [go_sem] underlying63 underlying64 underlying65
@[go_sem] theorem vu9:prog.cellsOf 65=2:=by kernel_rfl
@[go_sem] theorem isAgg65:qap prog 65=some true:=by kernel_rfl
@[go_sem] theorem ok65:qn7 prog 65=true:=by kernel_rfl
@[go_sem] theorem bytes65:prog.bytesOf 65=32:=by kernel_rfl
@[go_sem] theorem vva:qbf prog 65=some (.agg [.p (.int .i64 0),.nils]):=by kernel_rfl
@[go_sem] theorem vvb:qca.zeroLen prog 65=2:=by kernel_rfl
@[go_sem] theorem vvc:qar prog 65 0=some 0:=by kernel_rfl
@[go_sem] theorem vvd:qar prog 65 1=some 1:=by kernel_rfl
@[go_sem] theorem build65 (parts:List (Nat×AV)):qh0 prog 65 parts=(qk5 (fun j=>[(0,1),(1,1)][j]?) [.p (.int .i64 0),.nils] parts).map qku :=
  qhd _ _ vva rfl (by kernel_rfl) (by kernel_rfl) (by funext j;exact qfl _ _ (by kernel_rfl) j)
attribute [go_sem] underlying66
@[go_sem] theorem isAgg66:qap prog 66=some false:=by kernel_rfl
attribute [go_sem] underlying67
@[go_sem] theorem vve:prog.cellsOf 67=1:=by kernel_rfl
@[go_sem] theorem isAgg67:qap prog 67=some false:=by kernel_rfl
attribute [go_sem] underlying68 underlying69
@[go_sem] theorem vvf:prog.cellsOf 69=2:=by kernel_rfl
@[go_sem] theorem isAgg69:qap prog 69=some true:=by kernel_rfl
@[go_sem] theorem ok69:qn7 prog 69=true:=by kernel_rfl
@[go_sem] theorem bytes69:prog.bytesOf 69=8:=by kernel_rfl
@[go_sem] theorem vvg:qbf prog 69=some (.p (.agg [(.int .u32 0),(.int .u32 0)])):=by kernel_rfl
@[go_sem] theorem vvh:qca.zeroLen prog 69=2:=by kernel_rfl
@[go_sem] theorem vvi:qar prog 69 0=some 0:=by kernel_rfl
@[go_sem] theorem vvj:qar prog 69 1=some 1:=by kernel_rfl
@[go_sem] theorem build69 (parts:List (Nat×AV)):qh0 prog 69 parts=(qk5 (fun j=>[(0,1),(1,1)][j]?) [.p (.int .u32 0),.p (.int .u32 0)] parts).map qku :=
  qhd _ _ vvg rfl (by kernel_rfl) (by kernel_rfl) (by funext j;exact qfl _ _ (by kernel_rfl) j)
attribute [go_sem] underlying70 underlying71 underlying72 underlying74 underlying75 underlying76 underlying77 underlying78 underlying80 underlying81 underlying82
@[go_sem] theorem vvk:prog.cellsOf 82=1:=by kernel_rfl
@[go_sem] theorem isAgg82:qap prog 82=some false:=by kernel_rfl
@[go_sem] theorem ok82:qn7 prog 82=true:=by kernel_rfl
@[go_sem] theorem bytes82:prog.bytesOf 82=24:=by kernel_rfl
@[go_sem] theorem zero82:qbf prog 82=some (.nils):=by kernel_rfl
@[go_sem] theorem vvl:qca.zeroLen prog 82=1:=by kernel_rfl
attribute [go_sem] underlying83 underlying84 underlying85
@[go_sem] theorem vvm:prog.cellsOf 85=1:=by kernel_rfl
@[go_sem] theorem isAgg85:qap prog 85=some false:=by kernel_rfl
attribute [go_sem] underlying86 underlying87
@[go_sem] theorem vvn:prog.cellsOf 87=3:=by kernel_rfl
@[go_sem] theorem isAgg87:qap prog 87=some true:=by kernel_rfl
@[go_sem] theorem vvo:qar prog 87 0=some 0:=by kernel_rfl
@[go_sem] theorem vvp:qar prog 87 1=some 1:=by kernel_rfl
@[go_sem] theorem vvq:qar prog 87 2=some 2:=by kernel_rfl
attribute [go_sem] underlying88 underlying89
@[go_sem] theorem vvr:prog.cellsOf 89=2:=by kernel_rfl
@[go_sem] theorem isAgg89:qap prog 89=some true:=by kernel_rfl
@[go_sem] theorem vvs:qar prog 89 0=some 0:=by kernel_rfl
@[go_sem] theorem vvt:qar prog 89 1=some 1:=by kernel_rfl
attribute [go_sem] underlying90
@[go_sem] theorem vvu:prog.cellsOf 90=1:=by kernel_rfl
@[go_sem] theorem isAgg90:qap prog 90=some false:=by kernel_rfl
attribute [go_sem] underlying91 underlying92
@[go_sem] theorem vvv:prog.cellsOf 92=2:=by kernel_rfl
@[go_sem] theorem isAgg92:qap prog 92=some true:=by kernel_rfl
@[go_sem] theorem ok92:qn7 prog 92=true:=by kernel_rfl
@[go_sem] theorem bytes92:prog.bytesOf 92=32:=by kernel_rfl
@[go_sem] theorem vvw:qbf prog 92=some (.agg [.p (.int .i64 0),.nils]):=by kernel_rfl
@[go_sem] theorem vvx:qca.zeroLen prog 92=2:=by kernel_rfl
@[go_sem] theorem vvy:qar prog 92 0=some 0:=by kernel_rfl
@[go_sem] theorem vvz:qar prog 92 1=some 1:=by kernel_rfl
@[go_sem] theorem build92 (parts:List (Nat×AV)):qh0 prog 92 parts=(qk5 (fun j=>[(0,1),(1,1)][j]?) [.p (.int .i64 0),.nils] parts).map qku :=
  qhd _ _ vvw rfl (by kernel_rfl) (by kernel_rfl) (by funext j;exact qfl _ _ (by kernel_rfl) j)
attribute [go_sem] underlying93 underlying94
@[go_sem] theorem vv0:prog.cellsOf 94=18:=by kernel_rfl
@[go_sem] theorem isAgg94:qap prog 94=some true:=by kernel_rfl
@[go_sem] theorem ok94:qn7 prog 94=true:=by kernel_rfl
@[go_sem] theorem bytes94:prog.bytesOf 94=272:=by kernel_rfl
@[go_sem] theorem vv1:qbf prog 94=some (.agg [.p (.str []),.p (.str []),.p (.int .i64 0),.p (.int .u32 0),.p (.int .u32 0),.p (.int .u32 0),.p (.int .u32 0),.p (.str []),.nils,.p (.str []),.nils,.nils,.p (.int .i64 0),.nils,.nils,.nils,.p (.int .i64 0),.nils]):=by kernel_rfl
@[go_sem] theorem vv2:qca.zeroLen prog 94=18:=by kernel_rfl
@[go_sem] theorem vv3:qar prog 94 1=some 1:=by kernel_rfl
@[go_sem] theorem vv4:qar prog 94 2=some 2:=by kernel_rfl
@[go_sem] theorem vv5:qar prog 94 3=some 3:=by kernel_rfl
@[go_sem] theorem vv6:qar prog 94 6=some 11:=by kernel_rfl
@[go_sem] theorem vv7:qar prog 94 7=some 14:=by kernel_rfl
@[go_sem] theorem vv8:qar prog 94 8=some 16:=by kernel_rfl
@[go_sem] theorem build94 (parts:List (Nat×AV)):qh0 prog 94 parts=(qk5 (fun j=>[(0,1),(1,1),(2,1),(3,2),(5,2),(7,4),(11,3),(14,2),(16,2)][j]?) [.p (.str []),.p (.str []),.p (.int .i64 0),.p (.int .u32 0),.p (.int .u32 0),.p (.int .u32 0),.p (.int .u32 0),.p (.str []),.nils,.p (.str []),.nils,.nils,.p (.int .i64 0),.nils,.nils,.nils,.p (.int .i64 0),.nils] parts).map qku :=
  qhd _ _ vv1 rfl (by kernel_rfl) (by kernel_rfl) (by funext j;exact qfl _ _ (by kernel_rfl) j)
attribute [go_sem] underlying96 underlying97 underlying98 underlying100 underlying101 underlying102 underlying103 underlying104 underlying105
@[go_sem] theorem vq6:prog.cellsOf 105=2:=by kernel_rfl
@[go_sem] theorem ok105:qn7 prog 105=true:=by kernel_rfl
@[go_sem] theorem vq7:qar prog 105 0=some 0:=by kernel_rfl
@[go_sem] theorem vq8:qar prog 105 1=some 1:=by kernel_rfl
attribute [go_sem] underlying106 underlying107
@[go_sem] theorem vq9:prog.cellsOf 107=1:=by kernel_rfl
@[go_sem] theorem isAgg107:qap prog 107=some false:=by kernel_rfl
@[go_sem] theorem zero107:qbf prog 107=some (.nils):=by kernel_rfl
attribute [go_sem] underlying109 underlying110
@[go_sem] theorem vra:prog.cellsOf 110=1:=by kernel_rfl
@[go_sem] theorem isAgg110:qap prog 110=some false:=by kernel_rfl
@[go_sem] theorem ok110:qn7 prog 110=true:=by kernel_rfl
@[go_sem] theorem bytes110:prog.bytesOf 110=8:=by kernel_rfl
@[go_sem] theorem zero110:qbf prog 110=some (.p (.int .u64 0)):=by kernel_rfl
@[go_sem] theorem vrb:qca.zeroLen prog 110=1:=by kernel_rfl
attribute [go_sem] underlying111 underlying112
@[go_sem] theorem vrc:prog.cellsOf 112=1:=by kernel_rfl
@[go_sem] theorem isAgg112:qap prog 112=some false:=by kernel_rfl
@[go_sem] theorem zero112:qbf prog 112=some (.p .nilp):=by kernel_rfl
attribute [go_sem] underlying114 underlying115 underlying116 underlying118 underlying119 underlying120
@[go_sem] theorem vrd:prog.cellsOf 120=1:=by kernel_rfl
@[go_sem] theorem isAgg120:qap prog 120=some false:=by kernel_rfl
@[go_sem] theorem ok120:qn7 prog 120=true:=by kernel_rfl
@[go_sem] theorem bytes120:prog.bytesOf 120=2:=by kernel_rfl
@[go_sem] theorem zero120:qbf prog 120=some (.p (.int .u16 0)):=by kernel_rfl
attribute [go_sem] underlying121 underlying122 underlying123 underlying125 underlying126
@[go_sem] theorem vre:prog.cellsOf 126=1:=by kernel_rfl
@[go_sem] theorem isAgg126:qap prog 126=some false:=by kernel_rfl
attribute [go_sem] underlying127 underlying128
@[go_sem] theorem vpl:qbf prog 128=some (.agg [.nils,.nils,.p (.int .u16 0),.nils,.nils]):=by kernel_rfl
@[go_sem] theorem vrf:qar prog 128 0=some 0:=by kernel_rfl
@[go_sem] theorem vrg:qar prog 128 1=some 2:=by kernel_rfl
@[go_sem] theorem vrh:qar prog 128 2=some 3:=by kernel_rfl
@[go_sem] theorem vri:qar prog 128 3=some 4:=by kernel_rfl
@[go_sem] theorem build128 (parts:List (Nat×AV)):qh0 prog 128 parts=(qk5 (fun j=>[(0,2),(2,1),(3,1),(4,1)][j]?) [.nils,.nils,.p (.int .u16 0),.nils,.nils] parts).map qku :=
  qhd _ _ vpl rfl (by kernel_rfl) (by kernel_rfl) (by funext j;exact qfl _ _ (by kernel_rfl) j)
attribute [go_sem] underlying129 underlying130 underlying131 underlying133 underlying134 underlying135
@[go_sem] theorem vrj:prog.cellsOf 135=3:=by kernel_rfl
@[go_sem] theorem isAgg135:qap prog 135=some true:=by kernel_rfl
@[go_sem] theorem ok135:qn7 prog 135=true:=by kernel_rfl
@[go_sem] theorem bytes135:prog.bytesOf 135=32:=by kernel_rfl
@[go_sem] theorem vpm:qbf prog 135=some (.p (.agg [(.int .i64 0),(.int .i64 0),(.str [])])):=by kernel_rfl
@[go_sem] theorem vrk:qca.zeroLen prog 135=3:=by kernel_rfl
@[go_sem] theorem vrl:qar prog 135 0=some 0:=by kernel_rfl
@[go_sem] theorem vrm:qar prog 135 1=some 1:=by kernel_rfl
@[go_sem] theorem vrn:qar prog 135 2=some 2:=by kernel_rfl
@[go_sem] theorem build135 (parts:List (Nat×AV)):qh0 prog 135 parts=(qk5 (fun j=>[(0,1),(1,1),(2,1)][j]?) [.p (.int .i64 0),.p (.int .i64 0),.p (.str [])] parts).map qku :=
  qhd _ _ vpm rfl (by kernel_rfl) (by kernel_rfl) (by funext j;exact qfl _ _ (by kernel_rfl) j)
@[go_sem] theorem eqS135 (d:Nat) (xs ys:List PV):eqT prog (d+1) 135 xs ys=eqL (eqT prog d) [(3,0,1),(2,1,1),(9,2,1)] xs ys:=va3 _ (by kernel_rfl) (by kernel_rfl) (by kernel_rfl) (by kernel_rfl) d xs ys
@[go_sem] theorem eqg135:prog.eqGuardType prog.depth 135=false:=by kernel_rfl
attribute [go_sem] underlying136 underlying137
@[go_sem] theorem vro:prog.cellsOf 137=1:=by kernel_rfl
@[go_sem] theorem isAgg137:qap prog 137=some false:=by kernel_rfl
attribute [go_sem] underlying138 underlying139 underlying141 underlying143 underlying145 underlying146 underlying148 underlying149 underlying150 underlying151 underlying153 underlying154 underlying155 underlying156 underlying157 underlying158 underlying159 underlying161 underlying162 underlying163 underlying164 underlying165 underlying166 underlying167 underlying168 underlying169 underlying170 underlying171 underlying172
@[go_sem] theorem vrp:prog.cellsOf 172=1:=by kernel_rfl
@[go_sem] theorem isAgg172:qap prog 172=some false:=by kernel_rfl
@[go_sem] theorem zero172:qbf prog 172=some (.p (.mapv [] [])):=by kernel_rfl
attribute [go_sem] underlying173
@[go_sem] theorem vrq:prog.cellsOf 173=3:=by kernel_rfl
@[go_sem] theorem isAgg173:qap prog 173=some true:=by kernel_rfl
@[go_sem] theorem zero173:qbf prog 173=some (.p (.agg [(.int .i64 0),(.int .i64 0),(.int .i64 0)])):=by kernel_rfl
@[go_sem] theorem eqS173 (d:Nat) (xs ys:List PV):eqT prog (d+1) 173 xs ys=eqL (eqT prog d) [(2,0,1),(2,1,1),(2,2,1)] xs ys:=q3f _ underlying173 (by kernel_rfl) (by kernel_rfl) d xs ys
attribute [go_sem] underlying174 underlying175 underlying176 underlying177 underlying178
@[go_sem] theorem isAgg178:qap prog 178=some false:=by kernel_rfl
attribute [go_sem] underlying179 underlying180 underlying181
@[go_sem] theorem vrr:prog.cellsOf 181=1:=by kernel_rfl
@[go_sem] theorem isAgg181:qap prog 181=some false:=by kernel_rfl
attribute [go_sem] underlying182 underlying183
@[go_sem] theorem vrs:prog.cellsOf 183=3:=by kernel_rfl
@[go_sem] theorem isAgg183:qap prog 183=some true:=by kernel_rfl
@[go_sem] theorem vpn:qbf prog 183=some (.agg [.p (.int .i64 0),.nils,.p .nilf]):=by kernel_rfl
@[go_sem] theorem vrt:qar prog 183 0=some 0:=by kernel_rfl
@[go_sem] theorem vru:qar prog 183 1=some 1:=by kernel_rfl
@[go_sem] theorem vrv:qar prog 183 2=some 2:=by kernel_rfl
@[go_sem] theorem build183 (parts:List (Nat×AV)):qh0 prog 183 parts=(qk5 (fun j=>[(0,1),(1,1),(2,1)][j]?) [.p (.int .i64 0),.nils,.p .nilf] parts).map qku :=
  qhd _ _ vpn rfl (by kernel_rfl) (by kernel_rfl) (by funext j;exact qfl _ _ (by kernel_rfl) j)
attribute [go_sem] underlying184 underlying185 underlying186 underlying187 underlying188
@[go_sem] theorem isAgg188:qap prog 188=some false:=by kernel_rfl
attribute [go_sem] underlying189
@[go_sem] theorem vrw:prog.cellsOf 189=2:=by kernel_rfl
@[go_sem] theorem isAgg189:qap prog 189=some true:=by kernel_rfl
@[go_sem] theorem ok189:qn7 prog 189=true:=by kernel_rfl
@[go_sem] theorem bytes189:prog.bytesOf 189=16:=by kernel_rfl
@[go_sem] theorem vpo:qbf prog 189=some (.p (.agg [(.int .i64 0),(.int .i64 0)])):=by kernel_rfl
@[go_sem] theorem vrx:qca.zeroLen prog 189=2:=by kernel_rfl
@[go_sem] theorem build189 (parts:List (Nat×AV)):qh0 prog 189 parts=(qk5 (fun i=>some (i * 1,1)) [.p (.int .i64 0),.p (.int .i64 0)] parts).map qku :=
  qz7 _ _ vpo rfl underlying189 (by kernel_rfl) (by kernel_rfl)
@[go_sem] theorem eqS189 (d:Nat) (xs ys:List PV):eqT prog (d+1) 189 xs ys=eqL (eqT prog d) [(3,0,1),(3,1,1)] xs ys:=q3f _ underlying189 (by kernel_rfl) (by kernel_rfl) d xs ys
@[go_sem] theorem eqg189:prog.eqGuardType prog.depth 189=false:=by kernel_rfl
attribute [go_sem] underlying190 underlying191
@[go_sem] theorem isAgg191:qap prog 191=some false:=by kernel_rfl
attribute [go_sem] underlying193 underlying194 underlying195 underlying196 underlying197 underlying198 underlying199 underlying200 underlying202 underlying203 underlying205 underlying206 underlying207 underlying208 underlying209 underlying210 underlying211 underlying212 underlying213 underlying214 underlying215 underlying216 underlying217 underlying218 underlying219 underlying220 underlying221 underlying222 underlying223 underlying224 underlying225 underlying226 underlying227 underlying228 underlying229 underlying230 underlying231 underlying232 underlying234 underlying235 underlying236 underlying237
@[go_sem] theorem isAgg237:qap prog 237=some false:=by kernel_rfl
attribute [go_sem] underlying238 underlying239 underlying240 underlying241 underlying242 underlying243 underlying244 underlying245
@[go_sem] theorem vry:prog.cellsOf 245=5:=by kernel_rfl
@[go_sem] theorem isAgg245:qap prog 245=some true:=by kernel_rfl
@[go_sem] theorem vpp:qbf prog 245=some (.p (.agg [(.int .i64 0),(.int .i64 0),(.int .i64 0),(.int .i64 0),(.str [])])):=by kernel_rfl
@[go_sem] theorem vrz:qar prog 245 0=some 0:=by kernel_rfl
@[go_sem] theorem vr0:qar prog 245 1=some 1:=by kernel_rfl
@[go_sem] theorem vr1:qar prog 245 2=some 2:=by kernel_rfl
@[go_sem] theorem build245 (parts:List (Nat×AV)):qh0 prog 245 parts=(qk5 (fun j=>[(0,1),(1,1),(2,3)][j]?) [.p (.int .i64 0),.p (.int .i64 0),.p (.int .i64 0),.p (.int .i64 0),.p (.str [])] parts).map qku :=
  qhd _ _ vpp rfl (by kernel_rfl) (by kernel_rfl) (by funext j;exact qfl _ _ (by kernel_rfl) j)
attribute [go_sem] underlying246 underlying247
@[go_sem] theorem vr2:prog.cellsOf 247=11:=by kernel_rfl
@[go_sem] theorem isAgg247:qap prog 247=some true:=by kernel_rfl
@[go_sem] theorem ok247:qn7 prog 247=true:=by kernel_rfl
@[go_sem] theorem bytes247:prog.bytesOf 247=104:=by kernel_rfl
@[go_sem] theorem vpq:qbf prog 247=some (.p (.agg [(.int .i64 0),(.int .i64 0),(.int .i64 0),(.int .i64 0),(.str []),(.int .i64 0),(.int .i64 0),(.int .i64 0),(.int .i64 0),(.int .i64 0),(.str [])])):=by kernel_rfl
@[go_sem] theorem vr3:qca.zeroLen prog 247=11:=by kernel_rfl
@[go_sem] theorem vr4:qar prog 247 0=some 0:=by kernel_rfl
@[go_sem] theorem vr5:qar prog 247 1=some 5:=by kernel_rfl
@[go_sem] theorem vr6:qar prog 247 2=some 6:=by kernel_rfl
@[go_sem] theorem build247 (parts:List (Nat×AV)):qh0 prog 247 parts=(qk5 (fun j=>[(0,5),(5,1),(6,5)][j]?) [.p (.int .i64 0),.p (.int .i64 0),.p (.int .i64 0),.p (.int .i64 0),.p (.str []),.p (.int .i64 0),.p (.int .i64 0),.p (.int .i64 0),.p (.int .i64 0),.p (.int .i64 0),.p (.str [])] parts).map qku :=
  qhd _ _ vpq rfl (by kernel_rfl) (by kernel_rfl) (by funext j;exact qfl _ _ (by kernel_rfl) j)
attribute [go_sem] underlying248 underlying249 underlying250 underlying251 underlying252 underlying253 underlying254
@[go_sem] theorem vr7:prog.cellsOf 254=4:=by kernel_rfl
@[go_sem] theorem isAgg254:qap prog 254=some true:=by kernel_rfl
@[go_sem] theorem ok254:qn7 prog 254=true:=by kernel_rfl
@[go_sem] theorem zero254:qbf prog 254=some (.p (.agg [(.bool false),(.int .i64 0),(.int .i64 0),(.str [])])):=by kernel_rfl
@[go_sem] theorem vr8:qar prog 254 0=some 0:=by kernel_rfl
@[go_sem] theorem vr9:qar prog 254 1=some 1:=by kernel_rfl
attribute [go_sem] underlying255 underlying256 underlying257 underlying258 underlying259 underlying260 underlying261 underlying262 underlying263 underlying264 underlying265 underlying266 underlying267 underlying268 underlying269 underlying270 underlying271 underlying272 underlying273 underlying275 underlying276 underlying277 underlying278 underlying279 underlying280 underlying281 underlying282 underlying283 underlying284 underlying285 underlying286 underlying287 underlying288 underlying289 underlying290 underlying292 underlying293 underlying294 underlying295 underlying296 underlying297 underlying298 underlying299 underlying300 underlying301 underlying302 underlying303 underlying304
@[go_sem] theorem isAgg304:qap prog 304=some false:=by kernel_rfl
attribute [go_sem] underlying306 underlying307 underlying308 underlying309 underlying310 underlying311 underlying312 underlying313 underlying314 underlying315 underlying316 underlying317 underlying318 underlying319 underlying320 underlying321 underlying322 underlying323 underlying324 underlying325 underlying326 underlying327 underlying328 underlying329 underlying330 underlying331 underlying332 underlying333 underlying334 underlying335 underlying336 underlying337 underlying338
@[go_sem] theorem vsa:prog.cellsOf 338=1:=by kernel_rfl
@[go_sem] theorem isAgg338:qap prog 338=some false:=by kernel_rfl
attribute [go_sem] underlying339 underlying340
@[go_sem] theorem vpr:qbf prog 340=some (.agg [.nils,.nils,.nils,.nils,.nils,.p (.int .i64 0),.nils]):=by kernel_rfl
@[go_sem] theorem vsb:qar prog 340 0=some 0:=by kernel_rfl
@[go_sem] theorem vsc:qar prog 340 1=some 1:=by kernel_rfl
@[go_sem] theorem vsd:qar prog 340 2=some 2:=by kernel_rfl
@[go_sem] theorem vse:qar prog 340 3=some 3:=by kernel_rfl
@[go_sem] theorem vsf:qar prog 340 4=some 4:=by kernel_rfl
@[go_sem] theorem vsg:qar prog 340 5=some 5:=by kernel_rfl
@[go_sem] theorem vsh:qar prog 340 6=some 6:=by kernel_rfl
@[go_sem] theorem build340 (parts:List (Nat×AV)):qh0 prog 340 parts=(qk5 (fun j=>[(0,1),(1,1),(2,1),(3,1),(4,1),(5,1),(6,1)][j]?) [.nils,.nils,.nils,.nils,.nils,.p (.int .i64 0),.nils] parts).map qku :=
  qhd _ _ vpr rfl (by kernel_rfl) (by kernel_rfl) (by funext j;exact qfl _ _ (by kernel_rfl) j)
attribute [go_sem] underlying341 underlying342 underlying343 underlying344 underlying345 underlying346 underlying347 underlying348 underlying349 underlying350 underlying351 underlying352 underlying353 underlying354 underlying355 underlying356 underlying357 underlying358 underlying359 underlying360 underlying361
@[go_sem] theorem isAgg361:qap prog 361=some false:=by kernel_rfl
attribute [go_sem] underlying362 underlying363 underlying364 underlying365
@[go_sem] theorem isAgg365:qap prog 365=some false:=by kernel_rfl
attribute [go_sem] underlying366 underlying367 underlying368 underlying369 underlying370 underlying371 underlying372 underlying373 underlying374 underlying375 underlying376 underlying377 underlying378 underlying379
@[go_sem] theorem isAgg379:qap prog 379=some false:=by kernel_rfl
attribute [go_sem] underlying380 underlying381 underlying382 underlying383 underlying384 underlying385 underlying386 underlying387 underlying388 underlying389 underlying390 underlying391 underlying392
@[go_sem] theorem isAgg392:qap prog 392=some false:=by kernel_rfl
attribute [go_sem] underlying394 underlying395 underlying396 underlying397 underlying398 underlying399 underlying401 underlying402 underlying403 underlying404 underlying405 underlying406 underlying407 underlying408 underlying409 underlying410 underlying412 underlying414 underlying415 underlying416 underlying417 underlying418 underlying419 underlying420 underlying421 underlying422 underlying423 underlying424 underlying425 underlying426 underlying427 underlying428 underlying429 underlying430 underlying431 underlying432
end Go.Proofs.YtpealiejioeonaaGreatDoor.Ty
