/- Each function of the program computes what its Lean function says, where that has a value. -/
import Derived.Shelf.Small.Strs
import Derived.Shelf.SlSortCmp.NoneTotal
import Derived.Ground.SlsfProg
import Derived.Shelf.SortM.Plain
import Derived.Shelf.SortM.SortNone
import Derived.Ground.SlgmProg
import Derived.Ground.SlgnProg
import Derived.Shelf.Spec.SlicesGrow
import Derived.Ground.Names8Prog
import Derived.Test.YtfnmcjkkfnhpnaaGreatDoorT1
import Derived.Test.YtfnmcjkkfnhpnaaGreatDoorL1
import Derived.Test.YtfnmcjkkfnhpnaaGreatDoorA3
import Derived.Test.YtfnmcjkkfnhpnaaGreatDoorL2
import Derived.Test.YtfnmcjkkfnhpnaaGreatDoorA2
set_option linter.unusedVariables false
set_option linter.unusedSimpArgs false
set_option maxHeartbeats 4000000
set_option maxRecDepth 20000
open And renaming intro→vv5
open Bool renaming eq_false_iff→vsd
open Int renaming eq_ofNat_of_zero_le→vuk,tmod→vua
open Go.IntKind renaming i64→vsg
open Go.Lib renaming compareBytes→vuq
open List renaming map→vs3
open Nat renaming eq_of_beq_eq_true→vv6,le_refl→vrj
open Option renaming bind_some→vrv,isSome_some→vv7
open Option.some renaming inj→vtu,injEq→vr1
open Go.Ab.PV renaming int→vv8,str→vv9
namespace Go.Proofs.YtfnmcjkkfnhpnaaGreatDoor
open Go Go.Ab Tryz
theorem mixed:Tryz.prog.follows .mixedOrders=true:=by kernel_rfl
@[reducible] noncomputable def cX (f:Func) (X:Nat→Prop) (w:World) (D:Prop) (hT:TabOk Tryz.prog (fun b=>X b∨F (fun _=>none) (qcq []) b) w):Cx:=⟨Tryz.prog,f.ntmps,0,X,[],fun _=>none,w,D,hT⟩
theorem zd {N B:Nat} {X:Nat→Prop} {H0:List (Nat×AO)} {inj0:Inj} {w0:World} {D:Prop} {tb:TabOk Tryz.prog (fun b=>X b∨F inj0 (qcq H0) b) w0} {Q:Exit→St→Prop} {st:St} {id:Nat} {l:List Oper} (h:DGo ⟨Tryz.prog,N,B,X,H0,inj0,w0,D,tb⟩ l.toArray l st [] (DK ⟨Tryz.prog,N,B,X,H0,inj0,w0,D,tb⟩ l.toArray Q)) (hs:qgm l.toArray=true:=by kernel_rfl):AWp ⟨Tryz.prog,N,B,X,H0,inj0,w0,D,tb⟩ (.region id l.toArray true) Q st:=qvb mixed hs h
theorem zdl (n:Nat) {N B:Nat} {X:Nat→Prop} {H0:List (Nat×AO)} {inj0:Inj} {w0:World} {D:Prop} {tb:TabOk Tryz.prog (fun b=>X b∨F inj0 (qcq H0) b) w0} {Q:Exit→St→Prop} {st:St} {id:Nat} {l:List Oper} (h:DGo ⟨Tryz.prog,N,B,X,H0,inj0,w0,D,tb⟩ l.toArray (l.take n) st [] (DKL ⟨Tryz.prog,N,B,X,H0,inj0,w0,D,tb⟩ l.toArray (l.drop n) Q)) (hs:qgm l.toArray=true:=by kernel_rfl) (hl:q3m l.toArray n=true:=by kernel_rfl):AWp ⟨Tryz.prog,N,B,X,H0,inj0,w0,D,tb⟩ (.region id l.toArray true) Q st:=qvd n mixed hs hl h
def qaz (x:Value):PV:=.agg [.int .i64 x.Kind,.int .i64 x.Num,.str x.Str]
@[go_sem] theorem vd4 (x:Value):PV.agg [.int .i64 x.Kind,.int .i64 x.Num,.str x.Str]=qaz x:=rfl
@[go_sem] theorem va3 (x:Value):(qaz x).cells=[.int .i64 x.Kind,.int .i64 x.Num,.str x.Str]:=rfl
@[go_sem] theorem va4 (x:Value):(qaz x).isAgg=true:=rfl
@[go_sem] theorem va5 (x:Value):(qaz x).isTup=false:=rfl
@[go_sem] theorem vd5:qaz (Value.mk 0 0 [])=.agg [.int .i64 0,.int .i64 0,.str []]:=rfl
@[go_sem] theorem vd6 (x:Value):(qaz x).flat=true:=rfl
def qao (x:Drossref03_Recipe):PV:=.agg [.int .u8 x.Attrs,.int .u8 x.Gap,.slc (vs3 (qbh (vv8 .u8)) x.Rows)]
@[go_sem] theorem qvo (x:Drossref03_Recipe):PV.agg [.int .u8 x.Attrs,.int .u8 x.Gap,.slc (vs3 (qbh (vv8 .u8)) x.Rows)]=qao x:=rfl
@[go_sem] theorem qkm (x:Drossref03_Recipe):(qao x).cells=[.int .u8 x.Attrs,.int .u8 x.Gap,.slc (vs3 (qbh (vv8 .u8)) x.Rows)]:=rfl
@[go_sem] theorem qux (x:Drossref03_Recipe):(qao x).isAgg=true:=rfl
@[go_sem] theorem quy (x:Drossref03_Recipe):(qao x).isTup=false:=rfl
@[simp] theorem qyf (a_Attrs:Int) (a_Gap:Int) (a_Rows:List (List Int)):qao ⟨a_Attrs,a_Gap,a_Rows⟩=.agg [.int .u8 a_Attrs,.int .u8 a_Gap,.slc (vs3 (qbh (vv8 .u8)) a_Rows)]:=rfl
def qai (x:Row):PV:=.agg [.int .i64 x.ID,.slc (vs3 qaz x.Values)]
@[go_sem] theorem vja (x:Row):PV.agg [.int .i64 x.ID,.slc (vs3 qaz x.Values)]=qai x:=rfl
@[go_sem] theorem vfi (x:Row):(qai x).cells=[.int .i64 x.ID,.slc (vs3 qaz x.Values)]:=rfl
@[go_sem] theorem vfj (x:Row):(qai x).isAgg=true:=rfl
@[go_sem] theorem vfk (x:Row):(qai x).isTup=false:=rfl
@[go_sem] theorem vo7 (l:List Row):((l.map qai).all fun y=>y.cells.length == 2)=true:=by simp [qai,PV.cells]
@[go_sem] theorem vo8 (l:List Row):((l.map qai).map AV.p).all (qd0 2)=true:=qh0 _ _ _ fun _=>⟨rfl,rfl⟩
@[simp] theorem vo9 (a_ID:Int) (a_Values:List Value):qai ⟨a_ID,a_Values⟩=.agg [.int .i64 a_ID,.slc (vs3 qaz a_Values)]:=rfl
def qab (x:Table):PV:=.agg [.str x.Name,.slc (vs3 vv9 x.Attrs),.slc (vs3 qai x.Rows)]
@[go_sem] theorem vd7 (x:Table):PV.agg [.str x.Name,.slc (vs3 vv9 x.Attrs),.slc (vs3 qai x.Rows)]=qab x:=rfl
@[go_sem] theorem va6 (x:Table):(qab x).cells=[.str x.Name,.slc (vs3 vv9 x.Attrs),.slc (vs3 qai x.Rows)]:=rfl
@[go_sem] theorem va7 (x:Table):(qab x).isAgg=true:=rfl
@[go_sem] theorem va8 (x:Table):(qab x).isTup=false:=rfl
@[simp] theorem vjb (a_Name:List UInt8) (a_Attrs:List (List UInt8)) (a_Rows:List Row):qab ⟨a_Name,a_Attrs,a_Rows⟩=.agg [.str a_Name,.slc (vs3 vv9 a_Attrs),.slc (vs3 qai a_Rows)]:=rfl
def qaw (x:Drossref16_Draft):PV:=.agg [.int .u8 x.Lhs,.int .u8 x.Rhs,.slc (vs3 (vv8 .u8) x.Codes)]
@[go_sem] theorem qwu (x:Drossref16_Draft):PV.agg [.int .u8 x.Lhs,.int .u8 x.Rhs,.slc (vs3 (vv8 .u8) x.Codes)]=qaw x:=rfl
@[go_sem] theorem qlc (x:Drossref16_Draft):(qaw x).cells=[.int .u8 x.Lhs,.int .u8 x.Rhs,.slc (vs3 (vv8 .u8) x.Codes)]:=rfl
@[go_sem] theorem qvp (x:Drossref16_Draft):(qaw x).isAgg=true:=rfl
@[go_sem] theorem qvq (x:Drossref16_Draft):(qaw x).isTup=false:=rfl
@[simp] theorem qyp (a_Lhs:Int) (a_Rhs:Int) (a_Codes:List Int):qaw ⟨a_Lhs,a_Rhs,a_Codes⟩=.agg [.int .u8 a_Lhs,.int .u8 a_Rhs,.slc (vs3 (vv8 .u8) a_Codes)]:=rfl
def qdw (x:Cell):PV:=.agg [.bool x.Any,.int .i64 x.Value.Kind,.int .i64 x.Value.Num,.str x.Value.Str]
@[go_sem] theorem vfl (x:Cell):PV.agg [.bool x.Any,.int .i64 x.Value.Kind,.int .i64 x.Value.Num,.str x.Value.Str]=qdw x:=rfl
@[go_sem] theorem vd8 (x:Cell):(qdw x).cells=[.bool x.Any,.int .i64 x.Value.Kind,.int .i64 x.Value.Num,.str x.Value.Str]:=rfl
@[go_sem] theorem vd9 (x:Cell):(qdw x).isAgg=true:=rfl
@[go_sem] theorem vea (x:Cell):(qdw x).isTup=false:=rfl
@[go_sem] theorem vfm:qdw (Cell.mk false (Value.mk 0 0 []))=.agg [.bool false,.int .i64 0,.int .i64 0,.str []]:=rfl
@[go_sem] theorem vfn (x:Cell):(qdw x).flat=true:=rfl
def qgk (x:CFD):PV:=.agg [.slc (vs3 (vv8 .i64) x.Lhs),.int .i64 x.Rhs,.slc (vs3 qdw x.Pattern)]
@[go_sem] theorem vjc (x:CFD):PV.agg [.slc (vs3 (vv8 .i64) x.Lhs),.int .i64 x.Rhs,.slc (vs3 qdw x.Pattern)]=qgk x:=rfl
@[go_sem] theorem vfo (x:CFD):(qgk x).cells=[.slc (vs3 (vv8 .i64) x.Lhs),.int .i64 x.Rhs,.slc (vs3 qdw x.Pattern)]:=rfl
@[go_sem] theorem vfp (x:CFD):(qgk x).isAgg=true:=rfl
@[go_sem] theorem vfq (x:CFD):(qgk x).isTup=false:=rfl
@[simp] theorem vpa (a_Lhs:List Int) (a_Rhs:Int) (a_Pattern:List Cell):qgk ⟨a_Lhs,a_Rhs,a_Pattern⟩=.agg [.slc (vs3 (vv8 .i64) a_Lhs),.int .i64 a_Rhs,.slc (vs3 qdw a_Pattern)]:=rfl
def qcl (x:Drossref17_Lists):PV:=.agg [.slc (vs3 (vv8 .u8) x.X),.slc (vs3 (vv8 .u8) x.Y)]
@[go_sem] theorem qwv (x:Drossref17_Lists):PV.agg [.slc (vs3 (vv8 .u8) x.X),.slc (vs3 (vv8 .u8) x.Y)]=qcl x:=rfl
@[go_sem] theorem qld (x:Drossref17_Lists):(qcl x).cells=[.slc (vs3 (vv8 .u8) x.X),.slc (vs3 (vv8 .u8) x.Y)]:=rfl
@[go_sem] theorem qvr (x:Drossref17_Lists):(qcl x).isAgg=true:=rfl
@[go_sem] theorem qvs (x:Drossref17_Lists):(qcl x).isTup=false:=rfl
@[simp] theorem qyq (a_X:List Int) (a_Y:List Int):qcl ⟨a_X,a_Y⟩=.agg [.slc (vs3 (vv8 .u8) a_X),.slc (vs3 (vv8 .u8) a_Y)]:=rfl
def qrj (x:OD):PV:=.agg [.slc (vs3 (vv8 .i64) x.Lhs),.slc (vs3 (vv8 .i64) x.Rhs)]
@[go_sem] theorem vk8 (x:OD):PV.agg [.slc (vs3 (vv8 .i64) x.Lhs),.slc (vs3 (vv8 .i64) x.Rhs)]=qrj x:=rfl
@[go_sem] theorem vjd (x:OD):(qrj x).cells=[.slc (vs3 (vv8 .i64) x.Lhs),.slc (vs3 (vv8 .i64) x.Rhs)]:=rfl
@[go_sem] theorem vje (x:OD):(qrj x).isAgg=true:=rfl
@[go_sem] theorem vjf (x:OD):(qrj x).isTup=false:=rfl
@[simp] theorem encOD_mk (a_Lhs:List Int) (a_Rhs:List Int):qrj ⟨a_Lhs,a_Rhs⟩=.agg [.slc (vs3 (vv8 .i64) a_Lhs),.slc (vs3 (vv8 .i64) a_Rhs)]:=rfl
def qbp (x:Drossref18_Side):PV:=.agg [.int .u8 x.Var,.int .u8 x.Code]
@[go_sem] theorem qyg (x:Drossref18_Side):PV.agg [.int .u8 x.Var,.int .u8 x.Code]=qbp x:=rfl
@[go_sem] theorem ql0 (x:Drossref18_Side):(qbp x).cells=[.int .u8 x.Var,.int .u8 x.Code]:=rfl
@[go_sem] theorem qww (x:Drossref18_Side):(qbp x).isAgg=true:=rfl
@[go_sem] theorem qwx (x:Drossref18_Side):(qbp x).isTup=false:=rfl
@[go_sem] theorem qyh:qbp (Drossref18_Side.mk 0 0)=.agg [.int .u8 0,.int .u8 0]:=rfl
@[go_sem] theorem qyi (x:Drossref18_Side):(qbp x).flat=true:=rfl
def qle (x:Term):PV:=.agg [.int .i64 x.Var,.int .i64 x.Attr,.int .i64 x.Value.Kind,.int .i64 x.Value.Num,.str x.Value.Str]
@[go_sem] theorem vfr (x:Term):PV.agg [.int .i64 x.Var,.int .i64 x.Attr,.int .i64 x.Value.Kind,.int .i64 x.Value.Num,.str x.Value.Str]=qle x:=rfl
@[go_sem] theorem veb (x:Term):(qle x).cells=[.int .i64 x.Var,.int .i64 x.Attr,.int .i64 x.Value.Kind,.int .i64 x.Value.Num,.str x.Value.Str]:=rfl
@[go_sem] theorem vec (x:Term):(qle x).isAgg=true:=rfl
@[go_sem] theorem ved (x:Term):(qle x).isTup=false:=rfl
@[go_sem] theorem vfs:qle (Term.mk 0 0 (Value.mk 0 0 []))=.agg [.int .i64 0,.int .i64 0,.int .i64 0,.int .i64 0,.str []]:=rfl
@[go_sem] theorem vft (x:Term):(qle x).flat=true:=rfl
def qag (x:Drossref18_Sentence):PV:=.agg [.int .u8 x.Left.Var,.int .u8 x.Left.Code,.int .u8 x.Op,.int .u8 x.Right.Var,.int .u8 x.Right.Code]
@[go_sem] theorem qut (x:Drossref18_Sentence):PV.agg [.int .u8 x.Left.Var,.int .u8 x.Left.Code,.int .u8 x.Op,.int .u8 x.Right.Var,.int .u8 x.Right.Code]=qag x:=rfl
@[go_sem] theorem qjo (x:Drossref18_Sentence):(qag x).cells=[.int .u8 x.Left.Var,.int .u8 x.Left.Code,.int .u8 x.Op,.int .u8 x.Right.Var,.int .u8 x.Right.Code]:=rfl
@[go_sem] theorem qsn (x:Drossref18_Sentence):(qag x).isAgg=true:=rfl
@[go_sem] theorem qso (x:Drossref18_Sentence):(qag x).isTup=false:=rfl
@[go_sem] theorem quu:qag (Drossref18_Sentence.mk (Drossref18_Side.mk 0 0) 0 (Drossref18_Side.mk 0 0))=.agg [.int .u8 0,.int .u8 0,.int .u8 0,.int .u8 0,.int .u8 0]:=rfl
@[go_sem] theorem quv (x:Drossref18_Sentence):(qag x).flat=true:=rfl
def qa8 (x:Drossref18_Recipe):PV:=.agg [.int .u8 x.Vars,.slc (vs3 qag x.Atoms)]
@[go_sem] theorem qvt (x:Drossref18_Recipe):PV.agg [.int .u8 x.Vars,.slc (vs3 qag x.Atoms)]=qa8 x:=rfl
@[go_sem] theorem qkn (x:Drossref18_Recipe):(qa8 x).cells=[.int .u8 x.Vars,.slc (vs3 qag x.Atoms)]:=rfl
@[go_sem] theorem quz (x:Drossref18_Recipe):(qa8 x).isAgg=true:=rfl
@[go_sem] theorem qu0 (x:Drossref18_Recipe):(qa8 x).isTup=false:=rfl
@[simp] theorem qyj (a_Vars:Int) (a_Atoms:List Drossref18_Sentence):qa8 ⟨a_Vars,a_Atoms⟩=.agg [.int .u8 a_Vars,.slc (vs3 qag a_Atoms)]:=rfl
def qcp (x:Atom):PV:=.agg [.int .i64 x.Left.Var,.int .i64 x.Left.Attr,.int .i64 x.Left.Value.Kind,.int .i64 x.Left.Value.Num,.str x.Left.Value.Str,.int .i64 x.Op,.int .i64 x.Right.Var,.int .i64 x.Right.Attr,.int .i64 x.Right.Value.Kind,.int .i64 x.Right.Value.Num,.str x.Right.Value.Str]
@[go_sem] theorem vfu (x:Atom):PV.agg [.int .i64 x.Left.Var,.int .i64 x.Left.Attr,.int .i64 x.Left.Value.Kind,.int .i64 x.Left.Value.Num,.str x.Left.Value.Str,.int .i64 x.Op,.int .i64 x.Right.Var,.int .i64 x.Right.Attr,.int .i64 x.Right.Value.Kind,.int .i64 x.Right.Value.Num,.str x.Right.Value.Str]=qcp x:=rfl
@[go_sem] theorem vee (x:Atom):(qcp x).cells=[.int .i64 x.Left.Var,.int .i64 x.Left.Attr,.int .i64 x.Left.Value.Kind,.int .i64 x.Left.Value.Num,.str x.Left.Value.Str,.int .i64 x.Op,.int .i64 x.Right.Var,.int .i64 x.Right.Attr,.int .i64 x.Right.Value.Kind,.int .i64 x.Right.Value.Num,.str x.Right.Value.Str]:=rfl
@[go_sem] theorem vef (x:Atom):(qcp x).isAgg=true:=rfl
@[go_sem] theorem veg (x:Atom):(qcp x).isTup=false:=rfl
@[go_sem] theorem vfv:qcp (Atom.mk (Term.mk 0 0 (Value.mk 0 0 [])) 0 (Term.mk 0 0 (Value.mk 0 0 [])))=.agg [.int .i64 0,.int .i64 0,.int .i64 0,.int .i64 0,.str [],.int .i64 0,.int .i64 0,.int .i64 0,.int .i64 0,.int .i64 0,.str []]:=rfl
@[go_sem] theorem vfw (x:Atom):(qcp x).flat=true:=rfl
def qac (x:Denial):PV:=.agg [.int .i64 x.Vars,.slc (vs3 qcp x.Atoms)]
@[go_sem] theorem va9 (x:Denial):PV.agg [.int .i64 x.Vars,.slc (vs3 qcp x.Atoms)]=qac x:=rfl
@[go_sem] theorem vaw (x:Denial):(qac x).cells=[.int .i64 x.Vars,.slc (vs3 qcp x.Atoms)]:=rfl
@[go_sem] theorem vax (x:Denial):(qac x).isAgg=true:=rfl
@[go_sem] theorem vay (x:Denial):(qac x).isTup=false:=rfl
@[simp] theorem vfx (a_Vars:Int) (a_Atoms:List Atom):qac ⟨a_Vars,a_Atoms⟩=.agg [.int .i64 a_Vars,.slc (vs3 qcp a_Atoms)]:=rfl
def qb2 (x:Drossref09_Dep):PV:=.agg [.int .u8 x.L,.int .u8 x.R]
@[go_sem] theorem qyr (x:Drossref09_Dep):PV.agg [.int .u8 x.L,.int .u8 x.R]=qb2 x:=rfl
@[go_sem] theorem qmh (x:Drossref09_Dep):(qb2 x).cells=[.int .u8 x.L,.int .u8 x.R]:=rfl
@[go_sem] theorem qyk (x:Drossref09_Dep):(qb2 x).isAgg=true:=rfl
@[go_sem] theorem qyl (x:Drossref09_Dep):(qb2 x).isTup=false:=rfl
@[go_sem] theorem qys:qb2 (Drossref09_Dep.mk 0 0)=.agg [.int .u8 0,.int .u8 0]:=rfl
@[go_sem] theorem qyt (x:Drossref09_Dep):(qb2 x).flat=true:=rfl
def qof (x:FD):PV:=.agg [.int .u32 x.Lhs,.int .u32 x.Rhs]
@[go_sem] theorem vk9 (x:FD):PV.agg [.int .u32 x.Lhs,.int .u32 x.Rhs]=qof x:=rfl
@[go_sem] theorem vjg (x:FD):(qof x).cells=[.int .u32 x.Lhs,.int .u32 x.Rhs]:=rfl
@[go_sem] theorem vjh (x:FD):(qof x).isAgg=true:=rfl
@[go_sem] theorem vji (x:FD):(qof x).isTup=false:=rfl
@[go_sem] theorem vla:qof (FD.mk 0 0)=.agg [.int .u32 0,.int .u32 0]:=rfl
@[go_sem] theorem vlb (x:FD):(qof x).flat=true:=rfl
def qan (x:Drossref37_Rule):PV:=.agg [.int .u8 x.Kind,.int .u8 x.F.L,.int .u8 x.F.R,.int .u8 x.C.Lhs,.int .u8 x.C.Rhs,.slc (vs3 (vv8 .u8) x.C.Codes),.slc (vs3 (vv8 .u8) x.O.X),.slc (vs3 (vv8 .u8) x.O.Y),.int .u8 x.N.Vars,.slc (vs3 qag x.N.Atoms)]
@[go_sem] theorem qym (x:Drossref37_Rule):PV.agg [.int .u8 x.Kind,.int .u8 x.F.L,.int .u8 x.F.R,.int .u8 x.C.Lhs,.int .u8 x.C.Rhs,.slc (vs3 (vv8 .u8) x.C.Codes),.slc (vs3 (vv8 .u8) x.O.X),.slc (vs3 (vv8 .u8) x.O.Y),.int .u8 x.N.Vars,.slc (vs3 qag x.N.Atoms)]=qan x:=rfl
@[go_sem] theorem ql1 (x:Drossref37_Rule):(qan x).cells=[.int .u8 x.Kind,.int .u8 x.F.L,.int .u8 x.F.R,.int .u8 x.C.Lhs,.int .u8 x.C.Rhs,.slc (vs3 (vv8 .u8) x.C.Codes),.slc (vs3 (vv8 .u8) x.O.X),.slc (vs3 (vv8 .u8) x.O.Y),.int .u8 x.N.Vars,.slc (vs3 qag x.N.Atoms)]:=rfl
@[go_sem] theorem qwy (x:Drossref37_Rule):(qan x).isAgg=true:=rfl
@[go_sem] theorem qwz (x:Drossref37_Rule):(qan x).isTup=false:=rfl
@[simp] theorem q01 (a_Kind:Int) (a_F:Drossref09_Dep) (a_C:Drossref16_Draft) (a_O:Drossref17_Lists) (a_N:Drossref18_Recipe):qan ⟨a_Kind,a_F,a_C,a_O,a_N⟩=.agg [.int .u8 a_Kind,.int .u8 a_F.L,.int .u8 a_F.R,.int .u8 a_C.Lhs,.int .u8 a_C.Rhs,.slc (vs3 (vv8 .u8) a_C.Codes),.slc (vs3 (vv8 .u8) a_O.X),.slc (vs3 (vv8 .u8) a_O.Y),.int .u8 a_N.Vars,.slc (vs3 qag a_N.Atoms)]:=rfl
def q02 (x:IND):PV:=.agg [.str x.From,.slc (vs3 (vv8 .i64) x.Lhs),.str x.To,.slc (vs3 (vv8 .i64) x.Rhs)]
@[go_sem] theorem vjj (x:IND):PV.agg [.str x.From,.slc (vs3 (vv8 .i64) x.Lhs),.str x.To,.slc (vs3 (vv8 .i64) x.Rhs)]=q02 x:=rfl
@[go_sem] theorem vfy (x:IND):(q02 x).cells=[.str x.From,.slc (vs3 (vv8 .i64) x.Lhs),.str x.To,.slc (vs3 (vv8 .i64) x.Rhs)]:=rfl
@[go_sem] theorem vfz (x:IND):(q02 x).isAgg=true:=rfl
@[go_sem] theorem vf0 (x:IND):(q02 x).isTup=false:=rfl
@[simp] theorem vpb (a_From:List UInt8) (a_Lhs:List Int) (a_To:List UInt8) (a_Rhs:List Int):q02 ⟨a_From,a_Lhs,a_To,a_Rhs⟩=.agg [.str a_From,.slc (vs3 (vv8 .i64) a_Lhs),.str a_To,.slc (vs3 (vv8 .i64) a_Rhs)]:=rfl
def qam (x:Constraint):PV:=.agg [.str x.Name,.str x.Table,.int .i64 x.Kind,.int .u32 x.FD.Lhs,.int .u32 x.FD.Rhs,.int .u32 x.MVD.Lhs,.int .u32 x.MVD.Rhs,.str x.IND.From,.slc (vs3 (vv8 .i64) x.IND.Lhs),.str x.IND.To,.slc (vs3 (vv8 .i64) x.IND.Rhs),.slc (vs3 (vv8 .i64) x.CFD.Lhs),.int .i64 x.CFD.Rhs,.slc (vs3 qdw x.CFD.Pattern),.slc (vs3 (vv8 .i64) x.OD.Lhs),.slc (vs3 (vv8 .i64) x.OD.Rhs),.int .i64 x.Denial.Vars,.slc (vs3 qcp x.Denial.Atoms)]
@[go_sem] theorem q4p (x:Constraint):PV.agg [.str x.Name,.str x.Table,.int .i64 x.Kind,.int .u32 x.FD.Lhs,.int .u32 x.FD.Rhs,.int .u32 x.MVD.Lhs,.int .u32 x.MVD.Rhs,.str x.IND.From,.slc (vs3 (vv8 .i64) x.IND.Lhs),.str x.IND.To,.slc (vs3 (vv8 .i64) x.IND.Rhs),.slc (vs3 (vv8 .i64) x.CFD.Lhs),.int .i64 x.CFD.Rhs,.slc (vs3 qdw x.CFD.Pattern),.slc (vs3 (vv8 .i64) x.OD.Lhs),.slc (vs3 (vv8 .i64) x.OD.Rhs),.int .i64 x.Denial.Vars,.slc (vs3 qcp x.Denial.Atoms)]=qam x:=rfl
@[go_sem] theorem q2t (x:Constraint):(qam x).cells=[.str x.Name,.str x.Table,.int .i64 x.Kind,.int .u32 x.FD.Lhs,.int .u32 x.FD.Rhs,.int .u32 x.MVD.Lhs,.int .u32 x.MVD.Rhs,.str x.IND.From,.slc (vs3 (vv8 .i64) x.IND.Lhs),.str x.IND.To,.slc (vs3 (vv8 .i64) x.IND.Rhs),.slc (vs3 (vv8 .i64) x.CFD.Lhs),.int .i64 x.CFD.Rhs,.slc (vs3 qdw x.CFD.Pattern),.slc (vs3 (vv8 .i64) x.OD.Lhs),.slc (vs3 (vv8 .i64) x.OD.Rhs),.int .i64 x.Denial.Vars,.slc (vs3 qcp x.Denial.Atoms)]:=rfl
@[go_sem] theorem q2u (x:Constraint):(qam x).isAgg=true:=rfl
@[go_sem] theorem q2v (x:Constraint):(qam x).isTup=false:=rfl
@[simp] theorem q65 (a_Name:List UInt8) (a_Table:List UInt8) (a_Kind:Int) (a_FD:FD) (a_MVD:FD) (a_IND:IND) (a_CFD:CFD) (a_OD:OD) (a_Denial:Denial):qam ⟨a_Name,a_Table,a_Kind,a_FD,a_MVD,a_IND,a_CFD,a_OD,a_Denial⟩=.agg [.str a_Name,.str a_Table,.int .i64 a_Kind,.int .u32 a_FD.Lhs,.int .u32 a_FD.Rhs,.int .u32 a_MVD.Lhs,.int .u32 a_MVD.Rhs,.str a_IND.From,.slc (vs3 (vv8 .i64) a_IND.Lhs),.str a_IND.To,.slc (vs3 (vv8 .i64) a_IND.Rhs),.slc (vs3 (vv8 .i64) a_CFD.Lhs),.int .i64 a_CFD.Rhs,.slc (vs3 qdw a_CFD.Pattern),.slc (vs3 (vv8 .i64) a_OD.Lhs),.slc (vs3 (vv8 .i64) a_OD.Rhs),.int .i64 a_Denial.Vars,.slc (vs3 qcp a_Denial.Atoms)]:=rfl
def qbq (x:Drossref41_Case):PV:=.agg [.int .u8 x.T.Attrs,.int .u8 x.T.Gap,.slc (vs3 (qbh (vv8 .u8)) x.T.Rows),.slc (vs3 qan x.Rules),.slc (vs3 (vv8 .u8) x.Weights)]
@[go_sem] theorem qyn (x:Drossref41_Case):PV.agg [.int .u8 x.T.Attrs,.int .u8 x.T.Gap,.slc (vs3 (qbh (vv8 .u8)) x.T.Rows),.slc (vs3 qan x.Rules),.slc (vs3 (vv8 .u8) x.Weights)]=qbq x:=rfl
@[go_sem] theorem ql2 (x:Drossref41_Case):(qbq x).cells=[.int .u8 x.T.Attrs,.int .u8 x.T.Gap,.slc (vs3 (qbh (vv8 .u8)) x.T.Rows),.slc (vs3 qan x.Rules),.slc (vs3 (vv8 .u8) x.Weights)]:=rfl
@[go_sem] theorem qw0 (x:Drossref41_Case):(qbq x).isAgg=true:=rfl
@[go_sem] theorem qw1 (x:Drossref41_Case):(qbq x).isTup=false:=rfl
@[simp] theorem q03 (a_T:Drossref03_Recipe) (a_Rules:List Drossref37_Rule) (a_Weights:List Int):qbq ⟨a_T,a_Rules,a_Weights⟩=.agg [.int .u8 a_T.Attrs,.int .u8 a_T.Gap,.slc (vs3 (qbh (vv8 .u8)) a_T.Rows),.slc (vs3 qan a_Rules),.slc (vs3 (vv8 .u8) a_Weights)]:=rfl
def qaa (x:Arr3_int64):PV:=.agg [.int .i64 x.x0,.int .i64 x.x1,.int .i64 x.x2]
@[go_sem] theorem q4q (x:Arr3_int64):PV.agg [.int .i64 x.x0,.int .i64 x.x1,.int .i64 x.x2]=qaa x:=rfl
@[go_sem] theorem q2w (x:Arr3_int64):(qaa x).cells=[.int .i64 x.x0,.int .i64 x.x1,.int .i64 x.x2]:=rfl
@[go_sem] theorem q2x (x:Arr3_int64):(qaa x).isAgg=true:=rfl
@[go_sem] theorem q2y (x:Arr3_int64):(qaa x).isTup=false:=rfl
@[go_sem] theorem q4r:qaa (Arr3_int64.mk 0 0 0)=.agg [.int .i64 0,.int .i64 0,.int .i64 0]:=rfl
@[go_sem] theorem q4s (x:Arr3_int64):(qaa x).flat=true:=rfl
def qbr (x:Hypergraph):PV:=.agg [.slc (vs3 (vv8 .i64) x.Vertices),.slc (vs3 (qbh (vv8 .i64)) x.Edges)]
@[go_sem] theorem q4t (x:Hypergraph):PV.agg [.slc (vs3 (vv8 .i64) x.Vertices),.slc (vs3 (qbh (vv8 .i64)) x.Edges)]=qbr x:=rfl
@[go_sem] theorem q2z (x:Hypergraph):(qbr x).cells=[.slc (vs3 (vv8 .i64) x.Vertices),.slc (vs3 (qbh (vv8 .i64)) x.Edges)]:=rfl
@[go_sem] theorem q20 (x:Hypergraph):(qbr x).isAgg=true:=rfl
@[go_sem] theorem q21 (x:Hypergraph):(qbr x).isTup=false:=rfl
@[simp] theorem q66 (a_Vertices:List Int) (a_Edges:List (List Int)):qbr ⟨a_Vertices,a_Edges⟩=.agg [.slc (vs3 (vv8 .i64) a_Vertices),.slc (vs3 (qbh (vv8 .i64)) a_Edges)]:=rfl
theorem qi0 (a b:Arr3_int64):qmp Tryz.prog 166 (qaa a) (qaa b)=some (decide (a=b)):=by
  obtain ⟨a0,a1,a2⟩:=a;obtain ⟨b0,b1,b2⟩:=b;simp only [qaa,qmp,qsa,eqC,go_sem,seval,beq_self_eq_true,Bool.true_and,Bool.and_true,if_true,vrv,vv7];congr 1;rw [Bool.eq_iff_iff];simp
@[go_sem] theorem qyu (x:Arr3_int64):qsa Tryz.prog 166 (qaa x)=true:=by
  obtain ⟨a0,a1,a2⟩:=x;simp only [qaa,qmp,qsa,eqC,go_sem,seval,beq_self_eq_true,Bool.true_and,Bool.and_true,if_true,vrv,vv7]
@[go_sem] theorem qmy {V:Type} (k:Arr3_int64) (m:List (Arr3_int64×V)) (g:V→PV):qoz Tryz.prog 166 (qaa k) (qfq qaa m) ((qfz g m).map AV.p)=some ((qrv m k).map fun v=>AV.p (g v)):=q8c _ _ _ qi0 k m g
@[go_sem] theorem qyo {V:Type} (a0:Int) (a1:Int) (a2:Int) (m:List (Arr3_int64×V)) (g:V→PV):qoz Tryz.prog 166 (.agg [.int .i64 a0,.int .i64 a1,.int .i64 a2]) (qfq qaa m) ((qfz g m).map AV.p)=some ((qrv m (Arr3_int64.mk a0 a1 a2)).map fun v=>AV.p (g v)):=qmy (Arr3_int64.mk a0 a1 a2) m g
@[go_sem] theorem qnv {V:Type} (k:Arr3_int64) (m:List (Arr3_int64×V)) (g:V→PV) (v:V):q27 Tryz.prog 166 (qaa k) (.p (g v)) (qfq qaa m) ((qfz g m).map AV.p)=some (qfq qaa (qvc m k v),(qfz g (qvc m k v)).map AV.p):=vbv _ _ _ qi0 k m g v
@[go_sem] theorem qyv {V:Type} (a0:Int) (a1:Int) (a2:Int) (m:List (Arr3_int64×V)) (g:V→PV) (v:V):q27 Tryz.prog 166 (.agg [.int .i64 a0,.int .i64 a1,.int .i64 a2]) (.p (g v)) (qfq qaa m) ((qfz g m).map AV.p)=some (qfq qaa (qvc m (Arr3_int64.mk a0 a1 a2) v),(qfz g (qvc m (Arr3_int64.mk a0 a1 a2) v)).map AV.p):=qnv (Arr3_int64.mk a0 a1 a2) m g v
theorem qg6 {D:Prop} (c1:Int) (r2:Value) (h:qch c1=some r2):Con D Tryz.prog 40 [(.int .u8 c1)] (qaz r2):=by
 refine zP call40 func40 rfl ntmps40 fun X w hT=>?_
 simp only [qch] at h
 refine zs<|zr ?_
 refine zU<|zl<|zn<|zs<|zs<|zr ?_
 refine zU<|zl<|zn<|zb<|zs<|zr ?_
 refine zU<|zl<|zn ?_
 obtain ⟨h3,h⟩|⟨h3,h⟩:=zI h
 refine zi<|zs<|zr ?_
 refine zU<|zl<|zn<|zq<|yr<|zt ?_
 cases h
 exact zT results40
 refine zj<|zs<|zr ?_
 refine zU<|zl<|zn ?_
 obtain ⟨h4,h⟩|⟨h4,h⟩:=zI h
 refine zi<|zs<|zr ?_
 refine zU<|zl<|zn<|zq<|yr<|zt ?_
 cases h
 exact zT results40
 refine zj<|zs<|zr ?_
 refine zU<|zl<|zn ?_
 obtain ⟨h5,h⟩|⟨h5,h⟩:=zI h
 refine zi<|zs<|zr ?_
 refine zU<|zl<|zn<|zq<|yr<|zt ?_
 cases h
 exact zT results40
 refine zj<|zs<|zr ?_
 refine zU<|zl<|zn ?_
 obtain ⟨h6,h⟩|⟨h6,h⟩:=zI h
 refine zi<|zs<|zr ?_
 refine zU<|zl<|zn<|zq<|yr<|zt ?_
 cases h
 exact zT results40
 refine zj<|zs<|zr ?_
 refine zU<|zl<|zn ?_
 obtain ⟨h7,h⟩|⟨h7,h⟩:=zI h
 refine zi<|zs<|zr ?_
 refine zU<|zl<|zn<|zq<|yr<|zt ?_
 cases h
 exact zT results40
 refine zj<|zs<|zr ?_
 refine zU<|zl<|zn ?_
 obtain ⟨h8,h⟩|⟨h8,h⟩:=zI h
 refine zi<|zs<|zr ?_
 refine zU<|zl<|zn<|zq<|yr<|zt ?_
 cases h
 exact zT results40
 refine zj<|zs<|zr ?_
 refine zU<|zl<|zn ?_
 obtain ⟨h9,h⟩|⟨h9,h⟩:=zI h
 refine zi<|zs<|zr ?_
 refine zU<|zl<|zn<|zq<|yr<|zt ?_
 cases h
 exact zT results40
 refine zj<|zs<|zr ?_
 refine zU<|zl<|zn ?_
 obtain ⟨h10,h⟩|⟨h10,h⟩:=zI h
 refine zi<|zs<|zr ?_
 refine zU<|zl<|zn<|zq<|yr<|zt ?_
 cases h
 exact zT results40
 refine zj<|zs<|zr ?_
 refine zU<|zl<|zn ?_
 obtain ⟨h11,h⟩|⟨h11,h⟩:=zI h
 refine zi<|zs<|zr ?_
 refine zU<|zl<|zn<|zq<|yr<|zt ?_
 cases h
 exact zT results40
 refine zj<|zs<|zr ?_
 refine zU<|zl<|zn ?_
 obtain ⟨h12,h⟩|⟨h12,h⟩:=zI h
 refine zi<|zs<|zr ?_
 refine zU<|zl<|zn<|zq<|yr<|zt ?_
 cases h
 exact zT results40
 refine zj<|zs<|zr ?_
 refine zU<|zl<|zn ?_
 obtain ⟨h13,h⟩|⟨h13,h⟩:=zI h
 refine zi<|zs<|zr ?_
 refine zU<|zl<|zn<|zq<|yr<|zt ?_
 cases h
 exact zT results40
 refine zj<|zk<|yn<|zn<|zs<|zr ?_
 refine zU<|zl<|zn<|zq ?_
 cases h
 exact zT results40
theorem qpc {D:Prop} (x1:Drossref03_Recipe) (n2:Int) (r3:Table) (h:qgp x1 n2=some r3):Con D Tryz.prog 38 [(qao x1),(.int .i64 n2)] (qab r3):=by
 refine zP call38 func38 rfl ntmps38 fun X w hT=>?_
 simp only [qgp] at h
 refine zs<|zr ?_
 refine zU<|zl<|zn<|zs<|zr ?_
 obtain ⟨h4,h⟩:=qaf h
 obtain ⟨h5,h⟩:=qaf h
 refine zW 4 ?_
 obtain ⟨l6,h7,h⟩:=zB h
 replace h7:=vtu h7
 refine vf3 (st':=⟨[(1,.p (.int .i64 n2)),(2,.loc 2 1 0 0),(4,.loc 4 1 0 0),(10,.own 10 1 0 0),(13,.own 11 1 0 n2.toNat)],[(2,.arr 24 3 1 [.p (qao x1)]),(4,.arr 32 3 1 [.agg [.p (.str []),.nils,.nils]]),(10,.arr 9 1 1 []),(11,.arr 9 1 1 (vs3 AV.p (vs3 vv9 l6)))]⟩) (by simp only [go_sem,seval,←h7];all_goals ((repeat' refine vv5 ?_ ?_) <;> first | rfl | (simp;done) | (simp;rfl) | (simp [*];done) | (simp [*];rfl))) ?_
 have h7n:l6.length=8:=by rw [←h7];rfl
 clear h7
 obtain ⟨h8,h⟩:=qaf h
 refine zU<|zl<|zn<|zs<|zs<|zr ?_
 refine zU<|zl<|zn<|zb ?_
 obtain ⟨t9,h10,h⟩:=zB h
 refine zO (fun (s:List Row×Int)=>⟨[(1,.p (.int .i64 n2)),(2,.loc 2 1 0 0),(4,.loc 4 1 0 0),(5,.loc 5 1 0 0),(6,.p (.int .i64 s.2))],[(2,.arr 24 3 1 [.p (qao x1)]),(4,.arr 32 3 1 [.agg [.p (.str []),.nils,.nils]]),(5,.arr 32 3 1 [.agg [.p (.str [114]),.own 10 1 0 ((l6.take n2.toNat)).length,.own 64 1 0 s.1.length]]),(10,.arr 9 1 1 (vs3 AV.p (vs3 vv9 (l6.take n2.toNat)))),(64,.arr 62 2 1 (vs3 AV.p (vs3 qai s.1)))]⟩) (fun (o11:List Row)=>tE (cX Tryz.f38 X w D hT) (.exit 0) ⟨[(4,.loc 4 1 0 0),(5,.loc 5 1 0 0)],[(4,.arr 32 3 1 [.agg [.p (.str []),.nils,.nils]]),(5,.arr 32 3 1 [.agg [.p (.str [114]),.own 10 1 0 ((l6.take n2.toNat)).length,.own 64 1 0 o11.length]]),(10,.arr 9 1 1 (vs3 AV.p (vs3 vv9 (l6.take n2.toNat)))),(64,.arr 62 2 1 (vs3 AV.p (vs3 qai o11)))]⟩) h10 ?_ ?_
 clear h h4 h5 h7n h8 h10
 intro s x h
 obtain ⟨t12,i13⟩:=s
 simp only [qer] at h
 dsimp only
 refine zs<|zs<|zr ?_
 refine zU<|zl<|zn ?_
 obtain ⟨h14,h⟩|⟨h14,h⟩:=zI h
 refine zi<|zk<|zn<|zs<|zb<|zs<|zr ?_
 refine zU<|zl<|zn<|zs<|zs<|zr ?_
 refine zU<|zl<|zn<|zb ?_
 obtain ⟨r15,h16,h⟩:=zB h
 refine zO (fun (s:List Value×Int)=>⟨[(1,.p (.int .i64 n2)),(2,.loc 2 1 0 0),(4,.loc 4 1 0 0),(5,.loc 5 1 0 0),(6,.p (.int .i64 i13)),(7,.loc 7 1 0 0),(8,.p (.int .i64 s.2))],[(2,.arr 24 3 1 [.p (qao x1)]),(4,.arr 32 3 1 [.agg [.p (.str []),.nils,.nils]]),(5,.arr 32 3 1 [.agg [.p (.str [114]),.own 10 1 0 ((l6.take n2.toNat)).length,.own 64 1 0 t12.length]]),(7,.arr 62 2 1 [.agg [.p (.int .i64 (vsg.wrap (1+(vsg.wrap (i13 * (vsg.wrap (1+(vsg.wrap (vua x1.Gap 3))))))))),.own 58 1 0 s.1.length]]),(10,.arr 9 1 1 (vs3 AV.p (vs3 vv9 (l6.take n2.toNat)))),(58,.arr 127 3 1 (vs3 AV.p (vs3 qaz s.1))),(64,.arr 62 2 1 (vs3 AV.p (vs3 qai t12)))]⟩) (fun (o17:List Value)=>tE (cX Tryz.f38 X w D hT) (.exit 2) ⟨[(1,.p (.int .i64 n2)),(2,.loc 2 1 0 0),(4,.loc 4 1 0 0),(5,.loc 5 1 0 0),(6,.p (.int .i64 i13)),(7,.loc 7 1 0 0)],[(2,.arr 24 3 1 [.p (qao x1)]),(4,.arr 32 3 1 [.agg [.p (.str []),.nils,.nils]]),(5,.arr 32 3 1 [.agg [.p (.str [114]),.own 10 1 0 ((l6.take n2.toNat)).length,.own 64 1 0 t12.length]]),(7,.arr 62 2 1 [.agg [.p (.int .i64 (vsg.wrap (1+(vsg.wrap (i13 * (vsg.wrap (1+(vsg.wrap (vua x1.Gap 3))))))))),.own 58 1 0 o17.length]]),(10,.arr 9 1 1 (vs3 AV.p (vs3 vv9 (l6.take n2.toNat)))),(58,.arr 127 3 1 (vs3 AV.p (vs3 qaz o17))),(64,.arr 62 2 1 (vs3 AV.p (vs3 qai t12)))]⟩) h16 ?_ ?_
 clear h h14 h16
 intro s x h
 obtain ⟨r18,k19⟩:=s
 simp only [qeq] at h
 dsimp only
 refine zs<|zs<|zr ?_
 refine zU<|zl<|zn ?_
 obtain ⟨h20,h⟩|⟨h20,h⟩:=zI h
 refine zi<|zk<|zn<|zs<|zb<|zs<|zr ?_
 refine zU<|zl<|zn<|zs<|zs<|zr ?_
 obtain ⟨x21,h22,h22a,h22b,h⟩:=zX h
 refine zU<|zl<|zn ?_
 obtain ⟨h23,h⟩|⟨h23,h⟩:=zI h
 refine zi<|zr ?_
 obtain ⟨x24,h25,h25a,h25b,h⟩:=zX h
 refine zU<|zl<|zn<|zd ?_
 refine yU ?_
 obtain ⟨r26,h27,h⟩:=zB h
 refine yc (qg6 x24 _ h27) ?_
 obtain ⟨h28,h⟩:=qaf h
 refine yU ?_
 refine yd<|yn<|zn<|zr ?_
 refine zU<|zl ?_
 cases h
 exact ⟨rfl,zE⟩
 refine zj<|zk<|zn<|zd ?_
 refine yU ?_
 obtain ⟨r29,h30,h⟩:=zB h
 refine yc (qg6 0 _ h30) ?_
 obtain ⟨h31,h⟩:=qaf h
 refine yU ?_
 refine yd<|yn<|zn<|zr ?_
 refine zU<|zl ?_
 cases h
 exact ⟨rfl,zE⟩
 refine zj<|zx<|ze ?_
 cases h
 exact ⟨rfl,zE⟩
 try simp only at h
 refine zA<|yh<|zn<|zr ?_
 refine zW 4 ?_
 refine zM ⟨[(1,.p (.int .i64 n2)),(2,.loc 2 1 0 0),(4,.loc 4 1 0 0),(5,.loc 5 1 0 0),(6,.p (.int .i64 i13)),(61,.own 64 1 0 t12.length),(63,.own 63 1 0 1)],[(2,.arr 24 3 1 [.p (qao x1)]),(4,.arr 32 3 1 [.agg [.p (.str []),.nils,.nils]]),(5,.arr 32 3 1 [.agg [.p (.str [114]),.own 10 1 0 ((l6.take n2.toNat)).length,.own 64 1 0 t12.length]]),(10,.arr 9 1 1 (vs3 AV.p (vs3 vv9 (l6.take n2.toNat)))),(63,.arr 62 2 1 [.p (.agg [.int .i64 (vsg.wrap (1+(vsg.wrap (i13 * (vsg.wrap (1+(vsg.wrap (vua x1.Gap 3)))))))),.slc (vs3 qaz r15)])]),(64,.arr 62 2 1 (vs3 AV.p (vs3 qai t12)))]⟩ ?_
 obtain ⟨h32,h⟩:=qaf h
 refine zU<|zl<|yn<|zn<|zr ?_
 refine zU<|zl ?_
 cases h
 exact ⟨rfl,zE⟩
 refine zj<|zx<|ze ?_
 cases h
 exact ⟨rfl,zE⟩
 try simp only at h
 refine zA<|yh<|zn<|zs<|zr ?_
 refine zU<|zl<|zn<|zq ?_
 cases h
 exact zT results38
theorem qog {D:Prop} (x1:Drossref03_Recipe) (m2:Int) (r3:Table×Bool) (h:qdt x1 m2=some r3):Con D Tryz.prog 14 [(qao x1),(.int .i64 m2)] (.tup [(qab r3.1),(.bool r3.2)]):=by
 refine zP call14 func14 rfl ntmps14 fun X w hT=>?_
 simp only [qdt] at h
 refine zs<|zr ?_
 refine zU<|zl<|zn<|zs<|zs<|zr ?_
 refine zU<|zl<|zn ?_
 obtain ⟨h4,h⟩|⟨h4,h⟩:=zI h
 refine zi<|zs<|zr ?_
 refine zU<|zl<|zn<|zq<|zt ?_
 cases h
 exact zT results14
 refine zj<|zk<|zn<|zs<|zr ?_
 refine zU ?_
 obtain ⟨r5,h6,h⟩:=zB h
 refine zc (qpc x1 (vsg.wrap (vua x1.Attrs 6)) _ h6) ?_
 refine zU<|zl<|zn<|zq ?_
 cases h
 exact zT results14
theorem qqm {D:Prop} (s1:Int) (i2:Int) (r3:Bool) (h:qgb s1 i2=some r3):Con D Tryz.prog 145 [(.int .u32 s1),(.int .i64 i2)] (.bool r3):=by
 refine zP call145 func145 rfl ntmps145 fun X w hT=>?_
 simp only [qgb] at h
 refine zs<|zr ?_
 refine zU<|zl<|zn<|zs<|zr ?_
 refine zU ?_
 obtain ⟨h4,h⟩|⟨h4,h⟩:=zI h
 refine zw 7 true ?_
 refine zg ?_
 refine zg ?_
 refine zU ?_
 obtain ⟨h5,h⟩|⟨h5,h⟩:=zI h
 refine zw 11 true ?_
 refine zg ?_
 refine zg ?_
 obtain ⟨h6,h⟩:=qiv h
 replace h:=h.symm
 refine zg ?_
 refine zg ?_
 refine zg ?_
 refine zU<|zl<|zn<|zq ?_
 cases h
 exact zT results145
 refine zw 11 false ?_
 refine zh ?_
 refine zU<|zl<|zn<|zq ?_
 cases h
 exact zT results145
 refine zw 7 false ?_
 refine zh ?_
 refine zU ?_
 refine zh ?_
 refine zU<|zl<|zn<|zq ?_
 cases h
 exact zT results145
theorem qrk {D:Prop} (n1:Int) (d2:Drossref16_Draft) (r3:CFD) (h:qh5 n1 d2=some r3):Con D Tryz.prog 84 [(.int .i64 n1),(qaw d2)] (qgk r3):=by
 refine zP call84 func84 rfl ntmps84 fun X w hT=>?_
 simp only [qh5] at h
 refine zs<|zr ?_
 refine zU<|zl<|zn<|zs<|zr ?_
 obtain ⟨h4,h⟩:=qiv h
 refine zU<|zl<|zn<|zs<|zs<|zr ?_
 refine zU<|zl<|zn<|zb ?_
 obtain ⟨c5,h6,h⟩:=zB h
 refine zO (fun (s:List Int×Int)=>⟨[(0,.p (.int .i64 n1)),(3,.loc 3 1 0 0),(4,.loc 4 1 0 0),(5,.loc 5 1 0 0),(6,.p (.int .i64 s.2))],[(3,.arr 118 3 1 [.p (qaw d2)]),(4,.arr 84 3 1 [.agg [.nils,.p (.int .i64 0),.nils]]),(5,.arr 84 3 1 [.agg [.own 34 1 0 s.1.length,.p (.int .i64 (vua (vsg.wrap d2.Rhs) n1)),.nils]]),(34,.arr 3 1 1 (vs3 AV.p (vs3 (vv8 .i64) s.1)))]⟩) (fun (o7:List Int)=>tE (cX Tryz.f84 X w D hT) (.exit 0) ⟨[(3,.loc 3 1 0 0),(4,.loc 4 1 0 0),(5,.loc 5 1 0 0)],[(3,.arr 118 3 1 [.p (qaw d2)]),(4,.arr 84 3 1 [.agg [.nils,.p (.int .i64 0),.nils]]),(5,.arr 84 3 1 [.agg [.own 34 1 0 o7.length,.p (.int .i64 (vua (vsg.wrap d2.Rhs) n1)),.nils]]),(34,.arr 3 1 1 (vs3 AV.p (vs3 (vv8 .i64) o7)))]⟩) h6 ?_ ?_
 clear h h4 h6
 intro s x h
 obtain ⟨c8,a9⟩:=s
 simp only [qf1] at h
 dsimp only
 refine zs<|zs<|zr ?_
 refine zU<|zl<|zn ?_
 obtain ⟨h10,h⟩|⟨h10,h⟩:=zI h
 refine zi<|zk<|zn<|zs<|zb ?_
 obtain ⟨t11,h12,h⟩:=zB h
 refine zJ (fun (o13:Bool)=>tE (cX Tryz.f84 X w D hT) .normal ⟨[(0,.p (.int .i64 n1)),(3,.loc 3 1 0 0),(4,.loc 4 1 0 0),(5,.loc 5 1 0 0),(6,.p (.int .i64 a9)),(29,.p (.bool o13))],[(3,.arr 118 3 1 [.p (qaw d2)]),(4,.arr 84 3 1 [.agg [.nils,.p (.int .i64 0),.nils]]),(5,.arr 84 3 1 [.agg [.own 34 1 0 c8.length,.p (.int .i64 (vua (vsg.wrap d2.Rhs) n1)),.nils]]),(34,.arr 3 1 1 (vs3 AV.p (vs3 (vv8 .i64) c8)))]⟩) t11 ?_ ?_
 replace h:=h12
 clear h12
 refine zr ?_
 refine zU ?_
 obtain ⟨r14,h15,h⟩:=zB h
 refine zc (qqm (IntKind.u32.wrap d2.Lhs) a9 _ h15) ?_
 refine zU ?_
 obtain ⟨h16,h⟩|⟨h16,h⟩:=zI h
 replace h:=h.symm
 refine zw 24 true ?_
 refine zg ?_
 refine zg ?_
 refine zg ?_
 refine zg ?_
 refine zU<|zl ?_
 cases h
 exact ⟨rfl,zE⟩
 refine zw 24 false ?_
 refine zh ?_
 refine zU<|zl ?_
 cases h
 exact ⟨rfl,zE⟩
 try simp only at h
 refine zA<|zn ?_
 obtain ⟨h17,h⟩|⟨h17,h⟩:=zI h
 refine zi<|zr ?_
 obtain ⟨h18,h⟩:=qaf h
 refine zU<|zl<|yn<|zn<|zr ?_
 refine zU<|zl ?_
 cases h
 exact ⟨rfl,zE⟩
 refine zj<|zk<|yn<|zn<|zr ?_
 refine zU<|zl ?_
 cases h
 exact ⟨rfl,zE⟩
 refine zj<|zx<|ze ?_
 cases h
 exact ⟨rfl,zE⟩
 try simp only at h
 refine zA<|yh<|zn<|zs<|zs<|zr ?_
 refine zU<|zl<|zn<|zb ?_
 obtain ⟨c19,h20,h⟩:=zB h
 refine zO (fun (s:List Cell×Int)=>⟨[(3,.loc 3 1 0 0),(4,.loc 4 1 0 0),(5,.loc 5 1 0 0),(7,.p (.int .i64 s.2))],[(3,.arr 118 3 1 [.p (qaw d2)]),(4,.arr 84 3 1 [.agg [.nils,.p (.int .i64 0),.nils]]),(5,.arr 84 3 1 [.agg [.own 34 1 0 c5.length,.p (.int .i64 (vua (vsg.wrap d2.Rhs) n1)),.own 61 1 0 s.1.length]]),(34,.arr 3 1 1 (vs3 AV.p (vs3 (vv8 .i64) c5))),(61,.arr 239 4 1 (vs3 AV.p (vs3 qdw s.1)))]⟩) (fun (o21:List Cell)=>tE (cX Tryz.f84 X w D hT) (.exit 2) ⟨[(4,.loc 4 1 0 0),(5,.loc 5 1 0 0)],[(4,.arr 84 3 1 [.agg [.nils,.p (.int .i64 0),.nils]]),(5,.arr 84 3 1 [.agg [.own 34 1 0 c5.length,.p (.int .i64 (vua (vsg.wrap d2.Rhs) n1)),.own 61 1 0 o21.length]]),(34,.arr 3 1 1 (vs3 AV.p (vs3 (vv8 .i64) c5))),(61,.arr 239 4 1 (vs3 AV.p (vs3 qdw o21)))]⟩) h20 ?_ ?_
 clear h h4 h6 h20
 intro s x h
 obtain ⟨c22,k23⟩:=s
 simp only [qf2] at h
 dsimp only
 refine zs<|zs<|zr ?_
 refine zU<|zl<|zn ?_
 obtain ⟨h24,h⟩|⟨h24,h⟩:=zI h
 refine zi<|zk<|zn<|zs<|zb ?_
 obtain ⟨t25,h26,h⟩:=zB h
 refine zJ (fun (o27:Bool)=>tE (cX Tryz.f84 X w D hT) .normal ⟨[(3,.loc 3 1 0 0),(4,.loc 4 1 0 0),(5,.loc 5 1 0 0),(7,.p (.int .i64 k23)),(56,.p (.bool o27))],[(3,.arr 118 3 1 [.p (qaw d2)]),(4,.arr 84 3 1 [.agg [.nils,.p (.int .i64 0),.nils]]),(5,.arr 84 3 1 [.agg [.own 34 1 0 c5.length,.p (.int .i64 (vua (vsg.wrap d2.Rhs) n1)),.own 61 1 0 c22.length]]),(34,.arr 3 1 1 (vs3 AV.p (vs3 (vv8 .i64) c5))),(61,.arr 239 4 1 (vs3 AV.p (vs3 qdw c22)))]⟩) t25 ?_ ?_
 replace h:=h26
 clear h26
 refine zr ?_
 refine zU ?_
 obtain ⟨h28,h⟩|⟨h28,h⟩:=zI h
 refine zw 48 true ?_
 refine zh ?_
 refine zU<|zl ?_
 cases h
 exact ⟨rfl,zE⟩
 refine zw 48 false ?_
 refine zg ?_
 refine zg ?_
 refine zg ?_
 obtain ⟨x29,h30,h30a,h30b,h⟩:=zX h
 replace h:=h.symm
 refine zg ?_
 refine zg ?_
 refine zg ?_
 refine zg ?_
 refine zU<|zl ?_
 cases h
 exact ⟨rfl,zE⟩
 try simp only at h
 refine zA<|zn ?_
 obtain ⟨h31,h⟩|⟨h31,h⟩:=zI h
 refine zi<|zr ?_
 obtain ⟨h32,h⟩:=qaf h
 refine zU<|zl<|yn<|zn<|zr ?_
 refine zU<|zl ?_
 cases h
 exact ⟨rfl,zE⟩
 refine zj<|zd ?_
 obtain ⟨x33,h34,h34a,h34b,h⟩:=zX h
 refine yU ?_
 obtain ⟨r35,h36,h⟩:=zB h
 refine yc (qg6 (vua (IntKind.u8.wrap (Int.tdiv x33 2)) 3) _ h36) ?_
 obtain ⟨h37,h⟩:=qaf h
 refine yU ?_
 refine yd<|yn<|zn<|zr ?_
 refine zU<|zl ?_
 cases h
 exact ⟨rfl,zE⟩
 refine zj<|zx<|ze ?_
 cases h
 exact ⟨rfl,zE⟩
 try simp only at h
 refine zA<|yh<|zn<|zs<|zr ?_
 refine zU<|zl<|zn<|zq ?_
 cases h
 exact zT results84
theorem qil {D:Prop} (n1:Int) (l2:List Int) (r3:List Int) (h:qcs n1 l2=some r3):Con D Tryz.prog 146 [(.int .i64 n1),(.slc (vs3 (vv8 .u8) l2))] (.slc (vs3 (vv8 .i64) r3)):=by
 refine zP call146 func146 rfl ntmps146 fun X w hT=>?_
 simp only [qcs] at h
 refine zs<|zr ?_
 refine zU<|zl<|zn<|zs<|zr ?_
 refine zU<|zl<|zn<|zs<|zs<|zr ?_
 refine zU<|zl<|zn<|zb ?_
 obtain ⟨o4,h5,h⟩:=zB h
 refine zO (fun (s:List Int×Int)=>⟨[(0,.p (.int .i64 n1)),(1,.p (.slc (vs3 (vv8 .u8) l2))),(5,.own 30 1 0 s.1.length),(6,.p (.int .i64 s.2))],[(30,.arr 3 1 1 (vs3 AV.p (vs3 (vv8 .i64) s.1)))]⟩) (fun (o6:List Int)=>tE (cX Tryz.f146 X w D hT) (.exit 0) ⟨[(5,.own 30 1 0 o6.length)],[(30,.arr 3 1 1 (vs3 AV.p (vs3 (vv8 .i64) o6)))]⟩) h5 ?_ ?_
 clear h h5
 intro s x h
 obtain ⟨o7,i8⟩:=s
 simp only [qbu] at h
 dsimp only
 refine zs<|zs<|zr ?_
 refine zU ?_
 obtain ⟨h9,h⟩|⟨h9,h⟩:=zI h
 refine zw 11 true ?_
 refine zg ?_
 refine zg ?_
 refine zU ?_
 obtain ⟨h10,h⟩|⟨h10,h⟩:=zI h
 refine zw 15 true ?_
 refine zg ?_
 refine zg ?_
 refine zU<|zl<|zn ?_
 obtain ⟨h11,h⟩|⟨h11,h⟩:=zI h
 refine zi<|zk<|zn<|zs<|zb<|zr ?_
 obtain ⟨x12,h13,h13a,h13b,h⟩:=zX h
 obtain ⟨h14,h⟩:=qiv h
 obtain ⟨h15,h⟩:=qaf h
 refine zU<|zl<|yn<|zn<|zr ?_
 refine zU<|zl ?_
 cases h
 exact ⟨rfl,zE⟩
 refine zj<|zx<|ze ?_
 cases h
 exact ⟨rfl,zE⟩
 refine zw 15 false ?_
 refine zh ?_
 refine zU<|zl<|zn ?_
 refine zj<|zx<|ze ?_
 cases h
 exact ⟨rfl,zE⟩
 refine zw 11 false ?_
 refine zh ?_
 refine zU ?_
 refine zh ?_
 refine zU<|zl<|zn ?_
 refine zj<|zx<|ze ?_
 cases h
 exact ⟨rfl,zE⟩
 try simp only at h
 refine zA<|yh<|zn<|zs<|zr ?_
 refine zU<|zl<|zn<|zq ?_
 cases h
 exact zT results146
theorem qrl {D:Prop} (n1:Int) (x2:Drossref17_Lists) (r3:OD) (h:qh6 n1 x2=some r3):Con D Tryz.prog 85 [(.int .i64 n1),(qcl x2)] (qrj r3):=by
 refine zP call85 func85 rfl ntmps85 fun X w hT=>?_
 simp only [qh6] at h
 refine zs<|zr ?_
 refine zU<|zl<|zn<|zs<|zd ?_
 refine yU ?_
 obtain ⟨r4,h5,h⟩:=zB h
 refine yc (qil n1 x2.X _ h5) ?_
 refine yU ?_
 obtain ⟨r6,h7,h⟩:=zB h
 refine yc (qil n1 x2.Y _ h7) ?_
 refine yU ?_
 refine yd<|zn<|zq ?_
 cases h
 exact zT results85
theorem qj8 {D:Prop} (n1:Int) (v2:Int) (s3:Drossref18_Side) (r4:Term) (h:qfb n1 v2 s3=some r4):Con D Tryz.prog 147 [(.int .i64 n1),(.int .i64 v2),(qbp s3)] (qle r4):=by
 refine zP call147 func147 rfl ntmps147 fun X w hT=>?_
 simp only [qfb] at h
 refine zs<|zr ?_
 refine zU<|zl<|zn<|zs<|zr ?_
 obtain ⟨h5,h⟩:=qiv h
 refine zU<|zl<|zn<|zs ?_
 obtain ⟨t6,h7,h⟩:=zB h
 refine zJ (fun (o8:Bool)=>tE (cX Tryz.f147 X w D hT) .normal ⟨[(0,.p (.int .i64 n1)),(5,.loc 5 1 0 0),(6,.loc 6 1 0 0),(7,.p (.int .i64 (vua (vsg.wrap s3.Var) (vsg.wrap (v2+1))))),(19,.p (.bool o8))],[(5,.arr 262 2 1 [.p (qbp s3)]),(6,.arr 230 5 1 [.p (.agg [.int .i64 0,.int .i64 0,.int .i64 0,.int .i64 0,.str []])])]⟩) t6 ?_ ?_
 replace h:=h7
 clear h7
 refine zr ?_
 refine zU ?_
 obtain ⟨h9,h⟩|⟨h9,h⟩:=zI h
 refine zw 16 true ?_
 refine zh ?_
 refine zU<|zl ?_
 cases h
 exact ⟨rfl,zE⟩
 replace h:=h.symm
 refine zw 16 false ?_
 refine zg ?_
 refine zg ?_
 refine zU<|zl ?_
 cases h
 exact ⟨rfl,zE⟩
 try simp only at h
 refine zA<|zn ?_
 obtain ⟨h10,h⟩|⟨h10,h⟩:=zI h
 refine zi<|zs<|zr ?_
 refine zU ?_
 obtain ⟨r11,h12,h⟩:=zB h
 refine zc (qg6 s3.Code _ h12) ?_
 refine zU<|zl<|zn<|zq<|zt ?_
 cases h
 exact zT results147
 refine zj<|zk<|zn<|zs<|zr ?_
 obtain ⟨h13,h⟩:=qiv h
 refine zU<|zl<|zn<|zq ?_
 cases h
 exact zT results147
theorem qrm {D:Prop} (n1:Int) (r2:Drossref18_Recipe) (r3:Denial×Bool) (h:qh7 n1 r2=some r3):Con D Tryz.prog 86 [(.int .i64 n1),(qa8 r2)] (.tup [(qac r3.1),(.bool r3.2)]):=by
 refine zP call86 func86 rfl ntmps86 fun X w hT=>?_
 simp only [qh7] at h
 refine zs<|zr ?_
 refine zU<|zl<|zn<|zs<|zr ?_
 refine zU<|zl<|zn<|zs<|zs<|zr ?_
 refine zU<|zl<|zn<|zb ?_
 obtain ⟨d4,h5,h⟩:=zB h
 refine zO (fun (s:List Atom×Int)=>⟨[(0,.p (.int .i64 n1)),(3,.loc 3 1 0 0),(4,.loc 4 1 0 0),(6,.loc 6 1 0 0),(7,.p (.int .i64 s.2))],[(3,.arr 123 2 1 [.p (qa8 r2)]),(4,.arr 89 2 1 [.agg [.p (.int .i64 0),.nils]]),(6,.arr 89 2 1 [.agg [.p (.int .i64 (vsg.wrap (1+(vsg.wrap (vua r2.Vars 3))))),.own 48 1 0 s.1.length]]),(48,.arr 232 11 1 (vs3 AV.p (vs3 qcp s.1)))]⟩) (fun (o6:List Atom)=>tE (cX Tryz.f86 X w D hT) (.exit 0) ⟨[(3,.loc 3 1 0 0),(4,.loc 4 1 0 0),(6,.loc 6 1 0 0)],[(3,.arr 123 2 1 [.p (qa8 r2)]),(4,.arr 89 2 1 [.agg [.p (.int .i64 0),.nils]]),(6,.arr 89 2 1 [.agg [.p (.int .i64 (vsg.wrap (1+(vsg.wrap (vua r2.Vars 3))))),.own 48 1 0 o6.length]]),(48,.arr 232 11 1 (vs3 AV.p (vs3 qcp o6)))]⟩) h5 ?_ ?_
 clear h h5
 intro s x h
 obtain ⟨d7,i8⟩:=s
 simp only [qf3] at h
 dsimp only
 refine zs<|zs<|zr ?_
 refine zU<|zl<|zn ?_
 obtain ⟨h9,h⟩|⟨h9,h⟩:=zI h
 refine zi<|zk<|zn<|zs<|zb<|zs<|zr ?_
 obtain ⟨x10,h11,h11a,h11b,h⟩:=zX h
 refine zU<|zl<|zn<|zd ?_
 refine yU ?_
 obtain ⟨r12,h13,h⟩:=zB h
 refine yc (qj8 n1 (vsg.wrap (1+(vsg.wrap (vua r2.Vars 3)))) x10.Left _ h13) ?_
 refine yU ?_
 obtain ⟨r14,h15,h⟩:=zB h
 refine yc (qj8 n1 (vsg.wrap (1+(vsg.wrap (vua r2.Vars 3)))) x10.Right _ h15) ?_
 obtain ⟨h16,h⟩:=qaf h
 refine yU ?_
 refine yd<|yn<|zn<|zr ?_
 refine zU<|zl ?_
 cases h
 exact ⟨rfl,zE⟩
 refine zj<|zx<|ze ?_
 cases h
 exact ⟨rfl,zE⟩
 try simp only at h
 refine zA<|yh<|zn<|zs<|zd ?_
 refine yU ?_
 refine yd<|zn<|zq ?_
 cases h
 exact zT results86
theorem qj9 {D:Prop} (n1:Int) (r2:Int) (h:qfc n1=some r2):Con D Tryz.prog 6 [(.int .i64 n1)] (.int .u32 r2):=by
 refine zP call6 func6 rfl ntmps6 fun X w hT=>?_
 simp only [qfc] at h
 refine zs<|zr ?_
 refine zU<|zl<|zn<|zs<|zr ?_
 refine zU<|zl<|zn<|zs<|zs<|zr ?_
 refine zU<|zl<|zn<|zb ?_
 obtain ⟨s3,h4,h⟩:=zB h
 refine zO (fun (s:Int×Int)=>⟨[(0,.p (.int .i64 n1)),(3,.p (.int .u32 s.1)),(4,.p (.int .i64 s.2))],[]⟩) (fun (o5:Int)=>tE (cX Tryz.f6 X w D hT) (.exit 0) ⟨[(3,.p (.int .u32 o5))],[]⟩) h4 ?_ ?_
 clear h h4
 intro s x h
 obtain ⟨s6,i7⟩:=s
 simp only [qes] at h
 dsimp only
 refine zs<|zs<|zr ?_
 refine zU ?_
 obtain ⟨h8,h⟩|⟨h8,h⟩:=zI h
 refine zw 8 true ?_
 refine zg ?_
 refine zg ?_
 refine zU<|zl<|zn ?_
 obtain ⟨h9,h⟩|⟨h9,h⟩:=zI h
 refine zi<|zk<|zn<|zs<|zb<|zr ?_
 obtain ⟨h10,h⟩:=qiv h
 refine zU<|zl<|yn<|zn<|zr ?_
 refine zU<|zl ?_
 cases h
 exact ⟨rfl,zE⟩
 refine zj<|zx<|ze ?_
 cases h
 exact ⟨rfl,zE⟩
 refine zw 8 false ?_
 refine zh ?_
 refine zU<|zl<|zn ?_
 refine zj<|zx<|ze ?_
 cases h
 exact ⟨rfl,zE⟩
 try simp only at h
 refine zA<|yh<|zn<|zs<|zr ?_
 refine zU<|zl<|zn<|zq ?_
 cases h
 exact zT results6
theorem qka {D:Prop} (n1:Int) (l2:List Drossref09_Dep) (r3:List FD) (h:qfd n1 l2=some r3):Con D Tryz.prog 87 [(.int .i64 n1),(.slc (vs3 qb2 l2))] (.slc (vs3 qof r3)):=by
 refine zP call87 func87 rfl ntmps87 fun X w hT=>?_
 simp only [qfd] at h
 refine zs<|zr ?_
 refine zU<|zl<|zn<|zs<|zr ?_
 refine zU ?_
 obtain ⟨r4,h5,h⟩:=zB h
 refine zc (qj9 n1 _ h5) ?_
 refine zU<|zl<|zn<|zs<|zr ?_
 refine zU<|zl<|zn<|zs<|zs<|zr ?_
 refine zU<|zl<|zn<|zb ?_
 obtain ⟨o6,h7,h⟩:=zB h
 refine zO (fun (s:List FD×Int)=>⟨[(1,.p (.slc (vs3 qb2 l2))),(5,.p (.int .u32 r4)),(6,.own 35 1 0 s.1.length),(7,.p (.int .i64 s.2))],[(35,.arr 65 2 1 (vs3 AV.p (vs3 qof s.1)))]⟩) (fun (o8:List FD)=>tE (cX Tryz.f87 X w D hT) (.exit 0) ⟨[(6,.own 35 1 0 o8.length)],[(35,.arr 65 2 1 (vs3 AV.p (vs3 qof o8)))]⟩) h7 ?_ ?_
 clear h h5 h7
 intro s x h
 obtain ⟨o9,i10⟩:=s
 simp only [qgh] at h
 dsimp only
 refine zs<|zs<|zr ?_
 refine zU<|zl<|zn ?_
 obtain ⟨h11,h⟩|⟨h11,h⟩:=zI h
 refine zi<|zk<|zn<|zs<|zb<|zd ?_
 obtain ⟨x12,h13,h13a,h13b,h⟩:=zX h
 obtain ⟨h14,h⟩:=qaf h
 refine yU ?_
 refine yd<|yn<|zn<|zr ?_
 refine zU<|zl ?_
 cases h
 exact ⟨rfl,zE⟩
 refine zj<|zx<|ze ?_
 cases h
 exact ⟨rfl,zE⟩
 try simp only at h
 refine zA<|yh<|zn<|zs<|zr ?_
 refine zU<|zl<|zn<|zq ?_
 cases h
 exact zT results87
theorem qrn {D:Prop} (n1:Int) (x2:Drossref37_Rule) (r3:Constraint×Bool) (h:qh8 n1 x2=some r3):Con D Tryz.prog 39 [(.int .i64 n1),(qan x2)] (.tup [(qam r3.1),(.bool r3.2)]):=by
 refine zP call39 func39 rfl ntmps39 fun X w hT=>?_
 simp only [qh8] at h
 refine zs<|zr ?_
 refine zU<|zl<|zn<|zs<|zr ?_
 refine zU<|zl<|zn<|zs<|zs<|zr ?_
 refine zU<|zl<|zn<|zb<|zs<|zr ?_
 refine zU<|zl<|zn ?_
 obtain ⟨h4,h⟩|⟨h4,h⟩:=zI h
 refine zi<|zs<|zr ?_
 refine zU<|zl<|zn ?_
 obtain ⟨h5,h⟩|⟨h5,h⟩:=zI h
 refine zi<|zs<|zr ?_
 refine zU ?_
 obtain ⟨r6,h7,h⟩:=zB h
 refine zc (qrk n1 x2.C _ h7) ?_
 refine zU<|zl<|zn<|zs<|zr ?_
 refine zU<|zl<|zn<|zq<|yr<|zt ?_
 cases h
 exact zT results39
 refine zj<|zk<|yn<|zn<|zs<|zd ?_
 refine yV 3 ?_
 refine yS 50 ?_
 obtain ⟨r8,h9,h⟩:=zB h
 refine yc (qka n1 [x2.F] _ h9) ?_
 obtain ⟨x10,h11,h11l,h11L,h⟩:=zY 0 h
 refine yU ?_
 refine yd<|zn<|zs<|zr ?_
 refine zU<|zl<|zn<|zq ?_
 cases h
 exact zT results39
 refine zj<|zs<|zr ?_
 refine zU<|zl<|zn ?_
 obtain ⟨h12,h⟩|⟨h12,h⟩:=zI h
 refine zi<|zs<|zr ?_
 refine zU ?_
 obtain ⟨r13,h14,h⟩:=zB h
 refine zc (qrl n1 x2.O _ h14) ?_
 refine zU<|zl<|zn<|zs<|zr ?_
 refine zU<|zl<|zn<|zq<|yr<|zt ?_
 cases h
 exact zT results39
 refine zj<|zs<|zr ?_
 refine zU<|zl<|zn ?_
 obtain ⟨h15,h⟩|⟨h15,h⟩:=zI h
 refine zi<|zs<|zr ?_
 refine zU ?_
 obtain ⟨r16,h17,h⟩:=zB h
 refine zc (qrm n1 x2.N _ h17) ?_
 refine zU<|zl<|zn<|zs<|zd ?_
 refine yU ?_
 refine yd<|zn<|zs<|zr ?_
 refine zU<|zl<|zn<|zq<|yr<|zt ?_
 cases h
 exact zT results39
 refine zj<|zk<|yn<|zn<|zs<|zd ?_
 refine yV 3 ?_
 refine yS 50 ?_
 obtain ⟨r18,h19,h⟩:=zB h
 refine yc (qka n1 [x2.F] _ h19) ?_
 obtain ⟨x20,h21,h21l,h21L,h⟩:=zY 0 h
 refine yU ?_
 refine yd<|zn<|zs<|zr ?_
 refine zU<|zl<|zn<|zq ?_
 cases h
 exact zT results39
theorem qpd {D:Prop} (n1:Int) (l2:List Drossref37_Rule) (r3:List Constraint×Bool) (h:qfe n1 l2=some r3):Con D Tryz.prog 15 [(.int .i64 n1),(.slc (vs3 qan l2))] (.tup [(.slc (vs3 qam r3.1)),(.bool r3.2)]):=by
 refine zP call15 func15 rfl ntmps15 fun X w hT=>?_
 simp only [qfe] at h
 refine zs<|zr ?_
 refine zU<|zl<|zn<|zs<|zr ?_
 refine zU<|zl<|zn<|zs<|zs<|zr ?_
 refine zU<|zl<|zn<|zb ?_
 obtain ⟨o4,h5,h⟩:=zB h
 refine zO (fun (s:List Constraint×Int)=>⟨[(0,.p (.int .i64 n1)),(1,.p (.slc (vs3 qan l2))),(6,.own 30 1 0 s.1.length),(7,.p (.int .i64 s.2))],[(30,.arr 91 18 1 (vs3 AV.p (vs3 qam s.1)))]⟩) (fun (o:(List Constraint) ⊕ (List Constraint×Bool))=>match o with | .inl o6=>tE (cX Tryz.f15 X w D hT) (.exit 0) ⟨[(1,.p (.slc (vs3 qan l2))),(6,.own 30 1 0 o6.length)],[(30,.arr 91 18 1 (vs3 AV.p (vs3 qam o6)))]⟩ | .inr o7=>tR Tryz.prog Tryz.f15 (.tup [(.slc (vs3 qam o7.1)),(.bool o7.2)])) h5 ?_ ?_
 clear h h5
 intro s x h
 obtain ⟨o8,i9⟩:=s
 simp only [qet] at h
 dsimp only
 refine zs<|zs<|zr ?_
 refine zU<|zl<|zn ?_
 obtain ⟨h10,h⟩|⟨h10,h⟩:=zI h
 refine zi<|zk<|zn<|zs<|zb<|zs<|zr ?_
 obtain ⟨x11,h12,h12a,h12b,h⟩:=zX h
 refine zU ?_
 obtain ⟨r13,h14,h⟩:=zB h
 refine zc (qrn n1 x11 _ h14) ?_
 refine zU<|zl<|zn<|zs<|zs<|zr ?_
 refine zU<|zl<|zn ?_
 obtain ⟨h15,h⟩|⟨h15,h⟩:=zI h
 refine zj<|zk<|zn<|zr ?_
 obtain ⟨h16,h⟩:=qaf h
 refine zU<|zl<|yn<|zn<|zr ?_
 refine zU<|zl ?_
 cases h
 exact ⟨rfl,zE⟩
 refine zi<|zs<|zr ?_
 refine zU<|zl<|zn<|zq<|zt<|yr<|zt ?_
 cases h
 exact ⟨rfl,zT results15⟩
 refine zj<|zx<|ze ?_
 cases h
 exact ⟨rfl,zE⟩
 rcases o4 with o17 | r18
 try simp only at h
 refine zA<|yh<|zn<|zs<|zr ?_
 refine zU<|zl<|zn<|zq ?_
 cases h
 exact zT results15
 try simp only at h
 refine zZ fun s hq=>?_
 refine yr<|zt ?_
 cases h
 exact hq
theorem qro {D:Prop} (c1:Drossref41_Case) (r2:Table×List Constraint×List Int×Bool) (h:qh9 c1=some r2):Con D Tryz.prog 4 [(qbq c1)] (.tup [(qab r2.1),(.slc (vs3 qam r2.2.1)),(.slc (vs3 (vv8 .i64) r2.2.2.1)),(.bool r2.2.2.2)]):=by
 refine zP call4 func4 rfl ntmps4 fun X w hT=>?_
 simp only [qh9] at h
 refine zs<|zr ?_
 refine zU<|zl<|zn<|zs<|zr ?_
 refine zU ?_
 obtain ⟨r3,h4,h⟩:=zB h
 refine zc (qog c1.T 6 _ h4) ?_
 refine zU<|zl<|zn<|zs<|zr ?_
 refine zU ?_
 obtain ⟨r5,h6,h⟩:=zB h
 refine zc (qpd (r3.1.Attrs.length:Int) c1.Rules _ h6) ?_
 refine zU<|zl<|zn<|zs<|zr ?_
 refine zU<|zl<|zn<|zs<|zs<|zr ?_
 refine zU<|zl<|zn<|zb ?_
 obtain ⟨w7,h8,h⟩:=zB h
 refine zO (fun (s:List Int×Int)=>⟨[(1,.loc 1 1 0 0),(2,.loc 2 1 0 0),(6,.loc 6 1 0 0),(7,.p (.bool r3.2)),(8,.p (.slc (vs3 qam r5.1))),(9,.p (.bool r5.2)),(10,.own 54 1 0 s.1.length),(11,.p (.int .i64 s.2))],[(1,.arr 28 5 1 [.p (qbq c1)]),(2,.arr 32 3 1 [.agg [.p (.str []),.nils,.nils]]),(6,.arr 32 3 1 [.p (qab r3.1)]),(54,.arr 2 1 1 (vs3 AV.p (vs3 (vv8 .i64) s.1)))]⟩) (fun (o9:List Int)=>tE (cX Tryz.f4 X w D hT) (.exit 0) ⟨[(2,.loc 2 1 0 0),(6,.loc 6 1 0 0),(7,.p (.bool r3.2)),(8,.p (.slc (vs3 qam r5.1))),(9,.p (.bool r5.2)),(10,.own 54 1 0 o9.length)],[(2,.arr 32 3 1 [.agg [.p (.str []),.nils,.nils]]),(6,.arr 32 3 1 [.p (qab r3.1)]),(54,.arr 2 1 1 (vs3 AV.p (vs3 (vv8 .i64) o9)))]⟩) h8 ?_ ?_
 clear h h4 h6 h8
 intro s x h
 obtain ⟨w10,i11⟩:=s
 simp only [qeh] at h
 dsimp only
 refine zs<|zs<|zr ?_
 refine zU ?_
 obtain ⟨h12,h⟩|⟨h12,h⟩:=zI h
 refine zw 32 true ?_
 refine zg ?_
 refine zg ?_
 refine zg ?_
 refine zg ?_
 refine zU<|zl<|zn ?_
 obtain ⟨h13,h⟩|⟨h13,h⟩:=zI h
 refine zi<|zk<|zn<|zs<|zb<|zd ?_
 obtain ⟨h14,h⟩:=qiv h
 obtain ⟨x15,h16,h16a,h16b,h⟩:=zX h
 obtain ⟨h17,h⟩:=qaf h
 refine yU ?_
 refine yd<|yn<|zn<|zr ?_
 refine zU<|zl ?_
 cases h
 exact ⟨rfl,zE⟩
 refine zj<|zx<|ze ?_
 cases h
 exact ⟨rfl,zE⟩
 refine zw 32 false ?_
 refine zh ?_
 refine zU<|zl<|zn ?_
 refine zj<|zx<|ze ?_
 cases h
 exact ⟨rfl,zE⟩
 try simp only at h
 refine zA<|yh<|zn<|zs<|zr ?_
 refine zU ?_
 obtain ⟨h18,h⟩|⟨h18,h⟩:=zI h
 replace h:=h.symm
 refine zw 59 true ?_
 refine zg ?_
 refine zU<|zl<|zn<|zq ?_
 cases h
 exact zT results4
 refine zw 59 false ?_
 refine zh ?_
 refine zU<|zl<|zn<|zq ?_
 cases h
 exact zT results4
theorem qhu {D:Prop} (x:Int) (r:Int) (h:qe7 x=some r):Con D Tryz.prog 182 [(.int .u32 x)] (.int .i64 r):=by
 obtain ⟨hx,h⟩:=qaf h
 obtain ⟨n,rfl⟩:=vuk hx.1
 have hn:n < 4294967296:=by omega
 replace h:=vtu h
 subst h
 rw [Int.toNat_natCast]
 refine zP call182 func182 rfl ntmps182 fun X w hT=>?_
 refine zs<|zr ?_
 refine zU<|zl<|zn ?_
 by_cases h0:n=0
 subst h0
 refine zs<|zs<|zr ?_
 refine zU<|zl<|zn ?_
 refine zi<|zs<|zr ?_
 refine zU<|zl<|zn<|zq<|zt ?_
 exact zT results182
 have hb:((n:Int) == 0)=false:=by simp;omega
 refine zs<|zs<|zr ?_
 refine zU<|zl<|zn ?_
 refine zj<|zk<|zn<|zs<|zr ?_
 refine zW 6 ?_
 refine zTab (g:=0) (x:=.tmp 10) (k:=.u32) (tzI n) (by kernel_rfl) underlying339 (vey n) (by simp only [go_sem,seval, *];exact vmg h0 hn) ?_
 have hw:=@q8m n
 refine zU<|zl<|zn<|zq ?_
 have ht:vjq n=qkg.getD (tzI n) 0:=if_neg h0
 rw [ht]
 exact zT results182
theorem vpc (a b:List UInt8) (w:World):(callFunc 275 #[.string ⟨a.toArray⟩,.string ⟨b.toArray⟩]).run Tryz.prog w=.ok (.value (.int .i64 (vuq a b))) w:=by
  rw [run_callFunc_extern func275 (by kernel_rfl) (by kernel_rfl) (by kernel_rfl) (e:=Extern.BytealgCompare.compare) (by kernel_rfl),Lib.run_compareString];rfl
theorem qlf {D:Prop} (a1:List UInt8) (b2:List UInt8) (r3:Int) (h:qew a1 b2=some r3):Con D Tryz.prog 271 [(.str a1),(.str b2)] (.int .i64 r3):=by
 refine zP call271 func271 rfl ntmps271 fun X w hT=>?_
 simp only [qew] at h
 refine zs<|zr ?_
 refine zU<|zl<|zn<|zs<|zr ?_
 refine zU ?_
 refine vg9 (vpc a1 b2) (by simp only [go_sem,seval];all_goals ((repeat' refine vv5 ?_ ?_) <;> first | rfl | (simp;done) | (simp;rfl) | (simp [*];done) | (simp [*];rfl))) (by simp only [go_sem,seval];all_goals ((repeat' refine vv5 ?_ ?_) <;> first | rfl | (simp;done) | (simp;rfl) | (simp [*];done) | (simp [*];rfl))) rfl ?_
 refine zU<|zl<|zn<|zq ?_
 cases h
 exact zT results271
theorem qkb {D:Prop} (a1:List UInt8) (b2:List UInt8) (r3:Int) (h:qgs a1 b2=some r3):Con D Tryz.prog 258 [(.str a1),(.str b2)] (.int .i64 r3):=by
 refine zP call258 func258 rfl ntmps258 fun X w hT=>?_
 simp only [qgs] at h
 refine zs<|zr ?_
 refine zU<|zl<|zn<|zs<|zr ?_
 refine zU ?_
 obtain ⟨r4,h5,h⟩:=zB h
 refine zc (qlf a1 b2 _ h5) ?_
 refine zU<|zl<|zn<|zq ?_
 cases h
 exact zT results258
theorem vaz:q9j Tryz.prog qwj:=by
  intro k t ps r h1 h2;unfold qwj at h1;by_cases hk:k=258
  · subst hk
    simp only [Nat.beq_refl,cond_true,vr1] at h1;subst h1;dsimp only at h2;split at h2
    · rename_i x y
      cases h2;have c:∀D,Con D Tryz.prog 258 [(.str x),(.str y)] (.int .i64 (vuq x y)):=fun D=>qkb x y _ rfl
      exact ⟨(c True).1,fun D=>(c D).2⟩
    · cases h2
  · have:Nat.beq k 258=false:=vsd.2 fun h=>hk (vv6 h)
    rw [this,cond_false] at h1;by_cases hk:k=182
    · subst hk
      simp only [Nat.beq_refl,cond_true,vr1] at h1;subst h1;dsimp only at h2;split at h2
      · rename_i n
        split at h2
        · rename_i hn
          cases h2;have c:∀D,Con D Tryz.prog 182 [.int .u32 n] (.int .i64 (vjq n.toNat)):=fun D=>qhu n _ (if_pos hn)
          exact ⟨(c True).1,fun D=>(c D).2⟩
        · cases h2
      · cases h2
    · have:Nat.beq k 182=false:=vsd.2 fun h=>hk (vv6 h)
      rw [this,cond_false] at h1;cases h1
theorem run5 {D:Prop}:ven D Tryz.prog 5 [] (.bool true):=vonG (by decide +kernel) mixed vaz vcv
theorem qje {D:Prop} (r:Bool) (h:qhi=some r):Con D Tryz.prog 5 [] (.bool r):=by
 cases h;exact ⟨call5,run5⟩
theorem qho {D:Prop} (t1:Table) (m2:Int) (r3:List Int) (h:qd9 t1 m2=some r3):Con D Tryz.prog 7 [(qab t1),(.int .i64 m2)] (.slc (vs3 (vv8 .i64) r3)):=by
 refine zP call7 func7 rfl ntmps7 fun X w hT=>?_
 simp only [qd9] at h
 refine zs<|zr ?_
 refine zU<|zl<|zn<|zs<|zr ?_
 refine zU<|zl<|zn<|zs<|zs<|zr ?_
 refine zU<|zl<|zn<|zb ?_
 obtain ⟨o4,h5,h⟩:=zB h
 refine zO (fun (s:List Int×Int)=>⟨[(1,.p (.int .i64 m2)),(5,.own 25 1 0 s.1.length),(9,.p (.slc (vs3 qai t1.Rows))),(10,.p (.int .i64 (t1.Rows.length:Int))),(11,.p (.int .i64 s.2))],[(25,.arr 2 1 1 (vs3 AV.p (vs3 (vv8 .i64) s.1)))]⟩) (fun (o6:List Int)=>tE (cX Tryz.f7 X w D hT) (.exit 0) ⟨[(5,.own 25 1 0 o6.length)],[(25,.arr 2 1 1 (vs3 AV.p (vs3 (vv8 .i64) o6)))]⟩) h5 ?_ ?_
 clear h h5
 intro s x h
 obtain ⟨o7,t8⟩:=s
 simp only [qeu] at h
 dsimp only
 refine zs<|zr ?_
 refine zU<|zl<|zn<|zs ?_
 obtain ⟨h9,h⟩|⟨h9,h⟩:=zI h
 refine zi<|zk<|zn<|zs<|zb<|zs<|zr ?_
 obtain ⟨x10,h11,h11a,h11b,h⟩:=zX h
 refine zU<|zl<|zn<|zs<|zr ?_
 obtain ⟨h12,h⟩:=qiv h
 refine zU<|zl<|zn ?_
 obtain ⟨h13,h⟩|⟨h13,h⟩:=zI h
 refine zi<|zr ?_
 obtain ⟨h14,h⟩:=qaf h
 refine zU<|zl<|yn<|zn<|zr ?_
 refine zU<|zl ?_
 cases h
 exact ⟨rfl,zE⟩
 refine zj<|zk<|yn<|zn<|zr ?_
 refine zU<|zl ?_
 cases h
 exact ⟨rfl,zE⟩
 refine zj<|zx<|ze ?_
 cases h
 exact ⟨rfl,zE⟩
 try simp only at h
 refine zA<|yh<|zn<|zs<|zr ?_
 refine zU<|zl<|zn<|zq ?_
 cases h
 exact zT results7
theorem qmt {D:Prop} (s1:List UInt8) (r2:Bool) (h:qhr s1=some r2):Con D Tryz.prog 54 [(.str s1)] (.bool r2):=by
 refine zP call54 func54 rfl ntmps54 fun X w hT=>?_
 simp only [qhr] at h
 refine zs<|zr ?_
 refine zU<|zl<|zn<|zs<|zs<|zr ?_
 refine zU ?_
 obtain ⟨h3,h⟩|⟨h3,h⟩:=zI h
 refine zw 8 true ?_
 refine zh ?_
 refine zU ?_
 refine zh ?_
 refine zU<|zl<|zn ?_
 refine zi<|zs<|zr ?_
 refine zU<|zl<|zn<|zq<|zt ?_
 cases h
 exact zT results54
 refine zw 8 false ?_
 refine zg ?_
 refine zg ?_
 refine zg ?_
 refine zU ?_
 obtain ⟨h4,h⟩|⟨h4,h⟩:=zI h
 refine zw 13 true ?_
 refine zh ?_
 refine zU<|zl<|zn ?_
 refine zi<|zs<|zr ?_
 refine zU<|zl<|zn<|zq<|zt ?_
 cases h
 exact zT results54
 refine zw 13 false ?_
 refine zg ?_
 refine zg ?_
 refine zU<|zl<|zn ?_
 obtain ⟨h5,h⟩|⟨h5,h⟩:=zI h
 refine zi<|zs<|zr ?_
 refine zU<|zl<|zn<|zq<|zt ?_
 cases h
 exact zT results54
 refine zj<|zk<|zn<|zs<|zs<|zr ?_
 refine zU<|zl<|zn<|zb ?_
 obtain ⟨o6,h7,h⟩:=zB h
 refine zO (fun (s:Int)=>⟨[(0,.p (.str s1)),(18,.p (.int .i64 (s1.length:Int))),(19,.p (.int .i64 s))],[]⟩) (fun (o:(Unit) ⊕ (Bool))=>match o with | .inl o8=>tE (cX Tryz.f54 X w D hT) (.exit 0) ⟨[],[]⟩ | .inr o9=>tR Tryz.prog Tryz.f54 (.bool o9)) h7 ?_ ?_
 clear h h3 h4 h5 h7
 intro t10 x h
 simp only [qff] at h
 refine zs<|zr ?_
 refine zU<|zl<|zn<|zs ?_
 obtain ⟨h11,h⟩|⟨h11,h⟩:=zI h
 refine zi<|zk<|zn<|zs<|zb<|zs<|zr ?_
 refine zU<|zl<|zn<|zs<|zr ?_
 obtain ⟨c12,h13,h13a,h13b,h⟩:=zX h
 refine zU<|zl<|zn ?_
 obtain ⟨l14,h15,h⟩:=zB h
 refine zJ (fun (o16:Bool)=>tE (cX Tryz.f54 X w D hT) .normal ⟨[(0,.p (.str s1)),(3,.p (.int .i64 t10)),(4,.p (.int .u8 ((c12.toNat:Nat):Int))),(5,.p (.bool o16)),(18,.p (.int .i64 (s1.length:Int))),(19,.p (.int .i64 t10))],[]⟩) l14 ?_ ?_
 replace h:=h15
 clear h15
 refine zr ?_
 refine zU ?_
 obtain ⟨h17,h⟩|⟨h17,h⟩:=zI h
 refine zw 27 true ?_
 refine zg ?_
 refine zg ?_
 refine zU ?_
 obtain ⟨h18,h⟩|⟨h18,h⟩:=zI h
 refine zw 31 true ?_
 refine zh ?_
 refine zU ?_
 refine zh ?_
 refine zU<|zl ?_
 cases h
 exact ⟨rfl,zE⟩
 refine zw 31 false ?_
 refine zg ?_
 refine zg ?_
 refine zg ?_
 obtain ⟨h19,h⟩|⟨h19,h⟩:=zI h
 refine zw 34 true ?_
 refine zg ?_
 refine zg ?_
 refine zg ?_
 refine zU ?_
 obtain ⟨h20,h⟩|⟨h20,h⟩:=zI h
 refine zw 39 true ?_
 refine zh ?_
 refine zU<|zl ?_
 cases h
 exact ⟨rfl,zE⟩
 replace h:=h.symm
 refine zw 39 false ?_
 refine zg ?_
 refine zg ?_
 refine zU<|zl ?_
 cases h
 exact ⟨rfl,zE⟩
 replace h:=h.symm
 refine zw 34 false ?_
 refine zh ?_
 refine zg ?_
 refine zU ?_
 refine zg ?_
 refine zg ?_
 refine zU<|zl ?_
 cases h
 exact ⟨rfl,zE⟩
 refine zw 27 false ?_
 refine zh ?_
 refine zU ?_
 refine zg ?_
 refine zg ?_
 refine zg ?_
 obtain ⟨h21,h⟩|⟨h21,h⟩:=zI h
 refine zw 34 true ?_
 refine zg ?_
 refine zg ?_
 refine zg ?_
 refine zU ?_
 obtain ⟨h22,h⟩|⟨h22,h⟩:=zI h
 refine zw 39 true ?_
 refine zh ?_
 refine zU<|zl ?_
 cases h
 exact ⟨rfl,zE⟩
 replace h:=h.symm
 refine zw 39 false ?_
 refine zg ?_
 refine zg ?_
 refine zU<|zl ?_
 cases h
 exact ⟨rfl,zE⟩
 replace h:=h.symm
 refine zw 34 false ?_
 refine zh ?_
 refine zg ?_
 refine zU ?_
 refine zg ?_
 refine zg ?_
 refine zU<|zl ?_
 cases h
 exact ⟨rfl,zE⟩
 try simp only at h
 refine zA<|zn<|zs<|zr ?_
 refine zU ?_
 obtain ⟨h23,h⟩|⟨h23,h⟩:=zI h
 refine zw 45 false ?_
 refine zh ?_
 refine zU<|zl<|zn ?_
 refine zj<|zk<|yn<|zn<|zr ?_
 refine zU<|zl ?_
 cases h
 exact ⟨rfl,zE⟩
 refine zw 45 true ?_
 refine zg ?_
 refine zg ?_
 refine zg ?_
 obtain ⟨h24,h⟩|⟨h24,h⟩:=zI h
 replace h:=h.symm
 refine zw 48 true ?_
 refine zh ?_
 refine zg ?_
 refine zg ?_
 refine zh ?_
 refine zg ?_
 refine zU<|zl<|zn ?_
 refine zi<|zs<|zr ?_
 refine zU<|zl<|zn<|zq<|yr<|zt ?_
 cases h
 exact ⟨rfl,zT results54⟩
 refine zw 48 false ?_
 refine zg ?_
 refine zg ?_
 refine zg ?_
 refine zg ?_
 obtain ⟨h25,h⟩|⟨h25,h⟩:=zI h
 replace h:=h.symm
 refine zw 52 true ?_
 refine zh ?_
 refine zg ?_
 refine zU<|zl<|zn ?_
 refine zi<|zs<|zr ?_
 refine zU<|zl<|zn<|zq<|yr<|zt ?_
 cases h
 exact ⟨rfl,zT results54⟩
 refine zw 52 false ?_
 refine zg ?_
 refine zg ?_
 refine zg ?_
 refine zU<|zl<|zn ?_
 obtain ⟨h26,h⟩|⟨h26,h⟩:=zI h
 refine zi<|zs<|zr ?_
 refine zU<|zl<|zn<|zq<|yr<|zt ?_
 cases h
 exact ⟨rfl,zT results54⟩
 refine zj<|zk<|yn<|zn<|zr ?_
 refine zU<|zl ?_
 cases h
 exact ⟨rfl,zE⟩
 refine zj<|zx<|ze ?_
 cases h
 exact ⟨rfl,zE⟩
 rcases o6 with ⟨⟩ | r27
 try simp only at h
 refine zA<|yh<|zn<|zs<|zr ?_
 refine zU<|zl<|zn<|zq ?_
 cases h
 exact zT results54
 try simp only at h
 refine zZ fun s hq=>?_
 refine yr<|zt ?_
 cases h
 exact hq
theorem qmi {D:Prop} (s1:List (List UInt8)) (v2:List UInt8) (r3:Int) (h:qea s1 v2=some r3):Con D Tryz.prog 114 [(.slc (vs3 vv9 s1)),(.str v2)] (.int .i64 r3):=by
 refine zP call114 func114 rfl ntmps114 fun X w hT=>?_
 simp only [qea] at h
 refine zs<|zr ?_
 refine zU<|zl<|zn<|zs<|zs<|zr ?_
 refine zU<|zl<|zn<|zb ?_
 obtain ⟨o4,h5,h⟩:=zB h
 refine zO (fun (s:Int)=>⟨[(0,.p (.slc (vs3 vv9 s1))),(1,.p (.str v2)),(7,.p (.int .i64 (s1.length:Int))),(8,.p (.int .i64 s))],[]⟩) (fun (o:(Unit) ⊕ (Int))=>match o with | .inl o6=>tE (cX Tryz.f114 X w D hT) (.exit 0) ⟨[],[]⟩ | .inr o7=>tR Tryz.prog Tryz.f114 (.int .i64 o7)) h5 ?_ ?_
 clear h h5
 intro t8 x h
 simp only [qb6] at h
 refine zs<|zr ?_
 refine zU<|zl<|zn<|zs ?_
 obtain ⟨h9,h⟩|⟨h9,h⟩:=zI h
 refine zi<|zk<|zn<|zs<|zb<|zs<|zr ?_
 refine zU<|zl<|zn<|zs<|zr ?_
 obtain ⟨x10,h11,h11a,h11b,h⟩:=zX h
 refine zU<|zl<|zn ?_
 obtain ⟨h12,h⟩|⟨h12,h⟩:=zI h
 refine zi<|zs<|zr ?_
 refine zU<|zl<|zn<|zq<|yr<|zt ?_
 cases h
 exact ⟨rfl,zT results114⟩
 refine zj<|zk<|yn<|zn<|zr ?_
 refine zU<|zl ?_
 cases h
 exact ⟨rfl,zE⟩
 refine zj<|zx<|ze ?_
 cases h
 exact ⟨rfl,zE⟩
 rcases o4 with ⟨⟩ | r13
 try simp only at h
 refine zA<|yh<|zn<|zs<|zr ?_
 refine zU<|zl<|zn<|zq ?_
 cases h
 exact zT results114
 try simp only at h
 refine zZ fun s hq=>?_
 refine yr<|zt ?_
 cases h
 exact hq
theorem qko {D:Prop} (s1:List (List UInt8)) (v2:List UInt8) (r3:Bool) (h:qc4 s1 v2=some r3):Con D Tryz.prog 55 [(.slc (vs3 vv9 s1)),(.str v2)] (.bool r3):=by
 refine zP call55 func55 rfl ntmps55 fun X w hT=>?_
 simp only [qc4] at h
 refine zs<|zr ?_
 refine zU<|zl<|zn<|zs<|zr ?_
 refine zU ?_
 obtain ⟨r4,h5,h⟩:=zB h
 refine zc (qmi s1 v2 _ h5) ?_
 refine zU<|zl<|zn<|zq ?_
 cases h
 exact zT results55
theorem qkp {D:Prop} (s1:List Value) (f2:Value→Option (Bool)) (f2_k:FuncId) (f2_cs:List PV) (f2_h:∀(y3:Value) (r4:Bool),f2 y3=some r4→Con D Tryz.prog f2_k ((qaz y3) :: f2_cs) (.bool r4)) (r5:Int) (h:qc5 s1 f2=some r5):Con D Tryz.prog 181 [(.slc (vs3 qaz s1)),.func (.func f2_k) f2_cs] (.int .i64 r5):=by
 refine zP call181 func181 rfl ntmps181 fun X w hT=>?_
 simp only [qc5] at h
 refine zs<|zr ?_
 refine zU<|zl<|zn<|zs<|zs<|zr ?_
 refine zU<|zl<|zn<|zb ?_
 obtain ⟨o6,h7,h⟩:=zB h
 refine zO (fun (s:Int)=>⟨[(0,.p (.slc (vs3 qaz s1))),(1,.p (.func (.func f2_k) f2_cs)),(7,.p (.int .i64 (s1.length:Int))),(8,.p (.int .i64 s))],[]⟩) (fun (o:(Unit) ⊕ (Int))=>match o with | .inl o8=>tE (cX Tryz.f181 X w D hT) (.exit 0) ⟨[],[]⟩ | .inr o9=>tR Tryz.prog Tryz.f181 (.int .i64 o9)) h7 ?_ ?_
 clear h h7
 intro t10 x h
 simp only [qbi] at h
 refine zs<|zr ?_
 refine zU<|zl<|zn<|zs ?_
 obtain ⟨h11,h⟩|⟨h11,h⟩:=zI h
 refine zi<|zk<|zn<|zs<|zb<|zs<|zr ?_
 refine zU<|zl<|zn<|zs<|zr ?_
 obtain ⟨x12,h13,h13a,h13b,h⟩:=zX h
 refine zU ?_
 obtain ⟨r14,h15,h⟩:=zB h
 refine zc (f2_h x12 _ h15) ?_
 refine zl<|zn ?_
 obtain ⟨h16,h⟩|⟨h16,h⟩:=zI h
 refine zi<|zs<|zr ?_
 refine zU<|zl<|zn<|zq<|yr<|zt ?_
 cases h
 exact ⟨rfl,zT results181⟩
 refine zj<|zk<|yn<|zn<|zr ?_
 refine zU<|zl ?_
 cases h
 exact ⟨rfl,zE⟩
 refine zj<|zx<|ze ?_
 cases h
 exact ⟨rfl,zE⟩
 rcases o6 with ⟨⟩ | r17
 try simp only at h
 refine zA<|yh<|zn<|zs<|zr ?_
 refine zU<|zl<|zn<|zq ?_
 cases h
 exact zT results181
 try simp only at h
 refine zZ fun s hq=>?_
 refine yr<|zt ?_
 cases h
 exact hq
theorem qi7 {D:Prop} (s1:List Value) (f2:Value→Option (Bool)) (f2_k:FuncId) (f2_cs:List PV) (f2_h:∀(y3:Value) (r4:Bool),f2 y3=some r4→Con D Tryz.prog f2_k ((qaz y3) :: f2_cs) (.bool r4)) (r5:Bool) (h:qcc s1 f2=some r5):Con D Tryz.prog 115 [(.slc (vs3 qaz s1)),.func (.func f2_k) f2_cs] (.bool r5):=by
 refine zP call115 func115 rfl ntmps115 fun X w hT=>?_
 simp only [qcc] at h
 refine zs<|zr ?_
 refine zU<|zl<|zn<|zs<|zr ?_
 refine zU ?_
 obtain ⟨r6,h7,h⟩:=zB h
 refine zc (qkp s1 f2 f2_k f2_cs f2_h _ h7) ?_
 refine zU<|zl<|zn<|zq ?_
 cases h
 exact zT results115
theorem qkc {D:Prop} (v1:Value) (r2:Bool) (h:qhm v1=some r2):Con D Tryz.prog 117 [(qaz v1)] (.bool r2):=by
 refine zP call117 func117 rfl ntmps117 fun X w hT=>?_
 simp only [qhm] at h
 refine zs<|zr ?_
 refine zU<|zl<|zn<|zs<|zs<|zr ?_
 refine zU<|zl<|zn<|zb<|zs<|zr ?_
 refine zU<|zl<|zn ?_
 obtain ⟨h3,h⟩|⟨h3,h⟩:=zI h
 refine zi<|zs<|zr ?_
 refine zU ?_
 obtain ⟨h4,h⟩|⟨h4,h⟩:=zI h
 replace h:=h.symm
 refine zw 10 true ?_
 refine zg ?_
 refine zg ?_
 refine zg ?_
 refine zU<|zl<|zn<|zq<|yr<|zt ?_
 cases h
 exact zT results117
 refine zw 10 false ?_
 refine zh ?_
 refine zU<|zl<|zn<|zq<|yr<|zt ?_
 cases h
 exact zT results117
 refine zj<|zs<|zr ?_
 refine zU<|zl<|zn ?_
 obtain ⟨h5,h⟩|⟨h5,h⟩:=zI h
 refine zi<|zs<|zr ?_
 refine zU<|zl<|zn<|zq<|yr<|zt ?_
 cases h
 exact zT results117
 refine zj<|zs<|zr ?_
 refine zU<|zl<|zn ?_
 obtain ⟨h6,h⟩|⟨h6,h⟩:=zI h
 refine zi<|zs<|zr ?_
 refine zU ?_
 obtain ⟨h7,h⟩|⟨h7,h⟩:=zI h
 replace h:=h.symm
 refine zw 25 true ?_
 refine zg ?_
 refine zg ?_
 refine zg ?_
 refine zg ?_
 refine zU<|zl<|zn<|zq<|yr<|zt ?_
 cases h
 exact zT results117
 refine zw 25 false ?_
 refine zh ?_
 refine zU<|zl<|zn<|zq<|yr<|zt ?_
 cases h
 exact zT results117
 refine zj<|zs<|zr ?_
 refine zU<|zl<|zn ?_
 obtain ⟨h8,h⟩|⟨h8,h⟩:=zI h
 refine zi<|zs<|zr ?_
 refine zU ?_
 obtain ⟨h9,h⟩|⟨h9,h⟩:=zI h
 replace h:=h.symm
 refine zw 36 true ?_
 refine zg ?_
 refine zg ?_
 refine zg ?_
 refine zU<|zl<|zn<|zq<|yr<|zt ?_
 cases h
 exact zT results117
 refine zw 36 false ?_
 refine zh ?_
 refine zU<|zl<|zn<|zq<|yr<|zt ?_
 cases h
 exact zT results117
 refine zj<|zk<|yn<|zn<|zs<|zr ?_
 refine zU<|zl<|zn<|zq ?_
 cases h
 exact zT results117
theorem qmj {D:Prop} (v1:Value) (r2:Bool) (h:qc9 v1=some r2):Con D Tryz.prog 116 [(qaz v1)] (.bool r2):=by
 refine zP call116 func116 rfl ntmps116 fun X w hT=>?_
 simp only [qc9] at h
 refine zs<|zr ?_
 refine zU<|zl<|zn<|zs<|zr ?_
 refine zU ?_
 obtain ⟨r3,h4,h⟩:=zB h
 refine zc (qkc v1 _ h4) ?_
 refine zU<|zl<|zn<|zq ?_
 cases h
 exact zT results116
theorem qnw {D:Prop} (l1:List Value) (r2:Bool) (h:qfg l1=some r2):Con D Tryz.prog 56 [(.slc (vs3 qaz l1))] (.bool r2):=by
 refine zP call56 func56 rfl ntmps56 fun X w hT=>?_
 simp only [qfg] at h
 refine zs<|zr ?_
 refine zU<|zl<|zn<|zs<|zr ?_
 refine zU ?_
 obtain ⟨r3,h4,h⟩:=zB h
 refine zc (qi7 l1 (fun (y5:Value)=>qc9 y5) 116 [] (fun y5 r h=>qmj y5 r h) _ h4) ?_
 refine zU<|zl<|zn<|zq ?_
 cases h
 exact zT results56
theorem qig {D:Prop} (t1:Table) (r2:Int) (h:qgq t1=some r2):Con D Tryz.prog 21 [(qab t1)] (.int .i64 r2):=by
 refine zP call21 func21 rfl ntmps21 fun X w hT=>?_
 simp only [qgq] at h
 refine zs<|zr ?_
 refine zU<|zl<|zn<|zs<|zs<|zr ?_
 refine zU ?_
 obtain ⟨r3,h4,h⟩:=zB h
 refine zc (qmt t1.Name _ h4) ?_
 refine zU<|zl<|zn ?_
 obtain ⟨h5,h⟩|⟨h5,h⟩:=zI h
 refine zj<|zk<|zn<|zs<|zs<|zr ?_
 refine zU ?_
 obtain ⟨h6,h⟩|⟨h6,h⟩:=zI h
 refine zw 16 true ?_
 refine zh ?_
 refine zU<|zl<|zn ?_
 refine zi<|zs<|zr ?_
 refine zU<|zl<|zn<|zq<|zt ?_
 cases h
 exact zT results21
 refine zw 16 false ?_
 refine zg ?_
 refine zg ?_
 refine zg ?_
 refine zg ?_
 refine zU<|zl<|zn ?_
 obtain ⟨h7,h⟩|⟨h7,h⟩:=zI h
 refine zi<|zs<|zr ?_
 refine zU<|zl<|zn<|zq<|zt ?_
 cases h
 exact zT results21
 refine zj<|zk<|zn<|zs<|zs<|zr ?_
 refine zU<|zl<|zn<|zb ?_
 obtain ⟨o8,h9,h⟩:=zB h
 refine zO (fun (s:Int)=>⟨[(1,.loc 1 1 0 0),(23,.p (.slc (vs3 vv9 t1.Attrs))),(24,.p (.int .i64 (t1.Attrs.length:Int))),(25,.p (.int .i64 s))],[(1,.arr 32 3 1 [.p (qab t1)])]⟩) (fun (o:(Unit) ⊕ (Int))=>match o with | .inl o10=>tE (cX Tryz.f21 X w D hT) (.exit 0) ⟨[(1,.loc 1 1 0 0)],[(1,.arr 32 3 1 [.p (qab t1)])]⟩ | .inr o11=>tR Tryz.prog Tryz.f21 (.int .i64 o11)) h9 ?_ ?_
 clear h h4 h5 h6 h7 h9
 intro t12 x h
 simp only [qgc] at h
 refine zs<|zr ?_
 refine zU<|zl<|zn<|zs ?_
 obtain ⟨h13,h⟩|⟨h13,h⟩:=zI h
 refine zi<|zk<|zn<|zs<|zb<|zs<|zr ?_
 obtain ⟨x14,h15,h15a,h15b,h⟩:=zX h
 refine zU<|zl<|zn<|zs<|zr ?_
 refine zU ?_
 obtain ⟨r16,h17,h⟩:=zB h
 refine zc (qmt x14 _ h17) ?_
 refine zU ?_
 obtain ⟨h18,h⟩|⟨h18,h⟩:=zI h
 refine zw 33 false ?_
 refine zg ?_
 refine zg ?_
 refine zg ?_
 obtain ⟨h19,h⟩:=qaf h
 obtain ⟨h20,h⟩:=qaf h
 refine zg ?_
 refine zg ?_
 obtain ⟨r21,h22,h⟩:=zB h
 refine zc (qko (t1.Attrs.take (t12.toNat)) x14 _ h22) ?_
 refine zU<|zl<|zn ?_
 obtain ⟨h23,h⟩|⟨h23,h⟩:=zI h
 refine zi<|zs<|zr ?_
 refine zU<|zl<|zn<|zq<|yr<|zt ?_
 cases h
 exact ⟨rfl,zT results21⟩
 refine zj<|zk<|yn<|zn<|zr ?_
 refine zU<|zl ?_
 cases h
 exact ⟨rfl,zE⟩
 refine zw 33 true ?_
 refine zh ?_
 refine zU<|zl<|zn ?_
 refine zi<|zs<|zr ?_
 refine zU<|zl<|zn<|zq<|yr<|zt ?_
 cases h
 exact ⟨rfl,zT results21⟩
 refine zj<|zx<|ze ?_
 cases h
 exact ⟨rfl,zE⟩
 rcases o8 with ⟨⟩ | r24
 try simp only at h
 refine zA<|yh<|zn<|zs<|zr ?_
 refine zU<|zl<|zn<|zs<|zs<|zr ?_
 refine zU<|zl<|zn<|zb ?_
 obtain ⟨o25,h26,h⟩:=zB h
 refine zO (fun (s:Int×Int)=>⟨[(1,.loc 1 1 0 0),(5,.p (.int .i64 s.1)),(43,.p (.slc (vs3 qai t1.Rows))),(44,.p (.int .i64 (t1.Rows.length:Int))),(45,.p (.int .i64 s.2))],[(1,.arr 32 3 1 [.p (qab t1)])]⟩) (fun (o:(Unit) ⊕ (Int))=>match o with | .inl o27=>tE (cX Tryz.f21 X w D hT) (.exit 2) ⟨[],[]⟩ | .inr o28=>tR Tryz.prog Tryz.f21 (.int .i64 o28)) h26 ?_ ?_
 clear h h4 h5 h6 h7 h9 h26
 intro s x h
 obtain ⟨l29,t30⟩:=s
 simp only [qhc] at h
 dsimp only
 refine zs<|zr ?_
 refine zU<|zl<|zn<|zs ?_
 obtain ⟨h31,h⟩|⟨h31,h⟩:=zI h
 refine zi<|zk<|zn<|zs<|zb<|zs<|zr ?_
 obtain ⟨x32,h33,h33a,h33b,h⟩:=zX h
 refine zU<|zl<|zn<|zs<|zb<|zs<|zr ?_
 refine zU<|zl<|zn ?_
 obtain ⟨h34,h⟩|⟨h34,h⟩:=zI h
 refine zi<|zs<|zr ?_
 refine zU<|zl<|zn<|zq<|yr<|zt<|yr<|zt ?_
 cases h
 exact ⟨rfl,zT results21⟩
 refine zj<|zs<|zr ?_
 refine zU<|zl<|zn ?_
 obtain ⟨h35,h⟩|⟨h35,h⟩:=zI h
 refine zi<|zs<|zr ?_
 refine zU<|zl<|zn<|zq<|yr<|zt<|yr<|zt ?_
 cases h
 exact ⟨rfl,zT results21⟩
 refine zj<|zs<|zr ?_
 refine zU ?_
 obtain ⟨r36,h37,h⟩:=zB h
 refine zc (qnw x32.Values _ h37) ?_
 refine zU<|zl<|zn ?_
 obtain ⟨h38,h⟩|⟨h38,h⟩:=zI h
 refine zj<|zk<|yn<|zn<|zr ?_
 refine zU<|zl<|yn<|zn<|zr ?_
 refine zU<|zl ?_
 cases h
 exact ⟨rfl,zE⟩
 refine zi<|zs<|zr ?_
 refine zU<|zl<|zn<|zq<|yr<|zt<|yr<|zt ?_
 cases h
 exact ⟨rfl,zT results21⟩
 refine zj<|zx<|ze ?_
 cases h
 exact ⟨rfl,zE⟩
 rcases o25 with ⟨⟩ | r39
 try simp only at h
 refine zA<|yh<|zn<|zs<|zr ?_
 refine zU<|zl<|zn<|zq ?_
 cases h
 exact zT results21
 try simp only at h
 refine zZ fun s hq=>?_
 refine yr<|zt ?_
 cases h
 exact hq
 try simp only at h
 refine zZ fun s hq=>?_
 refine yr<|zt ?_
 cases h
 exact hq
 refine zi<|zs<|zr ?_
 refine zU<|zl<|zn<|zq<|zt ?_
 cases h
 exact zT results21
theorem qrp {D:Prop} (n1:Int) (f2:List FD) (r3:Int) (h:qia n1 f2=some r3):Con D Tryz.prog 94 [(.int .i64 n1),(.slc (vs3 qof f2))] (.int .i64 r3):=by
 refine zP call94 func94 rfl ntmps94 fun X w hT=>?_
 simp only [qia] at h
 refine zs<|zr ?_
 refine zU<|zl<|zn<|zs<|zs<|zr ?_
 refine zU ?_
 obtain ⟨h4,h⟩|⟨h4,h⟩:=zI h
 refine zw 9 true ?_
 refine zh ?_
 refine zU<|zl<|zn ?_
 refine zi<|zs<|zr ?_
 refine zU<|zl<|zn<|zq<|zt ?_
 cases h
 exact zT results94
 refine zw 9 false ?_
 refine zg ?_
 refine zg ?_
 refine zU<|zl<|zn ?_
 obtain ⟨h5,h⟩|⟨h5,h⟩:=zI h
 refine zi<|zs<|zr ?_
 refine zU<|zl<|zn<|zq<|zt ?_
 cases h
 exact zT results94
 refine zj<|zk<|zn<|zs<|zs<|zr ?_
 refine zU<|zl<|zn ?_
 obtain ⟨h6,h⟩|⟨h6,h⟩:=zI h
 refine zi<|zs<|zr ?_
 refine zU<|zl<|zn<|zq<|zt ?_
 cases h
 exact zT results94
 refine zj<|zk<|zn<|zs<|zs<|zr ?_
 refine zU<|zl<|zn<|zb ?_
 obtain ⟨o7,h8,h⟩:=zB h
 refine zO (fun (s:Int)=>⟨[(0,.p (.int .i64 n1)),(16,.p (.slc (vs3 qof f2))),(17,.p (.int .i64 (f2.length:Int))),(18,.p (.int .i64 s))],[]⟩) (fun (o:(Unit) ⊕ (Int))=>match o with | .inl o9=>tE (cX Tryz.f94 X w D hT) (.exit 0) ⟨[],[]⟩ | .inr o10=>tR Tryz.prog Tryz.f94 (.int .i64 o10)) h8 ?_ ?_
 clear h h4 h5 h6 h8
 intro t11 x h
 simp only [qei] at h
 refine zs<|zr ?_
 refine zU<|zl<|zn<|zs ?_
 obtain ⟨h12,h⟩|⟨h12,h⟩:=zI h
 refine zi<|zk<|zn<|zs<|zb<|zs<|zr ?_
 obtain ⟨x13,h14,h14a,h14b,h⟩:=zX h
 refine zU<|zl<|zn<|zs<|zr ?_
 obtain ⟨h15,h⟩:=qiv h
 refine zU<|zl<|zn ?_
 obtain ⟨h16,h⟩|⟨h16,h⟩:=zI h
 refine zi<|zs<|zr ?_
 refine zU<|zl<|zn<|zq<|yr<|zt ?_
 cases h
 exact ⟨rfl,zT results94⟩
 refine zj<|zk<|yn<|zn<|zr ?_
 refine zU<|zl ?_
 cases h
 exact ⟨rfl,zE⟩
 refine zj<|zx<|ze ?_
 cases h
 exact ⟨rfl,zE⟩
 rcases o7 with ⟨⟩ | r17
 try simp only at h
 refine zA<|yh<|zn<|zs<|zr ?_
 refine zU<|zl<|zn<|zq ?_
 cases h
 exact zT results94
 try simp only at h
 refine zZ fun s hq=>?_
 refine yr<|zt ?_
 cases h
 exact hq
theorem qkd {D:Prop} (s1:Int) (r2:List Int) (h:qfh s1=some r2):Con D Tryz.prog 118 [(.int .u32 s1)] (.slc (vs3 (vv8 .i64) r2)):=by
 refine zP call118 func118 rfl ntmps118 fun X w hT=>?_
 simp only [qfh] at h
 refine zs<|zr ?_
 refine zU<|zl<|zn<|zs<|zr ?_
 refine zU<|zl<|zn<|zs<|zb ?_
 obtain ⟨o3,h4,h⟩:=zB h
 refine zO (fun (s:Int×List Int)=>⟨[(0,.p (.int .u32 s.1)),(3,.own 14 1 0 s.2.length)],[(14,.arr 3 1 1 (vs3 AV.p (vs3 (vv8 .i64) s.2)))]⟩) (fun (o5:List Int)=>tE (cX Tryz.f118 X w D hT) (.exit 0) ⟨[(3,.own 14 1 0 o5.length)],[(14,.arr 3 1 1 (vs3 AV.p (vs3 (vv8 .i64) o5)))]⟩) h4 ?_ ?_
 clear h h4
 intro s x h
 obtain ⟨s6,o7⟩:=s
 simp only [qev] at h
 dsimp only
 refine zs<|zs<|zr ?_
 refine zU<|zl<|zn ?_
 obtain ⟨h8,h⟩|⟨h8,h⟩:=zI h
 refine zi<|zk<|zn<|zs<|zb<|zr ?_
 refine zU ?_
 obtain ⟨r9,h10,h⟩:=zB h
 refine zc (qhu s6 _ h10) ?_
 obtain ⟨h11,h⟩:=qaf h
 refine zU<|zl<|yn<|zn<|zr ?_
 refine zU<|zl ?_
 cases h
 exact ⟨rfl,zE⟩
 refine zj<|zx<|ze ?_
 cases h
 exact ⟨rfl,zE⟩
 try simp only at h
 refine zA<|yh<|zn<|zs<|zr ?_
 refine zU<|zl<|zn<|zq ?_
 cases h
 exact zT results118
theorem qqn {D:Prop} (v1:Int) (a2:Int) (r3:Term) (h:qp7 v1 a2=some r3):Con D Tryz.prog 183 [(.int .i64 v1),(.int .i64 a2)] (qle r3):=by
 refine zP call183 func183 rfl ntmps183 fun X w hT=>?_
 simp only [qp7] at h
 refine zs<|zr ?_
 refine zU<|zl<|zn<|zs<|zr ?_
 refine zU<|zl<|zn<|zq ?_
 cases h
 exact zT results183
theorem qnx {D:Prop} (o1:Int) (a2:Int) (r3:Atom) (h:qj4 o1 a2=some r3):Con D Tryz.prog 119 [(.int .i64 o1),(.int .i64 a2)] (qcp r3):=by
 refine zP call119 func119 rfl ntmps119 fun X w hT=>?_
 simp only [qj4] at h
 refine zs<|zr ?_
 refine zU<|zl<|zn<|zs<|zr ?_
 refine zU ?_
 obtain ⟨r4,h5,h⟩:=zB h
 refine zc (qqn 1 a2 _ h5) ?_
 refine zU ?_
 obtain ⟨r6,h7,h⟩:=zB h
 refine zc (qqn 2 a2 _ h7) ?_
 refine zU<|zl<|zn<|zq ?_
 cases h
 exact zT results119
theorem qrq {D:Prop} (n1:Int) (f2:FD) (r3:List Denial×Int) (h:qib n1 f2=some r3):Con D Tryz.prog 57 [(.int .i64 n1),(qof f2)] (.tup [(.slc (vs3 qac r3.1)),(.int .i64 r3.2)]):=by
 refine zP call57 func57 rfl ntmps57 fun X w hT=>?_
 simp only [qib] at h
 refine zs<|zr ?_
 refine zU<|zl<|zn<|zs<|zs<|zr ?_
 refine zU ?_
 obtain ⟨r4,h5,h⟩:=zB h
 refine zc (qrp n1 [f2] _ h5) ?_
 refine zU<|zl<|zn<|zs<|zr ?_
 refine zU<|zl<|zn ?_
 obtain ⟨h6,h⟩|⟨h6,h⟩:=zI h
 refine zi<|zs<|zr ?_
 refine zU<|zl<|zn<|zq<|zt ?_
 cases h
 exact zT results57
 refine zj<|zk<|zn<|zs<|zr ?_
 refine zU<|zl<|zn<|zs<|zs<|zr ?_
 refine zU ?_
 obtain ⟨r7,h8,h⟩:=zB h
 refine zc (qkd (IntKind.u32.wrap ((BitVec.ofInt 32 f2.Rhs &&& ~~~ (BitVec.ofInt 32 f2.Lhs)).toNat:Int)) _ h8) ?_
 refine zU<|zl<|zn<|zb ?_
 obtain ⟨o9,h10,h⟩:=zB h
 refine zO (fun (s:List Denial×Int)=>⟨[(3,.loc 3 1 0 0),(7,.own 58 1 0 s.1.length),(25,.p (.slc (vs3 (vv8 .i64) r7))),(26,.p (.int .i64 (r7.length:Int))),(27,.p (.int .i64 s.2))],[(3,.arr 65 2 1 [.p (qof f2)]),(58,.arr 89 2 1 (vs3 AV.p (vs3 qac s.1)))]⟩) (fun (o11:List Denial)=>tE (cX Tryz.f57 X w D hT) (.exit 0) ⟨[(7,.own 58 1 0 o11.length)],[(58,.arr 89 2 1 (vs3 AV.p (vs3 qac o11)))]⟩) h10 ?_ ?_
 clear h h5 h6 h8 h10
 intro s x h
 obtain ⟨o12,t13⟩:=s
 simp only [qf4] at h
 dsimp only
 refine zs<|zr ?_
 refine zU<|zl<|zn<|zs ?_
 obtain ⟨h14,h⟩|⟨h14,h⟩:=zI h
 refine zi<|zk<|zn<|zs<|zb<|zs<|zr ?_
 obtain ⟨x15,h16,h16a,h16b,h⟩:=zX h
 refine zU<|zl<|zn<|zs<|zr ?_
 refine zU<|zl<|zn<|zs<|zs<|zr ?_
 refine zU ?_
 obtain ⟨r17,h18,h⟩:=zB h
 refine zc (qkd f2.Lhs _ h18) ?_
 refine zU<|zl<|zn<|zb ?_
 obtain ⟨d19,h20,h⟩:=zB h
 refine zO (fun (s:List Atom×Int)=>⟨[(3,.loc 3 1 0 0),(7,.own 58 1 0 o12.length),(9,.p (.int .i64 x15)),(10,.loc 10 1 0 0),(25,.p (.slc (vs3 (vv8 .i64) r7))),(26,.p (.int .i64 (r7.length:Int))),(27,.p (.int .i64 t13)),(34,.p (.slc (vs3 (vv8 .i64) r17))),(35,.p (.int .i64 (r17.length:Int))),(36,.p (.int .i64 s.2))],[(3,.arr 65 2 1 [.p (qof f2)]),(10,.arr 89 2 1 [.agg [.p (.int .i64 2),.own 45 1 0 s.1.length]]),(45,.arr 232 11 1 (vs3 AV.p (vs3 qcp s.1))),(58,.arr 89 2 1 (vs3 AV.p (vs3 qac o12)))]⟩) (fun (o21:List Atom)=>tE (cX Tryz.f57 X w D hT) (.exit 2) ⟨[(3,.loc 3 1 0 0),(7,.own 58 1 0 o12.length),(9,.p (.int .i64 x15)),(10,.loc 10 1 0 0),(25,.p (.slc (vs3 (vv8 .i64) r7))),(26,.p (.int .i64 (r7.length:Int))),(27,.p (.int .i64 t13))],[(3,.arr 65 2 1 [.p (qof f2)]),(10,.arr 89 2 1 [.agg [.p (.int .i64 2),.own 45 1 0 o21.length]]),(45,.arr 232 11 1 (vs3 AV.p (vs3 qcp o21))),(58,.arr 89 2 1 (vs3 AV.p (vs3 qac o12)))]⟩) h20 ?_ ?_
 clear h h14 h16 h16a h16b h18 h20
 intro s x h
 obtain ⟨d22,t23⟩:=s
 simp only [qej] at h
 dsimp only
 refine zs<|zr ?_
 refine zU<|zl<|zn<|zs ?_
 obtain ⟨h24,h⟩|⟨h24,h⟩:=zI h
 refine zi<|zk<|zn<|zs<|zb<|zs<|zr ?_
 obtain ⟨x25,h26,h26a,h26b,h⟩:=zX h
 refine zU<|zl<|zn<|zd ?_
 refine yU ?_
 obtain ⟨r27,h28,h⟩:=zB h
 refine yc (qnx 1 x25 _ h28) ?_
 obtain ⟨h29,h⟩:=qaf h
 refine yU ?_
 refine yd<|yn<|zn<|zr ?_
 refine zU<|zl ?_
 cases h
 exact ⟨rfl,zE⟩
 refine zj<|zx<|ze ?_
 cases h
 exact ⟨rfl,zE⟩
 try simp only at h
 refine zA<|yh<|zn<|zs<|zd ?_
 refine yU ?_
 obtain ⟨r30,h31,h⟩:=zB h
 refine yc (qnx 2 x15 _ h31) ?_
 obtain ⟨h32,h⟩:=qaf h
 refine yU ?_
 refine yd<|zn<|zr ?_
 refine zW 3 ?_
 refine zM ⟨[(3,.loc 3 1 0 0),(25,.p (.slc (vs3 (vv8 .i64) r7))),(26,.p (.int .i64 (r7.length:Int))),(27,.p (.int .i64 t13)),(55,.own 58 1 0 o12.length),(57,.own 57 1 0 1)],[(3,.arr 65 2 1 [.p (qof f2)]),(57,.arr 89 2 1 [.p (.agg [.int .i64 2,.slc (vs3 qcp (d19++[r30]))])]),(58,.arr 89 2 1 (vs3 AV.p (vs3 qac o12)))]⟩ ?_
 obtain ⟨h33,h⟩:=qaf h
 refine zU<|zl<|yn<|zn<|zr ?_
 refine zU<|zl ?_
 cases h
 exact ⟨rfl,zE⟩
 refine zj<|zx<|ze ?_
 cases h
 exact ⟨rfl,zE⟩
 try simp only at h
 refine zA<|yh<|zn<|zs<|zr ?_
 refine zU<|zl<|zn<|zq ?_
 cases h
 exact zT results57
theorem qlg {D:Prop} (s1:List Atom) (f2:Atom→Option (Bool)) (f2_k:FuncId) (f2_cs:List PV) (f2_h:∀(y3:Atom) (r4:Bool),f2 y3=some r4→Con D Tryz.prog f2_k ((qcp y3) :: f2_cs) (.bool r4)) (r5:Int) (h:qdm s1 f2=some r5):Con D Tryz.prog 184 [(.slc (vs3 qcp s1)),.func (.func f2_k) f2_cs] (.int .i64 r5):=by
 refine zP call184 func184 rfl ntmps184 fun X w hT=>?_
 simp only [qdm] at h
 refine zs<|zr ?_
 refine zU<|zl<|zn<|zs<|zs<|zr ?_
 refine zU<|zl<|zn<|zb ?_
 obtain ⟨o6,h7,h⟩:=zB h
 refine zO (fun (s:Int)=>⟨[(0,.p (.slc (vs3 qcp s1))),(1,.p (.func (.func f2_k) f2_cs)),(7,.p (.int .i64 (s1.length:Int))),(8,.p (.int .i64 s))],[]⟩) (fun (o:(Unit) ⊕ (Int))=>match o with | .inl o8=>tE (cX Tryz.f184 X w D hT) (.exit 0) ⟨[],[]⟩ | .inr o9=>tR Tryz.prog Tryz.f184 (.int .i64 o9)) h7 ?_ ?_
 clear h h7
 intro t10 x h
 simp only [qbs] at h
 refine zs<|zr ?_
 refine zU<|zl<|zn<|zs ?_
 obtain ⟨h11,h⟩|⟨h11,h⟩:=zI h
 refine zi<|zk<|zn<|zs<|zb<|zs<|zr ?_
 refine zU<|zl<|zn<|zs<|zr ?_
 obtain ⟨x12,h13,h13a,h13b,h⟩:=zX h
 refine zU ?_
 obtain ⟨r14,h15,h⟩:=zB h
 refine zc (f2_h x12 _ h15) ?_
 refine zl<|zn ?_
 obtain ⟨h16,h⟩|⟨h16,h⟩:=zI h
 refine zi<|zs<|zr ?_
 refine zU<|zl<|zn<|zq<|yr<|zt ?_
 cases h
 exact ⟨rfl,zT results184⟩
 refine zj<|zk<|yn<|zn<|zr ?_
 refine zU<|zl ?_
 cases h
 exact ⟨rfl,zE⟩
 refine zj<|zx<|ze ?_
 cases h
 exact ⟨rfl,zE⟩
 rcases o6 with ⟨⟩ | r17
 try simp only at h
 refine zA<|yh<|zn<|zs<|zr ?_
 refine zU<|zl<|zn<|zq ?_
 cases h
 exact zT results184
 try simp only at h
 refine zZ fun s hq=>?_
 refine yr<|zt ?_
 cases h
 exact hq
theorem qjp {D:Prop} (s1:List Atom) (f2:Atom→Option (Bool)) (f2_k:FuncId) (f2_cs:List PV) (f2_h:∀(y3:Atom) (r4:Bool),f2 y3=some r4→Con D Tryz.prog f2_k ((qcp y3) :: f2_cs) (.bool r4)) (r5:Bool) (h:qcm s1 f2=some r5):Con D Tryz.prog 120 [(.slc (vs3 qcp s1)),.func (.func f2_k) f2_cs] (.bool r5):=by
 refine zP call120 func120 rfl ntmps120 fun X w hT=>?_
 simp only [qcm] at h
 refine zs<|zr ?_
 refine zU<|zl<|zn<|zs<|zr ?_
 refine zU ?_
 obtain ⟨r6,h7,h⟩:=zB h
 refine zc (qlg s1 f2 f2_k f2_cs f2_h _ h7) ?_
 refine zU<|zl<|zn<|zq ?_
 cases h
 exact zT results120
theorem qjf {D:Prop} (n1:Int) (v2:Int) (t3:Term) (r4:Bool) (h:qek n1 v2 t3=some r4):Con D Tryz.prog 122 [(.int .i64 n1),(.int .i64 v2),(qle t3)] (.bool r4):=by
 refine zP call122 func122 rfl ntmps122 fun X w hT=>?_
 simp only [qek] at h
 refine zs<|zr ?_
 refine zU<|zl<|zn<|zs<|zs<|zr ?_
 refine zU<|zl<|zn ?_
 obtain ⟨h5,h⟩|⟨h5,h⟩:=zI h
 refine zi<|zs<|zr ?_
 refine zU ?_
 obtain ⟨h6,h⟩|⟨h6,h⟩:=zI h
 refine zw 13 true ?_
 refine zg ?_
 refine zg ?_
 obtain ⟨r7,h8,h⟩:=zB h
 refine zc (qkc t3.Value _ h8) ?_
 refine zU<|zl<|zn<|zq<|zt ?_
 cases h
 exact zT results122
 refine zw 13 false ?_
 refine zh ?_
 refine zU<|zl<|zn<|zq<|zt ?_
 cases h
 exact zT results122
 refine zj<|zk<|zn<|zs<|zr ?_
 refine zU ?_
 obtain ⟨h9,h⟩|⟨h9,h⟩:=zI h
 refine zw 21 true ?_
 refine zg ?_
 refine zg ?_
 refine zg ?_
 refine zg ?_
 refine zU ?_
 obtain ⟨h10,h⟩|⟨h10,h⟩:=zI h
 refine zw 27 true ?_
 refine zg ?_
 refine zg ?_
 refine zg ?_
 refine zU ?_
 obtain ⟨h11,h⟩|⟨h11,h⟩:=zI h
 refine zw 32 true ?_
 refine zg ?_
 refine zg ?_
 refine zg ?_
 refine zg ?_
 refine zU ?_
 obtain ⟨h12,h⟩|⟨h12,h⟩:=zI h
 replace h:=h.symm
 refine zw 38 true ?_
 refine zg ?_
 refine zg ?_
 refine zg ?_
 refine zg ?_
 refine zU<|zl<|zn<|zq ?_
 cases h
 exact zT results122
 refine zw 38 false ?_
 refine zh ?_
 refine zU<|zl<|zn<|zq ?_
 cases h
 exact zT results122
 refine zw 32 false ?_
 refine zh ?_
 refine zU ?_
 refine zh ?_
 refine zU<|zl<|zn<|zq ?_
 cases h
 exact zT results122
 refine zw 27 false ?_
 refine zh ?_
 refine zU ?_
 refine zh ?_
 refine zU ?_
 refine zh ?_
 refine zU<|zl<|zn<|zq ?_
 cases h
 exact zT results122
 refine zw 21 false ?_
 refine zh ?_
 refine zU ?_
 refine zh ?_
 refine zU ?_
 refine zh ?_
 refine zU ?_
 refine zh ?_
 refine zU<|zl<|zn<|zq ?_
 cases h
 exact zT results122
theorem qqo {D:Prop} (a1:Atom) (c2:Int) (c3:Denial) (r4:Bool) (h:qgd a1 c2 c3=some r4):Con D Tryz.prog 121 [(qcp a1),.imm [.int .i64 c2],.imm [.int .i64 c3.Vars,.slc (vs3 qcp c3.Atoms)]] (.bool r4):=by
 refine zP call121 func121 rfl ntmps121 fun X w hT=>?_
 simp only [qgd] at h
 refine zs<|zr ?_
 refine zU<|zl<|zn<|zs<|zr ?_
 refine zU ?_
 obtain ⟨h5,h⟩|⟨h5,h⟩:=zI h
 refine zw 8 true ?_
 refine zh ?_
 refine zU ?_
 refine zh ?_
 refine zU ?_
 refine zh ?_
 refine zU<|zl<|zn<|zq ?_
 cases h
 exact zT results121
 refine zw 8 false ?_
 refine zg ?_
 refine zg ?_
 refine zg ?_
 refine zU ?_
 obtain ⟨h6,h⟩|⟨h6,h⟩:=zI h
 refine zw 13 true ?_
 refine zh ?_
 refine zU ?_
 refine zh ?_
 refine zU<|zl<|zn<|zq ?_
 cases h
 exact zT results121
 refine zw 13 false ?_
 refine zg ?_
 refine zg ?_
 refine zg ?_
 refine zg ?_
 refine zg ?_
 obtain ⟨r7,h8,h⟩:=zB h
 refine zc (qjf c2 c3.Vars a1.Left _ h8) ?_
 refine zg ?_
 refine zU ?_
 obtain ⟨h9,h⟩|⟨h9,h⟩:=zI h
 refine zw 22 false ?_
 refine zg ?_
 refine zg ?_
 refine zg ?_
 refine zg ?_
 refine zg ?_
 obtain ⟨r10,h11,h⟩:=zB h
 replace h:=h.symm
 refine zc (qjf c2 c3.Vars a1.Right _ h11) ?_
 refine zg ?_
 refine zU<|zl<|zn<|zq ?_
 cases h
 exact zT results121
 refine zw 22 true ?_
 refine zh ?_
 refine zU<|zl<|zn<|zq ?_
 cases h
 exact zT results121
theorem qmu {D:Prop} (n1:Int) (d2:Denial) (r3:Bool) (h:qhs n1 d2=some r3):Con D Tryz.prog 58 [(.int .i64 n1),(qac d2)] (.bool r3):=by
 refine zP call58 func58 rfl ntmps58 fun X w hT=>?_
 simp only [qhs] at h
 refine zs<|zr ?_
 refine zU<|zl<|zn<|zs<|zs<|zr ?_
 refine zU ?_
 obtain ⟨h4,h⟩|⟨h4,h⟩:=zI h
 refine zw 8 true ?_
 refine zh ?_
 refine zU ?_
 refine zh ?_
 refine zU<|zl<|zn ?_
 refine zi<|zs<|zr ?_
 refine zU<|zl<|zn<|zq<|zt ?_
 cases h
 exact zT results58
 refine zw 8 false ?_
 refine zg ?_
 refine zg ?_
 refine zg ?_
 refine zU ?_
 obtain ⟨h5,h⟩|⟨h5,h⟩:=zI h
 refine zw 13 true ?_
 refine zh ?_
 refine zU<|zl<|zn ?_
 refine zi<|zs<|zr ?_
 refine zU<|zl<|zn<|zq<|zt ?_
 cases h
 exact zT results58
 refine zw 13 false ?_
 refine zg ?_
 refine zg ?_
 refine zg ?_
 refine zg ?_
 refine zU<|zl<|zn ?_
 obtain ⟨h6,h⟩|⟨h6,h⟩:=zI h
 refine zi<|zs<|zr ?_
 refine zU<|zl<|zn<|zq<|zt ?_
 cases h
 exact zT results58
 refine zj<|zk<|zn<|zs<|zr ?_
 refine zU ?_
 obtain ⟨r7,h8,h⟩:=zB h
 refine zc (qjp d2.Atoms (fun (y9:Atom)=>qgd y9 n1 d2) 121 [.imm [.int .i64 n1],.imm [.int .i64 d2.Vars,.slc (vs3 qcp d2.Atoms)]] (fun y9 r h=>qqo y9 n1 d2 r h) _ h8) ?_
 refine zU<|zl<|zn<|zq ?_
 cases h
 exact zT results58
theorem qlh {D:Prop} (s1:List Cell) (f2:Cell→Option (Bool)) (f2_k:FuncId) (f2_cs:List PV) (f2_h:∀(y3:Cell) (r4:Bool),f2 y3=some r4→Con D Tryz.prog f2_k ((qdw y3) :: f2_cs) (.bool r4)) (r5:Int) (h:qdn s1 f2=some r5):Con D Tryz.prog 185 [(.slc (vs3 qdw s1)),.func (.func f2_k) f2_cs] (.int .i64 r5):=by
 refine zP call185 func185 rfl ntmps185 fun X w hT=>?_
 simp only [qdn] at h
 refine zs<|zr ?_
 refine zU<|zl<|zn<|zs<|zs<|zr ?_
 refine zU<|zl<|zn<|zb ?_
 obtain ⟨o6,h7,h⟩:=zB h
 refine zO (fun (s:Int)=>⟨[(0,.p (.slc (vs3 qdw s1))),(1,.p (.func (.func f2_k) f2_cs)),(7,.p (.int .i64 (s1.length:Int))),(8,.p (.int .i64 s))],[]⟩) (fun (o:(Unit) ⊕ (Int))=>match o with | .inl o8=>tE (cX Tryz.f185 X w D hT) (.exit 0) ⟨[],[]⟩ | .inr o9=>tR Tryz.prog Tryz.f185 (.int .i64 o9)) h7 ?_ ?_
 clear h h7
 intro t10 x h
 simp only [qbt] at h
 refine zs<|zr ?_
 refine zU<|zl<|zn<|zs ?_
 obtain ⟨h11,h⟩|⟨h11,h⟩:=zI h
 refine zi<|zk<|zn<|zs<|zb<|zs<|zr ?_
 refine zU<|zl<|zn<|zs<|zr ?_
 obtain ⟨x12,h13,h13a,h13b,h⟩:=zX h
 refine zU ?_
 obtain ⟨r14,h15,h⟩:=zB h
 refine zc (f2_h x12 _ h15) ?_
 refine zl<|zn ?_
 obtain ⟨h16,h⟩|⟨h16,h⟩:=zI h
 refine zi<|zs<|zr ?_
 refine zU<|zl<|zn<|zq<|yr<|zt ?_
 cases h
 exact ⟨rfl,zT results185⟩
 refine zj<|zk<|yn<|zn<|zr ?_
 refine zU<|zl ?_
 cases h
 exact ⟨rfl,zE⟩
 refine zj<|zx<|ze ?_
 cases h
 exact ⟨rfl,zE⟩
 rcases o6 with ⟨⟩ | r17
 try simp only at h
 refine zA<|yh<|zn<|zs<|zr ?_
 refine zU<|zl<|zn<|zq ?_
 cases h
 exact zT results185
 try simp only at h
 refine zZ fun s hq=>?_
 refine yr<|zt ?_
 cases h
 exact hq
theorem qjq {D:Prop} (s1:List Cell) (f2:Cell→Option (Bool)) (f2_k:FuncId) (f2_cs:List PV) (f2_h:∀(y3:Cell) (r4:Bool),f2 y3=some r4→Con D Tryz.prog f2_k ((qdw y3) :: f2_cs) (.bool r4)) (r5:Bool) (h:qcn s1 f2=some r5):Con D Tryz.prog 123 [(.slc (vs3 qdw s1)),.func (.func f2_k) f2_cs] (.bool r5):=by
 refine zP call123 func123 rfl ntmps123 fun X w hT=>?_
 simp only [qcn] at h
 refine zs<|zr ?_
 refine zU<|zl<|zn<|zs<|zr ?_
 refine zU ?_
 obtain ⟨r6,h7,h⟩:=zB h
 refine zc (qlh s1 f2 f2_k f2_cs f2_h _ h7) ?_
 refine zU<|zl<|zn<|zq ?_
 cases h
 exact zT results123
theorem qmk {D:Prop} (p1:Cell) (r2:Bool) (h:qda p1=some r2):Con D Tryz.prog 124 [(qdw p1)] (.bool r2):=by
 refine zP call124 func124 rfl ntmps124 fun X w hT=>?_
 simp only [qda] at h
 refine zs<|zr ?_
 refine zU<|zl<|zn<|zs<|zr ?_
 refine zU ?_
 obtain ⟨h3,h⟩|⟨h3,h⟩:=zI h
 refine zw 5 true ?_
 refine zg ?_
 refine zg ?_
 refine zg ?_
 refine zg ?_
 refine zU ?_
 obtain ⟨h4,h⟩|⟨h4,h⟩:=zI h
 replace h:=h.symm
 refine zw 11 false ?_
 refine zg ?_
 refine zg ?_
 refine zg ?_
 refine zg ?_
 refine zw 15 false ?_
 refine zh ?_
 refine zg ?_
 refine zU<|zl<|zn<|zq ?_
 cases h
 exact zT results124
 refine zw 11 true ?_
 refine zh ?_
 refine zU<|zl<|zn<|zq ?_
 cases h
 exact zT results124
 refine zw 5 false ?_
 refine zh ?_
 refine zU ?_
 refine zg ?_
 refine zg ?_
 refine zg ?_
 refine zg ?_
 refine zw 15 true ?_
 refine zg ?_
 refine zg ?_
 obtain ⟨r5,h6,h⟩:=zB h
 replace h:=h.symm
 refine zc (qkc p1.Value _ h6) ?_
 refine zg ?_
 refine zg ?_
 refine zU<|zl<|zn<|zq ?_
 cases h
 exact zT results124
theorem qi1 {D:Prop} (n1:Int) (c2:CFD) (r3:Bool) (h:qd1 n1 c2=some r3):Con D Tryz.prog 59 [(.int .i64 n1),(qgk c2)] (.bool r3):=by
 refine zP call59 func59 rfl ntmps59 fun X w hT=>?_
 simp only [qd1] at h
 refine zs<|zr ?_
 refine zU<|zl<|zn<|zs<|zs<|zr ?_
 refine zU ?_
 obtain ⟨h4,h⟩|⟨h4,h⟩:=zI h
 refine zw 10 true ?_
 refine zh ?_
 refine zU ?_
 refine zh ?_
 refine zU ?_
 refine zh ?_
 refine zU ?_
 refine zh ?_
 refine zU<|zl<|zn ?_
 refine zi<|zs<|zr ?_
 refine zU<|zl<|zn<|zq<|zt ?_
 cases h
 exact zT results59
 refine zw 10 false ?_
 refine zg ?_
 refine zg ?_
 refine zU ?_
 obtain ⟨h5,h⟩|⟨h5,h⟩:=zI h
 refine zw 14 true ?_
 refine zh ?_
 refine zU ?_
 refine zh ?_
 refine zU ?_
 refine zh ?_
 refine zU<|zl<|zn ?_
 refine zi<|zs<|zr ?_
 refine zU<|zl<|zn<|zq<|zt ?_
 cases h
 exact zT results59
 refine zw 14 false ?_
 refine zg ?_
 refine zg ?_
 refine zg ?_
 refine zU ?_
 obtain ⟨h6,h⟩|⟨h6,h⟩:=zI h
 refine zw 19 true ?_
 refine zh ?_
 refine zU ?_
 refine zh ?_
 refine zU<|zl<|zn ?_
 refine zi<|zs<|zr ?_
 refine zU<|zl<|zn<|zq<|zt ?_
 cases h
 exact zT results59
 refine zw 19 false ?_
 refine zg ?_
 refine zg ?_
 refine zg ?_
 refine zg ?_
 refine zU ?_
 obtain ⟨h7,h⟩|⟨h7,h⟩:=zI h
 refine zw 25 true ?_
 refine zh ?_
 refine zU<|zl<|zn ?_
 refine zi<|zs<|zr ?_
 refine zU<|zl<|zn<|zq<|zt ?_
 cases h
 exact zT results59
 refine zw 25 false ?_
 refine zg ?_
 refine zg ?_
 refine zg ?_
 refine zg ?_
 refine zg ?_
 refine zg ?_
 refine zg ?_
 refine zg ?_
 refine zU<|zl<|zn ?_
 obtain ⟨h8,h⟩|⟨h8,h⟩:=zI h
 refine zi<|zs<|zr ?_
 refine zU<|zl<|zn<|zq<|zt ?_
 cases h
 exact zT results59
 refine zj<|zk<|zn<|zs<|zr ?_
 refine zU<|zl<|zn<|zs<|zs<|zr ?_
 refine zU<|zl<|zn<|zb ?_
 obtain ⟨o9,h10,h⟩:=zB h
 refine zO (fun (s:Int×Int)=>⟨[(0,.p (.int .i64 n1)),(3,.loc 3 1 0 0),(5,.p (.int .i64 s.1)),(36,.p (.slc (vs3 (vv8 .i64) c2.Lhs))),(37,.p (.int .i64 (c2.Lhs.length:Int))),(38,.p (.int .i64 s.2))],[(3,.arr 84 3 1 [.p (qgk c2)])]⟩) (fun (o:(Unit) ⊕ (Bool))=>match o with | .inl o11=>tE (cX Tryz.f59 X w D hT) (.exit 0) ⟨[(3,.loc 3 1 0 0)],[(3,.arr 84 3 1 [.p (qgk c2)])]⟩ | .inr o12=>tR Tryz.prog Tryz.f59 (.bool o12)) h10 ?_ ?_
 clear h h4 h5 h6 h7 h8 h10
 intro s x h
 obtain ⟨b13,t14⟩:=s
 simp only [qa5] at h
 dsimp only
 refine zs<|zr ?_
 refine zU<|zl<|zn<|zs ?_
 obtain ⟨h15,h⟩|⟨h15,h⟩:=zI h
 refine zi<|zk<|zn<|zs<|zb<|zs<|zr ?_
 obtain ⟨x16,h17,h17a,h17b,h⟩:=zX h
 refine zU<|zl<|zn<|zs<|zs<|zr ?_
 refine zU ?_
 obtain ⟨h18,h⟩|⟨h18,h⟩:=zI h
 refine zw 45 true ?_
 refine zh ?_
 refine zU ?_
 refine zh ?_
 refine zU<|zl<|zn ?_
 refine zi<|zs<|zr ?_
 refine zU<|zl<|zn<|zq<|zt<|yr<|zt ?_
 cases h
 exact ⟨rfl,zT results59⟩
 refine zw 45 false ?_
 refine zg ?_
 refine zg ?_
 refine zg ?_
 refine zU ?_
 obtain ⟨h19,h⟩|⟨h19,h⟩:=zI h
 refine zw 50 true ?_
 refine zh ?_
 refine zU<|zl<|zn ?_
 refine zi<|zs<|zr ?_
 refine zU<|zl<|zn<|zq<|zt<|yr<|zt ?_
 cases h
 exact ⟨rfl,zT results59⟩
 refine zw 50 false ?_
 refine zg ?_
 refine zg ?_
 refine zg ?_
 refine zg ?_
 refine zU<|zl<|zn ?_
 obtain ⟨h20,h⟩|⟨h20,h⟩:=zI h
 refine zi<|zs<|zr ?_
 refine zU<|zl<|zn<|zq<|zt<|yr<|zt ?_
 cases h
 exact ⟨rfl,zT results59⟩
 refine zj<|zk<|zn<|zr ?_
 refine zU<|zl<|yn<|zn<|zr ?_
 refine zU<|zl ?_
 cases h
 exact ⟨rfl,zE⟩
 refine zj<|zx<|ze ?_
 cases h
 exact ⟨rfl,zE⟩
 rcases o9 with ⟨⟩ | r21
 try simp only at h
 refine zA<|yh<|zn<|zs<|zr ?_
 refine zU ?_
 obtain ⟨r22,h23,h⟩:=zB h
 refine zc (qjq c2.Pattern (fun (y24:Cell)=>qda y24) 124 [] (fun y24 r h=>qmk y24 r h) _ h23) ?_
 refine zU<|zl<|zn<|zq ?_
 cases h
 exact zT results59
 try simp only at h
 refine zZ fun s hq=>?_
 refine yr<|zt ?_
 cases h
 exact hq
theorem ql3 {D:Prop} (s1:List Int) (f2:Int→Option (Bool)) (f2_k:FuncId) (f2_cs:List PV) (f2_h:∀(y3:Int) (r4:Bool),f2 y3=some r4→Con D Tryz.prog f2_k ((.int .i64 y3) :: f2_cs) (.bool r4)) (r5:Int) (h:qdy s1 f2=some r5):Con D Tryz.prog 204 [(.slc (vs3 (vv8 .i64) s1)),.func (.func f2_k) f2_cs] (.int .i64 r5):=by
 refine zP call204 func204 rfl ntmps204 fun X w hT=>?_
 simp only [qdy] at h
 refine zs<|zr ?_
 refine zU<|zl<|zn<|zs<|zs<|zr ?_
 refine zU<|zl<|zn<|zb ?_
 obtain ⟨o6,h7,h⟩:=zB h
 refine zO (fun (s:Int)=>⟨[(0,.p (.slc (vs3 (vv8 .i64) s1))),(1,.p (.func (.func f2_k) f2_cs)),(7,.p (.int .i64 (s1.length:Int))),(8,.p (.int .i64 s))],[]⟩) (fun (o:(Unit) ⊕ (Int))=>match o with | .inl o8=>tE (cX Tryz.f204 X w D hT) (.exit 0) ⟨[],[]⟩ | .inr o9=>tR Tryz.prog Tryz.f204 (.int .i64 o9)) h7 ?_ ?_
 clear h h7
 intro t10 x h
 simp only [qbz] at h
 refine zs<|zr ?_
 refine zU<|zl<|zn<|zs ?_
 obtain ⟨h11,h⟩|⟨h11,h⟩:=zI h
 refine zi<|zk<|zn<|zs<|zb<|zs<|zr ?_
 refine zU<|zl<|zn<|zs<|zr ?_
 obtain ⟨x12,h13,h13a,h13b,h⟩:=zX h
 refine zU ?_
 obtain ⟨r14,h15,h⟩:=zB h
 refine zc (f2_h x12 _ h15) ?_
 refine zl<|zn ?_
 obtain ⟨h16,h⟩|⟨h16,h⟩:=zI h
 refine zi<|zs<|zr ?_
 refine zU<|zl<|zn<|zq<|yr<|zt ?_
 cases h
 exact ⟨rfl,zT results204⟩
 refine zj<|zk<|yn<|zn<|zr ?_
 refine zU<|zl ?_
 cases h
 exact ⟨rfl,zE⟩
 refine zj<|zx<|ze ?_
 cases h
 exact ⟨rfl,zE⟩
 rcases o6 with ⟨⟩ | r17
 try simp only at h
 refine zA<|yh<|zn<|zs<|zr ?_
 refine zU<|zl<|zn<|zq ?_
 cases h
 exact zT results204
 try simp only at h
 refine zZ fun s hq=>?_
 refine yr<|zt ?_
 cases h
 exact hq
theorem qgy {D:Prop} (s1:List Int) (f2:Int→Option (Bool)) (f2_k:FuncId) (f2_cs:List PV) (f2_h:∀(y3:Int) (r4:Bool),f2 y3=some r4→Con D Tryz.prog f2_k ((.int .i64 y3) :: f2_cs) (.bool r4)) (r5:Bool) (h:qb0 s1 f2=some r5):Con D Tryz.prog 150 [(.slc (vs3 (vv8 .i64) s1)),.func (.func f2_k) f2_cs] (.bool r5):=by
 refine zP call150 func150 rfl ntmps150 fun X w hT=>?_
 simp only [qb0] at h
 refine zs<|zr ?_
 refine zU<|zl<|zn<|zs<|zr ?_
 refine zU ?_
 obtain ⟨r6,h7,h⟩:=zB h
 refine zc (ql3 s1 f2 f2_k f2_cs f2_h _ h7) ?_
 refine zU<|zl<|zn<|zq ?_
 cases h
 exact zT results150
theorem qpe {D:Prop} (a1:Int) (c2:Int) (r3:Bool) (h:qfi a1 c2=some r3):Con D Tryz.prog 186 [(.int .i64 a1),.imm [.int .i64 c2]] (.bool r3):=by
 refine zP call186 func186 rfl ntmps186 fun X w hT=>?_
 simp only [qfi] at h
 refine zs<|zr ?_
 refine zU<|zl<|zn<|zs<|zr ?_
 refine zU ?_
 obtain ⟨h4,h⟩|⟨h4,h⟩:=zI h
 refine zw 6 true ?_
 refine zh ?_
 refine zU<|zl<|zn<|zq ?_
 cases h
 exact zT results186
 replace h:=h.symm
 refine zw 6 false ?_
 refine zg ?_
 refine zg ?_
 refine zg ?_
 refine zU<|zl<|zn<|zq ?_
 cases h
 exact zT results186
theorem ql4 {D:Prop} (n1:Int) (l2:List Int) (r3:Bool) (h:qgz n1 l2=some r3):Con D Tryz.prog 125 [(.int .i64 n1),(.slc (vs3 (vv8 .i64) l2))] (.bool r3):=by
 refine zP call125 func125 rfl ntmps125 fun X w hT=>?_
 simp only [qgz] at h
 refine zs<|zr ?_
 refine zU<|zl<|zn<|zs<|zr ?_
 refine zU ?_
 obtain ⟨h4,h⟩|⟨h4,h⟩:=zI h
 refine zw 8 true ?_
 refine zg ?_
 refine zg ?_
 obtain ⟨r5,h6,h⟩:=zB h
 replace h:=h.symm
 refine zc (qgy l2 (fun (y7:Int)=>qfi y7 n1) 186 [.imm [.int .i64 n1]] (fun y7 r h=>qpe y7 n1 r h) _ h6) ?_
 refine zg ?_
 refine zU<|zl<|zn<|zq ?_
 cases h
 exact zT results125
 refine zw 8 false ?_
 refine zh ?_
 refine zU<|zl<|zn<|zq ?_
 cases h
 exact zT results125
theorem qk5 {D:Prop} (n1:Int) (d2:OD) (r3:Bool) (h:qge n1 d2=some r3):Con D Tryz.prog 60 [(.int .i64 n1),(qrj d2)] (.bool r3):=by
 refine zP call60 func60 rfl ntmps60 fun X w hT=>?_
 simp only [qge] at h
 refine zs<|zr ?_
 refine zU<|zl<|zn<|zs<|zr ?_
 refine zU ?_
 obtain ⟨r4,h5,h⟩:=zB h
 refine zc (ql4 n1 d2.Lhs _ h5) ?_
 refine zU ?_
 obtain ⟨h6,h⟩|⟨h6,h⟩:=zI h
 refine zw 9 true ?_
 refine zg ?_
 refine zg ?_
 refine zg ?_
 obtain ⟨r7,h8,h⟩:=zB h
 refine zc (ql4 n1 d2.Rhs _ h8) ?_
 refine zU<|zl<|zn<|zq ?_
 cases h
 exact zT results60
 refine zw 9 false ?_
 refine zh ?_
 refine zU<|zl<|zn<|zq ?_
 cases h
 exact zT results60
theorem qih {D:Prop} (t1:Table) (c2:Constraint) (r3:List Denial×Int) (h:qas t1 c2=some r3):Con D Tryz.prog 22 [(qab t1),(qam c2)] (.tup [(.slc (vs3 qac r3.1)),(.int .i64 r3.2)]):=by
 refine zP call22 func22 rfl ntmps22 fun X w hT=>?_
 simp only [qas] at h
 refine zs<|zr ?_
 refine zU<|zl<|zn<|zs<|zr ?_
 refine zU<|zl<|zn<|zs<|zs<|zr ?_
 refine zU ?_
 obtain ⟨h4,h⟩|⟨h4,h⟩:=zI h
 refine zw 15 false ?_
 refine zg ?_
 refine zg ?_
 refine zg ?_
 refine zU ?_
 obtain ⟨h5,h⟩|⟨h5,h⟩:=zI h
 refine zw 20 true ?_
 refine zh ?_
 refine zU<|zl<|zn ?_
 refine zi<|zs<|zr ?_
 refine zU<|zl<|zn<|zq<|zt ?_
 cases h
 exact zT results22
 refine zw 20 false ?_
 refine zg ?_
 refine zg ?_
 refine zg ?_
 refine zU<|zl<|zn ?_
 obtain ⟨h6,h⟩|⟨h6,h⟩:=zI h
 refine zi<|zs<|zr ?_
 refine zU<|zl<|zn<|zq<|zt ?_
 cases h
 exact zT results22
 refine zj<|zk<|zn<|zs<|zs<|zr ?_
 refine zU<|zl<|zn<|zb<|zs<|zs<|zr ?_
 refine zU<|zl<|zn ?_
 obtain ⟨h7,h⟩|⟨h7,h⟩:=zI h
 refine zi<|zk<|zn ?_
 refine zi<|zs<|zr ?_
 refine zU<|zl<|zn<|zq<|yr<|zt ?_
 cases h
 exact zT results22
 refine zj<|zr ?_
 refine zU<|zl<|zn ?_
 obtain ⟨h8,h⟩|⟨h8,h⟩:=zI h
 refine zi<|zs<|zr ?_
 refine zU<|zl<|zn<|zq<|yr<|zt ?_
 cases h
 exact zT results22
 refine zj<|zs<|zr ?_
 refine zU<|zl<|zn ?_
 obtain ⟨h9,h⟩|⟨h9,h⟩:=zI h
 refine zi<|zs<|zs<|zr ?_
 obtain ⟨h10,h⟩:=qiv h
 refine zU<|zl<|zn ?_
 obtain ⟨h11,h⟩|⟨h11,h⟩:=zI h
 refine zi<|zs<|zr ?_
 refine zU<|zl<|zn<|zq<|zt<|yr<|zt ?_
 cases h
 exact zT results22
 refine zj<|zk<|zn<|zs<|zr ?_
 refine zU ?_
 obtain ⟨r12,h13,h⟩:=zB h
 refine zc (qrq (t1.Attrs.length:Int) c2.FD _ h13) ?_
 refine zU<|zl<|zn<|zq<|yr<|zt ?_
 cases h
 exact zT results22
 refine zj<|zs<|zr ?_
 refine zU<|zl<|zn ?_
 obtain ⟨h14,h⟩|⟨h14,h⟩:=zI h
 refine zi<|zs<|zs<|zr ?_
 refine zU ?_
 obtain ⟨r15,h16,h⟩:=zB h
 refine zc (qmu (t1.Attrs.length:Int) c2.Denial _ h16) ?_
 refine zU<|zl<|zn ?_
 obtain ⟨h17,h⟩|⟨h17,h⟩:=zI h
 refine zj<|zk<|zn<|zs<|zr ?_
 refine zU<|zl<|zn<|zq<|yr<|zt ?_
 cases h
 exact zT results22
 refine zi<|zs<|zr ?_
 refine zU<|zl<|zn<|zq<|zt<|yr<|zt ?_
 cases h
 exact zT results22
 refine zj<|zs<|zr ?_
 refine zU<|zl<|zn ?_
 obtain ⟨h18,h⟩|⟨h18,h⟩:=zI h
 refine zi<|zs<|zr ?_
 refine zU ?_
 obtain ⟨r19,h20,h⟩:=zB h
 refine zc (qi1 (t1.Attrs.length:Int) c2.CFD _ h20) ?_
 refine zU<|zl<|zn ?_
 obtain ⟨h21,h⟩|⟨h21,h⟩:=zI h
 refine zj<|zk<|yn<|zn<|zs<|zr ?_
 refine zU<|zl<|zn<|zq ?_
 cases h
 exact zT results22
 refine zi<|zs<|zr ?_
 refine zU<|zl<|zn<|zq<|yr<|zt ?_
 cases h
 exact zT results22
 refine zj<|zs<|zr ?_
 refine zU<|zl<|zn ?_
 obtain ⟨h22,h⟩|⟨h22,h⟩:=zI h
 refine zi<|zs<|zr ?_
 refine zU ?_
 obtain ⟨r23,h24,h⟩:=zB h
 refine zc (qk5 (t1.Attrs.length:Int) c2.OD _ h24) ?_
 refine zU<|zl<|zn ?_
 obtain ⟨h25,h⟩|⟨h25,h⟩:=zI h
 refine zj<|zk<|yn<|zn<|zs<|zr ?_
 refine zU<|zl<|zn<|zq ?_
 cases h
 exact zT results22
 refine zi<|zs<|zr ?_
 refine zU<|zl<|zn<|zq<|yr<|zt ?_
 cases h
 exact zT results22
 refine zj<|zk<|yn<|zn<|zs<|zr ?_
 refine zU<|zl<|zn<|zq ?_
 cases h
 exact zT results22
 refine zw 15 true ?_
 refine zh ?_
 refine zU ?_
 refine zh ?_
 refine zU<|zl<|zn ?_
 refine zi<|zs<|zr ?_
 refine zU<|zl<|zn<|zq<|zt ?_
 cases h
 exact zT results22
theorem qjg {D:Prop} (p1:Cell) (v2:Value) (r3:Bool) (h:qel p1 v2=some r3):Con D Tryz.prog 127 [(qdw p1),(qaz v2)] (.bool r3):=by
 refine zP call127 func127 rfl ntmps127 fun X w hT=>?_
 simp only [qel] at h
 refine zs<|zr ?_
 refine zU<|zl<|zn<|zs<|zr ?_
 refine zU ?_
 obtain ⟨h4,h⟩|⟨h4,h⟩:=zI h
 refine zw 7 true ?_
 refine zh ?_
 refine zU<|zl<|zn<|zq ?_
 cases h
 exact zT results127
 replace h:=h.symm
 refine zw 7 false ?_
 refine zg ?_
 refine zg ?_
 refine zg ?_
 refine zg ?_
 refine zU<|zl<|zn<|zq ?_
 cases h
 exact zT results127
theorem qoh {D:Prop} (c1:CFD) (l2:List Value) (r3:Bool) (h:qf5 c1 l2=some r3):Con D Tryz.prog 126 [(qgk c1),(.slc (vs3 qaz l2))] (.bool r3):=by
 refine zP call126 func126 rfl ntmps126 fun X w hT=>?_
 simp only [qf5] at h
 refine zs<|zr ?_
 refine zU<|zl<|zn<|zs<|zs<|zr ?_
 refine zU<|zl<|zn<|zb ?_
 obtain ⟨o4,h5,h⟩:=zB h
 refine zO (fun (s:Int)=>⟨[(1,.p (.slc (vs3 qaz l2))),(2,.loc 2 1 0 0),(8,.p (.slc (vs3 (vv8 .i64) c1.Lhs))),(9,.p (.int .i64 (c1.Lhs.length:Int))),(10,.p (.int .i64 s))],[(2,.arr 84 3 1 [.p (qgk c1)])]⟩) (fun (o:(Unit) ⊕ (Bool))=>match o with | .inl o6=>tE (cX Tryz.f126 X w D hT) (.exit 0) ⟨[],[]⟩ | .inr o7=>tR Tryz.prog Tryz.f126 (.bool o7)) h5 ?_ ?_
 clear h h5
 intro t8 x h
 simp only [qeb] at h
 refine zs<|zr ?_
 refine zU<|zl<|zn<|zs ?_
 obtain ⟨h9,h⟩|⟨h9,h⟩:=zI h
 refine zi<|zk<|zn<|zs<|zb<|zs<|zr ?_
 obtain ⟨x10,h11,h11a,h11b,h⟩:=zX h
 refine zU<|zl<|zn<|zs<|zd ?_
 obtain ⟨x12,h13,h13a,h13b,h⟩:=zX h
 obtain ⟨x14,h15,h15a,h15b,h⟩:=zX h
 refine yU ?_
 obtain ⟨r16,h17,h⟩:=zB h
 refine yc (qjg x12 x14 _ h17) ?_
 refine yU ?_
 refine yd<|zn ?_
 obtain ⟨h18,h⟩|⟨h18,h⟩:=zI h
 refine zj<|zk<|yn<|zn<|zr ?_
 refine zU<|zl ?_
 cases h
 exact ⟨rfl,zE⟩
 refine zi<|zs<|zr ?_
 refine zU<|zl<|zn<|zq<|yr<|zt ?_
 cases h
 exact ⟨rfl,zT results126⟩
 refine zj<|zx<|ze ?_
 cases h
 exact ⟨rfl,zE⟩
 rcases o4 with ⟨⟩ | r19
 try simp only at h
 refine zA<|yh<|zn<|zs<|zr ?_
 refine zU<|zl<|zn<|zq ?_
 cases h
 exact zT results126
 try simp only at h
 refine zZ fun s hq=>?_
 refine yr<|zt ?_
 cases h
 exact hq
theorem qny {D:Prop} (c1:CFD) (r2:Cell) (h:qg0 c1=some r2):Con D Tryz.prog 128 [(qgk c1)] (qdw r2):=by
 refine zP call128 func128 rfl ntmps128 fun X w hT=>?_
 simp only [qg0] at h
 refine zs<|zr ?_
 refine zU<|zl<|zn<|zs<|zr ?_
 obtain ⟨x3,h4,h4a,h4b,h⟩:=zX h
 have h4N:=vhh h4
 refine zU<|zl<|zn<|zq ?_
 cases h
 exact zT results128
theorem qmz {D:Prop} (k1:Int) (c2:List Value) (c3:List Value) (r4:Bool) (h:qbn k1 c2 c3=some r4):Con D Tryz.prog 187 [(.int .i64 k1),.imm [.slc (vs3 qaz c2)],.imm [.slc (vs3 qaz c3)]] (.bool r4):=by
 refine zP call187 func187 rfl ntmps187 fun X w hT=>?_
 simp only [qbn] at h
 refine zs<|zr ?_
 refine zU<|zl<|zn<|zs<|zd ?_
 obtain ⟨x5,h6,h6a,h6b,h⟩:=zX h
 obtain ⟨x7,h8,h8a,h8b,h⟩:=zX h
 refine yU ?_
 refine yd<|zn<|zq ?_
 cases h
 exact zT results187
theorem qjh {D:Prop} (c1:CFD) (a2:List Value) (b3:List Value) (r4:Bool) (h:qem c1 a2 b3=some r4):Con D Tryz.prog 129 [(qgk c1),(.slc (vs3 qaz a2)),(.slc (vs3 qaz b3))] (.bool r4):=by
 refine zP call129 func129 rfl ntmps129 fun X w hT=>?_
 simp only [qem] at h
 refine zs<|zr ?_
 refine zU<|zl<|zn<|zs<|zd ?_
 obtain ⟨x5,h6,h6a,h6b,h⟩:=zX h
 obtain ⟨x7,h8,h8a,h8b,h⟩:=zX h
 refine yU ?_
 obtain ⟨h9,h⟩|⟨h9,h⟩:=zI h
 refine yw 18 false ?_
 refine yk ?_
 refine yU ?_
 refine yd<|zn<|zq ?_
 cases h
 exact zT results129
 refine yw 18 true ?_
 refine yg ?_
 refine yg ?_
 refine yg ?_
 obtain ⟨r10,h11,h⟩:=zB h
 replace h:=h.symm
 refine yc (qgy c1.Lhs (fun (y12:Int)=>qbn y12 a2 b3) 187 [.imm [.slc (vs3 qaz a2)],.imm [.slc (vs3 qaz b3)]] (fun y12 r h=>qmz y12 a2 b3 r h) _ h11) ?_
 refine yg ?_
 refine yU ?_
 refine yd<|zn<|zq ?_
 cases h
 exact zT results129
theorem qkq {D:Prop} (t1:Table) (c2:CFD) (r3:List (List Int)×Int) (h:qc6 t1 c2=some r3):Con D Tryz.prog 61 [(qab t1),(qgk c2)] (.tup [(.slc (vs3 (qbh (vv8 .i64)) r3.1)),(.int .i64 r3.2)]):=by
 refine zP call61 func61 rfl ntmps61 fun X w hT=>?_
 simp only [qc6] at h
 refine zs<|zr ?_
 refine zU<|zl<|zn<|zs<|zs<|zr ?_
 refine zU ?_
 obtain ⟨r4,h5,h⟩:=zB h
 refine zc (qig t1 _ h5) ?_
 refine zU<|zl<|zn<|zs<|zr ?_
 refine zU<|zl<|zn ?_
 obtain ⟨h6,h⟩|⟨h6,h⟩:=zI h
 refine zi<|zs<|zr ?_
 refine zU<|zl<|zn<|zq<|zt ?_
 cases h
 exact zT results61
 refine zj<|zk<|zn<|zs<|zs<|zr ?_
 refine zU ?_
 obtain ⟨r7,h8,h⟩:=zB h
 refine zc (qi1 (t1.Attrs.length:Int) c2 _ h8) ?_
 refine zU<|zl<|zn ?_
 obtain ⟨h9,h⟩|⟨h9,h⟩:=zI h
 refine zj<|zk<|zn<|zs<|zr ?_
 refine zU<|zl<|zn<|zs<|zs<|zr ?_
 refine zU<|zl<|zn<|zb ?_
 obtain ⟨m10,h11,h⟩:=zB h
 refine zO (fun (s:List Row×Int)=>⟨[(3,.loc 3 1 0 0),(7,.own 41 1 0 s.1.length),(28,.p (.slc (vs3 qai t1.Rows))),(29,.p (.int .i64 (t1.Rows.length:Int))),(30,.p (.int .i64 s.2))],[(3,.arr 84 3 1 [.p (qgk c2)]),(41,.arr 62 2 1 (vs3 AV.p (vs3 qai s.1)))]⟩) (fun (o12:List Row)=>tE (cX Tryz.f61 X w D hT) (.exit 0) ⟨[(3,.loc 3 1 0 0),(7,.own 41 1 0 o12.length)],[(3,.arr 84 3 1 [.p (qgk c2)]),(41,.arr 62 2 1 (vs3 AV.p (vs3 qai o12)))]⟩) h11 ?_ ?_
 clear h h5 h6 h8 h9 h11
 intro s x h
 obtain ⟨m13,t14⟩:=s
 simp only [qcd] at h
 dsimp only
 refine zs<|zr ?_
 refine zU<|zl<|zn<|zs ?_
 obtain ⟨h15,h⟩|⟨h15,h⟩:=zI h
 refine zi<|zk<|zn<|zs<|zb<|zs<|zr ?_
 obtain ⟨x16,h17,h17a,h17b,h⟩:=zX h
 refine zU<|zl<|zn<|zs<|zr ?_
 refine zU ?_
 obtain ⟨r18,h19,h⟩:=zB h
 refine zc (qoh c2 x16.Values _ h19) ?_
 refine zl<|zn ?_
 obtain ⟨h20,h⟩|⟨h20,h⟩:=zI h
 refine zi<|zr ?_
 obtain ⟨h21,h⟩:=qaf h
 refine zU<|zl<|yn<|zn<|zr ?_
 refine zU<|zl ?_
 cases h
 exact ⟨rfl,zE⟩
 refine zj<|zk<|yn<|zn<|zr ?_
 refine zU<|zl ?_
 cases h
 exact ⟨rfl,zE⟩
 refine zj<|zx<|ze ?_
 cases h
 exact ⟨rfl,zE⟩
 try simp only at h
 refine zA<|yh<|zn<|zs<|zr ?_
 refine zU<|zl<|zn<|zs<|zs<|zr ?_
 refine zU<|zl<|zn<|zb ?_
 obtain ⟨o22,h23,h⟩:=zB h
 refine zO (fun (s:List (List Int)×List (List Int)×Int)=>⟨[(3,.loc 3 1 0 0),(7,.own 41 1 0 m10.length),(10,.own 65 1 0 s.1.length),(11,.own 88 1 0 s.2.1.length),(43,.own 41 1 0 m10.length),(44,.p (.int .i64 ((m10.length:Nat):Int))),(45,.p (.int .i64 s.2.2))],[(3,.arr 84 3 1 [.p (qgk c2)]),(41,.arr 62 2 1 (vs3 AV.p (vs3 qai m10))),(65,.arr 34 1 1 (vs3 AV.p (vs3 (qbh (vv8 .i64)) s.1))),(88,.arr 34 1 1 (vs3 AV.p (vs3 (qbh (vv8 .i64)) s.2.1)))]⟩) (fun (o24:List (List Int)×List (List Int))=>tE (cX Tryz.f61 X w D hT) (.exit 2) ⟨[(10,.own 65 1 0 o24.1.length),(11,.own 88 1 0 o24.2.length)],[(65,.arr 34 1 1 (vs3 AV.p (vs3 (qbh (vv8 .i64)) o24.1))),(88,.arr 34 1 1 (vs3 AV.p (vs3 (qbh (vv8 .i64)) o24.2)))]⟩) h23 ?_ ?_
 clear h h5 h6 h8 h9 h11 h23
 intro s x h
 obtain ⟨o25,b26,t27⟩:=s
 simp only [qce] at h
 dsimp only
 refine zs<|zr ?_
 refine zU<|zl<|zn<|zs ?_
 obtain ⟨h28,h⟩|⟨h28,h⟩:=zI h
 refine zi<|zk<|zn<|zs<|zb<|zs<|zr ?_
 obtain ⟨x29,h30,h30a,h30b,h⟩:=zX h
 refine zU<|zl<|zn<|zs<|zs<|zd ?_
 refine yU ?_
 obtain ⟨r31,h32,h⟩:=zB h
 refine yc (qny c2 _ h32) ?_
 obtain ⟨x33,h34,h34a,h34b,h⟩:=zX h
 refine yU ?_
 obtain ⟨r35,h36,h⟩:=zB h
 refine yc (qjg r31 x33 _ h36) ?_
 refine yU ?_
 refine yd<|zn ?_
 obtain ⟨h37,h⟩|⟨h37,h⟩:=zI h
 refine zj<|zk<|zn<|zs<|zr ?_
 obtain ⟨h38,h⟩:=qaf h
 obtain ⟨h39,h⟩:=qaf h
 refine zU<|zl<|zn<|zb ?_
 obtain ⟨b40,h41,h⟩:=zB h
 refine zO (fun (s:List (List Int)×Int)=>⟨[(3,.loc 3 1 0 0),(7,.own 41 1 0 m10.length),(10,.own 65 1 0 o25.length),(11,.own 88 1 0 s.1.length),(13,.loc 13 1 0 0),(43,.own 41 1 0 m10.length),(44,.p (.int .i64 ((m10.length:Nat):Int))),(45,.p (.int .i64 t27)),(69,.own 41 1 (vsg.wrap (t27+1)).toNat (m10.length - (vsg.wrap (t27+1)).toNat)),(70,.p (.int .i64 (((m10.length - (vsg.wrap (t27+1)).toNat):Nat):Int))),(71,.p (.int .i64 s.2))],[(3,.arr 84 3 1 [.p (qgk c2)]),(13,.arr 62 2 1 [.p (qai x29)]),(41,.arr 62 2 1 (vs3 AV.p (vs3 qai m10))),(65,.arr 34 1 1 (vs3 AV.p (vs3 (qbh (vv8 .i64)) o25))),(88,.arr 34 1 1 (vs3 AV.p (vs3 (qbh (vv8 .i64)) s.1)))]⟩) (fun (o42:List (List Int))=>tE (cX Tryz.f61 X w D hT) (.exit 4) ⟨[(3,.loc 3 1 0 0),(7,.own 41 1 0 m10.length),(10,.own 65 1 0 o25.length),(11,.own 88 1 0 o42.length),(43,.own 41 1 0 m10.length),(44,.p (.int .i64 ((m10.length:Nat):Int))),(45,.p (.int .i64 t27))],[(3,.arr 84 3 1 [.p (qgk c2)]),(41,.arr 62 2 1 (vs3 AV.p (vs3 qai m10))),(65,.arr 34 1 1 (vs3 AV.p (vs3 (qbh (vv8 .i64)) o25))),(88,.arr 34 1 1 (vs3 AV.p (vs3 (qbh (vv8 .i64)) o42)))]⟩) h41 ?_ ?_
 clear h h28 h30 h30a h30b h32 h34 h34a h34b h36 h37 h38 h39 h41
 intro s x h
 obtain ⟨b43,t44⟩:=s
 simp only [qbj] at h
 dsimp only
 refine zs<|zr ?_
 refine zU<|zl<|zn<|zs ?_
 obtain ⟨h45,h⟩|⟨h45,h⟩:=zI h
 refine zi<|zk<|zn<|zs<|zb<|zs<|zr ?_
 obtain ⟨x46,h47,h47a,h47b,h⟩:=zX h
 obtain ⟨h48,h48n⟩:=qpu h47
 have h48N:=eq_true (qtd h48n h47a)
 refine zU<|zl<|zn<|zs<|zr ?_
 refine zU ?_
 obtain ⟨r49,h50,h⟩:=zB h
 refine zc (qjh c2 x29.Values x46.Values _ h50) ?_
 refine zl<|zn ?_
 obtain ⟨h51,h⟩|⟨h51,h⟩:=zI h
 refine zi<|zr ?_
 refine zW 7 ?_
 refine zM ⟨[(3,.loc 3 1 0 0),(7,.own 41 1 0 m10.length),(10,.own 65 1 0 o25.length),(13,.loc 13 1 0 0),(43,.own 41 1 0 m10.length),(44,.p (.int .i64 ((m10.length:Nat):Int))),(45,.p (.int .i64 t27)),(69,.own 41 1 (vsg.wrap (t27+1)).toNat (m10.length - (vsg.wrap (t27+1)).toNat)),(70,.p (.int .i64 (((m10.length - (vsg.wrap (t27+1)).toNat):Nat):Int))),(71,.p (.int .i64 t44)),(81,.own 88 1 0 b43.length),(87,.own 87 1 0 1)],[(3,.arr 84 3 1 [.p (qgk c2)]),(13,.arr 62 2 1 [.p (qai x29)]),(41,.arr 62 2 1 (vs3 AV.p (vs3 qai m10))),(65,.arr 34 1 1 (vs3 AV.p (vs3 (qbh (vv8 .i64)) o25))),(87,.arr 34 1 1 [.p (.slc (vs3 (vv8 .i64) [x29.ID,x46.ID]))]),(88,.arr 34 1 1 (vs3 AV.p (vs3 (qbh (vv8 .i64)) b43)))]⟩ ?_
 obtain ⟨h52,h⟩:=qaf h
 refine zU<|zl<|yn<|zn<|zr ?_
 refine zU<|zl ?_
 cases h
 exact ⟨rfl,zE⟩
 refine zj<|zk<|yn<|zn<|zr ?_
 refine zU<|zl ?_
 cases h
 exact ⟨rfl,zE⟩
 refine zj<|zx<|ze ?_
 cases h
 exact ⟨rfl,zE⟩
 try simp only at h
 refine zA<|yh<|yn<|zn<|zr ?_
 refine zU<|zl ?_
 cases h
 exact ⟨rfl,zE⟩
 refine zi<|zr ?_
 refine zW 5 ?_
 refine zM ⟨[(3,.loc 3 1 0 0),(7,.own 41 1 0 m10.length),(11,.own 88 1 0 b26.length),(12,.p (.int .i64 t27)),(13,.loc 13 1 0 0),(43,.own 41 1 0 m10.length),(44,.p (.int .i64 ((m10.length:Nat):Int))),(45,.p (.int .i64 t27)),(60,.own 65 1 0 o25.length),(64,.own 64 1 0 1)],[(3,.arr 84 3 1 [.p (qgk c2)]),(13,.arr 62 2 1 [.p (qai x29)]),(41,.arr 62 2 1 (vs3 AV.p (vs3 qai m10))),(64,.arr 34 1 1 [.p (.slc (vs3 (vv8 .i64) [x29.ID]))]),(65,.arr 34 1 1 (vs3 AV.p (vs3 (qbh (vv8 .i64)) o25))),(88,.arr 34 1 1 (vs3 AV.p (vs3 (qbh (vv8 .i64)) b26)))]⟩ ?_
 obtain ⟨h53,h⟩:=qaf h
 refine zU<|zl<|zn<|zs<|zr ?_
 obtain ⟨h54,h⟩:=qaf h
 obtain ⟨h55,h⟩:=qaf h
 refine zU<|zl<|zn<|zb ?_
 obtain ⟨b56,h57,h⟩:=zB h
 refine zO (fun (s:List (List Int)×Int)=>⟨[(3,.loc 3 1 0 0),(7,.own 41 1 0 m10.length),(10,.own 65 1 0 (o25.length+1)),(11,.own 88 1 0 s.1.length),(13,.loc 13 1 0 0),(43,.own 41 1 0 m10.length),(44,.p (.int .i64 ((m10.length:Nat):Int))),(45,.p (.int .i64 t27)),(69,.own 41 1 (vsg.wrap (t27+1)).toNat (m10.length - (vsg.wrap (t27+1)).toNat)),(70,.p (.int .i64 (((m10.length - (vsg.wrap (t27+1)).toNat):Nat):Int))),(71,.p (.int .i64 s.2))],[(3,.arr 84 3 1 [.p (qgk c2)]),(13,.arr 62 2 1 [.p (qai x29)]),(41,.arr 62 2 1 (vs3 AV.p (vs3 qai m10))),(65,.arr 34 1 1 (vs3 AV.p (vs3 (qbh (vv8 .i64)) (o25++[[x29.ID]])))),(88,.arr 34 1 1 (vs3 AV.p (vs3 (qbh (vv8 .i64)) s.1)))]⟩) (fun (o58:List (List Int))=>tE (cX Tryz.f61 X w D hT) (.exit 4) ⟨[(3,.loc 3 1 0 0),(7,.own 41 1 0 m10.length),(10,.own 65 1 0 (o25.length+1)),(11,.own 88 1 0 o58.length),(43,.own 41 1 0 m10.length),(44,.p (.int .i64 ((m10.length:Nat):Int))),(45,.p (.int .i64 t27))],[(3,.arr 84 3 1 [.p (qgk c2)]),(41,.arr 62 2 1 (vs3 AV.p (vs3 qai m10))),(65,.arr 34 1 1 (vs3 AV.p (vs3 (qbh (vv8 .i64)) (o25++[[x29.ID]])))),(88,.arr 34 1 1 (vs3 AV.p (vs3 (qbh (vv8 .i64)) o58)))]⟩) h57 ?_ ?_
 clear h h28 h30 h30a h30b h32 h34 h34a h34b h36 h37 h53 h54 h55 h57
 intro s x h
 obtain ⟨b59,t60⟩:=s
 simp only [qe4] at h
 dsimp only
 refine zs<|zr ?_
 refine zU<|zl<|zn<|zs ?_
 obtain ⟨h61,h⟩|⟨h61,h⟩:=zI h
 refine zi<|zk<|zn<|zs<|zb<|zs<|zr ?_
 obtain ⟨x62,h63,h63a,h63b,h⟩:=zX h
 obtain ⟨h64,h64n⟩:=qpu h63
 have h64N:=eq_true (qtd h64n h63a)
 refine zU<|zl<|zn<|zs<|zr ?_
 refine zU ?_
 obtain ⟨r65,h66,h⟩:=zB h
 refine zc (qjh c2 x29.Values x62.Values _ h66) ?_
 refine zl<|zn ?_
 obtain ⟨h67,h⟩|⟨h67,h⟩:=zI h
 refine zi<|zr ?_
 refine zW 7 ?_
 refine zM ⟨[(3,.loc 3 1 0 0),(7,.own 41 1 0 m10.length),(10,.own 65 1 0 (o25.length+1)),(13,.loc 13 1 0 0),(43,.own 41 1 0 m10.length),(44,.p (.int .i64 ((m10.length:Nat):Int))),(45,.p (.int .i64 t27)),(69,.own 41 1 (vsg.wrap (t27+1)).toNat (m10.length - (vsg.wrap (t27+1)).toNat)),(70,.p (.int .i64 (((m10.length - (vsg.wrap (t27+1)).toNat):Nat):Int))),(71,.p (.int .i64 t60)),(81,.own 88 1 0 b59.length),(87,.own 87 1 0 1)],[(3,.arr 84 3 1 [.p (qgk c2)]),(13,.arr 62 2 1 [.p (qai x29)]),(41,.arr 62 2 1 (vs3 AV.p (vs3 qai m10))),(65,.arr 34 1 1 (vs3 AV.p (vs3 (qbh (vv8 .i64)) (o25++[[x29.ID]])))),(87,.arr 34 1 1 [.p (.slc (vs3 (vv8 .i64) [x29.ID,x62.ID]))]),(88,.arr 34 1 1 (vs3 AV.p (vs3 (qbh (vv8 .i64)) b59)))]⟩ ?_
 obtain ⟨h68,h⟩:=qaf h
 refine zU<|zl<|yn<|zn<|zr ?_
 refine zU<|zl ?_
 cases h
 exact ⟨rfl,zE⟩
 refine zj<|zk<|yn<|zn<|zr ?_
 refine zU<|zl ?_
 cases h
 exact ⟨rfl,zE⟩
 refine zj<|zx<|ze ?_
 cases h
 exact ⟨rfl,zE⟩
 try simp only at h
 refine zA<|yh<|yn<|zn<|zr ?_
 refine zU<|zl ?_
 cases h
 exact ⟨rfl,zE⟩
 refine zj<|zx<|ze ?_
 cases h
 exact ⟨rfl,zE⟩
 obtain ⟨o69,b70⟩:=o22
 try simp only at h
 refine zA<|yh<|zn<|zs<|zr ?_
 obtain ⟨h71,h⟩:=qaf h
 refine zU<|zl<|zn<|zq ?_
 cases h
 exact zT results61
 refine zi<|zs<|zr ?_
 refine zU<|zl<|zn<|zq<|zt ?_
 cases h
 exact zT results61
theorem qqp {D:Prop} (t1:Table) (o2:Int→Option (Bool)) (o2_k:FuncId) (o2_cs:List PV) (o2_h:∀(y3:Int) (r4:Bool),o2 y3=some r4→Con D Tryz.prog o2_k ((.int .i64 y3) :: o2_cs) (.bool r4)) (r5:Int) (h:qhd t1 o2=some r5):Con D Tryz.prog 130 [(qab t1),.func (.func o2_k) o2_cs] (.int .i64 r5):=by
 refine zP call130 func130 rfl ntmps130 fun X w hT=>?_
 simp only [qhd] at h
 refine zs<|zr ?_
 refine zU<|zl<|zn<|zs<|zs<|zr ?_
 refine zU ?_
 obtain ⟨r6,h7,h⟩:=zB h
 refine zc (qig t1 _ h7) ?_
 refine zU<|zl<|zn<|zs<|zr ?_
 refine zU<|zl<|zn ?_
 obtain ⟨h8,h⟩|⟨h8,h⟩:=zI h
 refine zi<|zs<|zr ?_
 refine zU<|zl<|zn<|zq<|zt ?_
 cases h
 exact zT results130
 refine zj<|zk<|zn<|zs<|zs<|zr ?_
 refine zU ?_
 obtain ⟨r9,h10,h⟩:=zB h
 refine zc (o2_h (t1.Attrs.length:Int) _ h10) ?_
 refine zU<|zl<|zn ?_
 obtain ⟨h11,h⟩|⟨h11,h⟩:=zI h
 refine zj<|zk<|zn<|zs<|zr ?_
 refine zU<|zl<|zn<|zq ?_
 cases h
 exact zT results130
 refine zi<|zs<|zr ?_
 refine zU<|zl<|zn<|zq<|zt ?_
 cases h
 exact zT results130
theorem qli {D:Prop} (n1:Int) (c2:OD) (r3:Bool) (h:qbv n1 c2=some r3):Con D Tryz.prog 131 [(.int .i64 n1),.imm [.slc (vs3 (vv8 .i64) c2.Lhs),.slc (vs3 (vv8 .i64) c2.Rhs)]] (.bool r3):=by
 refine zP call131 func131 rfl ntmps131 fun X w hT=>?_
 simp only [qbv] at h
 refine zs<|zr ?_
 refine zU<|zl<|zn<|zs<|zr ?_
 refine zU ?_
 obtain ⟨r4,h5,h⟩:=zB h
 refine zc (qk5 n1 c2 _ h5) ?_
 refine zU<|zl<|zn<|zq ?_
 cases h
 exact zT results131
theorem qfy {D:Prop} (x1:Int) (r2:Bool) (h:qct x1=some r2):Con D Tryz.prog 143 [(.int .i64 x1)] (.bool r2):=by
 refine zP call143 func143 rfl ntmps143 fun X w hT=>?_
 simp only [qct] at h
 refine zs<|zr ?_
 refine zU<|zl<|zn<|zs<|zr ?_
 refine zU<|zl<|zn<|zq ?_
 cases h
 exact zT results143
theorem qi2 {D:Prop} (x1:Int) (y2:Int) (r3:Int) (h:qd2 x1 y2=some r3):Con D Tryz.prog 139 [(.int .i64 x1),(.int .i64 y2)] (.int .i64 r3):=by
 refine zP call139 func139 rfl ntmps139 fun X w hT=>?_
 simp only [qd2] at h
 refine zs<|zr ?_
 refine zU<|zl<|zn<|zs<|zr ?_
 refine zU ?_
 obtain ⟨r4,h5,h⟩:=zB h
 refine zc (qfy x1 _ h5) ?_
 refine zU<|zl<|zn<|zs<|zr ?_
 refine zU ?_
 obtain ⟨r6,h7,h⟩:=zB h
 refine zc (qfy y2 _ h7) ?_
 refine zU<|zl<|zn<|zs<|zs<|zr ?_
 refine zU<|zl<|zn ?_
 obtain ⟨h8,h⟩|⟨h8,h⟩:=zI h
 refine zi<|zs<|zs<|zr ?_
 refine zU<|zl<|zn ?_
 obtain ⟨h9,h⟩|⟨h9,h⟩:=zI h
 refine zi<|zs<|zr ?_
 refine zU<|zl<|zn<|zq<|zt<|zt ?_
 cases h
 exact zT results139
 refine zj<|zk<|zn<|zs<|zr ?_
 refine zU<|zl<|zn<|zq<|zt ?_
 cases h
 exact zT results139
 refine zj<|zk<|zn<|zs<|zs<|zr ?_
 refine zU<|zl<|zn ?_
 obtain ⟨h10,h⟩|⟨h10,h⟩:=zI h
 refine zi<|zs<|zr ?_
 refine zU<|zl<|zn<|zq<|zt ?_
 cases h
 exact zT results139
 refine zj<|zk<|zn<|zs<|zs<|zr ?_
 refine zU<|zl<|zn ?_
 obtain ⟨h11,h⟩|⟨h11,h⟩:=zI h
 refine zi<|zs<|zr ?_
 refine zU<|zl<|zn<|zq<|zt ?_
 cases h
 exact zT results139
 refine zj<|zk<|zn<|zs<|zs<|zr ?_
 refine zU<|zl<|zn ?_
 obtain ⟨h12,h⟩|⟨h12,h⟩:=zI h
 refine zi<|zs<|zr ?_
 refine zU<|zl<|zn<|zq<|zt ?_
 cases h
 exact zT results139
 refine zj<|zk<|zn<|zs<|zr ?_
 refine zU<|zl<|zn<|zq ?_
 cases h
 exact zT results139
theorem qvu {D:Prop} (v1:List Int) (r2:Int) (h:qlu v1=some r2):Con D Tryz.prog 162 [(.slc (vs3 (vv8 .i64) v1))] (.int .i64 r2):=by
 refine zP call162 func162 rfl ntmps162 fun X w hT=>?_
 simp only [qlu] at h
 refine zs<|zr ?_
 refine zU<|zl<|zn<|zs<|zr ?_
 refine zU<|zl<|zn<|zs<|zs<|zr ?_
 refine zU<|zl<|zn<|zb ?_
 obtain ⟨o3,h4,h⟩:=zB h
 refine zO (fun (s:Int)=>⟨[(3,.p (.int .i64 0)),(6,.p (.slc (vs3 (vv8 .i64) v1))),(7,.p (.int .i64 (v1.length:Int))),(8,.p (.int .i64 s))],[]⟩) (fun (o:(Unit) ⊕ (Int))=>match o with | .inl o5=>tE (cX Tryz.f162 X w D hT) (.exit 0) ⟨[(3,.p (.int .i64 0))],[]⟩ | .inr o6=>tR Tryz.prog Tryz.f162 (.int .i64 o6)) h4 ?_ ?_
 clear h h4
 intro t7 x h
 simp only [qci] at h
 refine zs<|zr ?_
 refine zU<|zl<|zn<|zs ?_
 obtain ⟨h8,h⟩|⟨h8,h⟩:=zI h
 refine zi<|zk<|zn<|zs<|zb<|zs<|zr ?_
 obtain ⟨x9,h10,h10a,h10b,h⟩:=zX h
 refine zU<|zl<|zn<|zs<|zr ?_
 refine zU<|zl<|zn ?_
 obtain ⟨h11,h⟩|⟨h11,h⟩:=zI h
 refine zi<|zs<|zr ?_
 refine zU<|zl<|zn<|zq<|yr<|zt ?_
 cases h
 exact ⟨rfl,zT results162⟩
 refine zj<|zk<|yn<|zn<|zr ?_
 refine zU<|zl ?_
 cases h
 exact ⟨rfl,zE⟩
 refine zj<|zx<|ze ?_
 cases h
 exact ⟨rfl,zE⟩
 rcases o3 with ⟨⟩ | r12
 try simp only at h
 refine zA<|yh<|zn<|zs<|zr ?_
 refine zU<|zl<|zn<|zq ?_
 cases h
 exact zT results162
 try simp only at h
 refine zZ fun s hq=>?_
 refine yr<|zt ?_
 cases h
 exact hq
theorem ql5 {D:Prop} (x1:Int) (r2:Bool) (h:qic x1=some r2):Con D Tryz.prog 219 [(.int .i64 x1)] (.bool r2):=by
 refine zP call219 func219 rfl ntmps219 fun X w hT=>?_
 simp only [qic] at h
 refine zs<|zr ?_
 refine zU<|zl<|zn<|zs<|zr ?_
 refine zU<|zl<|zn<|zq ?_
 cases h
 exact zT results219
theorem qpf {D:Prop} (x1:Int) (y2:Int) (r3:Int) (h:qgr x1 y2=some r3):Con D Tryz.prog 163 [(.int .i64 x1),(.int .i64 y2)] (.int .i64 r3):=by
 refine zP call163 func163 rfl ntmps163 fun X w hT=>?_
 simp only [qgr] at h
 refine zs<|zr ?_
 refine zU<|zl<|zn<|zs<|zr ?_
 refine zU ?_
 obtain ⟨r4,h5,h⟩:=zB h
 refine zc (ql5 x1 _ h5) ?_
 refine zU<|zl<|zn<|zs<|zr ?_
 refine zU ?_
 obtain ⟨r6,h7,h⟩:=zB h
 refine zc (ql5 y2 _ h7) ?_
 refine zU<|zl<|zn<|zs<|zs<|zr ?_
 refine zU<|zl<|zn ?_
 obtain ⟨h8,h⟩|⟨h8,h⟩:=zI h
 refine zi<|zs<|zs<|zr ?_
 refine zU<|zl<|zn ?_
 obtain ⟨h9,h⟩|⟨h9,h⟩:=zI h
 refine zi<|zs<|zr ?_
 refine zU<|zl<|zn<|zq<|zt<|zt ?_
 cases h
 exact zT results163
 refine zj<|zk<|zn<|zs<|zr ?_
 refine zU<|zl<|zn<|zq<|zt ?_
 cases h
 exact zT results163
 refine zj<|zk<|zn<|zs<|zs<|zr ?_
 refine zU<|zl<|zn ?_
 obtain ⟨h10,h⟩|⟨h10,h⟩:=zI h
 refine zi<|zs<|zr ?_
 refine zU<|zl<|zn<|zq<|zt ?_
 cases h
 exact zT results163
 refine zj<|zk<|zn<|zs<|zs<|zr ?_
 refine zU<|zl<|zn ?_
 obtain ⟨h11,h⟩|⟨h11,h⟩:=zI h
 refine zi<|zs<|zr ?_
 refine zU<|zl<|zn<|zq<|zt ?_
 cases h
 exact zT results163
 refine zj<|zk<|zn<|zs<|zs<|zr ?_
 refine zU<|zl<|zn ?_
 obtain ⟨h12,h⟩|⟨h12,h⟩:=zI h
 refine zi<|zs<|zr ?_
 refine zU<|zl<|zn<|zq<|zt ?_
 cases h
 exact zT results163
 refine zj<|zk<|zn<|zs<|zr ?_
 refine zU<|zl<|zn<|zq ?_
 cases h
 exact zT results163
theorem ql6 {D:Prop} (a1:Value) (b2:Value) (r3:Int) (h:qg1 a1 b2=some r3):Con D Tryz.prog 221 [(qaz a1),(qaz b2)] (.int .i64 r3):=by
 refine zP call221 func221 rfl ntmps221 fun X w hT=>?_
 simp only [qg1] at h
 refine zs<|zr ?_
 refine zU<|zl<|zn<|zs<|zd ?_
 refine yU ?_
 obtain ⟨r4,h5,h⟩:=zB h
 refine yc (qpf a1.Kind b2.Kind _ h5) ?_
 refine yU ?_
 obtain ⟨r6,h7,h⟩:=zB h
 refine yc (qi2 a1.Num b2.Num _ h7) ?_
 refine yU ?_
 obtain ⟨r8,h9,h⟩:=zB h
 refine yc (qkb a1.Str b2.Str _ h9) ?_
 refine yU ?_
 obtain ⟨r10,h11,h⟩:=zB h
 refine yc (qvu [r4,r6,r8] _ h11) ?_
 refine yU ?_
 refine yd<|zn<|zq ?_
 cases h
 exact zT results221
theorem qji {D:Prop} (a1:Row) (b2:Row) (l3:List Int) (r4:Int) (h:qen a1 b2 l3=some r4):Con D Tryz.prog 188 [(qai a1),(qai b2),(.slc (vs3 (vv8 .i64) l3))] (.int .i64 r4):=by
 refine zP call188 func188 rfl ntmps188 fun X w hT=>?_
 simp only [qen] at h
 refine zs<|zr ?_
 refine zU<|zl<|zn<|zs<|zs<|zr ?_
 refine zU<|zl<|zn<|zb ?_
 obtain ⟨o5,h6,h⟩:=zB h
 refine zO (fun (s:Int)=>⟨[(3,.loc 3 1 0 0),(4,.loc 4 1 0 0),(10,.p (.slc (vs3 (vv8 .i64) l3))),(11,.p (.int .i64 (l3.length:Int))),(12,.p (.int .i64 s))],[(3,.arr 62 2 1 [.p (qai a1)]),(4,.arr 62 2 1 [.p (qai b2)])]⟩) (fun (o:(Unit) ⊕ (Int))=>match o with | .inl o7=>tE (cX Tryz.f188 X w D hT) (.exit 0) ⟨[],[]⟩ | .inr o8=>tR Tryz.prog Tryz.f188 (.int .i64 o8)) h6 ?_ ?_
 clear h h6
 intro t9 x h
 simp only [qdb] at h
 refine zs<|zr ?_
 refine zU<|zl<|zn<|zs ?_
 obtain ⟨h10,h⟩|⟨h10,h⟩:=zI h
 refine zi<|zk<|zn<|zs<|zb<|zs<|zr ?_
 obtain ⟨x11,h12,h12a,h12b,h⟩:=zX h
 refine zU<|zl<|zn<|zs<|zd ?_
 obtain ⟨x13,h14,h14a,h14b,h⟩:=zX h
 obtain ⟨x15,h16,h16a,h16b,h⟩:=zX h
 refine yU ?_
 obtain ⟨r17,h18,h⟩:=zB h
 refine yc (ql6 x13 x15 _ h18) ?_
 refine yU ?_
 refine yd<|zn<|zs<|zr ?_
 refine zU<|zl<|zn ?_
 obtain ⟨h19,h⟩|⟨h19,h⟩:=zI h
 refine zi<|zs<|zr ?_
 refine zU<|zl<|zn<|zq<|yr<|zt ?_
 cases h
 exact ⟨rfl,zT results188⟩
 refine zj<|zk<|yn<|zn<|zr ?_
 refine zU<|zl ?_
 cases h
 exact ⟨rfl,zE⟩
 refine zj<|zx<|ze ?_
 cases h
 exact ⟨rfl,zE⟩
 rcases o5 with ⟨⟩ | r20
 try simp only at h
 refine zA<|yh<|zn<|zs<|zr ?_
 refine zU<|zl<|zn<|zq ?_
 cases h
 exact zT results188
 try simp only at h
 refine zZ fun s hq=>?_
 refine yr<|zt ?_
 cases h
 exact hq
theorem qrr {D:Prop} (a1:Row) (b2:Row) (d3:OD) (r4:Int) (h:qid a1 b2 d3=some r4):Con D Tryz.prog 132 [(qai a1),(qai b2),(qrj d3)] (.int .i64 r4):=by
 refine zP call132 func132 rfl ntmps132 fun X w hT=>?_
 simp only [qid] at h
 refine zs<|zr ?_
 refine zU<|zl<|zn<|zs<|zd ?_
 refine yU ?_
 obtain ⟨r5,h6,h⟩:=zB h
 refine yc (qji a1 b2 d3.Lhs _ h6) ?_
 refine yU ?_
 obtain ⟨r7,h8,h⟩:=zB h
 refine yc (qji a1 b2 d3.Rhs _ h8) ?_
 refine yU ?_
 refine yd<|zn<|zs<|zb ?_
 obtain ⟨t9,h10,h⟩:=zB h
 refine zJ (fun (o11:Bool)=>tE (cX Tryz.f132 X w D hT) .normal ⟨[(7,.p (.int .i64 r5)),(8,.p (.int .i64 r7)),(19,.p (.bool o11))],[]⟩) t9 ?_ ?_
 replace h:=h10
 clear h10
 refine zr ?_
 refine zU ?_
 obtain ⟨h12,h⟩|⟨h12,h⟩:=zI h
 replace h:=h.symm
 refine zw 22 true ?_
 refine zg ?_
 refine zg ?_
 refine zU<|zl ?_
 cases h
 exact ⟨rfl,zE⟩
 refine zw 22 false ?_
 refine zh ?_
 refine zU<|zl ?_
 cases h
 exact ⟨rfl,zE⟩
 try simp only at h
 refine zA<|zn ?_
 obtain ⟨h13,h⟩|⟨h13,h⟩:=zI h
 refine zi<|zs<|zr ?_
 refine zU<|zl<|zn<|zq<|yr<|zt ?_
 cases h
 exact zT results132
 refine zj<|zs<|zr ?_
 refine zU<|zl<|zn ?_
 obtain ⟨h14,h⟩|⟨h14,h⟩:=zI h
 refine zi<|zs<|zr ?_
 refine zU<|zl<|zn<|zq<|yr<|zt ?_
 cases h
 exact zT results132
 refine zj<|zk<|yn<|zn<|zs<|zr ?_
 refine zU<|zl<|zn<|zq ?_
 cases h
 exact zT results132
theorem qml {D:Prop} (t1:Table) (d2:OD) (r3:List (List Int)×Int) (h:qdc t1 d2=some r3):Con D Tryz.prog 62 [(qab t1),(qrj d2)] (.tup [(.slc (vs3 (qbh (vv8 .i64)) r3.1)),(.int .i64 r3.2)]):=by
 refine zP call62 func62 rfl ntmps62 fun X w hT=>?_
 simp only [qdc] at h
 refine zs<|zr ?_
 refine zU<|zl<|zn<|zs<|zs<|zr ?_
 refine zU ?_
 obtain ⟨r4,h5,h⟩:=zB h
 refine zc (qqp t1 (fun (y6:Int)=>qbv y6 d2) 131 [.imm [.slc (vs3 (vv8 .i64) d2.Lhs),.slc (vs3 (vv8 .i64) d2.Rhs)]] (fun y6 r h=>qli y6 d2 r h) _ h5) ?_
 refine zU<|zl<|zn<|zs<|zr ?_
 refine zU<|zl<|zn ?_
 obtain ⟨h7,h⟩|⟨h7,h⟩:=zI h
 refine zi<|zs<|zr ?_
 refine zU<|zl<|zn<|zq<|zt ?_
 cases h
 exact zT results62
 refine zj<|zk<|zn<|zs<|zr ?_
 refine zU<|zl<|zn<|zs<|zs<|zr ?_
 refine zU<|zl<|zn<|zb ?_
 obtain ⟨o8,h9,h⟩:=zB h
 refine zO (fun (s:List (List Int)×Int)=>⟨[(2,.loc 2 1 0 0),(3,.loc 3 1 0 0),(7,.own 48 1 0 s.1.length),(19,.p (.slc (vs3 qai t1.Rows))),(20,.p (.int .i64 (t1.Rows.length:Int))),(21,.p (.int .i64 s.2))],[(2,.arr 32 3 1 [.p (qab t1)]),(3,.arr 86 2 1 [.p (qrj d2)]),(48,.arr 34 1 1 (vs3 AV.p (vs3 (qbh (vv8 .i64)) s.1)))]⟩) (fun (o10:List (List Int))=>tE (cX Tryz.f62 X w D hT) (.exit 0) ⟨[(7,.own 48 1 0 o10.length)],[(48,.arr 34 1 1 (vs3 AV.p (vs3 (qbh (vv8 .i64)) o10)))]⟩) h9 ?_ ?_
 clear h h5 h7 h9
 intro s x h
 obtain ⟨o11,t12⟩:=s
 simp only [qb8] at h
 dsimp only
 refine zs<|zr ?_
 refine zU<|zl<|zn<|zs ?_
 obtain ⟨h13,h⟩|⟨h13,h⟩:=zI h
 refine zi<|zk<|zn<|zs<|zb<|zs<|zr ?_
 obtain ⟨x14,h15,h15a,h15b,h⟩:=zX h
 refine zU<|zl<|zn<|zs<|zr ?_
 obtain ⟨h16,h⟩:=qaf h
 obtain ⟨h17,h⟩:=qaf h
 refine zU<|zl<|zn<|zb ?_
 obtain ⟨o18,h19,h⟩:=zB h
 refine zO (fun (s:List (List Int)×Int)=>⟨[(2,.loc 2 1 0 0),(3,.loc 3 1 0 0),(7,.own 48 1 0 s.1.length),(9,.loc 9 1 0 0),(19,.p (.slc (vs3 qai t1.Rows))),(20,.p (.int .i64 (t1.Rows.length:Int))),(21,.p (.int .i64 t12)),(30,.p (.slc (vs3 qai ((t1.Rows.drop (vsg.wrap (t12+1)).toNat).take (t1.Rows.length - (vsg.wrap (t12+1)).toNat))))),(31,.p (.int .i64 (((t1.Rows.drop (vsg.wrap (t12+1)).toNat).take (t1.Rows.length - (vsg.wrap (t12+1)).toNat)).length:Int))),(32,.p (.int .i64 s.2))],[(2,.arr 32 3 1 [.p (qab t1)]),(3,.arr 86 2 1 [.p (qrj d2)]),(9,.arr 62 2 1 [.p (qai x14)]),(48,.arr 34 1 1 (vs3 AV.p (vs3 (qbh (vv8 .i64)) s.1)))]⟩) (fun (o20:List (List Int))=>tE (cX Tryz.f62 X w D hT) (.exit 2) ⟨[(2,.loc 2 1 0 0),(3,.loc 3 1 0 0),(7,.own 48 1 0 o20.length),(19,.p (.slc (vs3 qai t1.Rows))),(20,.p (.int .i64 (t1.Rows.length:Int))),(21,.p (.int .i64 t12))],[(2,.arr 32 3 1 [.p (qab t1)]),(3,.arr 86 2 1 [.p (qrj d2)]),(48,.arr 34 1 1 (vs3 AV.p (vs3 (qbh (vv8 .i64)) o20)))]⟩) h19 ?_ ?_
 clear h h13 h15 h15a h15b h16 h17 h19
 intro s x h
 obtain ⟨o21,t22⟩:=s
 simp only [qb7] at h
 dsimp only
 refine zs<|zr ?_
 refine zU<|zl<|zn<|zs ?_
 obtain ⟨h23,h⟩|⟨h23,h⟩:=zI h
 refine zi<|zk<|zn<|zs<|zb<|zs<|zr ?_
 obtain ⟨x24,h25,h25a,h25b,h⟩:=zX h
 refine zU<|zl<|zn<|zs<|zr ?_
 refine zU ?_
 obtain ⟨r26,h27,h⟩:=zB h
 refine zc (qrr x14 x24 d2 _ h27) ?_
 refine zU<|zl<|zn ?_
 obtain ⟨h28,h⟩|⟨h28,h⟩:=zI h
 refine zi<|zr ?_
 refine zW 7 ?_
 refine zM ⟨[(2,.loc 2 1 0 0),(3,.loc 3 1 0 0),(9,.loc 9 1 0 0),(19,.p (.slc (vs3 qai t1.Rows))),(20,.p (.int .i64 (t1.Rows.length:Int))),(21,.p (.int .i64 t12)),(30,.p (.slc (vs3 qai ((t1.Rows.drop (vsg.wrap (t12+1)).toNat).take (t1.Rows.length - (vsg.wrap (t12+1)).toNat))))),(31,.p (.int .i64 (((t1.Rows.drop (vsg.wrap (t12+1)).toNat).take (t1.Rows.length - (vsg.wrap (t12+1)).toNat)).length:Int))),(32,.p (.int .i64 t22)),(41,.own 48 1 0 o21.length),(47,.own 47 1 0 1)],[(2,.arr 32 3 1 [.p (qab t1)]),(3,.arr 86 2 1 [.p (qrj d2)]),(9,.arr 62 2 1 [.p (qai x14)]),(47,.arr 34 1 1 [.p (.slc (vs3 (vv8 .i64) [x14.ID,x24.ID]))]),(48,.arr 34 1 1 (vs3 AV.p (vs3 (qbh (vv8 .i64)) o21)))]⟩ ?_
 obtain ⟨h29,h⟩:=qaf h
 refine zU<|zl<|yn<|zn<|zr ?_
 refine zU<|zl ?_
 cases h
 exact ⟨rfl,zE⟩
 refine zj<|zk<|yn<|zn<|zr ?_
 refine zU<|zl ?_
 cases h
 exact ⟨rfl,zE⟩
 refine zj<|zx<|ze ?_
 cases h
 exact ⟨rfl,zE⟩
 try simp only at h
 refine zA<|yh<|yn<|zn<|zr ?_
 refine zU<|zl ?_
 cases h
 exact ⟨rfl,zE⟩
 refine zj<|zx<|ze ?_
 cases h
 exact ⟨rfl,zE⟩
 try simp only at h
 refine zA<|yh<|zn<|zs<|zr ?_
 refine zU<|zl<|zn<|zq ?_
 cases h
 exact zT results62
end Go.Proofs.YtfnmcjkkfnhpnaaGreatDoor
namespace Go.Proofs
open Go Go.Ab Go.Shelf Tryz
def YtfnmcjkkfnhpnaaGreatDoor.sort50_ren:Go.Shelf.Ren:=⟨fun | 6=>50 | 15=>109 | 14=>108 | 28=>174 | 29=>175 | 20=>166 | 21=>167 | 22=>168 | 23=>169 | 24=>170 | 25=>171 | 26=>172 | 27=>173 | 46=>222 | 47=>223 | 48=>224 | 49=>225 | 50=>226 | 57=>259 | n=>n,fun | 22=>73 | 24=>72 | 25=>149 | 3=>3 | 39=>176 | 0=>0 | 53=>38 | 55=>293 | 4=>4 | 46=>286 | 45=>285 | 50=>105 | 5=>5 | 9=>9 | 66=>332 | 70=>336 | 76=>359 | 77=>360 | n=>n,fun | n=>n⟩
theorem YtfnmcjkkfnhpnaaGreatDoor.sort50:Go.Proofs.SlLaysF.n6 Tryz.prog YtfnmcjkkfnhpnaaGreatDoor.sort50_ren:={
  mixed:=by kernel_rfl
  f6:=⟨Tryz.f50.name,by decide,func50.trans (congrArg some (by kernel_rfl))⟩
  f14:=⟨Tryz.f108.name,by decide,func108.trans (congrArg some (by kernel_rfl))⟩
  f15:=func109.trans (congrArg some (by kernel_rfl))
  f20:=⟨Tryz.f166.name,by decide,func166.trans (congrArg some (by kernel_rfl))⟩
  f21:=⟨Tryz.f167.name,by decide,func167.trans (congrArg some (by kernel_rfl))⟩
  f22:=⟨Tryz.f168.name,by decide,func168.trans (congrArg some (by kernel_rfl))⟩
  f23:=⟨Tryz.f169.name,by decide,func169.trans (congrArg some (by kernel_rfl))⟩
  f24:=⟨Tryz.f170.name,by decide,func170.trans (congrArg some (by kernel_rfl))⟩
  f25:=⟨Tryz.f171.name,by decide,func171.trans (congrArg some (by kernel_rfl))⟩
  f26:=⟨Tryz.f172.name,by decide,func172.trans (congrArg some (by kernel_rfl))⟩
  f27:=⟨Tryz.f173.name,by decide,func173.trans (congrArg some (by kernel_rfl))⟩
  f28:=func174.trans (congrArg some (by kernel_rfl))
  f29:=func175.trans (congrArg some (by kernel_rfl))
  f46:=⟨Tryz.f222.name,by decide,func222.trans (congrArg some (by kernel_rfl))⟩
  f47:=func223.trans (congrArg some (by kernel_rfl))
  f48:=func224.trans (congrArg some (by kernel_rfl))
  f49:=⟨Tryz.f225.name,by decide,func225.trans (congrArg some (by kernel_rfl))⟩
  f50:=⟨Tryz.f226.name,by decide,func226.trans (congrArg some (by kernel_rfl))⟩
  f57:=⟨Tryz.f259.name,by decide,func259.trans (congrArg some (by kernel_rfl))⟩
  t0:=underlying0
  a0:=isAgg0
  z0:=sizeOf0
  v0:=zeroValue0
  t3:=underlying3
  a3:=isAgg3
  z3:=sizeOf3
  v3:=zeroValue3
  t4:=underlying4
  a4:=isAgg4
  z4:=sizeOf4
  v4:=zeroValue4
  t5:=underlying5
  a5:=isAgg5
  z5:=sizeOf5
  v5:=zeroValue5
  t9:=underlying9
  a9:=isAgg9
  z9:=sizeOf9
  v9:=zeroValue9
  t22:=underlying73
  a22:=isAgg73
  z22:=sizeOf73
  v22:=zeroValue73
  a24:=isAgg72
  z24:=sizeOf72
  t25:=underlying149
  a25:=isAgg149
  z25:=sizeOf149
  v25:=zeroValue149
  t39:=underlying176
  a39:=isAgg176
  z39:=sizeOf176
  v39:=zeroValue176
  t45:=underlying285
  a45:=isAgg285
  z45:=sizeOf285
  v45:=zeroValue285
  t46:=underlying286
  a46:=isAgg286
  z46:=sizeOf286
  v46:=zeroValue286
  t50:=underlying105
  a50:=isAgg105
  z50:=sizeOf105
  v50:=zeroValue105
  t53:=underlying38
  a53:=isAgg38
  z53:=sizeOf38
  v53:=zeroValue38
  t55:=underlying293
  a55:=isAgg293
  z55:=sizeOf293
  v55:=zeroValue293
  t66:=underlying332
  a66:=isAgg332
  z66:=sizeOf332
  v66:=zeroValue332
  t70:=underlying336
  a70:=isAgg336
  z70:=sizeOf336
  v70:=zeroValue336
  t76:=underlying359
  a76:=isAgg359
  z76:=sizeOf359
  v76:=zeroValue359
  t77:=underlying360
  a77:=isAgg360
  z77:=sizeOf360
  v77:=zeroValue360 }
def YtfnmcjkkfnhpnaaGreatDoor.sort67_ren:Go.Shelf.Ren:=⟨fun | 6=>67 | 15=>109 | 14=>138 | 28=>174 | 29=>175 | 20=>194 | 21=>195 | 22=>196 | 23=>197 | 24=>198 | 25=>199 | 26=>200 | 27=>201 | 46=>239 | 47=>223 | 48=>224 | 49=>240 | 50=>241 | 57=>265 | n=>n,fun | 22=>42 | 24=>34 | 25=>170 | 3=>3 | 39=>176 | 0=>0 | 53=>38 | 55=>293 | 4=>4 | 46=>286 | 45=>285 | 50=>105 | 5=>5 | 9=>9 | 66=>332 | 70=>336 | 76=>359 | 77=>360 | n=>n,fun | n=>n⟩
theorem YtfnmcjkkfnhpnaaGreatDoor.sort67:Go.Proofs.SlLaysF.n6 Tryz.prog YtfnmcjkkfnhpnaaGreatDoor.sort67_ren:={
  mixed:=by kernel_rfl
  f6:=⟨Tryz.f67.name,by decide,func67.trans (congrArg some (by kernel_rfl))⟩
  f14:=⟨Tryz.f138.name,by decide,func138.trans (congrArg some (by kernel_rfl))⟩
  f15:=func109.trans (congrArg some (by kernel_rfl))
  f20:=⟨Tryz.f194.name,by decide,func194.trans (congrArg some (by kernel_rfl))⟩
  f21:=⟨Tryz.f195.name,by decide,func195.trans (congrArg some (by kernel_rfl))⟩
  f22:=⟨Tryz.f196.name,by decide,func196.trans (congrArg some (by kernel_rfl))⟩
  f23:=⟨Tryz.f197.name,by decide,func197.trans (congrArg some (by kernel_rfl))⟩
  f24:=⟨Tryz.f198.name,by decide,func198.trans (congrArg some (by kernel_rfl))⟩
  f25:=⟨Tryz.f199.name,by decide,func199.trans (congrArg some (by kernel_rfl))⟩
  f26:=⟨Tryz.f200.name,by decide,func200.trans (congrArg some (by kernel_rfl))⟩
  f27:=⟨Tryz.f201.name,by decide,func201.trans (congrArg some (by kernel_rfl))⟩
  f28:=func174.trans (congrArg some (by kernel_rfl))
  f29:=func175.trans (congrArg some (by kernel_rfl))
  f46:=⟨Tryz.f239.name,by decide,func239.trans (congrArg some (by kernel_rfl))⟩
  f47:=func223.trans (congrArg some (by kernel_rfl))
  f48:=func224.trans (congrArg some (by kernel_rfl))
  f49:=⟨Tryz.f240.name,by decide,func240.trans (congrArg some (by kernel_rfl))⟩
  f50:=⟨Tryz.f241.name,by decide,func241.trans (congrArg some (by kernel_rfl))⟩
  f57:=⟨Tryz.f265.name,by decide,func265.trans (congrArg some (by kernel_rfl))⟩
  t0:=underlying0
  a0:=isAgg0
  z0:=sizeOf0
  v0:=zeroValue0
  t3:=underlying3
  a3:=isAgg3
  z3:=sizeOf3
  v3:=zeroValue3
  t4:=underlying4
  a4:=isAgg4
  z4:=sizeOf4
  v4:=zeroValue4
  t5:=underlying5
  a5:=isAgg5
  z5:=sizeOf5
  v5:=zeroValue5
  t9:=underlying9
  a9:=isAgg9
  z9:=sizeOf9
  v9:=zeroValue9
  t22:=underlying42
  a22:=isAgg42
  z22:=sizeOf42
  v22:=zeroValue42
  a24:=isAgg34
  z24:=sizeOf34
  t25:=underlying170
  a25:=isAgg170
  z25:=sizeOf170
  v25:=zeroValue170
  t39:=underlying176
  a39:=isAgg176
  z39:=sizeOf176
  v39:=zeroValue176
  t45:=underlying285
  a45:=isAgg285
  z45:=sizeOf285
  v45:=zeroValue285
  t46:=underlying286
  a46:=isAgg286
  z46:=sizeOf286
  v46:=zeroValue286
  t50:=underlying105
  a50:=isAgg105
  z50:=sizeOf105
  v50:=zeroValue105
  t53:=underlying38
  a53:=isAgg38
  z53:=sizeOf38
  v53:=zeroValue38
  t55:=underlying293
  a55:=isAgg293
  z55:=sizeOf293
  v55:=zeroValue293
  t66:=underlying332
  a66:=isAgg332
  z66:=sizeOf332
  v66:=zeroValue332
  t70:=underlying336
  a70:=isAgg336
  z70:=sizeOf336
  v70:=zeroValue336
  t76:=underlying359
  a76:=isAgg359
  z76:=sizeOf359
  v76:=zeroValue359
  t77:=underlying360
  a77:=isAgg360
  z77:=sizeOf360
  v77:=zeroValue360 }
def YtfnmcjkkfnhpnaaGreatDoor.sort98_ren:Go.Shelf.Ren:=⟨fun | 6=>98 | 15=>109 | 14=>161 | 28=>174 | 29=>175 | 20=>211 | 21=>212 | 22=>213 | 23=>214 | 24=>215 | 25=>216 | 26=>217 | 27=>218 | 46=>255 | 47=>223 | 48=>224 | 49=>256 | 50=>257 | 57=>270 | n=>n,fun | 22=>72 | 24=>142 | 25=>201 | 3=>3 | 39=>176 | 0=>0 | 53=>38 | 55=>293 | 4=>4 | 46=>286 | 45=>285 | 50=>105 | 5=>5 | 9=>9 | 66=>332 | 70=>336 | 76=>359 | 77=>360 | n=>n,fun | n=>n⟩
theorem YtfnmcjkkfnhpnaaGreatDoor.sort98:Go.Proofs.SlLaysF0.n6 Tryz.prog YtfnmcjkkfnhpnaaGreatDoor.sort98_ren:={
  mixed:=by kernel_rfl
  f6:=⟨Tryz.f98.name,by decide,func98.trans (congrArg some (by kernel_rfl))⟩
  f14:=⟨Tryz.f161.name,by decide,func161.trans (congrArg some (by kernel_rfl))⟩
  f15:=func109.trans (congrArg some (by kernel_rfl))
  f20:=⟨Tryz.f211.name,by decide,func211.trans (congrArg some (by kernel_rfl))⟩
  f21:=⟨Tryz.f212.name,by decide,func212.trans (congrArg some (by kernel_rfl))⟩
  f22:=⟨Tryz.f213.name,by decide,func213.trans (congrArg some (by kernel_rfl))⟩
  f23:=⟨Tryz.f214.name,by decide,func214.trans (congrArg some (by kernel_rfl))⟩
  f24:=⟨Tryz.f215.name,by decide,func215.trans (congrArg some (by kernel_rfl))⟩
  f25:=⟨Tryz.f216.name,by decide,func216.trans (congrArg some (by kernel_rfl))⟩
  f26:=⟨Tryz.f217.name,by decide,func217.trans (congrArg some (by kernel_rfl))⟩
  f27:=⟨Tryz.f218.name,by decide,func218.trans (congrArg some (by kernel_rfl))⟩
  f28:=func174.trans (congrArg some (by kernel_rfl))
  f29:=func175.trans (congrArg some (by kernel_rfl))
  f46:=⟨Tryz.f255.name,by decide,func255.trans (congrArg some (by kernel_rfl))⟩
  f47:=func223.trans (congrArg some (by kernel_rfl))
  f48:=func224.trans (congrArg some (by kernel_rfl))
  f49:=⟨Tryz.f256.name,by decide,func256.trans (congrArg some (by kernel_rfl))⟩
  f50:=⟨Tryz.f257.name,by decide,func257.trans (congrArg some (by kernel_rfl))⟩
  f57:=⟨Tryz.f270.name,by decide,func270.trans (congrArg some (by kernel_rfl))⟩
  t0:=underlying0
  a0:=isAgg0
  z0:=sizeOf0
  v0:=zeroValue0
  t3:=underlying3
  a3:=isAgg3
  z3:=sizeOf3
  v3:=zeroValue3
  t4:=underlying4
  a4:=isAgg4
  z4:=sizeOf4
  v4:=zeroValue4
  t5:=underlying5
  a5:=isAgg5
  z5:=sizeOf5
  v5:=zeroValue5
  t9:=underlying9
  a9:=isAgg9
  z9:=sizeOf9
  v9:=zeroValue9
  t22:=underlying72
  a22:=isAgg72
  z22:=sizeOf72
  v22:=zeroValue72
  t25:=underlying201
  a25:=isAgg201
  z25:=sizeOf201
  v25:=zeroValue201
  t39:=underlying176
  a39:=isAgg176
  z39:=sizeOf176
  v39:=zeroValue176
  t45:=underlying285
  a45:=isAgg285
  z45:=sizeOf285
  v45:=zeroValue285
  t46:=underlying286
  a46:=isAgg286
  z46:=sizeOf286
  v46:=zeroValue286
  t50:=underlying105
  a50:=isAgg105
  z50:=sizeOf105
  v50:=zeroValue105
  t53:=underlying38
  a53:=isAgg38
  z53:=sizeOf38
  v53:=zeroValue38
  t55:=underlying293
  a55:=isAgg293
  z55:=sizeOf293
  v55:=zeroValue293
  t66:=underlying332
  a66:=isAgg332
  z66:=sizeOf332
  v66:=zeroValue332
  t70:=underlying336
  a70:=isAgg336
  z70:=sizeOf336
  v70:=zeroValue336
  t76:=underlying359
  a76:=isAgg359
  z76:=sizeOf359
  v76:=zeroValue359
  t77:=underlying360
  a77:=isAgg360
  z77:=sizeOf360
  v77:=zeroValue360 }
def YtfnmcjkkfnhpnaaGreatDoor.sort136_ren:Go.Shelf.Ren:=⟨fun | 5=>136 | 8=>109 | 7=>193 | 19=>174 | 20=>175 | 10=>231 | 11=>232 | 12=>233 | 13=>234 | 14=>235 | 15=>236 | 16=>78 | 17=>237 | 18=>238 | 30=>262 | 31=>223 | 32=>224 | 33=>263 | 34=>264 | 35=>143 | 40=>272 | n=>n,fun | 23=>34 | 25=>2 | 3=>3 | 32=>176 | 22=>34 | 0=>0 | 44=>38 | 46=>293 | 4=>4 | 36=>286 | 35=>285 | 41=>105 | 5=>5 | 9=>9 | 53=>332 | 57=>336 | 63=>359 | 64=>360 | n=>n,fun | n=>n⟩
theorem YtfnmcjkkfnhpnaaGreatDoor.sort136:Go.Proofs.SlLaysM.n5 Tryz.prog YtfnmcjkkfnhpnaaGreatDoor.sort136_ren:={
  mixed:=by kernel_rfl
  f5:=⟨Tryz.f136.name,by decide,func136.trans (congrArg some (by kernel_rfl))⟩
  f7:=⟨Tryz.f193.name,by decide,func193.trans (congrArg some (by kernel_rfl))⟩
  f8:=func109.trans (congrArg some (by kernel_rfl))
  f10:=⟨Tryz.f231.name,by decide,func231.trans (congrArg some (by kernel_rfl))⟩
  f11:=⟨Tryz.f232.name,by decide,func232.trans (congrArg some (by kernel_rfl))⟩
  f12:=⟨Tryz.f233.name,by decide,func233.trans (congrArg some (by kernel_rfl))⟩
  f13:=⟨Tryz.f234.name,by decide,func234.trans (congrArg some (by kernel_rfl))⟩
  f14:=⟨Tryz.f235.name,by decide,func235.trans (congrArg some (by kernel_rfl))⟩
  f15:=⟨Tryz.f236.name,by decide,func236.trans (congrArg some (by kernel_rfl))⟩
  f16:=⟨Tryz.f78.name,by decide,func78.trans (congrArg some (by kernel_rfl))⟩
  f17:=⟨Tryz.f237.name,by decide,func237.trans (congrArg some (by kernel_rfl))⟩
  f18:=⟨Tryz.f238.name,by decide,func238.trans (congrArg some (by kernel_rfl))⟩
  f19:=func174.trans (congrArg some (by kernel_rfl))
  f20:=func175.trans (congrArg some (by kernel_rfl))
  f30:=⟨Tryz.f262.name,by decide,func262.trans (congrArg some (by kernel_rfl))⟩
  f31:=func223.trans (congrArg some (by kernel_rfl))
  f32:=func224.trans (congrArg some (by kernel_rfl))
  f33:=⟨Tryz.f263.name,by decide,func263.trans (congrArg some (by kernel_rfl))⟩
  f34:=⟨Tryz.f264.name,by decide,func264.trans (congrArg some (by kernel_rfl))⟩
  f35:=⟨Tryz.f143.name,by decide,func143.trans (congrArg some (by kernel_rfl))⟩
  f40:=⟨Tryz.f272.name,by decide,func272.trans (congrArg some (by kernel_rfl))⟩
  t0:=underlying0
  a0:=isAgg0
  z0:=sizeOf0
  v0:=zeroValue0
  t3:=underlying3
  a3:=isAgg3
  z3:=sizeOf3
  v3:=zeroValue3
  t4:=underlying4
  a4:=isAgg4
  z4:=sizeOf4
  v4:=zeroValue4
  t5:=underlying5
  a5:=isAgg5
  z5:=sizeOf5
  v5:=zeroValue5
  t9:=underlying9
  a9:=isAgg9
  z9:=sizeOf9
  v9:=zeroValue9
  t22:=underlying34
  a22:=isAgg34
  z22:=sizeOf34
  v22:=zeroValue34
  t23:=underlying34
  a23:=isAgg34
  z23:=sizeOf34
  v23:=zeroValue34
  t25:=underlying2
  a25:=isAgg2
  z25:=sizeOf2
  v25:=zeroValue2
  t32:=underlying176
  a32:=isAgg176
  z32:=sizeOf176
  v32:=zeroValue176
  t35:=underlying285
  a35:=isAgg285
  z35:=sizeOf285
  v35:=zeroValue285
  t36:=underlying286
  a36:=isAgg286
  z36:=sizeOf286
  v36:=zeroValue286
  t41:=underlying105
  a41:=isAgg105
  z41:=sizeOf105
  v41:=zeroValue105
  t44:=underlying38
  a44:=isAgg38
  z44:=sizeOf38
  v44:=zeroValue38
  t46:=underlying293
  a46:=isAgg293
  z46:=sizeOf293
  v46:=zeroValue293
  t53:=underlying332
  a53:=isAgg332
  z53:=sizeOf332
  v53:=zeroValue332
  t57:=underlying336
  a57:=isAgg336
  z57:=sizeOf336
  v57:=zeroValue336
  t63:=underlying359
  a63:=isAgg359
  z63:=sizeOf359
  v63:=zeroValue359
  t64:=underlying360
  a64:=isAgg360
  z64:=sizeOf360
  v64:=zeroValue360 }
def YtfnmcjkkfnhpnaaGreatDoor.sort152_ren:Go.Shelf.Ren:=⟨fun | 5=>152 | 8=>109 | 7=>205 | 19=>174 | 20=>175 | 10=>244 | 11=>245 | 12=>246 | 13=>247 | 14=>248 | 15=>249 | 16=>250 | 17=>251 | 18=>252 | 30=>267 | 31=>223 | 32=>224 | 33=>268 | 34=>269 | 35=>219 | 40=>274 | n=>n,fun | 23=>79 | 25=>3 | 3=>3 | 32=>176 | 22=>79 | 0=>0 | 44=>38 | 46=>293 | 4=>4 | 36=>286 | 35=>285 | 41=>105 | 5=>5 | 9=>9 | 53=>332 | 57=>336 | 63=>359 | 64=>360 | n=>n,fun | n=>n⟩
theorem YtfnmcjkkfnhpnaaGreatDoor.sort152:Go.Proofs.SlLaysM.n5 Tryz.prog YtfnmcjkkfnhpnaaGreatDoor.sort152_ren:={
  mixed:=by kernel_rfl
  f5:=⟨Tryz.f152.name,by decide,func152.trans (congrArg some (by kernel_rfl))⟩
  f7:=⟨Tryz.f205.name,by decide,func205.trans (congrArg some (by kernel_rfl))⟩
  f8:=func109.trans (congrArg some (by kernel_rfl))
  f10:=⟨Tryz.f244.name,by decide,func244.trans (congrArg some (by kernel_rfl))⟩
  f11:=⟨Tryz.f245.name,by decide,func245.trans (congrArg some (by kernel_rfl))⟩
  f12:=⟨Tryz.f246.name,by decide,func246.trans (congrArg some (by kernel_rfl))⟩
  f13:=⟨Tryz.f247.name,by decide,func247.trans (congrArg some (by kernel_rfl))⟩
  f14:=⟨Tryz.f248.name,by decide,func248.trans (congrArg some (by kernel_rfl))⟩
  f15:=⟨Tryz.f249.name,by decide,func249.trans (congrArg some (by kernel_rfl))⟩
  f16:=⟨Tryz.f250.name,by decide,func250.trans (congrArg some (by kernel_rfl))⟩
  f17:=⟨Tryz.f251.name,by decide,func251.trans (congrArg some (by kernel_rfl))⟩
  f18:=⟨Tryz.f252.name,by decide,func252.trans (congrArg some (by kernel_rfl))⟩
  f19:=func174.trans (congrArg some (by kernel_rfl))
  f20:=func175.trans (congrArg some (by kernel_rfl))
  f30:=⟨Tryz.f267.name,by decide,func267.trans (congrArg some (by kernel_rfl))⟩
  f31:=func223.trans (congrArg some (by kernel_rfl))
  f32:=func224.trans (congrArg some (by kernel_rfl))
  f33:=⟨Tryz.f268.name,by decide,func268.trans (congrArg some (by kernel_rfl))⟩
  f34:=⟨Tryz.f269.name,by decide,func269.trans (congrArg some (by kernel_rfl))⟩
  f35:=⟨Tryz.f219.name,by decide,func219.trans (congrArg some (by kernel_rfl))⟩
  f40:=⟨Tryz.f274.name,by decide,func274.trans (congrArg some (by kernel_rfl))⟩
  t0:=underlying0
  a0:=isAgg0
  z0:=sizeOf0
  v0:=zeroValue0
  t3:=underlying3
  a3:=isAgg3
  z3:=sizeOf3
  v3:=zeroValue3
  t4:=underlying4
  a4:=isAgg4
  z4:=sizeOf4
  v4:=zeroValue4
  t5:=underlying5
  a5:=isAgg5
  z5:=sizeOf5
  v5:=zeroValue5
  t9:=underlying9
  a9:=isAgg9
  z9:=sizeOf9
  v9:=zeroValue9
  t22:=underlying79
  a22:=isAgg79
  z22:=sizeOf79
  v22:=zeroValue79
  t23:=underlying79
  a23:=isAgg79
  z23:=sizeOf79
  v23:=zeroValue79
  t25:=underlying3
  a25:=isAgg3
  z25:=sizeOf3
  v25:=zeroValue3
  t32:=underlying176
  a32:=isAgg176
  z32:=sizeOf176
  v32:=zeroValue176
  t35:=underlying285
  a35:=isAgg285
  z35:=sizeOf285
  v35:=zeroValue285
  t36:=underlying286
  a36:=isAgg286
  z36:=sizeOf286
  v36:=zeroValue286
  t41:=underlying105
  a41:=isAgg105
  z41:=sizeOf105
  v41:=zeroValue105
  t44:=underlying38
  a44:=isAgg38
  z44:=sizeOf38
  v44:=zeroValue38
  t46:=underlying293
  a46:=isAgg293
  z46:=sizeOf293
  v46:=zeroValue293
  t53:=underlying332
  a53:=isAgg332
  z53:=sizeOf332
  v53:=zeroValue332
  t57:=underlying336
  a57:=isAgg336
  z57:=sizeOf336
  v57:=zeroValue336
  t63:=underlying359
  a63:=isAgg359
  z63:=sizeOf359
  v63:=zeroValue359
  t64:=underlying360
  a64:=isAgg360
  z64:=sizeOf360
  v64:=zeroValue360 }
theorem YtfnmcjkkfnhpnaaGreatDoor.srt50:Srt1 Tryz.prog 50:=⟨call50,fun enc h1 cf hO g cb blk off cap d w eg hc hH hb hs=>Any.slices_SortFunc_eq YtfnmcjkkfnhpnaaGreatDoor.sort50 enc h1 cf hO g cb blk off cap d w eg hc hH hb hs,fun p cap fv w=>AnyF.slices_SortFunc_none { YtfnmcjkkfnhpnaaGreatDoor.sort50 with } p cap fv w⟩
theorem YtfnmcjkkfnhpnaaGreatDoor.srt67:Srt1 Tryz.prog 67:=⟨call67,fun enc h1 cf hO g cb blk off cap d w eg hc hH hb hs=>Any.slices_SortFunc_eq YtfnmcjkkfnhpnaaGreatDoor.sort67 enc h1 cf hO g cb blk off cap d w eg hc hH hb hs,fun p cap fv w=>AnyF.slices_SortFunc_none { YtfnmcjkkfnhpnaaGreatDoor.sort67 with } p cap fv w⟩
theorem YtfnmcjkkfnhpnaaGreatDoor.srt98:SrtQ Tryz.prog 98 2:=⟨call98,fun enc hk h1 cf hO g cb blk off cap d w eg hc hH hb hs=>AnyQ.slices_SortFunc_eq YtfnmcjkkfnhpnaaGreatDoor.sort98 2 isAgg142 sizeOf142 enc hk h1 cf hO g cb blk off cap d w eg hc hH hb hs,fun p cap fv w=>AnyF.slices_SortFunc_none YtfnmcjkkfnhpnaaGreatDoor.sort98 p cap fv w⟩
theorem YtfnmcjkkfnhpnaaGreatDoor.srt136:SrtI Tryz.prog 136:=⟨call136,fun blk off cap zs w hH hb hs=>AnyM.slices_Sort_int YtfnmcjkkfnhpnaaGreatDoor.sort136 blk off cap zs w hH hb hs,fun p cap w=>AnyM.slices_Sort_int_none YtfnmcjkkfnhpnaaGreatDoor.sort136 p cap w⟩
theorem YtfnmcjkkfnhpnaaGreatDoor.srt152:SrtI Tryz.prog 152:=⟨call152,fun blk off cap zs w hH hb hs=>AnyM.slices_Sort_int YtfnmcjkkfnhpnaaGreatDoor.sort152 blk off cap zs w hH hb hs,fun p cap w=>AnyM.slices_Sort_int_none YtfnmcjkkfnhpnaaGreatDoor.sort152 p cap w⟩
def YtfnmcjkkfnhpnaaGreatDoor.clone32_ren:Go.Shelf.Ren:=⟨fun | 41=>32 | n=>n,fun | 22=>34 | 23=>2 | 4=>4 | n=>n,fun | n=>n⟩
theorem YtfnmcjkkfnhpnaaGreatDoor.clone32:Go.Proofs.SlLaysE0.n41 Tryz.prog YtfnmcjkkfnhpnaaGreatDoor.clone32_ren:={
  mixed:=by kernel_rfl
  f41:=⟨Tryz.f32.name,by decide,func32.trans (congrArg some (by kernel_rfl))⟩
  t4:=underlying4
  a4:=isAgg4
  z4:=sizeOf4
  v4:=zeroValue4
  t22:=underlying34
  a22:=isAgg34
  z22:=sizeOf34
  v22:=zeroValue34 }
def YtfnmcjkkfnhpnaaGreatDoor.clone192_ren:Go.Shelf.Ren:=⟨fun | 41=>192 | n=>n,fun | 22=>30 | 23=>62 | 4=>4 | n=>n,fun | n=>n⟩
theorem YtfnmcjkkfnhpnaaGreatDoor.clone192:Go.Proofs.SlLaysE0.n41 Tryz.prog YtfnmcjkkfnhpnaaGreatDoor.clone192_ren:={
  mixed:=by kernel_rfl
  f41:=⟨Tryz.f192.name,by decide,func192.trans (congrArg some (by kernel_rfl))⟩
  t4:=underlying4
  a4:=isAgg4
  z4:=sizeOf4
  v4:=zeroValue4
  t22:=underlying30
  a22:=isAgg30
  z22:=sizeOf30
  v22:=zeroValue30 }
theorem YtfnmcjkkfnhpnaaGreatDoor.cln32:Cln Tryz.prog 32 2 1 8:=AbE.cln YtfnmcjkkfnhpnaaGreatDoor.clone32 call32 Tryz.t2 _ _ _ (by kernel_rfl) rfl rfl rfl rfl (by decide)
theorem YtfnmcjkkfnhpnaaGreatDoor.cln192:Cln Tryz.prog 192 62 2 32:=AbE.cln YtfnmcjkkfnhpnaaGreatDoor.clone192 call192 Tryz.t62 _ _ _ (by kernel_rfl) rfl rfl rfl rfl (by decide)
end Go.Proofs
namespace Go.Proofs.YtfnmcjkkfnhpnaaGreatDoor
open Go Go.Ab Tryz
theorem qhv {D:Prop} (s1:List Int) (s2:List Int) (r3:Int) (h:qad s1 s2=some r3):Con D Tryz.prog 68 [(.slc (vs3 (vv8 .i64) s1)),(.slc (vs3 (vv8 .i64) s2))] (.int .i64 r3):=by
 refine zP call68 func68 rfl ntmps68 fun X w hT=>?_
 simp only [qad] at h
 refine zs<|zr ?_
 refine zU<|zl<|zn<|zs<|zs<|zr ?_
 refine zU<|zl<|zn<|zb ?_
 obtain ⟨o4,h5,h⟩:=zB h
 refine zO (fun (s:Int)=>⟨[(0,.p (.slc (vs3 (vv8 .i64) s1))),(1,.p (.slc (vs3 (vv8 .i64) s2))),(9,.p (.slc (vs3 (vv8 .i64) s1))),(10,.p (.int .i64 (s1.length:Int))),(11,.p (.int .i64 s))],[]⟩) (fun (o:(Unit) ⊕ (Int))=>match o with | .inl o6=>tE (cX Tryz.f68 X w D hT) (.exit 0) ⟨[(0,.p (.slc (vs3 (vv8 .i64) s1))),(1,.p (.slc (vs3 (vv8 .i64) s2)))],[]⟩ | .inr o7=>tR Tryz.prog Tryz.f68 (.int .i64 o7)) h5 ?_ ?_
 clear h h5
 intro t8 x h
 simp only [qax] at h
 refine zs<|zr ?_
 refine zU<|zl<|zn<|zs ?_
 obtain ⟨h9,h⟩|⟨h9,h⟩:=zI h
 refine zi<|zk<|zn<|zs<|zb<|zs<|zr ?_
 obtain ⟨x10,h11,h11a,h11b,h⟩:=zX h
 refine zU<|zl<|zn<|zs<|zs<|zr ?_
 refine zU<|zl<|zn ?_
 obtain ⟨h12,h⟩|⟨h12,h⟩:=zI h
 refine zi<|zs<|zr ?_
 refine zU<|zl<|zn<|zq<|zt<|yr<|zt ?_
 cases h
 exact ⟨rfl,zT results68⟩
 refine zj<|zk<|zn<|zs<|zr ?_
 obtain ⟨x13,h14,h14a,h14b,h⟩:=zX h
 refine zU<|zl<|zn<|zs<|zr ?_
 refine zU ?_
 obtain ⟨r15,h16,h⟩:=zB h
 refine zc (qi2 x10 x13 _ h16) ?_
 refine zU<|zl<|zn<|zs<|zr ?_
 refine zU<|zl<|zn ?_
 obtain ⟨h17,h⟩|⟨h17,h⟩:=zI h
 refine zi<|zs<|zr ?_
 refine zU<|zl<|zn<|zq<|yr<|zt ?_
 cases h
 exact ⟨rfl,zT results68⟩
 refine zj<|zk<|yn<|zn<|zr ?_
 refine zU<|zl ?_
 cases h
 exact ⟨rfl,zE⟩
 refine zj<|zx<|ze ?_
 cases h
 exact ⟨rfl,zE⟩
 rcases o4 with ⟨⟩ | r18
 try simp only at h
 refine zA<|yh<|zn<|zs<|zs<|zr ?_
 refine zU<|zl<|zn ?_
 obtain ⟨h19,h⟩|⟨h19,h⟩:=zI h
 refine zi<|zs<|zr ?_
 refine zU<|zl<|zn<|zq<|zt ?_
 cases h
 exact zT results68
 refine zj<|zk<|zn<|zs<|zr ?_
 refine zU<|zl<|zn<|zq ?_
 cases h
 exact zT results68
 try simp only at h
 refine zZ fun s hq=>?_
 refine yr<|zt ?_
 cases h
 exact hq
theorem qqq {D:Prop} (t1:Table) (d2:Denial) (r3:Int) (h:qhe t1 d2=some r3):Con D Tryz.prog 133 [(qab t1),(qac d2)] (.int .i64 r3):=by
 refine zP call133 func133 rfl ntmps133 fun X w hT=>?_
 simp only [qhe] at h
 refine zs<|zr ?_
 refine zU<|zl<|zn<|zs<|zs<|zr ?_
 refine zU ?_
 obtain ⟨r4,h5,h⟩:=zB h
 refine zc (qig t1 _ h5) ?_
 refine zU<|zl<|zn<|zs<|zr ?_
 refine zU<|zl<|zn ?_
 obtain ⟨h6,h⟩|⟨h6,h⟩:=zI h
 refine zi<|zs<|zr ?_
 refine zU<|zl<|zn<|zq<|zt ?_
 cases h
 exact zT results133
 refine zj<|zk<|zn<|zs<|zb<|zs<|zr ?_
 refine zU ?_
 obtain ⟨r7,h8,h⟩:=zB h
 refine zc (qmu (t1.Attrs.length:Int) d2 _ h8) ?_
 refine zU<|zl<|zn ?_
 obtain ⟨h9,h⟩|⟨h9,h⟩:=zI h
 refine zj<|zs<|zr ?_
 refine zU ?_
 obtain ⟨h10,h⟩|⟨h10,h⟩:=zI h
 refine zw 22 true ?_
 refine zg ?_
 refine zg ?_
 refine zg ?_
 refine zg ?_
 refine zU<|zl<|zn ?_
 obtain ⟨h11,h⟩|⟨h11,h⟩:=zI h
 refine zi<|zs<|zr ?_
 refine zU<|zl<|zn<|zq<|yr<|zt ?_
 cases h
 exact zT results133
 refine zj<|zk<|yn<|zn<|zs<|zr ?_
 refine zU<|zl<|zn<|zq ?_
 cases h
 exact zT results133
 refine zw 22 false ?_
 refine zh ?_
 refine zU<|zl<|zn ?_
 refine zj<|zk<|yn<|zn<|zs<|zr ?_
 refine zU<|zl<|zn<|zq ?_
 cases h
 exact zT results133
 refine zi<|zs<|zr ?_
 refine zU<|zl<|zn<|zq<|yr<|zt ?_
 cases h
 exact zT results133
theorem qot {D:Prop} (r1:List Row) (t2:Term) (r3:Value) (h:qju r1 t2=some r3):Con D Tryz.prog 230 [(.slc (vs3 qai r1)),(qle t2)] (qaz r3):=by
 refine zP call230 func230 rfl ntmps230 fun X w hT=>?_
 simp only [qju] at h
 refine zs<|zr ?_
 refine zU<|zl<|zn<|zs<|zs<|zr ?_
 refine zU<|zl<|zn ?_
 obtain ⟨h4,h⟩|⟨h4,h⟩:=zI h
 refine zi<|zs<|zr ?_
 refine zU<|zl<|zn<|zq<|zt ?_
 cases h
 exact zT results230
 refine zj<|zk<|zn<|zs<|zd ?_
 obtain ⟨x5,h6,h6a,h6b,h⟩:=zX h
 obtain ⟨x7,h8,h8a,h8b,h⟩:=zX h
 refine yU ?_
 refine yd<|zn<|zq ?_
 cases h
 exact zT results230
theorem qe8 {D:Prop} (r1:List Row) (l2:List Atom) (r3:Bool) (h:qc2 r1 l2=some r3):Con D Tryz.prog 189 [(.slc (vs3 qai r1)),(.slc (vs3 qcp l2))] (.bool r3):=by
 refine zP call189 func189 rfl ntmps189 fun X w hT=>?_
 simp only [qc2] at h
 refine zs<|zr ?_
 refine zU<|zl<|zn<|zs<|zs<|zr ?_
 refine zU<|zl<|zn<|zb ?_
 obtain ⟨o4,h5,h⟩:=zB h
 refine zO (fun (s:Int)=>⟨[(0,.p (.slc (vs3 qai r1))),(9,.p (.slc (vs3 qcp l2))),(10,.p (.int .i64 (l2.length:Int))),(11,.p (.int .i64 s))],[]⟩) (fun (o:(Unit) ⊕ (Bool))=>match o with | .inl o6=>tE (cX Tryz.f189 X w D hT) (.exit 0) ⟨[],[]⟩ | .inr o7=>tR Tryz.prog Tryz.f189 (.bool o7)) h5 ?_ ?_
 clear h h5
 intro t8 x h
 simp only [qdd] at h
 refine zs<|zr ?_
 refine zU<|zl<|zn<|zs ?_
 obtain ⟨h9,h⟩|⟨h9,h⟩:=zI h
 refine zi<|zk<|zn<|zs<|zb<|zs<|zr ?_
 obtain ⟨x10,h11,h11a,h11b,h⟩:=zX h
 refine zU<|zl<|zn<|zs<|zd ?_
 refine yU ?_
 obtain ⟨r12,h13,h⟩:=zB h
 refine yc (qot r1 x10.Left _ h13) ?_
 refine yU ?_
 obtain ⟨r14,h15,h⟩:=zB h
 refine yc (qot r1 x10.Right _ h15) ?_
 obtain ⟨r16,h17,h⟩:=zB h
 refine yc (ql6 r12 r14 _ h17) ?_
 refine yU ?_
 refine yd<|zn<|zs<|zr ?_
 refine zU<|zl<|zn<|zs<|zs<|zr ?_
 refine zU<|zl<|zn<|zb<|zs<|zr ?_
 refine zU<|zl<|zn ?_
 obtain ⟨h18,h⟩|⟨h18,h⟩:=zI h
 refine zi<|zr ?_
 refine zU<|zl<|yn<|zn<|zs<|zr ?_
 refine zU<|zl<|zn ?_
 obtain ⟨h19,h⟩|⟨h19,h⟩:=zI h
 refine zj<|zk<|yn<|zn<|zr ?_
 refine zU<|zl ?_
 cases h
 exact ⟨rfl,zE⟩
 refine zi<|zs<|zr ?_
 refine zU<|zl<|zn<|zq<|yr<|zt ?_
 cases h
 exact ⟨rfl,zT results189⟩
 refine zj<|zs<|zr ?_
 refine zU<|zl<|zn ?_
 obtain ⟨h20,h⟩|⟨h20,h⟩:=zI h
 refine zi<|zr ?_
 refine zU<|zl<|yn<|zn<|zs<|zr ?_
 refine zU<|zl<|zn ?_
 obtain ⟨h21,h⟩|⟨h21,h⟩:=zI h
 refine zj<|zk<|yn<|zn<|zr ?_
 refine zU<|zl ?_
 cases h
 exact ⟨rfl,zE⟩
 refine zi<|zs<|zr ?_
 refine zU<|zl<|zn<|zq<|yr<|zt ?_
 cases h
 exact ⟨rfl,zT results189⟩
 refine zj<|zs<|zr ?_
 refine zU<|zl<|zn ?_
 obtain ⟨h22,h⟩|⟨h22,h⟩:=zI h
 refine zi<|zr ?_
 refine zU<|zl<|yn<|zn<|zs<|zr ?_
 refine zU<|zl<|zn ?_
 obtain ⟨h23,h⟩|⟨h23,h⟩:=zI h
 refine zj<|zk<|yn<|zn<|zr ?_
 refine zU<|zl ?_
 cases h
 exact ⟨rfl,zE⟩
 refine zi<|zs<|zr ?_
 refine zU<|zl<|zn<|zq<|yr<|zt ?_
 cases h
 exact ⟨rfl,zT results189⟩
 refine zj<|zs<|zr ?_
 refine zU<|zl<|zn ?_
 obtain ⟨h24,h⟩|⟨h24,h⟩:=zI h
 refine zi<|zr ?_
 refine zU<|zl<|yn<|zn<|zs<|zr ?_
 refine zU<|zl<|zn ?_
 obtain ⟨h25,h⟩|⟨h25,h⟩:=zI h
 refine zj<|zk<|yn<|zn<|zr ?_
 refine zU<|zl ?_
 cases h
 exact ⟨rfl,zE⟩
 refine zi<|zs<|zr ?_
 refine zU<|zl<|zn<|zq<|yr<|zt ?_
 cases h
 exact ⟨rfl,zT results189⟩
 refine zj<|zk<|yn<|zn<|zs<|zr ?_
 refine zU<|zl<|zn ?_
 refine zi<|zs<|zr ?_
 refine zU<|zl<|zn<|zq<|yr<|zt ?_
 cases h
 exact ⟨rfl,zT results189⟩
 refine zj<|zx<|ze ?_
 cases h
 exact ⟨rfl,zE⟩
 rcases o4 with ⟨⟩ | r26
 try simp only at h
 refine zA<|yh<|zn<|zs<|zr ?_
 refine zU<|zl<|zn<|zq ?_
 cases h
 exact zT results189
 try simp only at h
 refine zZ fun s hq=>?_
 refine yr<|zt ?_
 cases h
 exact hq
theorem qhw {D:Prop} (s1:List Row) (f2:Row→Option (Bool)) (f2_k:FuncId) (f2_cs:List PV) (f2_h:∀(y3:Row) (r4:Bool),f2 y3=some r4→Con D Tryz.prog f2_k ((qai y3) :: f2_cs) (.bool r4)) (r5:Int) (h:qcx s1 f2=some r5):Con D Tryz.prog 140 [(.slc (vs3 qai s1)),.func (.func f2_k) f2_cs] (.int .i64 r5):=by
 refine zP call140 func140 rfl ntmps140 fun X w hT=>?_
 simp only [qcx] at h
 refine zs<|zr ?_
 refine zU<|zl<|zn<|zs<|zs<|zr ?_
 refine zU<|zl<|zn<|zb ?_
 obtain ⟨o6,h7,h⟩:=zB h
 refine zO (fun (s:Int)=>⟨[(0,.p (.slc (vs3 qai s1))),(1,.p (.func (.func f2_k) f2_cs)),(7,.p (.int .i64 (s1.length:Int))),(8,.p (.int .i64 s))],[]⟩) (fun (o:(Unit) ⊕ (Int))=>match o with | .inl o8=>tE (cX Tryz.f140 X w D hT) (.exit 0) ⟨[],[]⟩ | .inr o9=>tR Tryz.prog Tryz.f140 (.int .i64 o9)) h7 ?_ ?_
 clear h h7
 intro t10 x h
 simp only [qb1] at h
 refine zs<|zr ?_
 refine zU<|zl<|zn<|zs ?_
 obtain ⟨h11,h⟩|⟨h11,h⟩:=zI h
 refine zi<|zk<|zn<|zs<|zb<|zs<|zr ?_
 refine zU<|zl<|zn<|zs<|zr ?_
 obtain ⟨x12,h13,h13a,h13b,h⟩:=zX h
 refine zU ?_
 obtain ⟨r14,h15,h⟩:=zB h
 refine zc (f2_h x12 _ h15) ?_
 refine zl<|zn ?_
 obtain ⟨h16,h⟩|⟨h16,h⟩:=zI h
 refine zi<|zs<|zr ?_
 refine zU<|zl<|zn<|zq<|yr<|zt ?_
 cases h
 exact ⟨rfl,zT results140⟩
 refine zj<|zk<|yn<|zn<|zr ?_
 refine zU<|zl ?_
 cases h
 exact ⟨rfl,zE⟩
 refine zj<|zx<|ze ?_
 cases h
 exact ⟨rfl,zE⟩
 rcases o6 with ⟨⟩ | r17
 try simp only at h
 refine zA<|yh<|zn<|zs<|zr ?_
 refine zU<|zl<|zn<|zq ?_
 cases h
 exact zT results140
 try simp only at h
 refine zZ fun s hq=>?_
 refine yr<|zt ?_
 cases h
 exact hq
theorem qcw {D:Prop} (s1:List Row) (f2:Row→Option (Bool)) (f2_k:FuncId) (f2_cs:List PV) (f2_h:∀(y3:Row) (r4:Bool),f2 y3=some r4→Con D Tryz.prog f2_k ((qai y3) :: f2_cs) (.bool r4)) (r5:Bool) (h:qay s1 f2=some r5):Con D Tryz.prog 190 [(.slc (vs3 qai s1)),.func (.func f2_k) f2_cs] (.bool r5):=by
 refine zP call190 func190 rfl ntmps190 fun X w hT=>?_
 simp only [qay] at h
 refine zs<|zr ?_
 refine zU<|zl<|zn<|zs<|zr ?_
 refine zU ?_
 obtain ⟨r6,h7,h⟩:=zB h
 refine zc (qhw s1 f2 f2_k f2_cs f2_h _ h7) ?_
 refine zU<|zl<|zn<|zq ?_
 cases h
 exact zT results190
theorem qgl {D:Prop} (x1:Row) (c2:Row) (r3:Bool) (h:qcf x1 c2=some r3):Con D Tryz.prog 191 [(qai x1),.imm [.int .i64 c2.ID,.slc (vs3 qaz c2.Values)]] (.bool r3):=by
 refine zP call191 func191 rfl ntmps191 fun X w hT=>?_
 simp only [qcf] at h
 refine zs<|zr ?_
 refine zU<|zl<|zn<|zs<|zr ?_
 refine zU<|zl<|zn<|zq ?_
 cases h
 exact zT results191
theorem qnz (t1:Table) (d2:Denial) (r3:List (List Int)×Int) (h:qde t1 d2=some r3):Con False Tryz.prog 63 [(qab t1),(qac d2)] (.tup [(.slc (vs3 (qbh (vv8 .i64)) r3.1)),(.int .i64 r3.2)]):=by
 refine zP call63 func63 rfl ntmps63 fun X w hT=>?_
 simp only [qde] at h
 refine zs<|zr ?_
 refine zU<|zl<|zn<|zs<|zs<|zr ?_
 refine zU ?_
 obtain ⟨r4,h5,h⟩:=zB h
 refine zc (qqq t1 d2 _ h5) ?_
 refine zU<|zl<|zn<|zs<|zr ?_
 refine zU<|zl<|zn ?_
 obtain ⟨h6,h⟩|⟨h6,h⟩:=zI h
 refine zi<|zs<|zr ?_
 refine zU<|zl<|zn<|zq<|zt ?_
 cases h
 exact zT results63
 have h6F:=vsd.2 h6
 refine zj<|zk<|zn<|zs<|zr ?_
 refine zU<|zl<|zn<|zs<|zr ?_
 refine zU<|zl<|zn ?_
 obtain ⟨o7,h8,h⟩:=zB h
 refine zJ (fun (o9:List (List Int)×Bool)=>tE (cX Tryz.f63 X w False hT) .normal ⟨[(8,.loc 8 1 0 0),(9,.p (.bool o9.2))],[(8,.arr 42 1 1 [.own 200008 1 0 o9.1.length]),(200008,.arr 34 1 1 (vs3 AV.p (vs3 (qbh (vv8 .i64)) o9.1)))]⟩) o7 ?_ ?_
 replace h:=h8
 clear h8
 refine zr ?_
 refine zU ?_
 refine zM ⟨[(8,.loc 8 1 0 0),(17,.p (qab t1)),(18,.p (qac d2)),(19,.func (.func 135) [.loc 7 1 0 0,.loc 8 1 0 0])],[(7,.arr 165 1 1 [.mapo 16 1]),(8,.arr 42 1 1 [.own 200008 1 0 0]),(16,.map 1 [] []),(200008,.arr 34 1 1 [])]⟩ ?_
 obtain ⟨m10,h11,h⟩:=zB h
 replace h11:=vtu h11
 refine vf3 (st':=⟨[(8,.loc 8 1 0 0),(17,.p (qab t1)),(18,.p (qac d2)),(19,.func (.func 135) [.loc 7 1 0 0,.loc 8 1 0 0])],[(7,.arr 165 1 1 [.mapo 16 1]),(8,.arr 42 1 1 [.own 200008 1 0 0]),(16,.map 1 (vs3 AV.p (qfq qaa m10)) (vs3 AV.p (qfz PV.bool m10))),(200008,.arr 34 1 1 [])]⟩) (by simp only [go_sem,seval,h6F,←h11];all_goals ((repeat' refine vv5 ?_ ?_) <;> first | rfl | (simp;done) | (simp;rfl) | (simp [*];done) | (simp [*];rfl))) ?_
 clear h11
 refine zM ⟨[(8,.loc 8 1 0 0),(17,.p (qab t1)),(18,.p (qac d2)),(19,.func (.func 135) [.loc 7 1 0 0,.loc 8 1 0 0])],[(7,.arr 165 1 1 [.mapo 16 1]),(8,.arr 42 1 1 [.own 200008 1 0 0]),(16,.map 1 (vs3 AV.p (qfq qaa m10)) (vs3 AV.p (qfz PV.bool m10))),(200008,.arr 34 1 1 [])]⟩ ?_
 refine qgn (avs:=[.p (qab t1),.p (qac d2),.nils,.func (.func 135) [.loc 7 1 0 0,.loc 8 1 0 0]]) 26 rfl (qbe rfl) rfl func134 rfl call134 ntmps134 (by simp) (by simp only [go_sem,seval,h6F];all_goals rfl) ?_
 intro i12 w13 h14
 obtain ⟨l15,h16,h⟩:=zB h
 replace h16:=vtu h16
 refine qv4 (st':=⟨[(0,.p (qab t1)),(1,.p (qac d2)),(2,.p (.slc (vs3 qai l15))),(3,.func (.func 135) [.loc 7 1 0 0,.loc 8 1 0 0])],[(7,.arr 165 1 1 [.mapo 16 1]),(8,.arr 42 1 1 [.own 200008 1 0 0]),(16,.map 1 (vs3 AV.p (qfq qaa m10)) (vs3 AV.p (qfz PV.bool m10))),(200008,.arr 34 1 1 [])]⟩) (by simp only [go_sem,seval,h6F,←h16];all_goals ((repeat' refine vv5 ?_ ?_) <;> first | rfl | (simp;done) | (simp;rfl) | (simp [*];done) | (simp [*];rfl))) ?_
 clear h16
 refine zs<|zr ?_
 refine zU<|zl<|zn<|zs<|zs<|zr ?_
 refine zU<|zl<|zn ?_
 obtain ⟨h17,h⟩|⟨h17,h⟩:=zI h
 refine zi<|zs<|zr ?_
 refine zU ?_
 obtain ⟨r18,h19,h⟩:=zB h
 refine zc (qe8 l15 d2.Atoms _ h19) ?_
 refine zU ?_
 obtain ⟨h20,h⟩|⟨h20,h⟩:=zI h
 refine zw 21 false ?_
 refine zg ?_
 refine zg ?_
 refine zM ⟨[(21,.p (.bool false)),(22,.func (.func 135) [.loc 7 1 0 0,.loc 8 1 0 0]),(23,.p (.slc (vs3 qai l15)))],[(7,.arr 165 1 1 [.mapo 16 1]),(8,.arr 42 1 1 [.own 200008 1 0 0]),(16,.map 1 (vs3 AV.p (qfq qaa m10)) (vs3 AV.p (qfz PV.bool m10))),(200008,.arr 34 1 1 [])]⟩ ?_
 refine qgn (avs:=[.p (.slc (vs3 qai l15)),.loc 7 1 0 0,.loc 8 1 0 0]) 73 rfl (qb4 rfl rfl (by exact rfl) (by exact rfl)) rfl func135 rfl call135 ntmps135 (by simp) (by simp only [go_sem,seval,h6F,h17,h20];all_goals rfl) ?_
 intro i21 w22 h23
 show AWp _ _ _ ⟨[(0,.p (.slc (vs3 qai l15))),(1,.loc 7 1 0 0),(2,.loc 8 1 0 0)],[(7,.arr 165 1 1 [.mapo 16 1]),(8,.arr 42 1 1 [.own 200008 1 0 0]),(16,.map 1 (vs3 AV.p (qfq qaa m10)) (vs3 AV.p (qfz PV.bool m10))),(200008,.arr 34 1 1 [])]⟩
 refine zs<|zr ?_
 refine zU<|zl<|zn<|zs<|zr ?_
 refine zU<|zl<|zn<|zs<|zs<|zr ?_
 refine zU<|zl<|zn<|zb ?_
 obtain ⟨l24,h25,h⟩:=zB h
 refine zO (fun (s:List Int×Int)=>⟨[(1,.loc 7 1 0 0),(2,.loc 8 1 0 0),(5,.own 92 1 0 s.1.length),(9,.p (.slc (vs3 qai l15))),(10,.p (.int .i64 (l15.length:Int))),(11,.p (.int .i64 s.2))],[(7,.arr 165 1 1 [.mapo 16 1]),(8,.arr 42 1 1 [.own 200008 1 0 0]),(16,.map 1 (vs3 AV.p (qfq qaa m10)) (vs3 AV.p (qfz PV.bool m10))),(92,.arr 2 1 1 (vs3 AV.p (vs3 (vv8 .i64) s.1))),(200008,.arr 34 1 1 (vs3 AV.p (vs3 (qbh (vv8 .i64)) [])))]⟩) (fun (o26:List Int)=>tE ⟨Tryz.prog,39,73,X,[(7,.arr 165 1 1 [.mapo 16 1]),(8,.arr 42 1 1 [.own 200008 1 0 0]),(16,.map 1 (vs3 AV.p (qfq qaa m10)) (vs3 AV.p (qfz PV.bool m10))),(200008,.arr 34 1 1 [])],i21,w22,False,h23⟩ (.exit 0) ⟨[(1,.loc 7 1 0 0),(2,.loc 8 1 0 0),(5,.own 92 1 0 o26.length)],[(7,.arr 165 1 1 [.mapo 16 1]),(8,.arr 42 1 1 [.own 200008 1 0 0]),(16,.map 1 (vs3 AV.p (qfq qaa m10)) (vs3 AV.p (qfz PV.bool m10))),(92,.arr 2 1 1 (vs3 AV.p (vs3 (vv8 .i64) o26))),(200008,.arr 34 1 1 (vs3 AV.p (vs3 (qbh (vv8 .i64)) [])))]⟩) h25 ?_ ?_
 clear h h5 h6 h6F h17 h19 h20 h25
 intro s x h
 obtain ⟨l27,t28⟩:=s
 simp only [qja] at h
 dsimp only
 refine zs<|zr ?_
 refine zU<|zl<|zn<|zs ?_
 obtain ⟨h29,h⟩|⟨h29,h⟩:=zI h
 refine zi<|zk<|zn<|zs<|zb<|zs<|zr ?_
 obtain ⟨x30,h31,h31a,h31b,h⟩:=zX h
 refine zU<|zl<|zn<|zr ?_
 obtain ⟨h32,h⟩:=qaf h
 refine zU<|zl<|yn<|zn<|zr ?_
 refine zU<|zl ?_
 cases h
 exact ⟨rfl,zE⟩
 refine zj<|zx<|ze ?_
 cases h
 exact ⟨rfl,zE⟩
 try simp only at h
 refine zA<|yh<|zn<|zs<|zr ?_
 refine zU ?_
 refine zM ⟨[(1,.loc 7 1 0 0),(2,.loc 8 1 0 0),(5,.own 92 1 0 l24.length),(21,.own 92 1 0 l24.length)],[(7,.arr 165 1 1 [.mapo 16 1]),(8,.arr 42 1 1 [.own 200008 1 0 0]),(16,.map 1 (vs3 AV.p (qfq qaa m10)) (vs3 AV.p (qfz PV.bool m10))),(92,.arr 2 1 1 (vs3 AV.p (vs3 (vv8 .i64) l24))),(200008,.arr 34 1 1 (vs3 AV.p (vs3 (qbh (vv8 .i64)) [])))]⟩ ?_
 obtain ⟨l33,h34,h⟩:=zB h
 refine zSI srt136 h34 ?_
 have h35:=qpx h34
 refine zM ⟨[(1,.loc 7 1 0 0),(2,.loc 8 1 0 0),(5,.own 92 1 0 l33.length),(22,.p (.tup []))],[(7,.arr 165 1 1 [.mapo 16 1]),(8,.arr 42 1 1 [.own 200008 1 0 0]),(16,.map 1 (vs3 AV.p (qfq qaa m10)) (vs3 AV.p (qfz PV.bool m10))),(92,.arr 2 1 1 (vs3 AV.p (vs3 (vv8 .i64) l33))),(200008,.arr 34 1 1 (vs3 AV.p (vs3 (qbh (vv8 .i64)) [])))]⟩ ?_
 clear h35
 refine zl<|zn<|zs<|zr ?_
 refine zU<|zl<|zn<|zs<|zr ?_
 refine zM ⟨[(1,.loc 7 1 0 0),(2,.loc 8 1 0 0),(5,.p (.slc (vs3 (vv8 .i64) l33))),(8,.loc 81 1 0 0)],[(7,.arr 165 1 1 [.mapo 16 1]),(8,.arr 42 1 1 [.own 200008 1 0 0]),(16,.map 1 (vs3 AV.p (qfq qaa m10)) (vs3 AV.p (qfz PV.bool m10))),(81,.arr 166 3 1 [.p (.agg [.int .i64 0,.int .i64 0,.int .i64 0])]),(200008,.arr 34 1 1 (vs3 AV.p (vs3 (qbh (vv8 .i64)) [])))]⟩ ?_
 refine vmj 81 0 0 0 l33 underlying166 underlying34 ?_
 refine zl<|zn<|zs<|zs<|zr ?_
 refine zU<|zl<|zn ?_
 obtain ⟨h36,h⟩|⟨h36,h⟩:=zI h
 refine zj<|zk<|zn<|zs<|zr ?_
 refine zU<|zl<|zn<|zq ?_
 refine qbb (by simp only [results135];simp only [go_sem,seval,h6F,h17,h20,h36];exact rfl) ?_
 refine zU<|zl<|zn<|zq<|zt ?_
 refine qbb (by simp only [results134];simp only [go_sem,seval,h6F,h17,h20,h36];exact rfl) ?_
 refine zU<|zl ?_
 cases h
 exact ⟨rfl,zE⟩
 have h36F:=vsd.2 h36
 refine zi<|zs<|zr ?_
 refine zU<|zl<|zn<|zr ?_
 have h37:qdi 1 24=true:=by decide
 refine zU<|zl<|zn<|zs<|zr ?_
 refine zU<|zl<|zn<|zq ?_
 refine qbb (by simp only [results135];simp only [go_sem,seval,h6F,h17,h20,h36F];exact rfl) ?_
 refine zU<|zl<|zn<|zq<|zt ?_
 refine qbb (by simp only [results134];simp only [go_sem,seval,h6F,h17,h20,h36F];exact rfl) ?_
 refine zU<|zl ?_
 cases h
 exact ⟨rfl,zE⟩
 have h20F:=vsd.2 h20
 refine zw 21 true ?_
 refine zh ?_
 refine zU<|zl<|zn<|zq<|zt ?_
 refine qbb (by simp only [results134];simp only [go_sem,seval,h6F,h17,h20F];exact rfl) ?_
 refine zU<|zl ?_
 cases h
 exact ⟨rfl,zE⟩
 have h17F:=vsd.2 h17
 refine zj<|zk<|zn<|zs<|zs<|zr ?_
 refine zU<|zl<|zn<|zb ?_
 obtain ⟨o38,h39,h⟩:=zB h
 refine zO (fun (s:(List (Arr3_int64×Bool))×List (List Int)×Int)=>⟨[(2,.p (.slc (vs3 qai l15))),(3,.func (.func 135) [.loc 7 1 0 0,.loc 8 1 0 0]),(4,.loc 30 1 0 0),(5,.loc 31 1 0 0),(27,.p (.slc (vs3 qai t1.Rows))),(28,.p (.int .i64 (t1.Rows.length:Int))),(29,.p (.int .i64 s.2.2))],[(7,.arr 165 1 1 [.mapo 16 1]),(8,.arr 42 1 1 [.own 200008 2 0 s.2.1.length]),(16,.map 1 (vs3 AV.p (qfq qaa s.1)) (vs3 AV.p (qfz PV.bool s.1))),(30,.arr 32 3 1 [.p (qab t1)]),(31,.arr 89 2 1 [.p (qac d2)]),(200008,.arr 34 1 2 (vs3 AV.p (vs3 (qbh (vv8 .i64)) s.2.1)))]⟩) (fun (o:((List (Arr3_int64×Bool))×List (List Int)) ⊕ ((List (Arr3_int64×Bool))×List (List Int)))=>match o with | .inl o40=>tE ⟨Tryz.prog,47,26,X,[(7,.arr 165 1 1 [.mapo 16 1]),(8,.arr 42 1 1 [.own 200008 1 0 0]),(16,.map 1 (vs3 AV.p (qfq qaa m10)) (vs3 AV.p (qfz PV.bool m10))),(200008,.arr 34 1 1 [])],i12,w13,False,h14⟩ (.exit 0) ⟨[],[(7,.arr 165 1 1 [.mapo 16 1]),(8,.arr 42 1 1 [.own 200008 2 0 o40.2.length]),(16,.map 1 (vs3 AV.p (qfq qaa o40.1)) (vs3 AV.p (qfz PV.bool o40.1))),(200008,.arr 34 1 2 (vs3 AV.p (vs3 (qbh (vv8 .i64)) o40.2)))]⟩ | .inr o41=>tE ⟨Tryz.prog,47,26,X,[(7,.arr 165 1 1 [.mapo 16 1]),(8,.arr 42 1 1 [.own 200008 1 0 0]),(16,.map 1 (vs3 AV.p (qfq qaa m10)) (vs3 AV.p (qfz PV.bool m10))),(200008,.arr 34 1 1 [])],i12,w13,False,h14⟩ .ret ⟨[(8,.p (.bool false))],[(7,.arr 165 1 1 [.mapo 16 1]),(8,.arr 42 1 1 [.own 200008 2 0 o41.2.length]),(16,.map 1 (vs3 AV.p (qfq qaa o41.1)) (vs3 AV.p (qfz PV.bool o41.1))),(200008,.arr 34 1 2 (vs3 AV.p (vs3 (qbh (vv8 .i64)) o41.2)))]⟩) h39 ?_ ?_
 clear h h5 h6 h6F h17 h17F h39
 intro s x h
 obtain ⟨f42,f43,t44⟩:=s
 simp only [qa7] at h
 dsimp only
 refine zs<|zr ?_
 refine zU<|zl<|zn<|zs ?_
 obtain ⟨h45,h⟩|⟨h45,h⟩:=zI h
 have h45T:=eq_true h45
 refine zi<|zk<|zn<|zs<|zb<|zs<|zr ?_
 obtain ⟨x46,h47,h47a,h47b,h⟩:=zX h
 refine zU<|zl<|zn<|zs<|zs<|zr ?_
 refine zU ?_
 obtain ⟨r48,h49,h⟩:=zB h
 refine zc (qcw l15 (fun (y50:Row)=>qcf y50 x46) 191 [.imm [.int .i64 x46.ID,.slc (vs3 qaz x46.Values)]] (fun y50 r h=>qgl y50 x46 r h) _ h49) ?_
 refine zl<|zn ?_
 obtain ⟨h51,h⟩|⟨h51,h⟩:=zI h
 refine zi<|zx<|ze<|yh<|zn<|zr ?_
 refine zU<|zl ?_
 cases h
 exact ⟨rfl,zE⟩
 have h51F:=vsd.2 h51
 refine zj<|zk<|zn<|zs ?_
 refine zdl 8 ?_
 refine yU ?_
 obtain ⟨h52,h⟩:=qaf h
 refine yK cln192 65 qai l15 _ rfl ⟨by unfold maxLen;omega,by omega⟩ ?_
 have h53:=@qsf PV
 obtain ⟨h54,h⟩:=qaf h
 refine yU ?_
 refine ydlS ?_
 refine zM ⟨[(2,.p (.slc (vs3 qai l15))),(3,.func (.func 135) [.loc 7 1 0 0,.loc 8 1 0 0]),(4,.loc 30 1 0 0),(5,.loc 31 1 0 0),(27,.p (.slc (vs3 qai t1.Rows))),(28,.p (.int .i64 (t1.Rows.length:Int))),(29,.p (.int .i64 t44)),(36,.p (qab t1)),(37,.p (qac d2)),(42,.p (.slc (vs3 qai (l15++[x46])))),(43,.func (.func 135) [.loc 7 1 0 0,.loc 8 1 0 0])],[(7,.arr 165 1 1 [.mapo 16 1]),(8,.arr 42 1 1 [.own 200008 2 0 f43.length]),(16,.map 1 (vs3 AV.p (qfq qaa f42)) (vs3 AV.p (qfz PV.bool f42))),(30,.arr 32 3 1 [.p (qab t1)]),(31,.arr 89 2 1 [.p (qac d2)]),(200008,.arr 34 1 2 (vs3 AV.p (vs3 (qbh (vv8 .i64)) f43)))]⟩ ?_
 refine qgn (avs:=[.p (qab t1),.p (qac d2),.p (.slc (vs3 qai (l15++[x46]))),.func (.func 135) [.loc 7 1 0 0,.loc 8 1 0 0]]) 112 rfl (qbe rfl) rfl func134 rfl call134 ntmps134 (by simp) (by simp only [go_sem,seval,h45T,h51F];all_goals rfl) ?_
 intro i55 w56 h57
 obtain ⟨l58,h59,h⟩:=zB h
 replace h59:=vtu h59
 refine qv4 (st':=⟨[(0,.p (qab t1)),(1,.p (qac d2)),(2,.p (.slc (vs3 qai l58))),(3,.func (.func 135) [.loc 7 1 0 0,.loc 8 1 0 0])],[(7,.arr 165 1 1 [.mapo 16 1]),(8,.arr 42 1 1 [.own 200008 2 0 f43.length]),(16,.map 1 (vs3 AV.p (qfq qaa f42)) (vs3 AV.p (qfz PV.bool f42))),(30,.arr 32 3 1 [.p (qab t1)]),(31,.arr 89 2 1 [.p (qac d2)]),(200008,.arr 34 1 2 (vs3 AV.p (vs3 (qbh (vv8 .i64)) f43)))]⟩) (by simp only [go_sem,seval,h45T,h51F,←h59];all_goals ((repeat' refine vv5 ?_ ?_) <;> first | rfl | (simp;done) | (simp;rfl) | (simp [*];done) | (simp [*];rfl))) ?_
 clear h59
 refine zs<|zr ?_
 refine zU<|zl<|zn<|zs<|zs<|zr ?_
 refine zU<|zl<|zn ?_
 obtain ⟨h60,h⟩|⟨h60,h⟩:=zI h
 refine zi<|zs<|zr ?_
 refine zU ?_
 obtain ⟨r61,h62,h⟩:=zB h
 refine zc (qe8 l58 d2.Atoms _ h62) ?_
 refine zU ?_
 obtain ⟨h63,h⟩|⟨h63,h⟩:=zI h
 refine zw 21 false ?_
 refine zg ?_
 refine zg ?_
 refine zM ⟨[(21,.p (.bool false)),(22,.func (.func 135) [.loc 7 1 0 0,.loc 8 1 0 0]),(23,.p (.slc (vs3 qai l58)))],[(7,.arr 165 1 1 [.mapo 16 1]),(8,.arr 42 1 1 [.own 200008 2 0 f43.length]),(16,.map 1 (vs3 AV.p (qfq qaa f42)) (vs3 AV.p (qfz PV.bool f42))),(30,.arr 32 3 1 [.p (qab t1)]),(31,.arr 89 2 1 [.p (qac d2)]),(200008,.arr 34 1 2 (vs3 AV.p (vs3 (qbh (vv8 .i64)) f43)))]⟩ ?_
 refine qgn (avs:=[.p (.slc (vs3 qai l58)),.loc 7 1 0 0,.loc 8 1 0 0]) 159 rfl (qb4 rfl rfl (by exact rfl) (by exact rfl)) rfl func135 rfl call135 ntmps135 (by simp) (by simp only [go_sem,seval,h45T,h51F,h60,h63];all_goals rfl) ?_
 intro i65 w66 h67
 show AWp _ _ _ ⟨[(0,.p (.slc (vs3 qai l58))),(1,.loc 7 1 0 0),(2,.loc 8 1 0 0)],[(7,.arr 165 1 1 [.mapo 16 1]),(8,.arr 42 1 1 [.own 200008 2 0 f43.length]),(16,.map 1 (vs3 AV.p (qfq qaa f42)) (vs3 AV.p (qfz PV.bool f42))),(30,.arr 32 3 1 [.p (qab t1)]),(31,.arr 89 2 1 [.p (qac d2)]),(200008,.arr 34 1 2 (vs3 AV.p (vs3 (qbh (vv8 .i64)) f43)))]⟩
 refine zs<|zr ?_
 refine zU<|zl<|zn<|zs<|zr ?_
 refine zU<|zl<|zn<|zs<|zs<|zr ?_
 refine zU<|zl<|zn<|zb ?_
 obtain ⟨l68,h69,h⟩:=zB h
 refine zO (fun (s:List Int×Int)=>⟨[(1,.loc 7 1 0 0),(2,.loc 8 1 0 0),(5,.own 178 1 0 s.1.length),(9,.p (.slc (vs3 qai l58))),(10,.p (.int .i64 (l58.length:Int))),(11,.p (.int .i64 s.2))],[(7,.arr 165 1 1 [.mapo 16 1]),(8,.arr 42 1 1 [.own 200008 2 0 f43.length]),(16,.map 1 (vs3 AV.p (qfq qaa f42)) (vs3 AV.p (qfz PV.bool f42))),(30,.arr 32 3 1 [.p (qab t1)]),(31,.arr 89 2 1 [.p (qac d2)]),(178,.arr 2 1 1 (vs3 AV.p (vs3 (vv8 .i64) s.1))),(200008,.arr 34 1 2 (vs3 AV.p (vs3 (qbh (vv8 .i64)) f43)))]⟩) (fun (o70:List Int)=>tE ⟨Tryz.prog,39,159,X,[(7,.arr 165 1 1 [.mapo 16 1]),(8,.arr 42 1 1 [.own 200008 2 0 f43.length]),(16,.map 1 (vs3 AV.p (qfq qaa f42)) (vs3 AV.p (qfz PV.bool f42))),(30,.arr 32 3 1 [.p (qab t1)]),(31,.arr 89 2 1 [.p (qac d2)]),(200008,.arr 34 1 2 (vs3 AV.p (vs3 (qbh (vv8 .i64)) f43)))],i65,w66,False,h67⟩ (.exit 0) ⟨[(1,.loc 7 1 0 0),(2,.loc 8 1 0 0),(5,.own 178 1 0 o70.length)],[(7,.arr 165 1 1 [.mapo 16 1]),(8,.arr 42 1 1 [.own 200008 2 0 f43.length]),(16,.map 1 (vs3 AV.p (qfq qaa f42)) (vs3 AV.p (qfz PV.bool f42))),(30,.arr 32 3 1 [.p (qab t1)]),(31,.arr 89 2 1 [.p (qac d2)]),(178,.arr 2 1 1 (vs3 AV.p (vs3 (vv8 .i64) o70))),(200008,.arr 34 1 2 (vs3 AV.p (vs3 (qbh (vv8 .i64)) f43)))]⟩) h69 ?_ ?_
 clear h h45 h45T h47 h47a h47b h49 h51 h51F h52 h53 h54 h60 h62 h63 h69
 intro s x h
 obtain ⟨l71,t72⟩:=s
 simp only [qg8] at h
 dsimp only
 refine zs<|zr ?_
 refine zU<|zl<|zn<|zs ?_
 obtain ⟨h73,h⟩|⟨h73,h⟩:=zI h
 refine zi<|zk<|zn<|zs<|zb<|zs<|zr ?_
 obtain ⟨x74,h75,h75a,h75b,h⟩:=zX h
 refine zU<|zl<|zn<|zr ?_
 obtain ⟨h76,h⟩:=qaf h
 refine zU<|zl<|yn<|zn<|zr ?_
 refine zU<|zl ?_
 cases h
 exact ⟨rfl,zE⟩
 refine zj<|zx<|ze ?_
 cases h
 exact ⟨rfl,zE⟩
 try simp only at h
 refine zA<|yh<|zn<|zs<|zr ?_
 refine zU ?_
 refine zM ⟨[(1,.loc 7 1 0 0),(2,.loc 8 1 0 0),(5,.own 178 1 0 l68.length),(21,.own 178 1 0 l68.length)],[(7,.arr 165 1 1 [.mapo 16 1]),(8,.arr 42 1 1 [.own 200008 2 0 f43.length]),(16,.map 1 (vs3 AV.p (qfq qaa f42)) (vs3 AV.p (qfz PV.bool f42))),(30,.arr 32 3 1 [.p (qab t1)]),(31,.arr 89 2 1 [.p (qac d2)]),(178,.arr 2 1 1 (vs3 AV.p (vs3 (vv8 .i64) l68))),(200008,.arr 34 1 2 (vs3 AV.p (vs3 (qbh (vv8 .i64)) f43)))]⟩ ?_
 obtain ⟨l77,h78,h⟩:=zB h
 refine zSI srt136 h78 ?_
 have h79:=qpx h78
 refine zM ⟨[(1,.loc 7 1 0 0),(2,.loc 8 1 0 0),(5,.own 178 1 0 l77.length),(22,.p (.tup []))],[(7,.arr 165 1 1 [.mapo 16 1]),(8,.arr 42 1 1 [.own 200008 2 0 f43.length]),(16,.map 1 (vs3 AV.p (qfq qaa f42)) (vs3 AV.p (qfz PV.bool f42))),(30,.arr 32 3 1 [.p (qab t1)]),(31,.arr 89 2 1 [.p (qac d2)]),(178,.arr 2 1 1 (vs3 AV.p (vs3 (vv8 .i64) l77))),(200008,.arr 34 1 2 (vs3 AV.p (vs3 (qbh (vv8 .i64)) f43)))]⟩ ?_
 clear h79
 refine zl<|zn<|zs<|zr ?_
 refine zU<|zl<|zn<|zs<|zr ?_
 refine zM ⟨[(1,.loc 7 1 0 0),(2,.loc 8 1 0 0),(5,.p (.slc (vs3 (vv8 .i64) l77))),(8,.loc 167 1 0 0)],[(7,.arr 165 1 1 [.mapo 16 1]),(8,.arr 42 1 1 [.own 200008 2 0 f43.length]),(16,.map 1 (vs3 AV.p (qfq qaa f42)) (vs3 AV.p (qfz PV.bool f42))),(30,.arr 32 3 1 [.p (qab t1)]),(31,.arr 89 2 1 [.p (qac d2)]),(167,.arr 166 3 1 [.p (.agg [.int .i64 0,.int .i64 0,.int .i64 0])]),(200008,.arr 34 1 2 (vs3 AV.p (vs3 (qbh (vv8 .i64)) f43)))]⟩ ?_
 refine vmj 167 0 0 0 l77 underlying166 underlying34 ?_
 refine zl<|zn<|zs<|zs<|zr ?_
 refine zU<|zl<|zn ?_
 obtain ⟨h80,h⟩|⟨h80,h⟩:=zI h
 refine zj<|zk<|zn<|zs<|zr ?_
 refine zU<|zl<|zn<|zq ?_
 refine qbb (by simp only [results135];simp only [go_sem,seval,h45T,h51F,h60,h63,h80];exact rfl) ?_
 refine zU<|zl<|zn<|zq<|zt ?_
 refine qbb (by simp only [results134];simp only [go_sem,seval,h45T,h51F,h60,h63,h80];exact rfl) ?_
 refine zU<|zl<|zn ?_
 obtain ⟨h81,h⟩|⟨h81,h⟩:=zI h
 refine zj<|zk<|yn<|zn<|zr ?_
 refine zU<|zl ?_
 cases h
 exact ⟨rfl,zE⟩
 refine zi<|zs<|zr ?_
 refine zU<|zl<|zn<|zq<|yr<|zt ?_
 cases h
 exact ⟨rfl,zE⟩
 have h80F:=vsd.2 h80
 refine zi<|zs<|zr ?_
 refine zU<|zl<|zn<|zr ?_
 obtain ⟨h82,h⟩:=qaf h
 refine zU<|zl<|zn<|zs<|zr ?_
 refine zU<|zl<|zn<|zq ?_
 refine qbb (by simp only [results135];simp only [go_sem,seval,h45T,h51F,h60,h63,h80F];exact rfl) ?_
 refine zU<|zl<|zn<|zq<|zt ?_
 refine qbb (by simp only [results134];simp only [go_sem,seval,h45T,h51F,h60,h63,h80F];exact rfl) ?_
 refine zU<|zl<|zn ?_
 obtain ⟨h83,h⟩|⟨h83,h⟩:=zI h
 refine zj<|zk<|yn<|zn<|zr ?_
 refine zU<|zl ?_
 cases h
 exact ⟨rfl,zE⟩
 refine zi<|zs<|zr ?_
 refine zU<|zl<|zn<|zq<|yr<|zt ?_
 cases h
 exact ⟨rfl,zE⟩
 have h63F:=vsd.2 h63
 refine zw 21 true ?_
 refine zh ?_
 refine zU<|zl<|zn<|zq<|zt ?_
 refine qbb (by simp only [results134];simp only [go_sem,seval,h45T,h51F,h60,h63F];exact rfl) ?_
 refine zU<|zl<|zn ?_
 refine zj<|zk<|yn<|zn<|zr ?_
 refine zU<|zl ?_
 cases h
 exact ⟨rfl,zE⟩
 have h60F:=vsd.2 h60
 refine zj<|zk<|zn<|zs<|zs<|zr ?_
 refine zU<|zl<|zn<|zb ?_
 obtain ⟨o84,h85,h⟩:=zB h
 refine zO (fun (s:(List (Arr3_int64×Bool))×List (List Int)×Int)=>⟨[(2,.p (.slc (vs3 qai l58))),(3,.func (.func 135) [.loc 7 1 0 0,.loc 8 1 0 0]),(4,.loc 116 1 0 0),(5,.loc 117 1 0 0),(27,.p (.slc (vs3 qai t1.Rows))),(28,.p (.int .i64 (t1.Rows.length:Int))),(29,.p (.int .i64 s.2.2))],[(7,.arr 165 1 1 [.mapo 16 1]),(8,.arr 42 1 1 [.own 200008 3 0 s.2.1.length]),(16,.map 1 (vs3 AV.p (qfq qaa s.1)) (vs3 AV.p (qfz PV.bool s.1))),(30,.arr 32 3 1 [.p (qab t1)]),(31,.arr 89 2 1 [.p (qac d2)]),(116,.arr 32 3 1 [.p (qab t1)]),(117,.arr 89 2 1 [.p (qac d2)]),(200008,.arr 34 1 3 (vs3 AV.p (vs3 (qbh (vv8 .i64)) s.2.1)))]⟩) (fun (o:((List (Arr3_int64×Bool))×List (List Int)) ⊕ ((List (Arr3_int64×Bool))×List (List Int)))=>match o with | .inl o86=>tE ⟨Tryz.prog,47,112,X,[(7,.arr 165 1 1 [.mapo 16 1]),(8,.arr 42 1 1 [.own 200008 2 0 f43.length]),(16,.map 1 (vs3 AV.p (qfq qaa f42)) (vs3 AV.p (qfz PV.bool f42))),(30,.arr 32 3 1 [.p (qab t1)]),(31,.arr 89 2 1 [.p (qac d2)]),(200008,.arr 34 1 2 (vs3 AV.p (vs3 (qbh (vv8 .i64)) f43)))],i55,w56,False,h57⟩ (.exit 0) ⟨[],[(7,.arr 165 1 1 [.mapo 16 1]),(8,.arr 42 1 1 [.own 200008 3 0 o86.2.length]),(16,.map 1 (vs3 AV.p (qfq qaa o86.1)) (vs3 AV.p (qfz PV.bool o86.1))),(30,.arr 32 3 1 [.p (qab t1)]),(31,.arr 89 2 1 [.p (qac d2)]),(200008,.arr 34 1 3 (vs3 AV.p (vs3 (qbh (vv8 .i64)) o86.2)))]⟩ | .inr o87=>tE ⟨Tryz.prog,47,112,X,[(7,.arr 165 1 1 [.mapo 16 1]),(8,.arr 42 1 1 [.own 200008 2 0 f43.length]),(16,.map 1 (vs3 AV.p (qfq qaa f42)) (vs3 AV.p (qfz PV.bool f42))),(30,.arr 32 3 1 [.p (qab t1)]),(31,.arr 89 2 1 [.p (qac d2)]),(200008,.arr 34 1 2 (vs3 AV.p (vs3 (qbh (vv8 .i64)) f43)))],i55,w56,False,h57⟩ .ret ⟨[(8,.p (.bool false))],[(7,.arr 165 1 1 [.mapo 16 1]),(8,.arr 42 1 1 [.own 200008 3 0 o87.2.length]),(16,.map 1 (vs3 AV.p (qfq qaa o87.1)) (vs3 AV.p (qfz PV.bool o87.1))),(30,.arr 32 3 1 [.p (qab t1)]),(31,.arr 89 2 1 [.p (qac d2)]),(200008,.arr 34 1 3 (vs3 AV.p (vs3 (qbh (vv8 .i64)) o87.2)))]⟩) h85 ?_ ?_
 clear h h45 h45T h47 h47a h47b h49 h51 h51F h52 h53 h54 h60 h60F h85
 intro s x h
 obtain ⟨f88,f89,t90⟩:=s
 simp only [qa6] at h
 dsimp only
 refine zs<|zr ?_
 refine zU<|zl<|zn<|zs ?_
 obtain ⟨h91,h⟩|⟨h91,h⟩:=zI h
 have h91T:=eq_true h91
 refine zi<|zk<|zn<|zs<|zb<|zs<|zr ?_
 obtain ⟨x92,h93,h93a,h93b,h⟩:=zX h
 refine zU<|zl<|zn<|zs<|zs<|zr ?_
 refine zU ?_
 obtain ⟨r94,h95,h⟩:=zB h
 refine zc (qcw l58 (fun (y96:Row)=>qcf y96 x92) 191 [.imm [.int .i64 x92.ID,.slc (vs3 qaz x92.Values)]] (fun y96 r h=>qgl y96 x92 r h) _ h95) ?_
 refine zl<|zn ?_
 obtain ⟨h97,h⟩|⟨h97,h⟩:=zI h
 refine zi<|zx<|ze<|yh<|zn<|zr ?_
 refine zU<|zl ?_
 cases h
 exact ⟨rfl,zE⟩
 have h97F:=vsd.2 h97
 refine zj<|zk<|zn<|zs ?_
 refine zdl 8 ?_
 refine yU ?_
 obtain ⟨h98,h⟩:=qaf h
 refine yK cln192 151 qai l58 _ rfl ⟨by unfold maxLen;omega,by omega⟩ ?_
 have h99:=@qsf PV
 obtain ⟨h100,h⟩:=qaf h
 refine yU ?_
 refine ydlS ?_
 refine zM ⟨[(2,.p (.slc (vs3 qai l58))),(3,.func (.func 135) [.loc 7 1 0 0,.loc 8 1 0 0]),(4,.loc 116 1 0 0),(5,.loc 117 1 0 0),(27,.p (.slc (vs3 qai t1.Rows))),(28,.p (.int .i64 (t1.Rows.length:Int))),(29,.p (.int .i64 t90)),(36,.p (qab t1)),(37,.p (qac d2)),(42,.p (.slc (vs3 qai (l58++[x92])))),(43,.func (.func 135) [.loc 7 1 0 0,.loc 8 1 0 0])],[(7,.arr 165 1 1 [.mapo 16 1]),(8,.arr 42 1 1 [.own 200008 3 0 f89.length]),(16,.map 1 (vs3 AV.p (qfq qaa f88)) (vs3 AV.p (qfz PV.bool f88))),(30,.arr 32 3 1 [.p (qab t1)]),(31,.arr 89 2 1 [.p (qac d2)]),(116,.arr 32 3 1 [.p (qab t1)]),(117,.arr 89 2 1 [.p (qac d2)]),(200008,.arr 34 1 3 (vs3 AV.p (vs3 (qbh (vv8 .i64)) f89)))]⟩ ?_
 refine qgn (avs:=[.p (qab t1),.p (qac d2),.p (.slc (vs3 qai (l58++[x92]))),.func (.func 135) [.loc 7 1 0 0,.loc 8 1 0 0]]) 198 rfl (qbe rfl) rfl func134 rfl call134 ntmps134 (by simp) (by simp only [go_sem,seval,h91T,h97F];all_goals rfl) ?_
 intro i101 w102 h103
 obtain ⟨l104,h105,h⟩:=zB h
 replace h105:=vtu h105
 refine qv4 (st':=⟨[(0,.p (qab t1)),(1,.p (qac d2)),(2,.p (.slc (vs3 qai l104))),(3,.func (.func 135) [.loc 7 1 0 0,.loc 8 1 0 0])],[(7,.arr 165 1 1 [.mapo 16 1]),(8,.arr 42 1 1 [.own 200008 3 0 f89.length]),(16,.map 1 (vs3 AV.p (qfq qaa f88)) (vs3 AV.p (qfz PV.bool f88))),(30,.arr 32 3 1 [.p (qab t1)]),(31,.arr 89 2 1 [.p (qac d2)]),(116,.arr 32 3 1 [.p (qab t1)]),(117,.arr 89 2 1 [.p (qac d2)]),(200008,.arr 34 1 3 (vs3 AV.p (vs3 (qbh (vv8 .i64)) f89)))]⟩) (by simp only [go_sem,seval,h91T,h97F,←h105];all_goals ((repeat' refine vv5 ?_ ?_) <;> first | rfl | (simp;done) | (simp;rfl) | (simp [*];done) | (simp [*];rfl))) ?_
 clear h105
 refine zs<|zr ?_
 refine zU<|zl<|zn<|zs<|zs<|zr ?_
 refine zU<|zl<|zn ?_
 obtain ⟨h106,h⟩|⟨h106,h⟩:=zI h
 refine zi<|zs<|zr ?_
 refine zU ?_
 obtain ⟨r107,h108,h⟩:=zB h
 refine zc (qe8 l104 d2.Atoms _ h108) ?_
 refine zU ?_
 obtain ⟨h109,h⟩|⟨h109,h⟩:=zI h
 refine zw 21 false ?_
 refine zg ?_
 refine zg ?_
 refine zM ⟨[(21,.p (.bool false)),(22,.func (.func 135) [.loc 7 1 0 0,.loc 8 1 0 0]),(23,.p (.slc (vs3 qai l104)))],[(7,.arr 165 1 1 [.mapo 16 1]),(8,.arr 42 1 1 [.own 200008 3 0 f89.length]),(16,.map 1 (vs3 AV.p (qfq qaa f88)) (vs3 AV.p (qfz PV.bool f88))),(30,.arr 32 3 1 [.p (qab t1)]),(31,.arr 89 2 1 [.p (qac d2)]),(116,.arr 32 3 1 [.p (qab t1)]),(117,.arr 89 2 1 [.p (qac d2)]),(200008,.arr 34 1 3 (vs3 AV.p (vs3 (qbh (vv8 .i64)) f89)))]⟩ ?_
 refine qgn (avs:=[.p (.slc (vs3 qai l104)),.loc 7 1 0 0,.loc 8 1 0 0]) 245 rfl (qb4 rfl rfl (by exact rfl) (by exact rfl)) rfl func135 rfl call135 ntmps135 (by simp) (by simp only [go_sem,seval,h91T,h97F,h106,h109];all_goals rfl) ?_
 intro i110 w111 h112
 show AWp _ _ _ ⟨[(0,.p (.slc (vs3 qai l104))),(1,.loc 7 1 0 0),(2,.loc 8 1 0 0)],[(7,.arr 165 1 1 [.mapo 16 1]),(8,.arr 42 1 1 [.own 200008 3 0 f89.length]),(16,.map 1 (vs3 AV.p (qfq qaa f88)) (vs3 AV.p (qfz PV.bool f88))),(30,.arr 32 3 1 [.p (qab t1)]),(31,.arr 89 2 1 [.p (qac d2)]),(116,.arr 32 3 1 [.p (qab t1)]),(117,.arr 89 2 1 [.p (qac d2)]),(200008,.arr 34 1 3 (vs3 AV.p (vs3 (qbh (vv8 .i64)) f89)))]⟩
 refine zs<|zr ?_
 refine zU<|zl<|zn<|zs<|zr ?_
 refine zU<|zl<|zn<|zs<|zs<|zr ?_
 refine zU<|zl<|zn<|zb ?_
 obtain ⟨l113,h114,h⟩:=zB h
 refine zO (fun (s:List Int×Int)=>⟨[(1,.loc 7 1 0 0),(2,.loc 8 1 0 0),(5,.own 264 1 0 s.1.length),(9,.p (.slc (vs3 qai l104))),(10,.p (.int .i64 (l104.length:Int))),(11,.p (.int .i64 s.2))],[(7,.arr 165 1 1 [.mapo 16 1]),(8,.arr 42 1 1 [.own 200008 3 0 f89.length]),(16,.map 1 (vs3 AV.p (qfq qaa f88)) (vs3 AV.p (qfz PV.bool f88))),(30,.arr 32 3 1 [.p (qab t1)]),(31,.arr 89 2 1 [.p (qac d2)]),(116,.arr 32 3 1 [.p (qab t1)]),(117,.arr 89 2 1 [.p (qac d2)]),(264,.arr 2 1 1 (vs3 AV.p (vs3 (vv8 .i64) s.1))),(200008,.arr 34 1 3 (vs3 AV.p (vs3 (qbh (vv8 .i64)) f89)))]⟩) (fun (o115:List Int)=>tE ⟨Tryz.prog,39,245,X,[(7,.arr 165 1 1 [.mapo 16 1]),(8,.arr 42 1 1 [.own 200008 3 0 f89.length]),(16,.map 1 (vs3 AV.p (qfq qaa f88)) (vs3 AV.p (qfz PV.bool f88))),(30,.arr 32 3 1 [.p (qab t1)]),(31,.arr 89 2 1 [.p (qac d2)]),(116,.arr 32 3 1 [.p (qab t1)]),(117,.arr 89 2 1 [.p (qac d2)]),(200008,.arr 34 1 3 (vs3 AV.p (vs3 (qbh (vv8 .i64)) f89)))],i110,w111,False,h112⟩ (.exit 0) ⟨[(1,.loc 7 1 0 0),(2,.loc 8 1 0 0),(5,.own 264 1 0 o115.length)],[(7,.arr 165 1 1 [.mapo 16 1]),(8,.arr 42 1 1 [.own 200008 3 0 f89.length]),(16,.map 1 (vs3 AV.p (qfq qaa f88)) (vs3 AV.p (qfz PV.bool f88))),(30,.arr 32 3 1 [.p (qab t1)]),(31,.arr 89 2 1 [.p (qac d2)]),(116,.arr 32 3 1 [.p (qab t1)]),(117,.arr 89 2 1 [.p (qac d2)]),(264,.arr 2 1 1 (vs3 AV.p (vs3 (vv8 .i64) o115))),(200008,.arr 34 1 3 (vs3 AV.p (vs3 (qbh (vv8 .i64)) f89)))]⟩) h114 ?_ ?_
 clear h h91 h91T h93 h93a h93b h95 h97 h97F h98 h99 h100 h106 h108 h109 h114
 intro s x h
 obtain ⟨l116,t117⟩:=s
 simp only [qg9] at h
 dsimp only
 refine zs<|zr ?_
 refine zU<|zl<|zn<|zs ?_
 obtain ⟨h118,h⟩|⟨h118,h⟩:=zI h
 refine zi<|zk<|zn<|zs<|zb<|zs<|zr ?_
 obtain ⟨x119,h120,h120a,h120b,h⟩:=zX h
 refine zU<|zl<|zn<|zr ?_
 obtain ⟨h121,h⟩:=qaf h
 refine zU<|zl<|yn<|zn<|zr ?_
 refine zU<|zl ?_
 cases h
 exact ⟨rfl,zE⟩
 refine zj<|zx<|ze ?_
 cases h
 exact ⟨rfl,zE⟩
 try simp only at h
 refine zA<|yh<|zn<|zs<|zr ?_
 refine zU ?_
 refine zM ⟨[(1,.loc 7 1 0 0),(2,.loc 8 1 0 0),(5,.own 264 1 0 l113.length),(21,.own 264 1 0 l113.length)],[(7,.arr 165 1 1 [.mapo 16 1]),(8,.arr 42 1 1 [.own 200008 3 0 f89.length]),(16,.map 1 (vs3 AV.p (qfq qaa f88)) (vs3 AV.p (qfz PV.bool f88))),(30,.arr 32 3 1 [.p (qab t1)]),(31,.arr 89 2 1 [.p (qac d2)]),(116,.arr 32 3 1 [.p (qab t1)]),(117,.arr 89 2 1 [.p (qac d2)]),(264,.arr 2 1 1 (vs3 AV.p (vs3 (vv8 .i64) l113))),(200008,.arr 34 1 3 (vs3 AV.p (vs3 (qbh (vv8 .i64)) f89)))]⟩ ?_
 obtain ⟨l122,h123,h⟩:=zB h
 refine zSI srt136 h123 ?_
 have h124:=qpx h123
 refine zM ⟨[(1,.loc 7 1 0 0),(2,.loc 8 1 0 0),(5,.own 264 1 0 l122.length),(22,.p (.tup []))],[(7,.arr 165 1 1 [.mapo 16 1]),(8,.arr 42 1 1 [.own 200008 3 0 f89.length]),(16,.map 1 (vs3 AV.p (qfq qaa f88)) (vs3 AV.p (qfz PV.bool f88))),(30,.arr 32 3 1 [.p (qab t1)]),(31,.arr 89 2 1 [.p (qac d2)]),(116,.arr 32 3 1 [.p (qab t1)]),(117,.arr 89 2 1 [.p (qac d2)]),(264,.arr 2 1 1 (vs3 AV.p (vs3 (vv8 .i64) l122))),(200008,.arr 34 1 3 (vs3 AV.p (vs3 (qbh (vv8 .i64)) f89)))]⟩ ?_
 clear h124
 refine zl<|zn<|zs<|zr ?_
 refine zU<|zl<|zn<|zs<|zr ?_
 refine zM ⟨[(1,.loc 7 1 0 0),(2,.loc 8 1 0 0),(5,.p (.slc (vs3 (vv8 .i64) l122))),(8,.loc 253 1 0 0)],[(7,.arr 165 1 1 [.mapo 16 1]),(8,.arr 42 1 1 [.own 200008 3 0 f89.length]),(16,.map 1 (vs3 AV.p (qfq qaa f88)) (vs3 AV.p (qfz PV.bool f88))),(30,.arr 32 3 1 [.p (qab t1)]),(31,.arr 89 2 1 [.p (qac d2)]),(116,.arr 32 3 1 [.p (qab t1)]),(117,.arr 89 2 1 [.p (qac d2)]),(253,.arr 166 3 1 [.p (.agg [.int .i64 0,.int .i64 0,.int .i64 0])]),(200008,.arr 34 1 3 (vs3 AV.p (vs3 (qbh (vv8 .i64)) f89)))]⟩ ?_
 refine vmj 253 0 0 0 l122 underlying166 underlying34 ?_
 refine zl<|zn<|zs<|zs<|zr ?_
 refine zU<|zl<|zn ?_
 obtain ⟨h125,h⟩|⟨h125,h⟩:=zI h
 refine zj<|zk<|zn<|zs<|zr ?_
 refine zU<|zl<|zn<|zq ?_
 refine qbb (by simp only [results135];simp only [go_sem,seval,h91T,h97F,h106,h109,h125];exact rfl) ?_
 refine zU<|zl<|zn<|zq<|zt ?_
 refine qbb (by simp only [results134];simp only [go_sem,seval,h91T,h97F,h106,h109,h125];exact rfl) ?_
 refine zU<|zl<|zn ?_
 obtain ⟨h126,h⟩|⟨h126,h⟩:=zI h
 refine zj<|zk<|yn<|zn<|zr ?_
 refine zU<|zl ?_
 cases h
 exact ⟨rfl,zE⟩
 refine zi<|zs<|zr ?_
 refine zU<|zl<|zn<|zq<|yr<|zt ?_
 cases h
 exact ⟨rfl,zE⟩
 have h125F:=vsd.2 h125
 refine zi<|zs<|zr ?_
 refine zU<|zl<|zn<|zr ?_
 obtain ⟨h127,h⟩:=qaf h
 refine zU<|zl<|zn<|zs<|zr ?_
 refine zU<|zl<|zn<|zq ?_
 refine qbb (by simp only [results135];simp only [go_sem,seval,h91T,h97F,h106,h109,h125F];exact rfl) ?_
 refine zU<|zl<|zn<|zq<|zt ?_
 refine qbb (by simp only [results134];simp only [go_sem,seval,h91T,h97F,h106,h109,h125F];exact rfl) ?_
 refine zU<|zl<|zn ?_
 obtain ⟨h128,h⟩|⟨h128,h⟩:=zI h
 refine zj<|zk<|yn<|zn<|zr ?_
 refine zU<|zl ?_
 cases h
 exact ⟨rfl,zE⟩
 refine zi<|zs<|zr ?_
 refine zU<|zl<|zn<|zq<|yr<|zt ?_
 cases h
 exact ⟨rfl,zE⟩
 have h109F:=vsd.2 h109
 refine zw 21 true ?_
 refine zh ?_
 refine zU<|zl<|zn<|zq<|zt ?_
 refine qbb (by simp only [results134];simp only [go_sem,seval,h91T,h97F,h106,h109F];exact rfl) ?_
 refine zU<|zl<|zn ?_
 refine zj<|zk<|yn<|zn<|zr ?_
 refine zU<|zl ?_
 cases h
 exact ⟨rfl,zE⟩
 have h106F:=vsd.2 h106
 refine zj<|zk<|zn<|zs<|zs<|zr ?_
 refine zU<|zl<|zn<|zb ?_
 obtain ⟨o129,h130,h⟩:=zB h
 refine zO (fun (s:(List (Arr3_int64×Bool))×List (List Int)×Int)=>⟨[(2,.p (.slc (vs3 qai l104))),(3,.func (.func 135) [.loc 7 1 0 0,.loc 8 1 0 0]),(4,.loc 202 1 0 0),(5,.loc 203 1 0 0),(27,.p (.slc (vs3 qai t1.Rows))),(28,.p (.int .i64 (t1.Rows.length:Int))),(29,.p (.int .i64 s.2.2))],[(7,.arr 165 1 1 [.mapo 16 1]),(8,.arr 42 1 1 [.own 200008 4 0 s.2.1.length]),(16,.map 1 (vs3 AV.p (qfq qaa s.1)) (vs3 AV.p (qfz PV.bool s.1))),(30,.arr 32 3 1 [.p (qab t1)]),(31,.arr 89 2 1 [.p (qac d2)]),(116,.arr 32 3 1 [.p (qab t1)]),(117,.arr 89 2 1 [.p (qac d2)]),(202,.arr 32 3 1 [.p (qab t1)]),(203,.arr 89 2 1 [.p (qac d2)]),(200008,.arr 34 1 4 (vs3 AV.p (vs3 (qbh (vv8 .i64)) s.2.1)))]⟩) (fun (o:((List (Arr3_int64×Bool))×List (List Int)) ⊕ ((List (Arr3_int64×Bool))×List (List Int)))=>match o with | .inl o131=>tE ⟨Tryz.prog,47,198,X,[(7,.arr 165 1 1 [.mapo 16 1]),(8,.arr 42 1 1 [.own 200008 3 0 f89.length]),(16,.map 1 (vs3 AV.p (qfq qaa f88)) (vs3 AV.p (qfz PV.bool f88))),(30,.arr 32 3 1 [.p (qab t1)]),(31,.arr 89 2 1 [.p (qac d2)]),(116,.arr 32 3 1 [.p (qab t1)]),(117,.arr 89 2 1 [.p (qac d2)]),(200008,.arr 34 1 3 (vs3 AV.p (vs3 (qbh (vv8 .i64)) f89)))],i101,w102,False,h103⟩ (.exit 0) ⟨[],[(7,.arr 165 1 1 [.mapo 16 1]),(8,.arr 42 1 1 [.own 200008 4 0 o131.2.length]),(16,.map 1 (vs3 AV.p (qfq qaa o131.1)) (vs3 AV.p (qfz PV.bool o131.1))),(30,.arr 32 3 1 [.p (qab t1)]),(31,.arr 89 2 1 [.p (qac d2)]),(116,.arr 32 3 1 [.p (qab t1)]),(117,.arr 89 2 1 [.p (qac d2)]),(200008,.arr 34 1 4 (vs3 AV.p (vs3 (qbh (vv8 .i64)) o131.2)))]⟩ | .inr o132=>tE ⟨Tryz.prog,47,198,X,[(7,.arr 165 1 1 [.mapo 16 1]),(8,.arr 42 1 1 [.own 200008 3 0 f89.length]),(16,.map 1 (vs3 AV.p (qfq qaa f88)) (vs3 AV.p (qfz PV.bool f88))),(30,.arr 32 3 1 [.p (qab t1)]),(31,.arr 89 2 1 [.p (qac d2)]),(116,.arr 32 3 1 [.p (qab t1)]),(117,.arr 89 2 1 [.p (qac d2)]),(200008,.arr 34 1 3 (vs3 AV.p (vs3 (qbh (vv8 .i64)) f89)))],i101,w102,False,h103⟩ .ret ⟨[(8,.p (.bool false))],[(7,.arr 165 1 1 [.mapo 16 1]),(8,.arr 42 1 1 [.own 200008 4 0 o132.2.length]),(16,.map 1 (vs3 AV.p (qfq qaa o132.1)) (vs3 AV.p (qfz PV.bool o132.1))),(30,.arr 32 3 1 [.p (qab t1)]),(31,.arr 89 2 1 [.p (qac d2)]),(116,.arr 32 3 1 [.p (qab t1)]),(117,.arr 89 2 1 [.p (qac d2)]),(200008,.arr 34 1 4 (vs3 AV.p (vs3 (qbh (vv8 .i64)) o132.2)))]⟩) h130 ?_ ?_
 clear h h91 h91T h93 h93a h93b h95 h97 h97F h98 h99 h100 h106 h106F h130
 intro s x h
 obtain ⟨f133,f134,t135⟩:=s
 simp only [qcz] at h
 dsimp only
 refine zs<|zr ?_
 refine zU<|zl<|zn<|zs ?_
 obtain ⟨h136,h⟩|⟨h136,h⟩:=zI h
 have h136T:=eq_true h136
 refine zi<|zk<|zn<|zs<|zb<|zs<|zr ?_
 obtain ⟨x137,h138,h138a,h138b,h⟩:=zX h
 refine zU<|zl<|zn<|zs<|zs<|zr ?_
 refine zU ?_
 obtain ⟨r139,h140,h⟩:=zB h
 refine zc (qcw l104 (fun (y141:Row)=>qcf y141 x137) 191 [.imm [.int .i64 x137.ID,.slc (vs3 qaz x137.Values)]] (fun y141 r h=>qgl y141 x137 r h) _ h140) ?_
 refine zl<|zn ?_
 obtain ⟨h142,h⟩|⟨h142,h⟩:=zI h
 refine zi<|zx<|ze<|yh<|zn<|zr ?_
 refine zU<|zl ?_
 cases h
 exact ⟨rfl,zE⟩
 have h142F:=vsd.2 h142
 refine zj<|zk<|zn<|zs ?_
 refine zdl 8 ?_
 refine yU ?_
 obtain ⟨h143,h⟩:=qaf h
 refine yK cln192 237 qai l104 _ rfl ⟨by unfold maxLen;omega,by omega⟩ ?_
 have h144:=@qsf PV
 obtain ⟨h145,h⟩:=qaf h
 refine yU ?_
 refine ydlS ?_
 refine zM ⟨[(2,.p (.slc (vs3 qai l104))),(3,.func (.func 135) [.loc 7 1 0 0,.loc 8 1 0 0]),(4,.loc 202 1 0 0),(5,.loc 203 1 0 0),(27,.p (.slc (vs3 qai t1.Rows))),(28,.p (.int .i64 (t1.Rows.length:Int))),(29,.p (.int .i64 t135)),(36,.p (qab t1)),(37,.p (qac d2)),(42,.p (.slc (vs3 qai (l104++[x137])))),(43,.func (.func 135) [.loc 7 1 0 0,.loc 8 1 0 0])],[(7,.arr 165 1 1 [.mapo 16 1]),(8,.arr 42 1 1 [.own 200008 4 0 f134.length]),(16,.map 1 (vs3 AV.p (qfq qaa f133)) (vs3 AV.p (qfz PV.bool f133))),(30,.arr 32 3 1 [.p (qab t1)]),(31,.arr 89 2 1 [.p (qac d2)]),(116,.arr 32 3 1 [.p (qab t1)]),(117,.arr 89 2 1 [.p (qac d2)]),(202,.arr 32 3 1 [.p (qab t1)]),(203,.arr 89 2 1 [.p (qac d2)]),(200008,.arr 34 1 4 (vs3 AV.p (vs3 (qbh (vv8 .i64)) f134)))]⟩ ?_
 refine qgn (avs:=[.p (qab t1),.p (qac d2),.p (.slc (vs3 qai (l104++[x137]))),.func (.func 135) [.loc 7 1 0 0,.loc 8 1 0 0]]) 284 rfl (qbe rfl) rfl func134 rfl call134 ntmps134 (by simp) (by simp only [go_sem,seval,h136T,h142F];all_goals rfl) ?_
 intro i146 w147 h148
 obtain ⟨l149,h150,h⟩:=zB h
 replace h150:=vtu h150
 refine qv4 (st':=⟨[(0,.p (qab t1)),(1,.p (qac d2)),(2,.p (.slc (vs3 qai l149))),(3,.func (.func 135) [.loc 7 1 0 0,.loc 8 1 0 0])],[(7,.arr 165 1 1 [.mapo 16 1]),(8,.arr 42 1 1 [.own 200008 4 0 f134.length]),(16,.map 1 (vs3 AV.p (qfq qaa f133)) (vs3 AV.p (qfz PV.bool f133))),(30,.arr 32 3 1 [.p (qab t1)]),(31,.arr 89 2 1 [.p (qac d2)]),(116,.arr 32 3 1 [.p (qab t1)]),(117,.arr 89 2 1 [.p (qac d2)]),(202,.arr 32 3 1 [.p (qab t1)]),(203,.arr 89 2 1 [.p (qac d2)]),(200008,.arr 34 1 4 (vs3 AV.p (vs3 (qbh (vv8 .i64)) f134)))]⟩) (by simp only [go_sem,seval,h136T,h142F,←h150];all_goals ((repeat' refine vv5 ?_ ?_) <;> first | rfl | (simp;done) | (simp;rfl) | (simp [*];done) | (simp [*];rfl))) ?_
 clear h150
 refine zs<|zr ?_
 refine zU<|zl<|zn<|zs<|zs<|zr ?_
 refine zU<|zl<|zn ?_
 obtain ⟨h151,h⟩|⟨h151,h⟩:=zI h
 refine zi<|zs<|zr ?_
 refine zU ?_
 obtain ⟨r152,h153,h⟩:=zB h
 refine zc (qe8 l149 d2.Atoms _ h153) ?_
 refine zU ?_
 obtain ⟨h154,h⟩|⟨h154,h⟩:=zI h
 refine zw 21 false ?_
 refine zg ?_
 refine zg ?_
 refine zM ⟨[(21,.p (.bool false)),(22,.func (.func 135) [.loc 7 1 0 0,.loc 8 1 0 0]),(23,.p (.slc (vs3 qai l149)))],[(7,.arr 165 1 1 [.mapo 16 1]),(8,.arr 42 1 1 [.own 200008 4 0 f134.length]),(16,.map 1 (vs3 AV.p (qfq qaa f133)) (vs3 AV.p (qfz PV.bool f133))),(30,.arr 32 3 1 [.p (qab t1)]),(31,.arr 89 2 1 [.p (qac d2)]),(116,.arr 32 3 1 [.p (qab t1)]),(117,.arr 89 2 1 [.p (qac d2)]),(202,.arr 32 3 1 [.p (qab t1)]),(203,.arr 89 2 1 [.p (qac d2)]),(200008,.arr 34 1 4 (vs3 AV.p (vs3 (qbh (vv8 .i64)) f134)))]⟩ ?_
 refine qgn (avs:=[.p (.slc (vs3 qai l149)),.loc 7 1 0 0,.loc 8 1 0 0]) 331 rfl (qb4 rfl rfl (by exact rfl) (by exact rfl)) rfl func135 rfl call135 ntmps135 (by simp) (by simp only [go_sem,seval,h136T,h142F,h151,h154];all_goals rfl) ?_
 intro i155 w156 h157
 show AWp _ _ _ ⟨[(0,.p (.slc (vs3 qai l149))),(1,.loc 7 1 0 0),(2,.loc 8 1 0 0)],[(7,.arr 165 1 1 [.mapo 16 1]),(8,.arr 42 1 1 [.own 200008 4 0 f134.length]),(16,.map 1 (vs3 AV.p (qfq qaa f133)) (vs3 AV.p (qfz PV.bool f133))),(30,.arr 32 3 1 [.p (qab t1)]),(31,.arr 89 2 1 [.p (qac d2)]),(116,.arr 32 3 1 [.p (qab t1)]),(117,.arr 89 2 1 [.p (qac d2)]),(202,.arr 32 3 1 [.p (qab t1)]),(203,.arr 89 2 1 [.p (qac d2)]),(200008,.arr 34 1 4 (vs3 AV.p (vs3 (qbh (vv8 .i64)) f134)))]⟩
 refine zs<|zr ?_
 refine zU<|zl<|zn<|zs<|zr ?_
 refine zU<|zl<|zn<|zs<|zs<|zr ?_
 refine zU<|zl<|zn<|zb ?_
 obtain ⟨l158,h159,h⟩:=zB h
 refine zO (fun (s:List Int×Int)=>⟨[(1,.loc 7 1 0 0),(2,.loc 8 1 0 0),(5,.own 350 1 0 s.1.length),(9,.p (.slc (vs3 qai l149))),(10,.p (.int .i64 (l149.length:Int))),(11,.p (.int .i64 s.2))],[(7,.arr 165 1 1 [.mapo 16 1]),(8,.arr 42 1 1 [.own 200008 4 0 f134.length]),(16,.map 1 (vs3 AV.p (qfq qaa f133)) (vs3 AV.p (qfz PV.bool f133))),(30,.arr 32 3 1 [.p (qab t1)]),(31,.arr 89 2 1 [.p (qac d2)]),(116,.arr 32 3 1 [.p (qab t1)]),(117,.arr 89 2 1 [.p (qac d2)]),(202,.arr 32 3 1 [.p (qab t1)]),(203,.arr 89 2 1 [.p (qac d2)]),(350,.arr 2 1 1 (vs3 AV.p (vs3 (vv8 .i64) s.1))),(200008,.arr 34 1 4 (vs3 AV.p (vs3 (qbh (vv8 .i64)) f134)))]⟩) (fun (o160:List Int)=>tE ⟨Tryz.prog,39,331,X,[(7,.arr 165 1 1 [.mapo 16 1]),(8,.arr 42 1 1 [.own 200008 4 0 f134.length]),(16,.map 1 (vs3 AV.p (qfq qaa f133)) (vs3 AV.p (qfz PV.bool f133))),(30,.arr 32 3 1 [.p (qab t1)]),(31,.arr 89 2 1 [.p (qac d2)]),(116,.arr 32 3 1 [.p (qab t1)]),(117,.arr 89 2 1 [.p (qac d2)]),(202,.arr 32 3 1 [.p (qab t1)]),(203,.arr 89 2 1 [.p (qac d2)]),(200008,.arr 34 1 4 (vs3 AV.p (vs3 (qbh (vv8 .i64)) f134)))],i155,w156,False,h157⟩ (.exit 0) ⟨[(1,.loc 7 1 0 0),(2,.loc 8 1 0 0),(5,.own 350 1 0 o160.length)],[(7,.arr 165 1 1 [.mapo 16 1]),(8,.arr 42 1 1 [.own 200008 4 0 f134.length]),(16,.map 1 (vs3 AV.p (qfq qaa f133)) (vs3 AV.p (qfz PV.bool f133))),(30,.arr 32 3 1 [.p (qab t1)]),(31,.arr 89 2 1 [.p (qac d2)]),(116,.arr 32 3 1 [.p (qab t1)]),(117,.arr 89 2 1 [.p (qac d2)]),(202,.arr 32 3 1 [.p (qab t1)]),(203,.arr 89 2 1 [.p (qac d2)]),(350,.arr 2 1 1 (vs3 AV.p (vs3 (vv8 .i64) o160))),(200008,.arr 34 1 4 (vs3 AV.p (vs3 (qbh (vv8 .i64)) f134)))]⟩) h159 ?_ ?_
 clear h h136 h136T h138 h138a h138b h140 h142 h142F h143 h144 h145 h151 h153 h154 h159
 intro s x h
 obtain ⟨l161,t162⟩:=s
 simp only [qcy] at h
 dsimp only
 refine zs<|zr ?_
 refine zU<|zl<|zn<|zs ?_
 obtain ⟨h163,h⟩|⟨h163,h⟩:=zI h
 refine zi<|zk<|zn<|zs<|zb<|zs<|zr ?_
 obtain ⟨x164,h165,h165a,h165b,h⟩:=zX h
 refine zU<|zl<|zn<|zr ?_
 obtain ⟨h166,h⟩:=qaf h
 refine zU<|zl<|yn<|zn<|zr ?_
 refine zU<|zl ?_
 cases h
 exact ⟨rfl,zE⟩
 refine zj<|zx<|ze ?_
 cases h
 exact ⟨rfl,zE⟩
 try simp only at h
 refine zA<|yh<|zn<|zs<|zr ?_
 refine zU ?_
 refine zM ⟨[(1,.loc 7 1 0 0),(2,.loc 8 1 0 0),(5,.own 350 1 0 l158.length),(21,.own 350 1 0 l158.length)],[(7,.arr 165 1 1 [.mapo 16 1]),(8,.arr 42 1 1 [.own 200008 4 0 f134.length]),(16,.map 1 (vs3 AV.p (qfq qaa f133)) (vs3 AV.p (qfz PV.bool f133))),(30,.arr 32 3 1 [.p (qab t1)]),(31,.arr 89 2 1 [.p (qac d2)]),(116,.arr 32 3 1 [.p (qab t1)]),(117,.arr 89 2 1 [.p (qac d2)]),(202,.arr 32 3 1 [.p (qab t1)]),(203,.arr 89 2 1 [.p (qac d2)]),(350,.arr 2 1 1 (vs3 AV.p (vs3 (vv8 .i64) l158))),(200008,.arr 34 1 4 (vs3 AV.p (vs3 (qbh (vv8 .i64)) f134)))]⟩ ?_
 obtain ⟨l167,h168,h⟩:=zB h
 refine zSI srt136 h168 ?_
 have h169:=qpx h168
 refine zM ⟨[(1,.loc 7 1 0 0),(2,.loc 8 1 0 0),(5,.own 350 1 0 l167.length),(22,.p (.tup []))],[(7,.arr 165 1 1 [.mapo 16 1]),(8,.arr 42 1 1 [.own 200008 4 0 f134.length]),(16,.map 1 (vs3 AV.p (qfq qaa f133)) (vs3 AV.p (qfz PV.bool f133))),(30,.arr 32 3 1 [.p (qab t1)]),(31,.arr 89 2 1 [.p (qac d2)]),(116,.arr 32 3 1 [.p (qab t1)]),(117,.arr 89 2 1 [.p (qac d2)]),(202,.arr 32 3 1 [.p (qab t1)]),(203,.arr 89 2 1 [.p (qac d2)]),(350,.arr 2 1 1 (vs3 AV.p (vs3 (vv8 .i64) l167))),(200008,.arr 34 1 4 (vs3 AV.p (vs3 (qbh (vv8 .i64)) f134)))]⟩ ?_
 clear h169
 refine zl<|zn<|zs<|zr ?_
 refine zU<|zl<|zn<|zs<|zr ?_
 refine zM ⟨[(1,.loc 7 1 0 0),(2,.loc 8 1 0 0),(5,.p (.slc (vs3 (vv8 .i64) l167))),(8,.loc 339 1 0 0)],[(7,.arr 165 1 1 [.mapo 16 1]),(8,.arr 42 1 1 [.own 200008 4 0 f134.length]),(16,.map 1 (vs3 AV.p (qfq qaa f133)) (vs3 AV.p (qfz PV.bool f133))),(30,.arr 32 3 1 [.p (qab t1)]),(31,.arr 89 2 1 [.p (qac d2)]),(116,.arr 32 3 1 [.p (qab t1)]),(117,.arr 89 2 1 [.p (qac d2)]),(202,.arr 32 3 1 [.p (qab t1)]),(203,.arr 89 2 1 [.p (qac d2)]),(339,.arr 166 3 1 [.p (.agg [.int .i64 0,.int .i64 0,.int .i64 0])]),(200008,.arr 34 1 4 (vs3 AV.p (vs3 (qbh (vv8 .i64)) f134)))]⟩ ?_
 refine vmj 339 0 0 0 l167 underlying166 underlying34 ?_
 refine zl<|zn<|zs<|zs<|zr ?_
 refine zU<|zl<|zn ?_
 obtain ⟨h170,h⟩|⟨h170,h⟩:=zI h
 refine zj<|zk<|zn<|zs<|zr ?_
 refine zU<|zl<|zn<|zq ?_
 refine qbb (by simp only [results135];simp only [go_sem,seval,h136T,h142F,h151,h154,h170];exact rfl) ?_
 refine zU<|zl<|zn<|zq<|zt ?_
 refine qbb (by simp only [results134];simp only [go_sem,seval,h136T,h142F,h151,h154,h170];exact rfl) ?_
 refine zU<|zl<|zn ?_
 obtain ⟨h171,h⟩|⟨h171,h⟩:=zI h
 refine zj<|zk<|yn<|zn<|zr ?_
 refine zU<|zl ?_
 cases h
 exact ⟨rfl,zE⟩
 refine zi<|zs<|zr ?_
 refine zU<|zl<|zn<|zq<|yr<|zt ?_
 cases h
 exact ⟨rfl,zE⟩
 have h170F:=vsd.2 h170
 refine zi<|zs<|zr ?_
 refine zU<|zl<|zn<|zr ?_
 obtain ⟨h172,h⟩:=qaf h
 refine zU<|zl<|zn<|zs<|zr ?_
 refine zU<|zl<|zn<|zq ?_
 refine qbb (by simp only [results135];simp only [go_sem,seval,h136T,h142F,h151,h154,h170F];exact rfl) ?_
 refine zU<|zl<|zn<|zq<|zt ?_
 refine qbb (by simp only [results134];simp only [go_sem,seval,h136T,h142F,h151,h154,h170F];exact rfl) ?_
 refine zU<|zl<|zn ?_
 obtain ⟨h173,h⟩|⟨h173,h⟩:=zI h
 refine zj<|zk<|yn<|zn<|zr ?_
 refine zU<|zl ?_
 cases h
 exact ⟨rfl,zE⟩
 refine zi<|zs<|zr ?_
 refine zU<|zl<|zn<|zq<|yr<|zt ?_
 cases h
 exact ⟨rfl,zE⟩
 have h154F:=vsd.2 h154
 refine zw 21 true ?_
 refine zh ?_
 refine zU<|zl<|zn<|zq<|zt ?_
 refine qbb (by simp only [results134];simp only [go_sem,seval,h136T,h142F,h151,h154F];exact rfl) ?_
 refine zU<|zl<|zn ?_
 refine zj<|zk<|yn<|zn<|zr ?_
 refine zU<|zl ?_
 cases h
 exact ⟨rfl,zE⟩
 have h151F:=vsd.2 h151
 refine zj<|zk<|zn<|zs<|zs<|zr ?_
 refine zU<|zl<|zn<|zb ?_
 obtain ⟨o174,h175,h⟩:=zB h
 refine zO (fun (s:Int)=>⟨[(2,.p (.slc (vs3 qai l149))),(3,.func (.func 135) [.loc 7 1 0 0,.loc 8 1 0 0]),(4,.loc 288 1 0 0),(5,.loc 289 1 0 0),(27,.p (.slc (vs3 qai t1.Rows))),(28,.p (.int .i64 (t1.Rows.length:Int))),(29,.p (.int .i64 s))],[(7,.arr 165 1 1 [.mapo 16 1]),(8,.arr 42 1 1 [.own 200008 4 0 f134.length]),(16,.map 1 (vs3 AV.p (qfq qaa f133)) (vs3 AV.p (qfz PV.bool f133))),(30,.arr 32 3 1 [.p (qab t1)]),(31,.arr 89 2 1 [.p (qac d2)]),(116,.arr 32 3 1 [.p (qab t1)]),(117,.arr 89 2 1 [.p (qac d2)]),(202,.arr 32 3 1 [.p (qab t1)]),(203,.arr 89 2 1 [.p (qac d2)]),(288,.arr 32 3 1 [.p (qab t1)]),(289,.arr 89 2 1 [.p (qac d2)]),(200008,.arr 34 1 4 (vs3 AV.p (vs3 (qbh (vv8 .i64)) f134)))]⟩) (fun (o176:Unit)=>tE ⟨Tryz.prog,47,284,X,[(7,.arr 165 1 1 [.mapo 16 1]),(8,.arr 42 1 1 [.own 200008 4 0 f134.length]),(16,.map 1 (vs3 AV.p (qfq qaa f133)) (vs3 AV.p (qfz PV.bool f133))),(30,.arr 32 3 1 [.p (qab t1)]),(31,.arr 89 2 1 [.p (qac d2)]),(116,.arr 32 3 1 [.p (qab t1)]),(117,.arr 89 2 1 [.p (qac d2)]),(202,.arr 32 3 1 [.p (qab t1)]),(203,.arr 89 2 1 [.p (qac d2)]),(200008,.arr 34 1 4 (vs3 AV.p (vs3 (qbh (vv8 .i64)) f134)))],i146,w147,False,h148⟩ (.exit 0) ⟨[],[(7,.arr 165 1 1 [.mapo 16 1]),(8,.arr 42 1 1 [.own 200008 4 0 f134.length]),(16,.map 1 (vs3 AV.p (qfq qaa f133)) (vs3 AV.p (qfz PV.bool f133))),(30,.arr 32 3 1 [.p (qab t1)]),(31,.arr 89 2 1 [.p (qac d2)]),(116,.arr 32 3 1 [.p (qab t1)]),(117,.arr 89 2 1 [.p (qac d2)]),(202,.arr 32 3 1 [.p (qab t1)]),(203,.arr 89 2 1 [.p (qac d2)]),(200008,.arr 34 1 4 (vs3 AV.p (vs3 (qbh (vv8 .i64)) f134)))]⟩) h175 ?_ ?_
 clear h h136 h136T h138 h138a h138b h140 h142 h142F h143 h144 h145 h151 h151F h175
 intro t177 x h
 simp only [qjb] at h
 refine zs<|zr ?_
 refine zU<|zl<|zn<|zs ?_
 obtain ⟨h178,h⟩|⟨h178,h⟩:=zI h
 refine zi<|zk<|zn<|zs<|zb<|zs<|zr ?_
 obtain ⟨x179,h180,h180a,h180b,h⟩:=zX h
 refine zU<|zl<|zn<|zs<|zs<|zr ?_
 refine zU ?_
 obtain ⟨r181,h182,h⟩:=zB h
 refine zc (qcw l149 (fun (y183:Row)=>qcf y183 x179) 191 [.imm [.int .i64 x179.ID,.slc (vs3 qaz x179.Values)]] (fun y183 r h=>qgl y183 x179 r h) _ h182) ?_
 refine zl<|zn ?_
 obtain ⟨h184,h⟩|⟨h184,h⟩:=zI h
 refine zi<|zx<|ze<|yh<|zn<|zr ?_
 refine zU<|zl ?_
 cases h
 exact ⟨rfl,zE⟩
 cases h
 refine zj<|zx<|ze ?_
 cases h
 exact ⟨rfl,zE⟩
 cases o174
 try simp only at h
 refine zA<|yh<|zn<|zs<|zr ?_
 refine zU<|zl<|zn<|zq ?_
 refine qbb (by simp only [results134];simp only [go_sem,seval,h136T,h142F,h151F];exact rfl) ?_
 refine zU<|zl<|zn ?_
 refine zj<|zk<|yn<|zn<|zr ?_
 refine zU<|zl ?_
 cases h
 exact ⟨rfl,zE⟩
 have h136T:=eq_false h136
 refine zj<|zx<|ze ?_
 cases h
 exact ⟨rfl,zE⟩
 rcases o129 with ⟨f185,b186⟩ | ⟨f187,b188⟩
 try simp only at h
 refine zA<|yh<|zn<|zs<|zr ?_
 refine zU<|zl<|zn<|zq ?_
 refine qbb (by simp only [results134];simp only [go_sem,seval,h91T,h97F,h106F];exact rfl) ?_
 refine zU<|zl<|zn ?_
 refine zj<|zk<|yn<|zn<|zr ?_
 refine zU<|zl ?_
 cases h
 exact ⟨rfl,zE⟩
 try simp only at h
 refine zA<|yr<|zt ?_
 refine qbb (by simp only [results134];simp only [go_sem,seval,h91T,h97F,h106F];exact rfl) ?_
 refine zU<|zl<|zn ?_
 refine zi<|zs<|zr ?_
 refine zU<|zl<|zn<|zq<|yr<|zt ?_
 cases h
 exact ⟨rfl,zE⟩
 have h91T:=eq_false h91
 refine zj<|zx<|ze ?_
 cases h
 exact ⟨rfl,zE⟩
 rcases o84 with ⟨f189,b190⟩ | ⟨f191,b192⟩
 try simp only at h
 refine zA<|yh<|zn<|zs<|zr ?_
 refine zU<|zl<|zn<|zq ?_
 refine qbb (by simp only [results134];simp only [go_sem,seval,h45T,h51F,h60F];exact rfl) ?_
 refine zU<|zl<|zn ?_
 refine zj<|zk<|yn<|zn<|zr ?_
 refine zU<|zl ?_
 cases h
 exact ⟨rfl,zE⟩
 try simp only at h
 refine zA<|yr<|zt ?_
 refine qbb (by simp only [results134];simp only [go_sem,seval,h45T,h51F,h60F];exact rfl) ?_
 refine zU<|zl<|zn ?_
 refine zi<|zs<|zr ?_
 refine zU<|zl<|zn<|zq<|yr<|zt ?_
 cases h
 exact ⟨rfl,zE⟩
 have h45T:=eq_false h45
 refine zj<|zx<|ze ?_
 cases h
 exact ⟨rfl,zE⟩
 rcases o38 with ⟨f193,b194⟩ | ⟨f195,b196⟩
 try simp only at h
 refine zA<|yh<|zn<|zs<|zr ?_
 refine zU<|zl<|zn<|zq ?_
 refine qbb (by simp only [results134];simp only [go_sem,seval,h6F,h17F];exact rfl) ?_
 refine zU<|zl ?_
 cases h
 exact ⟨rfl,zE⟩
 try simp only at h
 refine zA<|yr<|zt ?_
 refine qbb (by simp only [results134];simp only [go_sem,seval,h6F,h17F];exact rfl) ?_
 refine zU<|zl ?_
 cases h
 exact ⟨rfl,zE⟩
 obtain ⟨o197,a198⟩:=o7
 try simp only at h
 refine zA<|zn<|zs<|zs<|zr ?_
 refine zU<|zl<|zn ?_
 obtain ⟨h199,h⟩|⟨h199,h⟩:=zI h
 refine zj<|zk<|zn<|zs<|zr ?_
 refine zU ?_
 refine zM ⟨[(8,.loc 8 1 0 0),(23,.own 200008 1 0 o197.length)],[(8,.arr 42 1 1 [.own 200008 1 0 o197.length]),(200008,.arr 34 1 1 (vs3 AV.p (vs3 (qbh (vv8 .i64)) o197)))]⟩ ?_
 obtain ⟨l200,h201,h⟩:=zB h
 refine zSF srt67 (qbh (vv8 .i64)) (fun (y202:List Int) (y203:List Int)=>qad y202 y203) h201 (fun y202 y203 r h=>qhv y202 y203 r h) ?_
 have h204:=q3k h201
 refine zM ⟨[(8,.loc 8 1 0 0),(24,.p (.tup []))],[(8,.arr 42 1 1 [.own 200008 1 0 l200.length]),(200008,.arr 34 1 1 (vs3 AV.p (vs3 (qbh (vv8 .i64)) l200)))]⟩ ?_
 clear h204
 refine zl<|zn<|zs<|zr ?_
 refine zU<|zl<|zn<|zq ?_
 cases h
 exact zT results63
 refine zi<|zs<|zr ?_
 refine zU<|zl<|zn<|zq<|zt ?_
 cases h
 exact zT results63
theorem qmm (t1:Table) (c2:Constraint) (r3:List (List Int)×Int) (h:qbw t1 c2=some r3):Con False Tryz.prog 23 [(qab t1),(qam c2)] (.tup [(.slc (vs3 (qbh (vv8 .i64)) r3.1)),(.int .i64 r3.2)]):=by
 refine zP call23 func23 rfl ntmps23 fun X w hT=>?_
 simp only [qbw] at h
 refine zs<|zr ?_
 refine zU<|zl<|zn<|zs<|zr ?_
 refine zU ?_
 obtain ⟨r4,h5,h⟩:=zB h
 refine zc (qih t1 c2 _ h5) ?_
 refine zU<|zl<|zn<|zs<|zb<|zs<|zr ?_
 refine zU<|zl<|zn ?_
 obtain ⟨h6,h⟩|⟨h6,h⟩:=zI h
 refine zi<|zs<|zr ?_
 refine zU<|zl<|zn<|zq<|yr<|zt ?_
 cases h
 exact zT results23
 refine zj<|zs<|zr ?_
 refine zU<|zl<|zn ?_
 obtain ⟨h7,h⟩|⟨h7,h⟩:=zI h
 refine zi<|zs<|zr ?_
 refine zU ?_
 obtain ⟨r8,h9,h⟩:=zB h
 refine zc (qkq t1 c2.CFD _ h9) ?_
 refine zU<|zl<|zn<|zq<|yr<|zt ?_
 cases h
 exact zT results23
 refine zj<|zs<|zr ?_
 refine zU<|zl<|zn ?_
 obtain ⟨h10,h⟩|⟨h10,h⟩:=zI h
 refine zi<|zs<|zr ?_
 refine zU ?_
 obtain ⟨r11,h12,h⟩:=zB h
 refine zc (qml t1 c2.OD _ h12) ?_
 refine zU<|zl<|zn<|zq<|yr<|zt ?_
 cases h
 exact zT results23
 refine zj<|zk<|yn<|zn<|zs<|zr ?_
 refine zU<|zl<|zn<|zs<|zs<|zr ?_
 refine zU<|zl<|zn<|zb ?_
 obtain ⟨o13,h14,h⟩:=zB h
 refine zO (fun (s:List (List Int)×Int)=>⟨[(2,.loc 2 1 0 0),(8,.own 60 1 0 s.1.length),(43,.p (.slc (vs3 qac r4.1))),(44,.p (.int .i64 (r4.1.length:Int))),(45,.p (.int .i64 s.2))],[(2,.arr 32 3 1 [.p (qab t1)]),(60,.arr 34 1 1 (vs3 AV.p (vs3 (qbh (vv8 .i64)) s.1)))]⟩) (fun (o:(List (List Int)) ⊕ (List (List Int)×Int))=>match o with | .inl o15=>tE (cX Tryz.f23 X w False hT) (.exit 1) ⟨[(8,.own 60 1 0 o15.length)],[(60,.arr 34 1 1 (vs3 AV.p (vs3 (qbh (vv8 .i64)) o15)))]⟩ | .inr o16=>tR Tryz.prog Tryz.f23 (.tup [(.slc (vs3 (qbh (vv8 .i64)) o16.1)),(.int .i64 o16.2)])) h14 ?_ ?_
 clear h h5 h6 h7 h10 h14
 intro s x h
 obtain ⟨o17,t18⟩:=s
 simp only [qb9] at h
 dsimp only
 refine zs<|zr ?_
 refine zU<|zl<|zn<|zs ?_
 obtain ⟨h19,h⟩|⟨h19,h⟩:=zI h
 refine zi<|zk<|zn<|zs<|zb<|zs<|zr ?_
 obtain ⟨x20,h21,h21a,h21b,h⟩:=zX h
 refine zU<|zl<|zn<|zs<|zr ?_
 refine zU ?_
 obtain ⟨r22,h23,h⟩:=zB h
 refine zc (qnz t1 x20 _ h23) ?_
 refine zU<|zl<|zn<|zs<|zs<|zr ?_
 refine zU<|zl<|zn ?_
 obtain ⟨h24,h⟩|⟨h24,h⟩:=zI h
 refine zi<|zs<|zr ?_
 refine zU<|zl<|zn<|zq<|zt<|yr<|zt ?_
 cases h
 exact ⟨rfl,zT results23⟩
 refine zj<|zk<|zn<|zr ?_
 obtain ⟨h25,h⟩:=qaf h
 refine zU<|zl<|yn<|zn<|zr ?_
 refine zU<|zl ?_
 cases h
 exact ⟨rfl,zE⟩
 refine zj<|zx<|ze ?_
 cases h
 exact ⟨rfl,zE⟩
 rcases o13 with o26 | r27
 try simp only at h
 refine zA<|yh<|zn<|zs<|zr ?_
 refine zU<|zl<|zn<|zq ?_
 cases h
 exact zT results23
 try simp only at h
 refine zZ fun s hq=>?_
 refine yr<|zt ?_
 cases h
 exact hq
theorem qim {D:Prop} (l:List Int) (r:List Int) (h:qex l=some r):Con D Tryz.prog 32 [(.slc (vs3 (vv8 .i64) l))] (.slc (vs3 (vv8 .i64) r)):=by
  obtain ⟨hc,h⟩:=qaf h
  cases h
  refine ⟨call32,?_⟩
  refine qs2 func32 rfl ntmps32 (by simp) fun X w hT=>?_
  show AWp _ _ _ ⟨[(0,.p (.slc (vs3 (vv8 .i64) l)))],[]⟩
  refine qmd ?_
  refine qjs ?_
  refine qxl (by exact rfl) (by simp only [go_sem,seval];exact rfl) ?_
  refine qv2 ?_
  refine qs4 ?_
  refine qmd ?_
  refine qmd ?_
  refine qjs ?_
  refine q78 1 (by simp only [go_sem,seval];exact rfl) ?_
  refine q3i (by simp only [go_sem,seval];exact rfl) (by simp only [go_sem,seval]) underlying34 rfl ?_
  intro b hb
  refine qv2 ?_
  refine qs4 ?_
  cases b
  · refine veu (by simp only [go_sem,seval]) ?_
    refine qxa ?_
    refine qs4 ?_
    refine qmd ?_
    refine qjs ?_
    refine qxl (by exact rfl) (by simp only [go_sem,seval,hc];exact rfl) ?_
    refine qv2 ?_
    refine qs4 ?_
    refine qxb ?_
    refine qxm (by simp only [results32];simp only [go_sem,seval];exact rfl) ?_
    simp only [go_sem,seval]
    all_goals ((repeat' refine vv5 ?_ ?_) <;> first | rfl | (simp;done) | (simp;rfl) | (simp [*];done) | (simp [*];rfl))
  · refine vet (by simp only [go_sem,seval]) ?_
    have hl:l=[]:=by
      cases l with
      | nil=>rfl
      | cons x l=>exact absurd (hb (by simp)) (by simp)
    subst hl
    refine qmd ?_
    refine qjs ?_
    refine qxl (by exact rfl) (by simp only [go_sem,seval];exact rfl) ?_
    refine qv2 ?_
    refine qs4 ?_
    refine qxb ?_
    refine q7i ?_
    refine qxm (by simp only [results32];simp only [go_sem,seval];exact rfl) ?_
    simp only [go_sem,seval]
    all_goals ((repeat' refine vv5 ?_ ?_) <;> first | rfl | (simp;done) | (simp;rfl) | (simp [*];done) | (simp [*];rfl))
theorem qfo {D:Prop} (l1:List Int) (r2:Arr3_int64) (h:qdj l1=some r2):Con D Tryz.prog 64 [(.slc (vs3 (vv8 .i64) l1))] (qaa r2):=by
 refine zP call64 func64 rfl ntmps64 fun X w hT=>?_
 simp only [qdj] at h
 refine zs<|zr ?_
 refine zU<|zl<|zn<|zs<|zr ?_
 refine zU<|zl<|zn<|zs<|zr ?_
 refine vmj 3 0 0 0 l1 underlying166 underlying34 ?_
 refine zl<|zn<|zs<|zr ?_
 refine zU<|zl<|zn<|zq ?_
 cases h
 exact zT results64
end Go.Proofs.YtfnmcjkkfnhpnaaGreatDoor
namespace Go.Proofs
open Go Go.Ab Go.Shelf Tryz
def YtfnmcjkkfnhpnaaGreatDoor.grow137_ren:Go.Shelf.Ren:=⟨fun | 4=>137 | n=>n,fun | 22=>34 | 25=>2 | 3=>3 | 4=>4 | 9=>9 | 20=>20 | 0=>0 | n=>n,fun | n=>n⟩
theorem YtfnmcjkkfnhpnaaGreatDoor.grow137:Go.Proofs.Lays8.n4 Tryz.prog YtfnmcjkkfnhpnaaGreatDoor.grow137_ren:={
  mixed:=by kernel_rfl
  f4:=⟨Tryz.f137.name,by decide,func137.trans (congrArg some (by kernel_rfl))⟩
  t0:=underlying0
  a0:=isAgg0
  z0:=sizeOf0
  v0:=zeroValue0
  t3:=underlying3
  a3:=isAgg3
  z3:=sizeOf3
  v3:=zeroValue3
  t4:=underlying4
  a4:=isAgg4
  z4:=sizeOf4
  v4:=zeroValue4
  t9:=underlying9
  a9:=isAgg9
  z9:=sizeOf9
  v9:=zeroValue9
  t20:=underlying20
  a20:=isAgg20
  z20:=sizeOf20
  v20:=zeroValue20
  t22:=underlying34
  a22:=isAgg34
  z22:=sizeOf34
  v22:=zeroValue34 }
theorem YtfnmcjkkfnhpnaaGreatDoor.grw137:Grw Tryz.prog 137 2 1:=⟨call137,fun n w h0 hn=>by
  obtain ⟨m,rfl⟩:=vuk h0;have hi:Tryz.prog.info? 2=some Tryz.t2:=by kernel_rfl
  obtain ⟨z,hz,hzs⟩:∃z,Tryz.t2.zero=some z∧z.cells.size=1:=⟨_,rfl,rfl⟩;cases m with
  | zero =>
    refine (Any8.slices_Grow_room YtfnmcjkkfnhpnaaGreatDoor.grow137 none 0 0 0 w (vrj _) (by omega) (by omega) (vrj _)).mono fun e' w' h=>?_
    obtain ⟨rfl,rfl⟩:=h;exact ⟨_,rfl,World.ownsRow_nil _ _ _ _,RowKit.Below.refl _ _,vrj _⟩
  | succ m =>
    have hby:Tryz.t2.bytes=8:=rfl;refine (Any8.slices_Grow_grow YtfnmcjkkfnhpnaaGreatDoor.grow137 Tryz.t2 z hi hz (by decide) none 0 0 (m+1) [] w (vrj _) (by omega) (by rw [hby];omega) (by omega) (by simp) (fun _=>rfl) (fun a h=>by cases h)).mono fun e' w' h=>?_
    obtain ⟨rfl,rfl⟩:=h;have hge:=grownCap_ge w (0+(m+1)) 0 2;refine ⟨_,rfl,World.ownsRow_made w.drew _ _ (vrj _) (grownCap_le_maxLen w (0+(m+1)) 0 2 (by unfold maxLen;omega)) ?_,(RowKit.Below.refl _ w).drew.alloc (vrj _) _,Nat.le_succ _⟩;simp only [Array.size_append,size_zeroCells,hzs,List.size_toArray,List.length_nil];generalize hG:grownCap w (0+(m+1)) 0 2=G at hge;show 0+(0+(m+1) - 0) * 1+(grownCap w (0+(m+1)) 0 2 - (0+(m+1))) * 1=grownCap w (0+(m+1)) 0 2 * 1;rw [hG];omega⟩
end Go.Proofs
namespace Go.Proofs.YtfnmcjkkfnhpnaaGreatDoor
open Go Go.Ab Tryz
theorem qii {D:Prop} (s1:List (List Int)) (r2:List Int) (h:qcj s1=some r2):Con D Tryz.prog 66 [(.slc (vs3 (qbh (vv8 .i64)) s1))] (.slc (vs3 (vv8 .i64) r2)):=by
 refine zP call66 func66 rfl ntmps66 fun X w hT=>?_
 simp only [qcj] at h
 refine zs<|zr ?_
 refine zU<|zl<|zn<|zs<|zr ?_
 refine zU<|zl<|zn<|zs<|zs<|zr ?_
 refine zU<|zl<|zn<|zb ?_
 obtain ⟨s3,h4,h⟩:=zB h
 refine zO (fun (s:Int×Int)=>⟨[(0,.p (.slc (vs3 (qbh (vv8 .i64)) s1))),(3,.p (.int .i64 s.1)),(9,.p (.slc (vs3 (qbh (vv8 .i64)) s1))),(10,.p (.int .i64 (s1.length:Int))),(11,.p (.int .i64 s.2))],[]⟩) (fun (o5:Int)=>tE (cX Tryz.f66 X w D hT) (.exit 0) ⟨[(0,.p (.slc (vs3 (qbh (vv8 .i64)) s1))),(3,.p (.int .i64 o5))],[]⟩) h4 ?_ ?_
 clear h h4
 intro s x h
 obtain ⟨s6,t7⟩:=s
 simp only [qa3] at h
 dsimp only
 refine zs<|zr ?_
 refine zU<|zl<|zn<|zs ?_
 obtain ⟨h8,h⟩|⟨h8,h⟩:=zI h
 refine zi<|zk<|zn<|zs<|zb<|zs<|zr ?_
 obtain ⟨x9,h10,h10a,h10b,h⟩:=zX h
 refine zU<|zl<|zn<|zs<|zr ?_
 refine zU<|zl<|zn<|zs<|zr ?_
 refine zU<|zl<|zn ?_
 obtain ⟨h11,h⟩|⟨h11,h⟩:=zI h
 cases h
 refine zj<|zk<|yn<|zn<|zr ?_
 refine zU<|zl ?_
 cases h
 exact ⟨rfl,zE⟩
 refine zj<|zx<|ze ?_
 cases h
 exact ⟨rfl,zE⟩
 try simp only at h
 refine zA<|yh<|zn<|zs<|zr ?_
 refine zU ?_
 obtain ⟨h12,h⟩:=qaf h
 obtain ⟨h13,h⟩:=qaf h
 refine zN grw137 24 h12 h13 ?_
 refine zU<|zl<|zn<|zs<|zs<|zr ?_
 refine zU<|zl<|zn<|zb ?_
 obtain ⟨n14,h15,h⟩:=zB h
 refine zO (fun (s:List Int×Int)=>⟨[(6,.own 24 1 0 s.1.length),(25,.p (.slc (vs3 (qbh (vv8 .i64)) s1))),(26,.p (.int .i64 (s1.length:Int))),(27,.p (.int .i64 s.2))],[(24,.arr 2 1 1 (vs3 AV.p (vs3 (vv8 .i64) s.1)))]⟩) (fun (o16:List Int)=>tE (cX Tryz.f66 X w D hT) (.exit 2) ⟨[(6,.own 24 1 0 o16.length)],[(24,.arr 2 1 1 (vs3 AV.p (vs3 (vv8 .i64) o16)))]⟩) h15 ?_ ?_
 clear h h4 h12 h13 h15
 intro s x h
 obtain ⟨n17,t18⟩:=s
 simp only [qa4] at h
 dsimp only
 refine zs<|zr ?_
 refine zU<|zl<|zn<|zs ?_
 obtain ⟨h19,h⟩|⟨h19,h⟩:=zI h
 refine zi<|zk<|zn<|zs<|zb<|zs<|zr ?_
 obtain ⟨x20,h21,h21a,h21b,h⟩:=zX h
 refine zU<|zl<|zn<|zr ?_
 obtain ⟨h22,h⟩:=qaf h
 refine zU<|zl<|yn<|zn<|zr ?_
 refine zU<|zl ?_
 cases h
 exact ⟨rfl,zE⟩
 refine zj<|zx<|ze ?_
 cases h
 exact ⟨rfl,zE⟩
 try simp only at h
 refine zA<|yh<|zn<|zs<|zr ?_
 refine zU<|zl<|zn<|zq ?_
 cases h
 exact zT results66
section
attribute [-go_sem] qsa
theorem qm0 {D:Prop} (l1:List Int) (c2:List (Arr3_int64×Bool)) (r3:Bool) (h:qey l1 c2=some r3):Con D Tryz.prog 65 [(.slc (vs3 (vv8 .i64) l1)),.imm [.mapv (qfq qaa c2) (qfz PV.bool c2)]] (.bool r3):=by
 refine zP call65 func65 rfl ntmps65 fun X w hT=>?_
 simp only [qey] at h
 refine zs<|zr ?_
 refine zU<|zl<|zn<|zs<|zs<|zr ?_
 refine zU<|zl<|zn<|zb ?_
 obtain ⟨o4,h5,h⟩:=zB h
 refine zO (fun (s:Int)=>⟨[(0,.p (.slc (vs3 (vv8 .i64) l1))),(1,.p (.imm [.mapv (qfq qaa c2) (qfz PV.bool c2)])),(6,.p (.int .i64 (l1.length:Int))),(7,.p (.int .i64 s))],[]⟩) (fun (o:(Unit) ⊕ (Bool))=>match o with | .inl o6=>tE (cX Tryz.f65 X w D hT) (.exit 0) ⟨[],[]⟩ | .inr o7=>tR Tryz.prog Tryz.f65 (.bool o7)) h5 ?_ ?_
 clear h h5
 intro t8 x h
 simp only [qdo] at h
 refine zs<|zr ?_
 refine zU<|zl<|zn<|zs ?_
 obtain ⟨h9,h⟩|⟨h9,h⟩:=zI h
 refine zi<|zk<|zn<|zs<|zb<|zs<|zr ?_
 refine zU<|zl<|zn<|zs<|zs<|zd ?_
 refine yU ?_
 obtain ⟨h10,h⟩|⟨h10,h⟩:=zI h
 refine yw 13 true ?_
 refine yg ?_
 refine yg ?_
 refine yg ?_
 refine yg ?_
 refine yg ?_
 obtain ⟨h11,h⟩:=qaf h
 obtain ⟨h12,h⟩:=qaf h
 obtain ⟨h13,h⟩:=qaf h
 refine yg ?_
 obtain ⟨r14,h15,h⟩:=zB h
 refine yc (qfo ((l1.drop t8.toNat).take ((vsg.wrap (t8+1)).toNat - t8.toNat)) _ h15) ?_
 refine yg ?_
 refine yU ?_
 refine yd<|zn ?_
 obtain ⟨h16,h⟩|⟨h16,h⟩:=zI h
 refine zi<|zs<|zr ?_
 refine zU<|zl<|zn<|zq<|zt<|yr<|zt ?_
 cases h
 exact ⟨rfl,zT results65⟩
 refine zj<|zk<|zn<|zs<|zd ?_
 refine yU ?_
 obtain ⟨h17,h⟩|⟨h17,h⟩:=zI h
 refine yw 26 true ?_
 refine yg ?_
 refine yg ?_
 refine yg ?_
 obtain ⟨h18,h⟩:=qaf h
 obtain ⟨h19,h⟩:=qaf h
 refine yg ?_
 refine yg ?_
 refine yg ?_
 refine yg ?_
 obtain ⟨h20,h⟩:=qaf h
 refine yg ?_
 refine yS 35 ?_
 obtain ⟨r21,h22,h⟩:=zB h
 refine yc (qii [(l1.take (t8.toNat)),((l1.drop (vsg.wrap (t8+1)).toNat).take (l1.length - (vsg.wrap (t8+1)).toNat))] _ h22) ?_
 obtain ⟨r23,h24,h⟩:=zB h
 refine yc (qfo r21 _ h24) ?_
 refine yg ?_
 refine yU ?_
 refine yd<|zn ?_
 obtain ⟨h25,h⟩|⟨h25,h⟩:=zI h
 refine zi<|zs<|zr ?_
 refine zU<|zl<|zn<|zq<|yr<|zt ?_
 cases h
 exact ⟨rfl,zT results65⟩
 refine zj<|zk<|yn<|zn<|zr ?_
 refine zU<|zl ?_
 cases h
 exact ⟨rfl,zE⟩
 refine yw 26 false ?_
 refine yk ?_
 refine yU ?_
 refine yd<|zn ?_
 refine zj<|zk<|yn<|zn<|zr ?_
 refine zU<|zl ?_
 cases h
 exact ⟨rfl,zE⟩
 refine yw 13 false ?_
 refine yk ?_
 refine yU ?_
 refine yd<|zn ?_
 refine zj<|zk<|zn<|zs<|zd ?_
 refine yU ?_
 obtain ⟨h26,h⟩|⟨h26,h⟩:=zI h
 refine yw 26 true ?_
 refine yg ?_
 refine yg ?_
 refine yg ?_
 obtain ⟨h27,h⟩:=qaf h
 obtain ⟨h28,h⟩:=qaf h
 refine yg ?_
 refine yg ?_
 refine yg ?_
 refine yg ?_
 obtain ⟨h29,h⟩:=qaf h
 obtain ⟨h30,h⟩:=qaf h
 refine yg ?_
 refine yS 35 ?_
 obtain ⟨r31,h32,h⟩:=zB h
 refine yc (qii [(l1.take (t8.toNat)),((l1.drop (vsg.wrap (t8+1)).toNat).take (l1.length - (vsg.wrap (t8+1)).toNat))] _ h32) ?_
 obtain ⟨r33,h34,h⟩:=zB h
 refine yc (qfo r31 _ h34) ?_
 refine yg ?_
 refine yU ?_
 refine yd<|zn ?_
 obtain ⟨h35,h⟩|⟨h35,h⟩:=zI h
 refine zi<|zs<|zr ?_
 refine zU<|zl<|zn<|zq<|yr<|zt ?_
 cases h
 exact ⟨rfl,zT results65⟩
 refine zj<|zk<|yn<|zn<|zr ?_
 refine zU<|zl ?_
 cases h
 exact ⟨rfl,zE⟩
 refine yw 26 false ?_
 refine yk ?_
 refine yU ?_
 refine yd<|zn ?_
 refine zj<|zk<|yn<|zn<|zr ?_
 refine zU<|zl ?_
 cases h
 exact ⟨rfl,zE⟩
 refine zj<|zx<|ze ?_
 cases h
 exact ⟨rfl,zE⟩
 rcases o4 with ⟨⟩ | r36
 try simp only at h
 refine zA<|yh<|zn<|zs<|zr ?_
 refine zU<|zl<|zn<|zq ?_
 cases h
 exact zT results65
 try simp only at h
 refine zZ fun s hq=>?_
 refine yr<|zt ?_
 cases h
 exact hq
end
end Go.Proofs.YtfnmcjkkfnhpnaaGreatDoor
namespace Go.Proofs.YtfnmcjkkfnhpnaaGreatDoor
open Go Go.Ab Tryz
theorem qin {D:Prop} (s1:List Int) (s2:List Int) (r3:Bool) (h:qdr s1 s2=some r3):Con D Tryz.prog 70 [(.slc (vs3 (vv8 .i64) s1)),(.slc (vs3 (vv8 .i64) s2))] (.bool r3):=by
 refine zP call70 func70 rfl ntmps70 fun X w hT=>?_
 simp only [qdr] at h
 refine zs<|zr ?_
 refine zU<|zl<|zn<|zs<|zs<|zr ?_
 refine zU<|zl<|zn ?_
 obtain ⟨h4,h⟩|⟨h4,h⟩:=zI h
 refine zi<|zs<|zr ?_
 refine zU<|zl<|zn<|zq<|zt ?_
 cases h
 exact zT results70
 refine zj<|zk<|zn<|zs<|zs<|zr ?_
 refine zU<|zl<|zn<|zb ?_
 obtain ⟨o5,h6,h⟩:=zB h
 refine zO (fun (s:Int)=>⟨[(0,.p (.slc (vs3 (vv8 .i64) s1))),(1,.p (.slc (vs3 (vv8 .i64) s2))),(12,.p (.int .i64 (s1.length:Int))),(13,.p (.int .i64 s))],[]⟩) (fun (o:(Unit) ⊕ (Bool))=>match o with | .inl o7=>tE (cX Tryz.f70 X w D hT) (.exit 0) ⟨[],[]⟩ | .inr o8=>tR Tryz.prog Tryz.f70 (.bool o8)) h6 ?_ ?_
 clear h h4 h6
 intro t9 x h
 simp only [qez] at h
 refine zs<|zr ?_
 refine zU<|zl<|zn<|zs ?_
 obtain ⟨h10,h⟩|⟨h10,h⟩:=zI h
 refine zi<|zk<|zn<|zs<|zb<|zs<|zr ?_
 refine zU<|zl<|zn<|zs<|zd ?_
 obtain ⟨x11,h12,h12a,h12b,h⟩:=zX h
 obtain ⟨x13,h14,h14a,h14b,h⟩:=zX h
 refine yU ?_
 refine yd<|zn ?_
 obtain ⟨h15,h⟩|⟨h15,h⟩:=zI h
 refine zi<|zs<|zr ?_
 refine zU<|zl<|zn<|zq<|yr<|zt ?_
 cases h
 exact ⟨rfl,zT results70⟩
 refine zj<|zk<|yn<|zn<|zr ?_
 refine zU<|zl ?_
 cases h
 exact ⟨rfl,zE⟩
 refine zj<|zx<|ze ?_
 cases h
 exact ⟨rfl,zE⟩
 rcases o5 with ⟨⟩ | r16
 try simp only at h
 refine zA<|yh<|zn<|zs<|zr ?_
 refine zU<|zl<|zn<|zq ?_
 cases h
 exact zT results70
 try simp only at h
 refine zZ fun s hq=>?_
 refine yr<|zt ?_
 cases h
 exact hq
end Go.Proofs.YtfnmcjkkfnhpnaaGreatDoor
