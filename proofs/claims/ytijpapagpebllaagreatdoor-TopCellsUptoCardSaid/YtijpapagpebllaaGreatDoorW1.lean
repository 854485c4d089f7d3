/- -/
import Derived.Shelf.SlSortCmp.NoneTotal
import Derived.Ground.SlsfProg
import Derived.Shelf.SortM.Plain
import Derived.Shelf.SortM.SortNone
import Derived.Ground.SlgmProg
import Derived.Shelf.Spec.SlicesGrow
import Derived.Ground.Names8Prog
import Derived.Shelf.Small.Strs
import Derived.Test.YtijpapagpebllaaGreatDoorA3
import Derived.Test.YtijpapagpebllaaGreatDoorT1
import Derived.Test.YtijpapagpebllaaGreatDoorL1
set_option linter.unusedVariables false
set_option linter.unusedSimpArgs false
set_option maxHeartbeats 4000000
set_option maxRecDepth 20000
open And renaming intro->uco
open Array renaming size_append->v5g
open Bool renaming eq_false_iff->v78
open Int renaming eq_ofNat_of_zero_le->ua1,tmod->v92
open Go.IntKind renaming i64->v96
open List renaming length_nil->v6e,length_set->v6f,map->v8t,replicate->v6u,size_toArray->v6v
open Nat renaming le_refl->v7a,le_succ->v7b
open Option renaming bind_some->v7m,isSome_some->ucd
open Go.Ab.PV renaming int->ucp,str->ucq
namespace Go.Proofs.YtijpapagpebllaaGreatDoor
open Go Go.Ab Tryz
variable {D:Prop}
variable {Q:Exit->St->Prop} {H0:List (Nat×AO)} {X:Nat->Prop} {l:List Oper} {V:Type} {inj0:Inj} {U:World} {id N B:Nat} {st:St}
theorem TK{α:Type}{a:Option α}{b c:α}(h:a=some b)(e:b=c:=by kernel_rfl):a=some c:=h.trans (congrArg some e)
theorem mixed:prog.follows .mixedOrders=true:=by kernel_rfl
@[reducible] noncomputable def cX(f:Func)(X:Nat->Prop)(w:World)(D:Prop)(hT:TabOk prog (fun b=>X b\/F (fun _=>none) (qav []) b) w):Cx:=⟨prog,f.ntmps,0,X,[],fun _=>none,w,D,hT⟩
theorem zd{tb:TabOk prog (fun b=>X b\/F inj0 (qav H0) b) U}(h:DGo ⟨prog,N,B,X,H0,inj0,U,D,tb⟩ l.toArray l st [] (DK ⟨prog,N,B,X,H0,inj0,U,D,tb⟩ l.toArray Q))(hs:qkh l.toArray=true:=by kernel_rfl):AWp ⟨prog,N,B,X,H0,inj0,U,D,tb⟩ (.region id l.toArray true) Q st:=q2p mixed hs h
theorem zdl(n:Nat){tb:TabOk prog (fun b=>X b\/F inj0 (qav H0) b) U}(h:DGo ⟨prog,N,B,X,H0,inj0,U,D,tb⟩ l.toArray (l.take n) st [] (DKL ⟨prog,N,B,X,H0,inj0,U,D,tb⟩ l.toArray (l.drop n) Q))(hs:qkh l.toArray=true:=by kernel_rfl)(hl:vdb l.toArray n=true:=by kernel_rfl):AWp ⟨prog,N,B,X,H0,inj0,U,D,tb⟩ (.region id l.toArray true) Q st:=q2r n mixed hs hl h
def qa2(x:Value):PV:=.agg [.int .i64 x.Kind,.int .i64 x.Num,.str x.Str]
@[go_sem]theorem vrq(x:Value):PV.agg [.int .i64 x.Kind,.int .i64 x.Num,.str x.Str]=qa2 x:=rfl
@[go_sem]theorem vn8(x:Value):(qa2 x).cells=[.int .i64 x.Kind,.int .i64 x.Num,.str x.Str]:=rfl
@[go_sem]theorem vn9(x:Value):(qa2 x).isAgg=true:=rfl
@[go_sem]theorem voa(x:Value):(qa2 x).isTup=false:=rfl
@[go_sem]theorem vrr:qa2 (Value.mk 0 0 [])=.agg [.int .i64 0,.int .i64 0,.str []]:=rfl
@[go_sem]theorem vrs(o:Option Value):(Option.map (fun v=>AV.p (qa2 v)) o).getD (AV.p (.agg [.int .i64 0,.int .i64 0,.str []]))=AV.p (qa2 (o.getD (Value.mk 0 0 []))):=by cases o<;>rfl
def qaf:Option Value->PV
  |none=>.nilp
  |some x=>.imm [.int .i64 x.Kind,.int .i64 x.Num,.str x.Str]
@[go_sem]theorem vob:qaf none=.nilp:=rfl
@[go_sem]theorem voc(x:Value):qaf (some x)=.imm [.int .i64 x.Kind,.int .i64 x.Num,.str x.Str]:=rfl
@[go_sem]theorem vnp(x:Option Value):(qaf x).cells=[qaf x]:=by cases x<;>rfl
@[go_sem high]theorem vig(x:Option Value):vop prog .neq 166 (.p (qaf x)) (.p .nilp)=some (.p (.bool x.isSome)):=by
  have hu:prog.underlying 166=some (.pointer 123):=underlying166;cases x<;>simp[qaf,vop,vx6,hu,PV.isAgg]
@[go_sem high]theorem vih(x:Option Value):vop prog .eql 166 (.p (qaf x)) (.p .nilp)=some (.p (.bool (!x.isSome))):=by
  have hu:prog.underlying 166=some (.pointer 123):=underlying166;cases x<;>simp[qaf,vop,vx6,hu,PV.isAgg]
@[go_sem]theorem vnq(x:Option Value):(qaf x).isTup=false:=by cases x<;>rfl
@[go_sem]theorem vrt(x:Value):(qa2 x).flat=true:=rfl
def qbf(x:Drossref03_Recipe):PV:=.agg [.int .u8 x.Attrs,.int .u8 x.Gap,.slc (v8t (qal (ucp .u8)) x.Rows)]
@[go_sem]theorem q24(x:Drossref03_Recipe):PV.agg [.int .u8 x.Attrs,.int .u8 x.Gap,.slc (v8t (qal (ucp .u8)) x.Rows)]=qbf x:=rfl
@[go_sem]theorem qo1(x:Drossref03_Recipe):(qbf x).cells=[.int .u8 x.Attrs,.int .u8 x.Gap,.slc (v8t (qal (ucp .u8)) x.Rows)]:=rfl
@[go_sem]theorem q2d(x:Drossref03_Recipe):(qbf x).isAgg=true:=rfl
@[go_sem]theorem q2e(x:Drossref03_Recipe):(qbf x).isTup=false:=rfl
@[simp]theorem q57(a_Attrs:Int)(a_Gap:Int)(a_Rows:List (List Int)):qbf ⟨a_Attrs,a_Gap,a_Rows⟩=.agg [.int .u8 a_Attrs,.int .u8 a_Gap,.slc (v8t (qal (ucp .u8)) a_Rows)]:=rfl
def qaq(x:Row):PV:=.agg [.int .i64 x.ID,.slc (v8t qa2 x.Values)]
@[go_sem]theorem vxu(x:Row):PV.agg [.int .i64 x.ID,.slc (v8t qa2 x.Values)]=qaq x:=rfl
@[go_sem]theorem vs8(x:Row):(qaq x).cells=[.int .i64 x.ID,.slc (v8t qa2 x.Values)]:=rfl
@[go_sem]theorem vs9(x:Row):(qaq x).isAgg=true:=rfl
@[go_sem]theorem vta(x:Row):(qaq x).isTup=false:=rfl
@[simp]theorem v43(a_ID:Int)(a_Values:List Value):qaq ⟨a_ID,a_Values⟩=.agg [.int .i64 a_ID,.slc (v8t qa2 a_Values)]:=rfl
def qab(x:Table):PV:=.agg [.str x.Name,.slc (v8t ucq x.Attrs),.slc (v8t qaq x.Rows)]
@[go_sem]theorem vru(x:Table):PV.agg [.str x.Name,.slc (v8t ucq x.Attrs),.slc (v8t qaq x.Rows)]=qab x:=rfl
@[go_sem]theorem vod(x:Table):(qab x).cells=[.str x.Name,.slc (v8t ucq x.Attrs),.slc (v8t qaq x.Rows)]:=rfl
@[go_sem]theorem voe(x:Table):(qab x).isAgg=true:=rfl
@[go_sem]theorem vof(x:Table):(qab x).isTup=false:=rfl
@[go_sem]theorem vxv(l:List Table):((l.map qab).all fun y=>y.cells.length==3)=true:=by simp[qab,PV.cells]
@[go_sem] theorem vxw (l:List Table):((l.map qab).map AV.p).all (qhb 3)=true:=qie _ _ _ fun _=>⟨rfl,rfl⟩
@[simp]theorem vxx(a_Name:List UInt8)(a_Attrs:List (List UInt8))(a_Rows:List Row):qab ⟨a_Name,a_Attrs,a_Rows⟩=.agg [.str a_Name,.slc (v8t ucq a_Attrs),.slc (v8t qaq a_Rows)]:=rfl
def qbi(x:Drossref09_Dep):PV:=.agg [.int .u8 x.L,.int .u8 x.R]
@[go_sem]theorem q6j(x:Drossref09_Dep):PV.agg [.int .u8 x.L,.int .u8 x.R]=qbi x:=rfl
@[go_sem]theorem qr0(x:Drossref09_Dep):(qbi x).cells=[.int .u8 x.L,.int .u8 x.R]:=rfl
@[go_sem]theorem q58(x:Drossref09_Dep):(qbi x).isAgg=true:=rfl
@[go_sem]theorem q59(x:Drossref09_Dep):(qbi x).isTup=false:=rfl
@[go_sem]theorem q6k:qbi (Drossref09_Dep.mk 0 0)=.agg [.int .u8 0,.int .u8 0]:=rfl
@[go_sem]theorem q6l(x:Drossref09_Dep):(qbi x).flat=true:=rfl
def qa7(x:FD):PV:=.agg [.int .u32 x.Lhs,.int .u32 x.Rhs]
@[go_sem]theorem vz0(x:FD):PV.agg [.int .u32 x.Lhs,.int .u32 x.Rhs]=qa7 x:=rfl
@[go_sem]theorem vxy(x:FD):(qa7 x).cells=[.int .u32 x.Lhs,.int .u32 x.Rhs]:=rfl
@[go_sem]theorem vxz(x:FD):(qa7 x).isAgg=true:=rfl
@[go_sem]theorem vx0(x:FD):(qa7 x).isTup=false:=rfl
@[go_sem]theorem vz1:qa7 (FD.mk 0 0)=.agg [.int .u32 0,.int .u32 0]:=rfl
@[go_sem]theorem vz2(x:FD):(qa7 x).flat=true:=rfl
def qcy(x:Drossref45_Case):PV:=.agg [.int .u8 x.T.Attrs,.int .u8 x.T.Gap,.slc (v8t (qal (ucp .u8)) x.T.Rows),.slc (v8t qbi x.F)]
@[go_sem]theorem q6a(x:Drossref45_Case):PV.agg [.int .u8 x.T.Attrs,.int .u8 x.T.Gap,.slc (v8t (qal (ucp .u8)) x.T.Rows),.slc (v8t qbi x.F)]=qcy x:=rfl
@[go_sem]theorem qqz(x:Drossref45_Case):(qcy x).cells=[.int .u8 x.T.Attrs,.int .u8 x.T.Gap,.slc (v8t (qal (ucp .u8)) x.T.Rows),.slc (v8t qbi x.F)]:=rfl
@[go_sem]theorem q34(x:Drossref45_Case):(qcy x).isAgg=true:=rfl
@[go_sem]theorem q35(x:Drossref45_Case):(qcy x).isTup=false:=rfl
@[simp]theorem q9z(a_T:Drossref03_Recipe)(a_F:List Drossref09_Dep):qcy ⟨a_T,a_F⟩=.agg [.int .u8 a_T.Attrs,.int .u8 a_T.Gap,.slc (v8t (qal (ucp .u8)) a_T.Rows),.slc (v8t qbi a_F)]:=rfl
def qaa(x:CellRef):PV:=.agg [.int .i64 x.ID,.int .i64 x.Attr]
@[go_sem]theorem vnr(x:CellRef):PV.agg [.int .i64 x.ID,.int .i64 x.Attr]=qaa x:=rfl
@[go_sem]theorem vii(x:CellRef):(qaa x).cells=[.int .i64 x.ID,.int .i64 x.Attr]:=rfl
@[go_sem]theorem vij(x:CellRef):(qaa x).isAgg=true:=rfl
@[go_sem]theorem vik(x:CellRef):(qaa x).isTup=false:=rfl
@[go_sem]theorem vrv(l:List CellRef):((l.map qaa).all fun y=>y.cells.length==2)=true:=by simp[qaa,PV.cells]
@[go_sem] theorem vrw (l:List CellRef):((l.map qaa).map AV.p).all (qhb 2)=true:=qie _ _ _ fun _=>⟨rfl,rfl⟩
@[go_sem]theorem vns:qaa (CellRef.mk 0 0)=.agg [.int .i64 0,.int .i64 0]:=rfl
@[go_sem]theorem vnt(x:CellRef):(qaa x).flat=true:=rfl
def qai(x:Instance):PV:=.agg [.slc (v8t (ucp .i64) x.Weights),.slc (v8t (qal (ucp .i64)) x.Edges)]
@[go_sem]theorem vil(x:Instance):PV.agg [.slc (v8t (ucp .i64) x.Weights),.slc (v8t (qal (ucp .i64)) x.Edges)]=qai x:=rfl
@[go_sem]theorem vhu(x:Instance):(qai x).cells=[.slc (v8t (ucp .i64) x.Weights),.slc (v8t (qal (ucp .i64)) x.Edges)]:=rfl
@[go_sem]theorem vhv(x:Instance):(qai x).isAgg=true:=rfl
@[go_sem]theorem vhw(x:Instance):(qai x).isTup=false:=rfl
@[simp]theorem vog(a_Weights:List Int)(a_Edges:List (List Int)):qai ⟨a_Weights,a_Edges⟩=.agg [.slc (v8t (ucp .i64) a_Weights),.slc (v8t (qal (ucp .i64)) a_Edges)]:=rfl
def qiv(x:Hitset_search):PV:=.agg [.slc (v8t (ucp .i64) x.in_.Weights),.slc (v8t (qal (ucp .i64)) x.in_.Edges),.slc (v8t (ucp .i64) x.marks),.int .i64 x.left]
@[go_sem]theorem q90(x:Hitset_search):PV.agg [.slc (v8t (ucp .i64) x.in_.Weights),.slc (v8t (qal (ucp .i64)) x.in_.Edges),.slc (v8t (ucp .i64) x.marks),.int .i64 x.left]=qiv x:=rfl
@[go_sem]theorem q6m(x:Hitset_search):(qiv x).cells=[.slc (v8t (ucp .i64) x.in_.Weights),.slc (v8t (qal (ucp .i64)) x.in_.Edges),.slc (v8t (ucp .i64) x.marks),.int .i64 x.left]:=rfl
@[go_sem]theorem q6n(x:Hitset_search):(qiv x).isAgg=true:=rfl
@[go_sem]theorem q6o(x:Hitset_search):(qiv x).isTup=false:=rfl
@[simp]theorem vci(a_in_:Instance)(a_marks:List Int)(a_left:Int):qiv ⟨a_in_,a_marks,a_left⟩=.agg [.slc (v8t (ucp .i64) a_in_.Weights),.slc (v8t (qal (ucp .i64)) a_in_.Edges),.slc (v8t (ucp .i64) a_marks),.int .i64 a_left]:=rfl
def qq0:Option Hitset_search->PV
  |none=>.nilp
  |some x=>.imm [.slc (v8t (ucp .i64) x.in_.Weights),.slc (v8t (qal (ucp .i64)) x.in_.Edges),.slc (v8t (ucp .i64) x.marks),.int .i64 x.left]
@[go_sem]theorem q6p:qq0 none=.nilp:=rfl
@[go_sem]theorem q6q(x:Hitset_search):qq0 (some x)=.imm [.slc (v8t (ucp .i64) x.in_.Weights),.slc (v8t (qal (ucp .i64)) x.in_.Edges),.slc (v8t (ucp .i64) x.marks),.int .i64 x.left]:=rfl
def qak(x:Hitset_best):PV:=.agg [.slc (v8t (ucp .i64) x.l),.int .i64 x.weight]
@[go_sem]theorem vcj(x:Hitset_best):PV.agg [.slc (v8t (ucp .i64) x.l),.int .i64 x.weight]=qak x:=rfl
@[go_sem]theorem q95(x:Hitset_best):(qak x).cells=[.slc (v8t (ucp .i64) x.l),.int .i64 x.weight]:=rfl
@[go_sem]theorem q96(x:Hitset_best):(qak x).isAgg=true:=rfl
@[go_sem]theorem q97(x:Hitset_best):(qak x).isTup=false:=rfl
@[simp]theorem vhx(a_l:List Int)(a_weight:Int):qak ⟨a_l,a_weight⟩=.agg [.slc (v8t (ucp .i64) a_l),.int .i64 a_weight]:=rfl
def qcd(x:Share):PV:=.agg [.int .i64 x.Edge,.int .i64 x.Amount]
@[go_sem]theorem vrx(x:Share):PV.agg [.int .i64 x.Edge,.int .i64 x.Amount]=qcd x:=rfl
@[go_sem]theorem voh(x:Share):(qcd x).cells=[.int .i64 x.Edge,.int .i64 x.Amount]:=rfl
@[go_sem]theorem voi(x:Share):(qcd x).isAgg=true:=rfl
@[go_sem]theorem voj(x:Share):(qcd x).isTup=false:=rfl
@[go_sem]theorem vry:qcd (Share.mk 0 0)=.agg [.int .i64 0,.int .i64 0]:=rfl
@[go_sem]theorem vrz(x:Share):(qcd x).flat=true:=rfl
def qh4(x:Update_entries):PV:=.agg [.int .i64 x.n,.slc (v8t (ucp .i64) x.parent),.slc (v8t qaf x.known)]
@[go_sem]theorem q6r(x:Update_entries):PV.agg [.int .i64 x.n,.slc (v8t (ucp .i64) x.parent),.slc (v8t qaf x.known)]=qh4 x:=rfl
@[go_sem]theorem q6b(x:Update_entries):(qh4 x).cells=[.int .i64 x.n,.slc (v8t (ucp .i64) x.parent),.slc (v8t qaf x.known)]:=rfl
@[go_sem]theorem q6c(x:Update_entries):(qh4 x).isAgg=true:=rfl
@[go_sem]theorem q6d(x:Update_entries):(qh4 x).isTup=false:=rfl
@[simp]theorem q98(a_n:Int)(a_parent:List Int)(a_known:List (Option Value)):qh4 ⟨a_n,a_parent,a_known⟩=.agg [.int .i64 a_n,.slc (v8t (ucp .i64) a_parent),.slc (v8t qaf a_known)]:=rfl
def qpu:Option Update_entries->PV
  |none=>.nilp
  |some x=>.imm [.int .i64 x.n,.slc (v8t (ucp .i64) x.parent),.slc (v8t qaf x.known)]
@[go_sem]theorem q6e:qpu none=.nilp:=rfl
@[go_sem]theorem q6f(x:Update_entries):qpu (some x)=.imm [.int .i64 x.n,.slc (v8t (ucp .i64) x.parent),.slc (v8t qaf x.known)]:=rfl
def qa1(x:Node):PV:=.agg [.int .i64 x.Vertex,.slc (v8t qcd x.Shares)]
@[go_sem]theorem vtb(x:Node):PV.agg [.int .i64 x.Vertex,.slc (v8t qcd x.Shares)]=qa1 x:=rfl
@[go_sem]theorem vr0(x:Node):(qa1 x).cells=[.int .i64 x.Vertex,.slc (v8t qcd x.Shares)]:=rfl
@[go_sem]theorem vr1(x:Node):(qa1 x).isAgg=true:=rfl
@[go_sem]theorem vr2(x:Node):(qa1 x).isTup=false:=rfl
@[go_sem]theorem vz3(l:List Node):((l.map qa1).all fun y=>y.cells.length==2)=true:=by simp[qa1,PV.cells]
@[go_sem] theorem vz4 (l:List Node):((l.map qa1).map AV.p).all (qhb 2)=true:=qie _ _ _ fun _=>⟨rfl,rfl⟩
@[simp]theorem vz5(a_Vertex:Int)(a_Shares:List Share):qa1 ⟨a_Vertex,a_Shares⟩=.agg [.int .i64 a_Vertex,.slc (v8t qcd a_Shares)]:=rfl
def qiw(x:Update):PV:=.agg [.slc (v8t qaa x.Cells),.str x.Table.Name,.slc (v8t ucq x.Table.Attrs),.slc (v8t qaq x.Table.Rows),.slc (v8t (qal qaa) x.Cores),.slc (v8t qa1 x.Proof)]
@[go_sem]theorem vok(x:Update):PV.agg [.slc (v8t qaa x.Cells),.str x.Table.Name,.slc (v8t ucq x.Table.Attrs),.slc (v8t qaq x.Table.Rows),.slc (v8t (qal qaa) x.Cores),.slc (v8t qa1 x.Proof)]=qiw x:=rfl
@[go_sem]theorem vnu(x:Update):(qiw x).cells=[.slc (v8t qaa x.Cells),.str x.Table.Name,.slc (v8t ucq x.Table.Attrs),.slc (v8t qaq x.Table.Rows),.slc (v8t (qal qaa) x.Cores),.slc (v8t qa1 x.Proof)]:=rfl
@[go_sem]theorem vnv(x:Update):(qiw x).isAgg=true:=rfl
@[go_sem]theorem vnw(x:Update):(qiw x).isTup=false:=rfl
@[simp]theorem vtc(a_Cells:List CellRef)(a_Table:Table)(a_Cores:List (List CellRef))(a_Proof:List Node):qiw ⟨a_Cells,a_Table,a_Cores,a_Proof⟩=.agg [.slc (v8t qaa a_Cells),.str a_Table.Name,.slc (v8t ucq a_Table.Attrs),.slc (v8t qaq a_Table.Rows),.slc (v8t (qal qaa) a_Cores),.slc (v8t qa1 a_Proof)]:=rfl
def qr1(x:Term):PV:=.agg [.int .i64 x.Var,.int .i64 x.Attr,.int .i64 x.Value.Kind,.int .i64 x.Value.Num,.str x.Value.Str]
@[go_sem]theorem vtd(x:Term):PV.agg [.int .i64 x.Var,.int .i64 x.Attr,.int .i64 x.Value.Kind,.int .i64 x.Value.Num,.str x.Value.Str]=qr1 x:=rfl
@[go_sem]theorem vr3(x:Term):(qr1 x).cells=[.int .i64 x.Var,.int .i64 x.Attr,.int .i64 x.Value.Kind,.int .i64 x.Value.Num,.str x.Value.Str]:=rfl
@[go_sem]theorem vr4(x:Term):(qr1 x).isAgg=true:=rfl
@[go_sem]theorem vr5(x:Term):(qr1 x).isTup=false:=rfl
@[go_sem]theorem vte:qr1 (Term.mk 0 0 (Value.mk 0 0 []))=.agg [.int .i64 0,.int .i64 0,.int .i64 0,.int .i64 0,.str []]:=rfl
@[go_sem]theorem vtf(x:Term):(qr1 x).flat=true:=rfl
def qc4(x:Atom):PV:=.agg [.int .i64 x.Left.Var,.int .i64 x.Left.Attr,.int .i64 x.Left.Value.Kind,.int .i64 x.Left.Value.Num,.str x.Left.Value.Str,.int .i64 x.Op,.int .i64 x.Right.Var,.int .i64 x.Right.Attr,.int .i64 x.Right.Value.Kind,.int .i64 x.Right.Value.Num,.str x.Right.Value.Str]
@[go_sem]theorem vtg(x:Atom):PV.agg [.int .i64 x.Left.Var,.int .i64 x.Left.Attr,.int .i64 x.Left.Value.Kind,.int .i64 x.Left.Value.Num,.str x.Left.Value.Str,.int .i64 x.Op,.int .i64 x.Right.Var,.int .i64 x.Right.Attr,.int .i64 x.Right.Value.Kind,.int .i64 x.Right.Value.Num,.str x.Right.Value.Str]=qc4 x:=rfl
@[go_sem]theorem vr6(x:Atom):(qc4 x).cells=[.int .i64 x.Left.Var,.int .i64 x.Left.Attr,.int .i64 x.Left.Value.Kind,.int .i64 x.Left.Value.Num,.str x.Left.Value.Str,.int .i64 x.Op,.int .i64 x.Right.Var,.int .i64 x.Right.Attr,.int .i64 x.Right.Value.Kind,.int .i64 x.Right.Value.Num,.str x.Right.Value.Str]:=rfl
@[go_sem]theorem vr7(x:Atom):(qc4 x).isAgg=true:=rfl
@[go_sem]theorem vr8(x:Atom):(qc4 x).isTup=false:=rfl
@[go_sem]theorem vth:qc4 (Atom.mk (Term.mk 0 0 (Value.mk 0 0 [])) 0 (Term.mk 0 0 (Value.mk 0 0 [])))=.agg [.int .i64 0,.int .i64 0,.int .i64 0,.int .i64 0,.str [],.int .i64 0,.int .i64 0,.int .i64 0,.int .i64 0,.int .i64 0,.str []]:=rfl
@[go_sem]theorem vti(x:Atom):(qc4 x).flat=true:=rfl
def qar(x:Denial):PV:=.agg [.int .i64 x.Vars,.slc (v8t qc4 x.Atoms)]
@[go_sem]theorem vol(x:Denial):PV.agg [.int .i64 x.Vars,.slc (v8t qc4 x.Atoms)]=qar x:=rfl
@[go_sem]theorem vnx(x:Denial):(qar x).cells=[.int .i64 x.Vars,.slc (v8t qc4 x.Atoms)]:=rfl
@[go_sem]theorem vny(x:Denial):(qar x).isAgg=true:=rfl
@[go_sem]theorem vnz(x:Denial):(qar x).isTup=false:=rfl
@[simp]theorem vtj(a_Vars:Int)(a_Atoms:List Atom):qar ⟨a_Vars,a_Atoms⟩=.agg [.int .i64 a_Vars,.slc (v8t qc4 a_Atoms)]:=rfl
def qi9(x:Cell):PV:=.agg [.bool x.Any,.int .i64 x.Value.Kind,.int .i64 x.Value.Num,.str x.Value.Str]
@[go_sem]theorem vtk(x:Cell):PV.agg [.bool x.Any,.int .i64 x.Value.Kind,.int .i64 x.Value.Num,.str x.Value.Str]=qi9 x:=rfl
@[go_sem]theorem vr9(x:Cell):(qi9 x).cells=[.bool x.Any,.int .i64 x.Value.Kind,.int .i64 x.Value.Num,.str x.Value.Str]:=rfl
@[go_sem]theorem vsa(x:Cell):(qi9 x).isAgg=true:=rfl
@[go_sem]theorem vsb(x:Cell):(qi9 x).isTup=false:=rfl
@[go_sem]theorem vtl:qi9 (Cell.mk false (Value.mk 0 0 []))=.agg [.bool false,.int .i64 0,.int .i64 0,.str []]:=rfl
@[go_sem]theorem vtm(x:Cell):(qi9 x).flat=true:=rfl
def q91(x:CFD):PV:=.agg [.slc (v8t (ucp .i64) x.Lhs),.int .i64 x.Rhs,.slc (v8t qi9 x.Pattern)]
@[go_sem]theorem vx1(x:CFD):PV.agg [.slc (v8t (ucp .i64) x.Lhs),.int .i64 x.Rhs,.slc (v8t qi9 x.Pattern)]=q91 x:=rfl
@[go_sem]theorem vtn(x:CFD):(q91 x).cells=[.slc (v8t (ucp .i64) x.Lhs),.int .i64 x.Rhs,.slc (v8t qi9 x.Pattern)]:=rfl
@[go_sem]theorem vto(x:CFD):(q91 x).isAgg=true:=rfl
@[go_sem]theorem vtp(x:CFD):(q91 x).isTup=false:=rfl
@[simp]theorem v47(a_Lhs:List Int)(a_Rhs:Int)(a_Pattern:List Cell):q91 ⟨a_Lhs,a_Rhs,a_Pattern⟩=.agg [.slc (v8t (ucp .i64) a_Lhs),.int .i64 a_Rhs,.slc (v8t qi9 a_Pattern)]:=rfl
def vn0(x:OD):PV:=.agg [.slc (v8t (ucp .i64) x.Lhs),.slc (v8t (ucp .i64) x.Rhs)]
@[go_sem]theorem vz6(x:OD):PV.agg [.slc (v8t (ucp .i64) x.Lhs),.slc (v8t (ucp .i64) x.Rhs)]=vn0 x:=rfl
@[go_sem]theorem vx2(x:OD):(vn0 x).cells=[.slc (v8t (ucp .i64) x.Lhs),.slc (v8t (ucp .i64) x.Rhs)]:=rfl
@[go_sem]theorem vx3(x:OD):(vn0 x).isAgg=true:=rfl
@[go_sem]theorem vx4(x:OD):(vn0 x).isTup=false:=rfl
@[simp]theorem encOD_mk(a_Lhs:List Int)(a_Rhs:List Int):vn0 ⟨a_Lhs,a_Rhs⟩=.agg [.slc (v8t (ucp .i64) a_Lhs),.slc (v8t (ucp .i64) a_Rhs)]:=rfl
def q92(x:IND):PV:=.agg [.str x.From,.slc (v8t (ucp .i64) x.Lhs),.str x.To,.slc (v8t (ucp .i64) x.Rhs)]
@[go_sem]theorem vx5(x:IND):PV.agg [.str x.From,.slc (v8t (ucp .i64) x.Lhs),.str x.To,.slc (v8t (ucp .i64) x.Rhs)]=q92 x:=rfl
@[go_sem]theorem vtq(x:IND):(q92 x).cells=[.str x.From,.slc (v8t (ucp .i64) x.Lhs),.str x.To,.slc (v8t (ucp .i64) x.Rhs)]:=rfl
@[go_sem]theorem vtr(x:IND):(q92 x).isAgg=true:=rfl
@[go_sem]theorem vts(x:IND):(q92 x).isTup=false:=rfl
@[simp]theorem v48(a_From:List UInt8)(a_Lhs:List Int)(a_To:List UInt8)(a_Rhs:List Int):q92 ⟨a_From,a_Lhs,a_To,a_Rhs⟩=.agg [.str a_From,.slc (v8t (ucp .i64) a_Lhs),.str a_To,.slc (v8t (ucp .i64) a_Rhs)]:=rfl
def qax(x:Constraint):PV:=.agg [.str x.Name,.str x.Table,.int .i64 x.Kind,.int .u32 x.FD.Lhs,.int .u32 x.FD.Rhs,.int .u32 x.MVD.Lhs,.int .u32 x.MVD.Rhs,.str x.IND.From,.slc (v8t (ucp .i64) x.IND.Lhs),.str x.IND.To,.slc (v8t (ucp .i64) x.IND.Rhs),.slc (v8t (ucp .i64) x.CFD.Lhs),.int .i64 x.CFD.Rhs,.slc (v8t qi9 x.CFD.Pattern),.slc (v8t (ucp .i64) x.OD.Lhs),.slc (v8t (ucp .i64) x.OD.Rhs),.int .i64 x.Denial.Vars,.slc (v8t qc4 x.Denial.Atoms)]
@[go_sem]theorem vev(x:Constraint):PV.agg [.str x.Name,.str x.Table,.int .i64 x.Kind,.int .u32 x.FD.Lhs,.int .u32 x.FD.Rhs,.int .u32 x.MVD.Lhs,.int .u32 x.MVD.Rhs,.str x.IND.From,.slc (v8t (ucp .i64) x.IND.Lhs),.str x.IND.To,.slc (v8t (ucp .i64) x.IND.Rhs),.slc (v8t (ucp .i64) x.CFD.Lhs),.int .i64 x.CFD.Rhs,.slc (v8t qi9 x.CFD.Pattern),.slc (v8t (ucp .i64) x.OD.Lhs),.slc (v8t (ucp .i64) x.OD.Rhs),.int .i64 x.Denial.Vars,.slc (v8t qc4 x.Denial.Atoms)]=qax x:=rfl
@[go_sem]theorem vck(x:Constraint):(qax x).cells=[.str x.Name,.str x.Table,.int .i64 x.Kind,.int .u32 x.FD.Lhs,.int .u32 x.FD.Rhs,.int .u32 x.MVD.Lhs,.int .u32 x.MVD.Rhs,.str x.IND.From,.slc (v8t (ucp .i64) x.IND.Lhs),.str x.IND.To,.slc (v8t (ucp .i64) x.IND.Rhs),.slc (v8t (ucp .i64) x.CFD.Lhs),.int .i64 x.CFD.Rhs,.slc (v8t qi9 x.CFD.Pattern),.slc (v8t (ucp .i64) x.OD.Lhs),.slc (v8t (ucp .i64) x.OD.Rhs),.int .i64 x.Denial.Vars,.slc (v8t qc4 x.Denial.Atoms)]:=rfl
@[go_sem]theorem vcl(x:Constraint):(qax x).isAgg=true:=rfl
@[go_sem]theorem vcm(x:Constraint):(qax x).isTup=false:=rfl
@[simp]theorem vim(a_Name:List UInt8)(a_Table:List UInt8)(a_Kind:Int)(a_FD:FD)(a_MVD:FD)(a_IND:IND)(a_CFD:CFD)(a_OD:OD)(a_Denial:Denial):qax ⟨a_Name,a_Table,a_Kind,a_FD,a_MVD,a_IND,a_CFD,a_OD,a_Denial⟩=.agg [.str a_Name,.str a_Table,.int .i64 a_Kind,.int .u32 a_FD.Lhs,.int .u32 a_FD.Rhs,.int .u32 a_MVD.Lhs,.int .u32 a_MVD.Rhs,.str a_IND.From,.slc (v8t (ucp .i64) a_IND.Lhs),.str a_IND.To,.slc (v8t (ucp .i64) a_IND.Rhs),.slc (v8t (ucp .i64) a_CFD.Lhs),.int .i64 a_CFD.Rhs,.slc (v8t qi9 a_CFD.Pattern),.slc (v8t (ucp .i64) a_OD.Lhs),.slc (v8t (ucp .i64) a_OD.Rhs),.int .i64 a_Denial.Vars,.slc (v8t qc4 a_Denial.Atoms)]:=rfl
def qaj(x:Arr3_int64):PV:=.agg [.int .i64 x.x0,.int .i64 x.x1,.int .i64 x.x2]
@[go_sem]theorem vew(x:Arr3_int64):PV.agg [.int .i64 x.x0,.int .i64 x.x1,.int .i64 x.x2]=qaj x:=rfl
@[go_sem]theorem vcn(x:Arr3_int64):(qaj x).cells=[.int .i64 x.x0,.int .i64 x.x1,.int .i64 x.x2]:=rfl
@[go_sem]theorem vco(x:Arr3_int64):(qaj x).isAgg=true:=rfl
@[go_sem]theorem vcp(x:Arr3_int64):(qaj x).isTup=false:=rfl
@[go_sem]theorem vex:qaj (Arr3_int64.mk 0 0 0)=.agg [.int .i64 0,.int .i64 0,.int .i64 0]:=rfl
@[go_sem]theorem vey(x:Arr3_int64):(qaj x).flat=true:=rfl
def qag(x:Hypergraph):PV:=.agg [.slc (v8t (ucp .i64) x.Vertices),.slc (v8t (qal (ucp .i64)) x.Edges)]
@[go_sem]theorem vez(x:Hypergraph):PV.agg [.slc (v8t (ucp .i64) x.Vertices),.slc (v8t (qal (ucp .i64)) x.Edges)]=qag x:=rfl
@[go_sem]theorem vcq(x:Hypergraph):(qag x).cells=[.slc (v8t (ucp .i64) x.Vertices),.slc (v8t (qal (ucp .i64)) x.Edges)]:=rfl
@[go_sem]theorem vcr(x:Hypergraph):(qag x).isAgg=true:=rfl
@[go_sem]theorem vcs(x:Hypergraph):(qag x).isTup=false:=rfl
@[simp]theorem vin(a_Vertices:List Int)(a_Edges:List (List Int)):qag ⟨a_Vertices,a_Edges⟩=.agg [.slc (v8t (ucp .i64) a_Vertices),.slc (v8t (qal (ucp .i64)) a_Edges)]:=rfl
def qq1(x:Repair):PV:=.agg [.slc (v8t (ucp .i64) x.Deleted),.int .i64 x.Weight,.slc (v8t qa1 x.Proof)]
@[go_sem]theorem vom(x:Repair):PV.agg [.slc (v8t (ucp .i64) x.Deleted),.int .i64 x.Weight,.slc (v8t qa1 x.Proof)]=qq1 x:=rfl
@[go_sem]theorem vn1(x:Repair):(qq1 x).cells=[.slc (v8t (ucp .i64) x.Deleted),.int .i64 x.Weight,.slc (v8t qa1 x.Proof)]:=rfl
@[go_sem]theorem vn2(x:Repair):(qq1 x).isAgg=true:=rfl
@[go_sem]theorem vn3(x:Repair):(qq1 x).isTup=false:=rfl
@[simp]theorem vtt(a_Deleted:List Int)(a_Weight:Int)(a_Proof:List Node):qq1 ⟨a_Deleted,a_Weight,a_Proof⟩=.agg [.slc (v8t (ucp .i64) a_Deleted),.int .i64 a_Weight,.slc (v8t qa1 a_Proof)]:=rfl
def qcc(x:Database):PV:=.agg [.slc (v8t qab x.Tables)]
@[go_sem]theorem vio(x:Database):PV.agg [.slc (v8t qab x.Tables)]=qcc x:=rfl
@[go_sem]theorem vhy(x:Database):(qcc x).cells=[.slc (v8t qab x.Tables)]:=rfl
@[go_sem]theorem vhz(x:Database):(qcc x).isAgg=true:=rfl
@[go_sem]theorem vh0(x:Database):(qcc x).isTup=false:=rfl
@[simp]theorem von(a_Tables:List Table):qcc ⟨a_Tables⟩=.agg [.slc (v8t qab a_Tables)]:=rfl
def qjw(x:Partition):PV:=.agg [.int .i64 x.Rows,.slc (v8t (qal (ucp .i64)) x.Classes)]
@[go_sem]theorem vh1(x:Partition):PV.agg [.int .i64 x.Rows,.slc (v8t (qal (ucp .i64)) x.Classes)]=qjw x:=rfl
@[go_sem]theorem ve0(x:Partition):(qjw x).cells=[.int .i64 x.Rows,.slc (v8t (qal (ucp .i64)) x.Classes)]:=rfl
@[go_sem]theorem ve1(x:Partition):(qjw x).isAgg=true:=rfl
@[go_sem]theorem ve2(x:Partition):(qjw x).isTup=false:=rfl
@[simp]theorem vn4(a_Rows:Int)(a_Classes:List (List Int)):qjw ⟨a_Rows,a_Classes⟩=.agg [.int .i64 a_Rows,.slc (v8t (qal (ucp .i64)) a_Classes)]:=rfl
def qeo(x:Violation):PV:=.agg [.int .i64 x.Constraint,.slc (v8t (ucp .i64) x.Rows)]
@[go_sem]theorem vh2(x:Violation):PV.agg [.int .i64 x.Constraint,.slc (v8t (ucp .i64) x.Rows)]=qeo x:=rfl
@[go_sem]theorem ve3(x:Violation):(qeo x).cells=[.int .i64 x.Constraint,.slc (v8t (ucp .i64) x.Rows)]:=rfl
@[go_sem]theorem ve4(x:Violation):(qeo x).isAgg=true:=rfl
@[go_sem]theorem ve5(x:Violation):(qeo x).isTup=false:=rfl
@[simp]theorem vn5(a_Constraint:Int)(a_Rows:List Int):qeo ⟨a_Constraint,a_Rows⟩=.agg [.int .i64 a_Constraint,.slc (v8t (ucp .i64) a_Rows)]:=rfl
theorem qnm(a b:Arr3_int64):qnw prog 200 (qaj a) (qaj b)=some (decide (a=b)):=by
  obtain⟨_,_,_⟩:=a;obtain⟨U,b1,b2⟩:=b;simp only[qaj,qnw,qzo,eqC,go_sem,seval,beq_self_eq_true,Bool.true_and,Bool.and_true,if_true,v7m,ucd];congr 1;rw[Bool.eq_iff_iff];simp
@[go_sem]theorem q6s(x:Arr3_int64):qzo prog 200 (qaj x)=true:=by
  obtain⟨_,_,_⟩:=x;simp only[qaj,qnw,qzo,eqC,go_sem,seval,beq_self_eq_true,Bool.true_and,Bool.and_true,if_true,v7m,ucd]
@[go_sem]theorem qsv(k:Arr3_int64)(m:List (Arr3_int64×V))(g:V->PV):qs3 prog 200 (qaj k) (qhj qaj m) ((qh8 g m).map AV.p)=some ((qg3 m k).map fun v=>AV.p (g v)):=q0u _ _ _ qnm k m g
@[go_sem]theorem q6g(U:Int)(a1:Int)(a2:Int)(m:List (Arr3_int64×V))(g:V->PV):qs3 prog 200 (.agg [.int .i64 U,.int .i64 a1,.int .i64 a2]) (qhj qaj m) ((qh8 g m).map AV.p)=some ((qg3 m (Arr3_int64.mk U a1 a2)).map fun v=>AV.p (g v)):=qsv (Arr3_int64.mk U a1 a2) m g
@[go_sem]theorem qt2(k:Arr3_int64)(m:List (Arr3_int64×V))(g:V->PV)(v:V):q60 prog 200 (qaj k) (.p (g v)) (qhj qaj m) ((qh8 g m).map AV.p)=some (qhj qaj (qnx m k v),(qh8 g (qnx m k v)).map AV.p):=q4r _ _ _ qnm k m g v
@[go_sem]theorem q6t(U:Int)(a1:Int)(a2:Int)(m:List (Arr3_int64×V))(g:V->PV)(v:V):q60 prog 200 (.agg [.int .i64 U,.int .i64 a1,.int .i64 a2]) (.p (g v)) (qhj qaj m) ((qh8 g m).map AV.p)=some (qhj qaj (qnx m (Arr3_int64.mk U a1 a2) v),(qh8 g (qnx m (Arr3_int64.mk U a1 a2) v)).map AV.p):=qt2 (Arr3_int64.mk U a1 a2) m g v
@[go_sem]theorem vn6(P:Program)(kt:TypeId)(q:IntKind)(k:Int)(m:List (Int×Value))(U:Int)(a1:Int)(a2:List UInt8):q60 P kt (.int q k) (.p (.agg [.int .i64 U,.int .i64 a1,.str a2])) (qhj (ucp q) m) ((qh8 qa2 m).map AV.p)=some (qhj (ucp q) (qnx m k (Value.mk U a1 a2)),(qh8 qa2 (qnx m k (Value.mk U a1 a2))).map AV.p):=vpa P kt q k m qa2 (Value.mk U a1 a2)
theorem zdl2(n:Nat){tb:TabOk prog (fun b=>X b\/F inj0 (qav H0) b) U}(h:DGo ⟨prog,N,B,X,H0,inj0,U,D,tb⟩ l.toArray (l.take n) st [] (DKL ⟨prog,N,B,X,H0,inj0,U,D,tb⟩ l.toArray (l.drop n) Q))(hs:qkh l.toArray=true:=by kernel_rfl)(hl:q47 l.toArray n=true:=by kernel_rfl):AWp ⟨prog,N,B,X,H0,inj0,U,D,tb⟩ (.region id l.toArray true) Q st:=q1b n mixed hs hl h
theorem qmx(U:Int)(r2:Value)(h:qc5 U=some r2):Con D prog 36 [(.int .u8 U)] (qa2 r2):=by
 refine zP call36 func36 rfl ntmps36 fun X w hT=>?_;simp only[qc5]at h;refine Mm ?_;refine Md ?_;refine Tq ?_;refine Mc ?_;obtain⟨_,h⟩|⟨_,h⟩:=zI h;refine Mb ?_;exact T6 h results36;refine T8 ?_;refine Mc ?_;obtain⟨_,h⟩|⟨_,h⟩:=zI h;refine Mb ?_;exact T6 h results36;refine T8 ?_;refine Mc ?_;obtain⟨_,h⟩|⟨_,h⟩:=zI h;refine Mb ?_;exact T6 h results36;refine T8 ?_;refine Mc ?_;obtain⟨_,h⟩|⟨_,h⟩:=zI h;refine Mb ?_;exact T6 h results36;refine T8 ?_;refine Mc ?_;obtain⟨_,h⟩|⟨_,h⟩:=zI h;refine Mb ?_;exact T6 h results36;refine T8 ?_;refine Mc ?_;obtain⟨_,h⟩|⟨_,h⟩:=zI h;refine Mb ?_;exact T6 h results36;refine T8 ?_;refine Mc ?_;obtain⟨_,h⟩|⟨_,h⟩:=zI h;refine Mb ?_;exact T6 h results36;refine T8 ?_;refine Mc ?_;obtain⟨_,h⟩|⟨_,h⟩:=zI h;refine Mb ?_;exact T6 h results36;refine T8 ?_;refine Mc ?_;obtain⟨_,h⟩|⟨_,h⟩:=zI h;refine Mb ?_;exact T6 h results36;refine T8 ?_;refine Mc ?_;obtain⟨_,h⟩|⟨_,h⟩:=zI h;refine Mb ?_;exact T6 h results36;refine T8 ?_;refine Mc ?_;obtain⟨_,h⟩|⟨_,h⟩:=zI h;refine Mb ?_;exact T6 h results36;refine Tb ?_;exact M2 h results36
noncomputable abbrev AA:=fun z=>((1,.p (.int .i64 z)):Nat×AV)
noncomputable abbrev AB:=((2,.loc 2 1 0 0):Nat×AV)
noncomputable abbrev AC:=((4,.loc 4 1 0 0):Nat×AV)
noncomputable abbrev AD:=fun z=>((2,.arr 24 3 1 [.p (qbf z)]):Nat×AO)
noncomputable abbrev AE:=((4,.arr 31 3 1 [.agg [.p (.str []),.nils,.nils]]):Nat×AO)
noncomputable abbrev AF:=((5,.loc 5 1 0 0):Nat×AV)
noncomputable abbrev AG:=fun z=>((6,.p (.int .i64 z)):Nat×AV)
noncomputable abbrev AH:=fun z y=>((5,.arr 31 3 1 [.agg [.p (.str [114]),.own 10 1 0 z,.own 64 1 0 y]]):Nat×AO)
noncomputable abbrev AI:=fun z=>((10,.arr 9 1 1 (v8t AV.p (v8t ucq z))):Nat×AO)
noncomputable abbrev AJ:=fun z=>((64,.arr 65 2 1 (v8t AV.p (v8t qaq z))):Nat×AO)
noncomputable abbrev AK:=fun z=>((8,.p (.int .i64 z)):Nat×AV)
noncomputable abbrev AM:=fun z y x=>((7,.arr 65 2 1 [.agg [.p (.int .i64 (v96.wrap (1+(v96.wrap (z*(v96.wrap (1+(v96.wrap (v92 y 3))))))))),.own 58 1 0 x]]):Nat×AO)
theorem qvv(x1:Drossref03_Recipe)(U:Int)(r3:Table)(h:qjf x1 U=some r3):Con D prog 12 [(qbf x1),(.int .i64 U)] (qab r3):=by
 refine zP call12 func12 rfl ntmps12 fun X w hT=>?_;simp only[qjf]at h;refine Mm ?_;refine M4 ?_;obtain⟨h4,h⟩:=qac h;obtain⟨h5,h⟩:=qac h;refine zW 4 ?_;obtain⟨l6,h7,h⟩:=zB h;replace h7:=Option.some.inj h7;refine vow (st':=⟨[AA U,AB,AC,(10,.own 10 1 0 0),(13,.own 11 1 0 U.toNat)],[AD x1,AE,(10,.arr 9 1 1 []),(11,.arr 9 1 1 (v8t AV.p (v8t ucq l6)))]⟩) (by simp only[go_sem,seval,<-h7];all_goals((repeat' refine uco ?_ ?_)<;>first|rfl|(simp;done)|(simp;rfl)|(simp[*];done)|(simp[*];rfl))) ?_
 have au:l6.length=8:=by rw[<-h7];rfl
 clear h7;obtain⟨h8,h⟩:=qac h;refine M5 ?_;obtain⟨_,aj,h⟩:=zB h;refine zo aj (fun s=>⟨[AA U,AB,AC,AF,AG s.2],[AD x1,AE,AH ((l6.take U.toNat)).length s.1.length,AI (l6.take U.toNat),AJ s.1]⟩) (fun ak=>tX 0 ⟨[AC,AF],[AE,AH ((l6.take U.toNat)).length ak.length,AI (l6.take U.toNat),AJ ak]⟩) ?_ ?_;clear h h4 h5 au h8 aj;intro s x h;obtain⟨ae,ag⟩:=s;simp only[qgr]at h;refine Mw ?_;refine Mc ?_;obtain⟨al,h⟩|⟨al,h⟩:=zI h;refine M9 ?_;refine M5 ?_;obtain⟨aw,am,h⟩:=zB h;refine zo am (fun s=>⟨[AA U,AB,AC,AF,AG ag,(7,.loc 7 1 0 0),AK s.2],[AD x1,AE,AH ((l6.take U.toNat)).length ae.length,AM ag x1.Gap s.1.length,AI (l6.take U.toNat),(58,.arr 123 3 1 (v8t AV.p (v8t qa2 s.1))),AJ ae]⟩) (fun ap=>tX 2 ⟨[AA U,AB,AC,AF,AG ag,(7,.loc 7 1 0 0)],[AD x1,AE,AH ((l6.take U.toNat)).length ae.length,AM ag x1.Gap ap.length,AI (l6.take U.toNat),(58,.arr 123 3 1 (v8t AV.p (v8t qa2 ap))),AJ ae]⟩) ?_ ?_;clear h al am;intro s x h;obtain⟨_,_⟩:=s;simp only[qgq]at h;refine Mw ?_;refine Mc ?_;obtain⟨_,h⟩|⟨_,h⟩:=zI h;refine M9 ?_;refine Md ?_;obtain⟨_,_,_,_,h⟩:=zX h;refine Mc ?_;obtain⟨_,h⟩|⟨_,h⟩:=zI h;refine Tj ?_;obtain⟨ax,_,_,_,h⟩:=zX h;refine Ti ?_;obtain⟨_,ay,h⟩:=zB h;refine yc (qmx ax _ ay) ?_;obtain⟨_,h⟩:=qac h;refine Mz ?_;exact M0 h;refine zj<|zk<|zn<|zd ?_;refine yU ?_;obtain⟨_,az,h⟩:=zB h;refine yc (qmx 0 _ az) ?_;obtain⟨_,h⟩:=qac h;refine Mz ?_;exact M0 h;exact M1 h;try simp only at h
 refine Tk ?_;refine zW 4 ?_;refine zM ⟨[AA U,AB,AC,AF,AG ag,(61,.own 64 1 0 ae.length),(63,.own 63 1 0 1)],[AD x1,AE,AH ((l6.take U.toNat)).length ae.length,AI (l6.take U.toNat),(63,.arr 65 2 1 [.p (.agg [.int .i64 (v96.wrap (1+(v96.wrap (ag*(v96.wrap (1+(v96.wrap (v92 x1.Gap 3)))))))),.slc (v8t qa2 aw)])]),AJ ae]⟩ ?_;obtain⟨_,h⟩:=qac h;refine Mk ?_;exact M0 h;exact M1 h;try simp only at h
 refine Me ?_;exact M2 h results12
noncomputable abbrev AN:=fun z=>((4,.p (.int .i64 z)):Nat×AV)
theorem qvw(U:Int)(r2:Int)(h:qjg U=some r2):Con D prog 37 [(.int .i64 U)] (.int .u32 r2):=by
 refine zP call37 func37 rfl ntmps37 fun X w hT=>?_;simp only[qjg]at h;refine Mm ?_;refine M4 ?_;refine M5 ?_;obtain⟨_,h4,h⟩:=zB h;refine zo h4 (fun s=>⟨[(0,.p (.int .i64 U)),(3,.p (.int .u32 s.1)),AN s.2],[]⟩) (fun o5=>tX 0 ⟨[(3,.p (.int .u32 o5))],[]⟩) ?_ ?_;clear h h4;intro s x h;obtain⟨_,_⟩:=s;simp only[qgs]at h;refine Mw ?_;refine zU ?_;obtain⟨_,h⟩|⟨_,h⟩:=zI h;refine zw 8 true ?_;refine Mn ?_;refine Mc ?_;obtain⟨_,h⟩|⟨_,h⟩:=zI h;refine Tc ?_;obtain⟨_,h⟩:=qhe h;refine Mk ?_;exact M0 h;exact M1 h;refine zw 8 false ?_;refine zh ?_;refine Mc ?_;exact M1 h;try simp only at h
 refine Me ?_;exact M2 h results37
noncomputable abbrev AP:=fun z=>((7,.p (.int .i64 z)):Nat×AV)
theorem qvx(U:Int)(l2:List Drossref09_Dep)(r3:List FD)(h:qjh U l2=some r3):Con D prog 13 [(.int .i64 U),(.slc (v8t qbi l2))] (.slc (v8t qa7 r3)):=by
 refine zP call13 func13 rfl ntmps13 fun X w hT=>?_;simp only[qjh]at h;refine Mm ?_;refine M4 ?_;refine zU ?_;obtain⟨r4,h5,h⟩:=zB h;refine zc (qvw U _ h5) ?_;refine M4 ?_;refine M5 ?_;obtain⟨_,h7,h⟩:=zB h;refine zo h7 (fun s=>⟨[(1,.p (.slc (v8t qbi l2))),(5,.p (.int .u32 r4)),(6,.own 35 1 0 s.1.length),AP s.2],[(35,.arr 69 2 1 (v8t AV.p (v8t qa7 s.1)))]⟩) (fun o8=>tX 0 ⟨[(6,.own 35 1 0 o8.length)],[(35,.arr 69 2 1 (v8t AV.p (v8t qa7 o8)))]⟩) ?_ ?_;clear h h5 h7;intro s x h;obtain⟨_,_⟩:=s;simp only[qgt]at h;refine Mw ?_;refine Mc ?_;obtain⟨_,h⟩|⟨_,h⟩:=zI h;refine zi<|zk<|zn<|zs<|zb<|zd ?_;obtain⟨_,_,_,_,h⟩:=zX h;obtain⟨_,h⟩:=qac h;refine Mz ?_;exact M0 h;exact M1 h;try simp only at h
 refine Me ?_;exact M2 h results13
theorem qyg(U:Drossref45_Case)(r2:Table×List FD×Bool)(h:qj3 U=some r2):Con D prog 4 [(qcy U)] (.tup [(qab r2.1),(.slc (v8t qa7 r2.2.1)),(.bool r2.2.2)]):=by
 refine zP call4 func4 rfl ntmps4 fun X w hT=>?_;simp only[qj3]at h;refine Mm ?_;refine M4 ?_;refine Md ?_;refine zU ?_;obtain⟨_,h⟩|⟨_,h⟩:=zI h;refine zw 16 true ?_;refine Mh ?_;refine Mc ?_;exact M6 h results4;refine zw 16 false ?_;refine M7 ?_;refine M7 ?_;refine T7 ?_;obtain⟨_,h⟩|⟨_,h⟩:=zI h;refine zw 25 true ?_;refine zh ?_;refine Mc ?_;exact M6 h results4;refine zw 25 false ?_;refine M7 ?_;refine zg ?_;refine Mc ?_;obtain⟨_,h⟩|⟨_,h⟩:=zI h;exact M6 h results4;refine Tg ?_;refine yU ?_;obtain⟨_,h7,h⟩:=zB h;refine yc (qvv U.T (v96.wrap (v92 U.T.Attrs 4)) _ h7) ?_;refine yU ?_;obtain⟨_,h9,h⟩:=zB h;refine yc (qvx (v96.wrap (v92 U.T.Attrs 4)) U.F _ h9) ?_;exact Mp h results4
end Go.Proofs.YtijpapagpebllaaGreatDoor
namespace Go.Proofs
open Go Go.Ab Go.Shelf Tryz Go.Proofs.YtijpapagpebllaaGreatDoor
variable {D:Prop}
def Yq.sort25_ren:Go.Shelf.Ren:=⟨fun|6=>25|15=>61|14=>60|28=>120|29=>121|20=>112|21=>113|22=>114|23=>115|24=>116|25=>117|26=>118|27=>119|46=>187|47=>188|48=>189|49=>190|50=>191|57=>243|n=>n,fun|22=>37|24=>36|25=>109|3=>3|39=>171|0=>0|53=>66|55=>241|4=>4|46=>234|45=>233|50=>115|5=>5|9=>9|66=>308|70=>312|76=>350|77=>351|n=>n,fun|n=>n⟩
theorem Yq.sort25:Go.Proofs.SlLaysF.n6 prog Yq.sort25_ren:={
  mixed:=by kernel_rfl
  f6:=⟨f25.name,by decide,TK func25⟩
  f14:=⟨f60.name,by decide,TK func60⟩
  f15:=TK func61
  f20:=⟨f112.name,by decide,TK func112⟩
  f21:=⟨f113.name,by decide,TK func113⟩
  f22:=⟨f114.name,by decide,TK func114⟩
  f23:=⟨f115.name,by decide,TK func115⟩
  f24:=⟨f116.name,by decide,TK func116⟩
  f25:=⟨f117.name,by decide,TK func117⟩
  f26:=⟨f118.name,by decide,TK func118⟩
  f27:=⟨f119.name,by decide,TK func119⟩
  f28:=TK func120
  f29:=TK func121
  f46:=⟨f187.name,by decide,TK func187⟩
  f47:=TK func188
  f48:=TK func189
  f49:=⟨f190.name,by decide,TK func190⟩
  f50:=⟨f191.name,by decide,TK func191⟩
  f57:=⟨f243.name,by decide,TK func243⟩
  t0:=underlying0
  a0:=isAgg0
  z0:=sizeOf0
  v0:=zeroValue0
  t3:=underlying3
  a3:=isAgg3
  z3:=sizeOf3
  v3:=zeroValue3
  t4:=underlying4
  a4:=isAgg4
  z4:=sizeOf4
  v4:=zeroValue4
  t5:=underlying5
  a5:=isAgg5
  z5:=sizeOf5
  v5:=zeroValue5
  t9:=underlying9
  a9:=isAgg9
  z9:=sizeOf9
  v9:=zeroValue9
  t22:=underlying37
  a22:=isAgg37
  z22:=sizeOf37
  v22:=zeroValue37
  a24:=isAgg36
  z24:=sizeOf36
  t25:=underlying109
  a25:=isAgg109
  z25:=sizeOf109
  v25:=zeroValue109
  t39:=underlying171
  a39:=isAgg171
  z39:=sizeOf171
  v39:=zeroValue171
  t45:=underlying233
  a45:=isAgg233
  z45:=sizeOf233
  v45:=zeroValue233
  t46:=underlying234
  a46:=isAgg234
  z46:=sizeOf234
  v46:=zeroValue234
  t50:=underlying115
  a50:=isAgg115
  z50:=sizeOf115
  v50:=zeroValue115
  t53:=underlying66
  a53:=isAgg66
  z53:=sizeOf66
  v53:=zeroValue66
  t55:=underlying241
  a55:=isAgg241
  z55:=sizeOf241
  v55:=zeroValue241
  t66:=underlying308
  a66:=isAgg308
  z66:=sizeOf308
  v66:=zeroValue308
  t70:=underlying312
  a70:=isAgg312
  z70:=sizeOf312
  v70:=zeroValue312
  t76:=underlying350
  a76:=isAgg350
  z76:=sizeOf350
  v76:=zeroValue350
  t77:=underlying351
  a77:=isAgg351
  z77:=sizeOf351
  v77:=zeroValue351 }
def Yq.sort47_ren:Go.Shelf.Ren:=⟨fun|6=>47|15=>61|14=>98|28=>120|29=>121|20=>170|21=>171|22=>172|23=>173|24=>174|25=>175|26=>176|27=>177|46=>227|47=>188|48=>189|49=>228|50=>229|57=>267|n=>n,fun|22=>36|24=>100|25=>117|3=>3|39=>171|0=>0|53=>66|55=>241|4=>4|46=>234|45=>233|50=>115|5=>5|9=>9|66=>308|70=>312|76=>350|77=>351|n=>n,fun|n=>n⟩
theorem Yq.sort47:Go.Proofs.SlLaysF0.n6 prog Yq.sort47_ren:={
  mixed:=by kernel_rfl
  f6:=⟨f47.name,by decide,TK func47⟩
  f14:=⟨f98.name,by decide,TK func98⟩
  f15:=TK func61
  f20:=⟨f170.name,by decide,TK func170⟩
  f21:=⟨f171.name,by decide,TK func171⟩
  f22:=⟨f172.name,by decide,TK func172⟩
  f23:=⟨f173.name,by decide,TK func173⟩
  f24:=⟨f174.name,by decide,TK func174⟩
  f25:=⟨f175.name,by decide,TK func175⟩
  f26:=⟨f176.name,by decide,TK func176⟩
  f27:=⟨f177.name,by decide,TK func177⟩
  f28:=TK func120
  f29:=TK func121
  f46:=⟨f227.name,by decide,TK func227⟩
  f47:=TK func188
  f48:=TK func189
  f49:=⟨f228.name,by decide,TK func228⟩
  f50:=⟨f229.name,by decide,TK func229⟩
  f57:=⟨f267.name,by decide,TK func267⟩
  t0:=underlying0
  a0:=isAgg0
  z0:=sizeOf0
  v0:=zeroValue0
  t3:=underlying3
  a3:=isAgg3
  z3:=sizeOf3
  v3:=zeroValue3
  t4:=underlying4
  a4:=isAgg4
  z4:=sizeOf4
  v4:=zeroValue4
  t5:=underlying5
  a5:=isAgg5
  z5:=sizeOf5
  v5:=zeroValue5
  t9:=underlying9
  a9:=isAgg9
  z9:=sizeOf9
  v9:=zeroValue9
  t22:=underlying36
  a22:=isAgg36
  z22:=sizeOf36
  v22:=zeroValue36
  t25:=underlying117
  a25:=isAgg117
  z25:=sizeOf117
  v25:=zeroValue117
  t39:=underlying171
  a39:=isAgg171
  z39:=sizeOf171
  v39:=zeroValue171
  t45:=underlying233
  a45:=isAgg233
  z45:=sizeOf233
  v45:=zeroValue233
  t46:=underlying234
  a46:=isAgg234
  z46:=sizeOf234
  v46:=zeroValue234
  t50:=underlying115
  a50:=isAgg115
  z50:=sizeOf115
  v50:=zeroValue115
  t53:=underlying66
  a53:=isAgg66
  z53:=sizeOf66
  v53:=zeroValue66
  t55:=underlying241
  a55:=isAgg241
  z55:=sizeOf241
  v55:=zeroValue241
  t66:=underlying308
  a66:=isAgg308
  z66:=sizeOf308
  v66:=zeroValue308
  t70:=underlying312
  a70:=isAgg312
  z70:=sizeOf312
  v70:=zeroValue312
  t76:=underlying350
  a76:=isAgg350
  z76:=sizeOf350
  v76:=zeroValue350
  t77:=underlying351
  a77:=isAgg351
  z77:=sizeOf351
  v77:=zeroValue351 }
def Yq.sort88_ren:Go.Shelf.Ren:=⟨fun|6=>88|15=>61|14=>162|28=>120|29=>121|20=>215|21=>216|22=>217|23=>218|24=>219|25=>220|26=>221|27=>222|46=>262|47=>188|48=>189|49=>263|50=>264|57=>280|n=>n,fun|22=>84|24=>44|25=>205|3=>3|39=>171|0=>0|53=>66|55=>241|4=>4|46=>234|45=>233|50=>115|5=>5|9=>9|66=>308|70=>312|76=>350|77=>351|n=>n,fun|n=>n⟩
theorem Yq.sort88:Go.Proofs.SlLaysF.n6 prog Yq.sort88_ren:={
  mixed:=by kernel_rfl
  f6:=⟨f88.name,by decide,TK func88⟩
  f14:=⟨f162.name,by decide,TK func162⟩
  f15:=TK func61
  f20:=⟨f215.name,by decide,TK func215⟩
  f21:=⟨f216.name,by decide,TK func216⟩
  f22:=⟨f217.name,by decide,TK func217⟩
  f23:=⟨f218.name,by decide,TK func218⟩
  f24:=⟨f219.name,by decide,TK func219⟩
  f25:=⟨f220.name,by decide,TK func220⟩
  f26:=⟨f221.name,by decide,TK func221⟩
  f27:=⟨f222.name,by decide,TK func222⟩
  f28:=TK func120
  f29:=TK func121
  f46:=⟨f262.name,by decide,TK func262⟩
  f47:=TK func188
  f48:=TK func189
  f49:=⟨f263.name,by decide,TK func263⟩
  f50:=⟨f264.name,by decide,TK func264⟩
  f57:=⟨f280.name,by decide,TK func280⟩
  t0:=underlying0
  a0:=isAgg0
  z0:=sizeOf0
  v0:=zeroValue0
  t3:=underlying3
  a3:=isAgg3
  z3:=sizeOf3
  v3:=zeroValue3
  t4:=underlying4
  a4:=isAgg4
  z4:=sizeOf4
  v4:=zeroValue4
  t5:=underlying5
  a5:=isAgg5
  z5:=sizeOf5
  v5:=zeroValue5
  t9:=underlying9
  a9:=isAgg9
  z9:=sizeOf9
  v9:=zeroValue9
  t22:=underlying84
  a22:=isAgg84
  z22:=sizeOf84
  v22:=zeroValue84
  a24:=isAgg44
  z24:=sizeOf44
  t25:=underlying205
  a25:=isAgg205
  z25:=sizeOf205
  v25:=zeroValue205
  t39:=underlying171
  a39:=isAgg171
  z39:=sizeOf171
  v39:=zeroValue171
  t45:=underlying233
  a45:=isAgg233
  z45:=sizeOf233
  v45:=zeroValue233
  t46:=underlying234
  a46:=isAgg234
  z46:=sizeOf234
  v46:=zeroValue234
  t50:=underlying115
  a50:=isAgg115
  z50:=sizeOf115
  v50:=zeroValue115
  t53:=underlying66
  a53:=isAgg66
  z53:=sizeOf66
  v53:=zeroValue66
  t55:=underlying241
  a55:=isAgg241
  z55:=sizeOf241
  v55:=zeroValue241
  t66:=underlying308
  a66:=isAgg308
  z66:=sizeOf308
  v66:=zeroValue308
  t70:=underlying312
  a70:=isAgg312
  z70:=sizeOf312
  v70:=zeroValue312
  t76:=underlying350
  a76:=isAgg350
  z76:=sizeOf350
  v76:=zeroValue350
  t77:=underlying351
  a77:=isAgg351
  z77:=sizeOf351
  v77:=zeroValue351 }
def Yq.sort103_ren:Go.Shelf.Ren:=⟨fun|5=>103|8=>61|7=>180|19=>120|20=>121|10=>232|11=>233|12=>234|13=>235|14=>236|15=>237|16=>238|17=>239|18=>240|30=>269|31=>188|32=>189|33=>270|34=>271|35=>130|40=>282|n=>n,fun|23=>71|25=>3|3=>3|32=>171|22=>71|0=>0|44=>66|46=>241|4=>4|36=>234|35=>233|41=>115|5=>5|9=>9|53=>308|57=>312|63=>350|64=>351|n=>n,fun|n=>n⟩
theorem Yq.sort103:Go.Proofs.SlLaysM.n5 prog Yq.sort103_ren:={
  mixed:=by kernel_rfl
  f5:=⟨f103.name,by decide,TK func103⟩
  f7:=⟨f180.name,by decide,TK func180⟩
  f8:=TK func61
  f10:=⟨f232.name,by decide,TK func232⟩
  f11:=⟨f233.name,by decide,TK func233⟩
  f12:=⟨f234.name,by decide,TK func234⟩
  f13:=⟨f235.name,by decide,TK func235⟩
  f14:=⟨f236.name,by decide,TK func236⟩
  f15:=⟨f237.name,by decide,TK func237⟩
  f16:=⟨f238.name,by decide,TK func238⟩
  f17:=⟨f239.name,by decide,TK func239⟩
  f18:=⟨f240.name,by decide,TK func240⟩
  f19:=TK func120
  f20:=TK func121
  f30:=⟨f269.name,by decide,TK func269⟩
  f31:=TK func188
  f32:=TK func189
  f33:=⟨f270.name,by decide,TK func270⟩
  f34:=⟨f271.name,by decide,TK func271⟩
  f35:=⟨f130.name,by decide,TK func130⟩
  f40:=⟨f282.name,by decide,TK func282⟩
  t0:=underlying0
  a0:=isAgg0
  z0:=sizeOf0
  v0:=zeroValue0
  t3:=underlying3
  a3:=isAgg3
  z3:=sizeOf3
  v3:=zeroValue3
  t4:=underlying4
  a4:=isAgg4
  z4:=sizeOf4
  v4:=zeroValue4
  t5:=underlying5
  a5:=isAgg5
  z5:=sizeOf5
  v5:=zeroValue5
  t9:=underlying9
  a9:=isAgg9
  z9:=sizeOf9
  v9:=zeroValue9
  t22:=underlying71
  a22:=isAgg71
  z22:=sizeOf71
  v22:=zeroValue71
  t23:=underlying71
  a23:=isAgg71
  z23:=sizeOf71
  v23:=zeroValue71
  t25:=underlying3
  a25:=isAgg3
  z25:=sizeOf3
  v25:=zeroValue3
  t32:=underlying171
  a32:=isAgg171
  z32:=sizeOf171
  v32:=zeroValue171
  t35:=underlying233
  a35:=isAgg233
  z35:=sizeOf233
  v35:=zeroValue233
  t36:=underlying234
  a36:=isAgg234
  z36:=sizeOf234
  v36:=zeroValue234
  t41:=underlying115
  a41:=isAgg115
  z41:=sizeOf115
  v41:=zeroValue115
  t44:=underlying66
  a44:=isAgg66
  z44:=sizeOf66
  v44:=zeroValue66
  t46:=underlying241
  a46:=isAgg241
  z46:=sizeOf241
  v46:=zeroValue241
  t53:=underlying308
  a53:=isAgg308
  z53:=sizeOf308
  v53:=zeroValue308
  t57:=underlying312
  a57:=isAgg312
  z57:=sizeOf312
  v57:=zeroValue312
  t63:=underlying350
  a63:=isAgg350
  z63:=sizeOf350
  v63:=zeroValue350
  t64:=underlying351
  a64:=isAgg351
  z64:=sizeOf351
  v64:=zeroValue351 }
def Yq.sort160_ren:Go.Shelf.Ren:=⟨fun|5=>160|8=>61|7=>214|19=>120|20=>121|10=>254|11=>255|12=>256|13=>257|14=>258|15=>259|16=>122|17=>260|18=>261|30=>277|31=>188|32=>189|33=>278|34=>279|35=>129|40=>287|n=>n,fun|23=>44|25=>2|3=>3|32=>171|22=>44|0=>0|44=>66|46=>241|4=>4|36=>234|35=>233|41=>115|5=>5|9=>9|53=>308|57=>312|63=>350|64=>351|n=>n,fun|n=>n⟩
theorem Yq.sort160:Go.Proofs.SlLaysM.n5 prog Yq.sort160_ren:={
  mixed:=by kernel_rfl
  f5:=⟨f160.name,by decide,TK func160⟩
  f7:=⟨f214.name,by decide,TK func214⟩
  f8:=TK func61
  f10:=⟨f254.name,by decide,TK func254⟩
  f11:=⟨f255.name,by decide,TK func255⟩
  f12:=⟨f256.name,by decide,TK func256⟩
  f13:=⟨f257.name,by decide,TK func257⟩
  f14:=⟨f258.name,by decide,TK func258⟩
  f15:=⟨f259.name,by decide,TK func259⟩
  f16:=⟨f122.name,by decide,TK func122⟩
  f17:=⟨f260.name,by decide,TK func260⟩
  f18:=⟨f261.name,by decide,TK func261⟩
  f19:=TK func120
  f20:=TK func121
  f30:=⟨f277.name,by decide,TK func277⟩
  f31:=TK func188
  f32:=TK func189
  f33:=⟨f278.name,by decide,TK func278⟩
  f34:=⟨f279.name,by decide,TK func279⟩
  f35:=⟨f129.name,by decide,TK func129⟩
  f40:=⟨f287.name,by decide,TK func287⟩
  t0:=underlying0
  a0:=isAgg0
  z0:=sizeOf0
  v0:=zeroValue0
  t3:=underlying3
  a3:=isAgg3
  z3:=sizeOf3
  v3:=zeroValue3
  t4:=underlying4
  a4:=isAgg4
  z4:=sizeOf4
  v4:=zeroValue4
  t5:=underlying5
  a5:=isAgg5
  z5:=sizeOf5
  v5:=zeroValue5
  t9:=underlying9
  a9:=isAgg9
  z9:=sizeOf9
  v9:=zeroValue9
  t22:=underlying44
  a22:=isAgg44
  z22:=sizeOf44
  v22:=zeroValue44
  t23:=underlying44
  a23:=isAgg44
  z23:=sizeOf44
  v23:=zeroValue44
  t25:=underlying2
  a25:=isAgg2
  z25:=sizeOf2
  v25:=zeroValue2
  t32:=underlying171
  a32:=isAgg171
  z32:=sizeOf171
  v32:=zeroValue171
  t35:=underlying233
  a35:=isAgg233
  z35:=sizeOf233
  v35:=zeroValue233
  t36:=underlying234
  a36:=isAgg234
  z36:=sizeOf234
  v36:=zeroValue234
  t41:=underlying115
  a41:=isAgg115
  z41:=sizeOf115
  v41:=zeroValue115
  t44:=underlying66
  a44:=isAgg66
  z44:=sizeOf66
  v44:=zeroValue66
  t46:=underlying241
  a46:=isAgg241
  z46:=sizeOf241
  v46:=zeroValue241
  t53:=underlying308
  a53:=isAgg308
  z53:=sizeOf308
  v53:=zeroValue308
  t57:=underlying312
  a57:=isAgg312
  z57:=sizeOf312
  v57:=zeroValue312
  t63:=underlying350
  a63:=isAgg350
  z63:=sizeOf350
  v63:=zeroValue350
  t64:=underlying351
  a64:=isAgg351
  z64:=sizeOf351
  v64:=zeroValue351 }
theorem Yq.srt25:Srt1 prog 25:=⟨call25,fun enc U cf hO g cb blk off cap d w eg hc hH hb hs=>Any.slices_SortFunc_eq Yq.sort25 enc U cf hO g cb blk off cap d w eg hc hH hb hs,fun p cap fv w=>AnyF.slices_SortFunc_none { Yq.sort25 with } p cap fv w⟩
theorem Yq.srt47:SrtQ prog 47 2:=⟨call47,fun enc hk U cf hO g cb blk off cap d w eg hc hH hb hs=>AnyQ.slices_SortFunc_eq Yq.sort47 2 isAgg100 sizeOf100 enc hk U cf hO g cb blk off cap d w eg hc hH hb hs,fun p cap fv w=>AnyF.slices_SortFunc_none Yq.sort47 p cap fv w⟩
theorem Yq.srt88:Srt1 prog 88:=⟨call88,fun enc U cf hO g cb blk off cap d w eg hc hH hb hs=>Any.slices_SortFunc_eq Yq.sort88 enc U cf hO g cb blk off cap d w eg hc hH hb hs,fun p cap fv w=>AnyF.slices_SortFunc_none { Yq.sort88 with } p cap fv w⟩
theorem Yq.srt103:SrtI prog 103:=⟨call103,fun blk off cap zs w hH hb hs=>AnyM.slices_Sort_int Yq.sort103 blk off cap zs w hH hb hs,fun p cap w=>AnyM.slices_Sort_int_none Yq.sort103 p cap w⟩
theorem Yq.srt160:SrtI prog 160:=⟨call160,fun blk off cap zs w hH hb hs=>AnyM.slices_Sort_int Yq.sort160 blk off cap zs w hH hb hs,fun p cap w=>AnyM.slices_Sort_int_none Yq.sort160 p cap w⟩
def Yq.grow97_ren:Go.Shelf.Ren:=⟨fun|4=>97|n=>n,fun|0=>0|3=>3|4=>4|9=>9|20=>20|22=>36|25=>100|n=>n,fun|n=>n⟩
theorem Yq.grow97:Go.Proofs.Lays8.n4 prog Yq.grow97_ren:={
  mixed:=by kernel_rfl
  f4:=⟨f97.name,by decide,TK func97⟩
  t0:=underlying0
  a0:=isAgg0
  z0:=sizeOf0
  v0:=zeroValue0
  t3:=underlying3
  a3:=isAgg3
  z3:=sizeOf3
  v3:=zeroValue3
  t4:=underlying4
  a4:=isAgg4
  z4:=sizeOf4
  v4:=zeroValue4
  t9:=underlying9
  a9:=isAgg9
  z9:=sizeOf9
  v9:=zeroValue9
  t20:=underlying20
  a20:=isAgg20
  z20:=sizeOf20
  v20:=zeroValue20
  t22:=underlying36
  a22:=isAgg36
  z22:=sizeOf36
  v22:=zeroValue36 }
def Yq.grow161_ren:Go.Shelf.Ren:=⟨fun|4=>161|n=>n,fun|0=>0|3=>3|4=>4|9=>9|20=>20|22=>44|25=>2|n=>n,fun|n=>n⟩
theorem Yq.grow161:Go.Proofs.Lays8.n4 prog Yq.grow161_ren:={
  mixed:=by kernel_rfl
  f4:=⟨f161.name,by decide,TK func161⟩
  t0:=underlying0
  a0:=isAgg0
  z0:=sizeOf0
  v0:=zeroValue0
  t3:=underlying3
  a3:=isAgg3
  z3:=sizeOf3
  v3:=zeroValue3
  t4:=underlying4
  a4:=isAgg4
  z4:=sizeOf4
  v4:=zeroValue4
  t9:=underlying9
  a9:=isAgg9
  z9:=sizeOf9
  v9:=zeroValue9
  t20:=underlying20
  a20:=isAgg20
  z20:=sizeOf20
  v20:=zeroValue20
  t22:=underlying44
  a22:=isAgg44
  z22:=sizeOf44
  v22:=zeroValue44 }
def Yq.grow186_ren:Go.Shelf.Ren:=⟨fun|4=>186|n=>n,fun|0=>0|3=>3|4=>4|9=>9|20=>20|22=>38|25=>230|n=>n,fun|n=>n⟩
theorem Yq.grow186:Go.Proofs.Lays8.n4 prog Yq.grow186_ren:={
  mixed:=by kernel_rfl
  f4:=⟨f186.name,by decide,TK func186⟩
  t0:=underlying0
  a0:=isAgg0
  z0:=sizeOf0
  v0:=zeroValue0
  t3:=underlying3
  a3:=isAgg3
  z3:=sizeOf3
  v3:=zeroValue3
  t4:=underlying4
  a4:=isAgg4
  z4:=sizeOf4
  v4:=zeroValue4
  t9:=underlying9
  a9:=isAgg9
  z9:=sizeOf9
  v9:=zeroValue9
  t20:=underlying20
  a20:=isAgg20
  z20:=sizeOf20
  v20:=zeroValue20
  t22:=underlying38
  a22:=isAgg38
  z22:=sizeOf38
  v22:=zeroValue38 }
theorem Yq.grw97:Grw prog 97 100 2:=⟨call97,fun n w U hn=>by
  obtain⟨m,rfl⟩:=ua1 U;have hi:prog.info? 100=some Tryz.t100:=by kernel_rfl
  obtain⟨z,hz,hzs⟩:∃z,Tryz.t100.zero=some z/\z.cells.size=2:=⟨_,rfl,rfl⟩;cases m with
  | zero =>
    refine(Any8.slices_Grow_room Yq.grow97 none 0 0 0 w (v7a _) (by omega) (by omega) (v7a _)).mono fun e' w' h=>?_
    obtain⟨rfl,rfl⟩:=h;exact⟨_,rfl,World.ownsRow_nil _ _ _ _,RowKit.Below.refl _ _,v7a _⟩
  | succ m =>
    have hby:Tryz.t100.bytes=16:=rfl;refine(Any8.slices_Grow_grow Yq.grow97 Tryz.t100 z hi hz (by decide) none 0 0 (m+1) [] w (v7a _) (by omega) (by rw[hby];omega) (by omega) (by simp) (fun _=>rfl) (fun a h=>by cases h)).mono fun e' w' h=>?_
    obtain⟨rfl,rfl⟩:=h;have hge:=grownCap_ge w (0+(m+1)) 0 100;refine⟨_,rfl,World.ownsRow_made w.drew _ _ (v7a _) (grownCap_le_maxLen w (0+(m+1)) 0 100 (by unfold maxLen;omega)) ?_,(RowKit.Below.refl _ w).drew.alloc (v7a _) _,v7b _⟩;simp only[v5g,size_zeroCells,hzs,v6v,v6e];generalize hG:grownCap w (0+(m+1)) 0 100=G at hge;show 0+(0+(m+1)-0)*2+(grownCap w (0+(m+1)) 0 100-(0+(m+1)))*2=grownCap w (0+(m+1)) 0 100*2;rw[hG];omega⟩
theorem Yq.grw161:Grw prog 161 2 1:=⟨call161,fun n w U hn=>by
  obtain⟨m,rfl⟩:=ua1 U;have hi:prog.info? 2=some Tryz.t2:=by kernel_rfl
  obtain⟨z,hz,hzs⟩:∃z,Tryz.t2.zero=some z/\z.cells.size=1:=⟨_,rfl,rfl⟩;cases m with
  | zero =>
    refine(Any8.slices_Grow_room Yq.grow161 none 0 0 0 w (v7a _) (by omega) (by omega) (v7a _)).mono fun e' w' h=>?_
    obtain⟨rfl,rfl⟩:=h;exact⟨_,rfl,World.ownsRow_nil _ _ _ _,RowKit.Below.refl _ _,v7a _⟩
  | succ m =>
    have hby:Tryz.t2.bytes=8:=rfl;refine(Any8.slices_Grow_grow Yq.grow161 Tryz.t2 z hi hz (by decide) none 0 0 (m+1) [] w (v7a _) (by omega) (by rw[hby];omega) (by omega) (by simp) (fun _=>rfl) (fun a h=>by cases h)).mono fun e' w' h=>?_
    obtain⟨rfl,rfl⟩:=h;have hge:=grownCap_ge w (0+(m+1)) 0 2;refine⟨_,rfl,World.ownsRow_made w.drew _ _ (v7a _) (grownCap_le_maxLen w (0+(m+1)) 0 2 (by unfold maxLen;omega)) ?_,(RowKit.Below.refl _ w).drew.alloc (v7a _) _,v7b _⟩;simp only[v5g,size_zeroCells,hzs,v6v,v6e];generalize hG:grownCap w (0+(m+1)) 0 2=G at hge;show 0+(0+(m+1)-0)*1+(grownCap w (0+(m+1)) 0 2-(0+(m+1)))*1=grownCap w (0+(m+1)) 0 2*1;rw[hG];omega⟩
theorem Yq.grw186:Grw prog 186 230 2:=⟨call186,fun n w U hn=>by
  obtain⟨m,rfl⟩:=ua1 U;have hi:prog.info? 230=some Tryz.t230:=by kernel_rfl
  obtain⟨z,hz,hzs⟩:∃z,Tryz.t230.zero=some z/\z.cells.size=2:=⟨_,rfl,rfl⟩;cases m with
  | zero =>
    refine(Any8.slices_Grow_room Yq.grow186 none 0 0 0 w (v7a _) (by omega) (by omega) (v7a _)).mono fun e' w' h=>?_
    obtain⟨rfl,rfl⟩:=h;exact⟨_,rfl,World.ownsRow_nil _ _ _ _,RowKit.Below.refl _ _,v7a _⟩
  | succ m =>
    have hby:Tryz.t230.bytes=32:=rfl;refine(Any8.slices_Grow_grow Yq.grow186 Tryz.t230 z hi hz (by decide) none 0 0 (m+1) [] w (v7a _) (by omega) (by rw[hby];omega) (by omega) (by simp) (fun _=>rfl) (fun a h=>by cases h)).mono fun e' w' h=>?_
    obtain⟨rfl,rfl⟩:=h;have hge:=grownCap_ge w (0+(m+1)) 0 230;refine⟨_,rfl,World.ownsRow_made w.drew _ _ (v7a _) (grownCap_le_maxLen w (0+(m+1)) 0 230 (by unfold maxLen;omega)) ?_,(RowKit.Below.refl _ w).drew.alloc (v7a _) _,v7b _⟩;simp only[v5g,size_zeroCells,hzs,v6v,v6e];generalize hG:grownCap w (0+(m+1)) 0 230=G at hge;show 0+(0+(m+1)-0)*2+(grownCap w (0+(m+1)) 0 230-(0+(m+1)))*2=grownCap w (0+(m+1)) 0 230*2;rw[hG];omega⟩
end Go.Proofs
namespace Go.Proofs.YtijpapagpebllaaGreatDoor
open Go Go.Ab Tryz
variable {D:Prop}
noncomputable abbrev AQ:=fun z=>((18,.p (.int .i64 (z:Int))):Nat×AV)
noncomputable abbrev AS:=fun z=>((19,.p (.int .i64 z)):Nat×AV)
noncomputable abbrev AT:=fun z=>((3,.p (.int .i64 z)):Nat×AV)
theorem qsq(U:List UInt8)(r2:Bool)(h:qk9 U=some r2):Con D prog 65 [(.str U)] (.bool r2):=by
 refine zP call65 func65 rfl ntmps65 fun X w hT=>?_;simp only[qk9]at h;refine Mm ?_;refine Md ?_;refine zU ?_;obtain⟨h3,h⟩|⟨h3,h⟩:=zI h;refine zw 8 true ?_;refine Mh ?_;refine Mc ?_;exact M6 h results65;refine zw 8 false ?_;refine M7 ?_;refine zU ?_;obtain⟨h4,h⟩|⟨h4,h⟩:=zI h;refine zw 13 true ?_;refine zh ?_;refine Mc ?_;exact M6 h results65;refine zw 13 false ?_;refine Mn ?_;refine Mc ?_;obtain⟨h5,h⟩|⟨h5,h⟩:=zI h;exact M6 h results65;refine Mj ?_;refine Mo ?_;obtain⟨o6,h7,h⟩:=zB h;refine zo h7 (fun s=>⟨[(0,.p (.str U)),AQ U.length,AS s],[]⟩) (fun o=>match o with|.inl o8=>tX 0 ⟨[],[]⟩|.inr o9=>tY prog Tryz.f65 (.bool o9)) ?_ ?_;clear h h3 h4 h5 h7;intro ai x h;simp only[qhk]at h;refine M8 ?_;obtain⟨_,h⟩|⟨_,h⟩:=zI h;refine M9 ?_;refine M4 ?_;obtain⟨am,_,_,_,h⟩:=zX h;refine Mc ?_;obtain⟨ap,aj,h⟩:=zB h;refine zJ (fun(aq:Bool)=>tE (cX Tryz.f65 X w D hT) .normal ⟨[(0,.p (.str U)),AT ai,(4,.p (.int .u8 ((am.toNat:Nat):Int))),(5,.p (.bool aq)),AQ U.length,AS ai],[]⟩) ap ?_ ?_;replace h:=aj;clear aj;refine Tn ?_;obtain⟨_,h⟩|⟨_,h⟩:=zI h;refine zw 27 true ?_;refine Mn ?_;refine zU ?_;obtain⟨_,h⟩|⟨_,h⟩:=zI h;refine zw 31 true ?_;refine Mh ?_;exact M0 h;refine zw 31 false ?_;refine M7 ?_;obtain⟨_,h⟩|⟨_,h⟩:=zI h;refine zw 34 true ?_;refine M7 ?_;refine zU ?_;obtain⟨_,h⟩|⟨_,h⟩:=zI h;refine zw 39 true ?_;refine zh ?_;exact M0 h;replace h:=h.symm;refine zw 39 false ?_;refine Mn ?_;exact M0 h;replace h:=h.symm;refine zw 34 false ?_;refine zh ?_;refine T7 ?_;refine Mn ?_;exact M0 h;refine zw 27 false ?_;refine zh ?_;refine zU ?_;refine M7 ?_;obtain⟨_,h⟩|⟨_,h⟩:=zI h;refine zw 34 true ?_;refine M7 ?_;refine zU ?_;obtain⟨_,h⟩|⟨_,h⟩:=zI h;refine zw 39 true ?_;refine zh ?_;exact M0 h;replace h:=h.symm;refine zw 39 false ?_;refine Mn ?_;exact M0 h;replace h:=h.symm;refine zw 34 false ?_;refine zh ?_;refine T7 ?_;refine Mn ?_;exact M0 h;try simp only at h
 refine zA<|zn<|zs<|zr ?_;refine zU ?_;obtain⟨_,h⟩|⟨_,h⟩:=zI h;refine zw 45 false ?_;refine zh ?_;refine Mc ?_;refine Mf ?_;exact M0 h;refine zw 45 true ?_;refine M7 ?_;obtain⟨_,h⟩|⟨_,h⟩:=zI h;replace h:=h.symm;refine zw 48 true ?_;refine zh ?_;refine Mn ?_;refine zh ?_;refine zg ?_;refine Mc ?_;refine Mb ?_;cases h;exact⟨rfl,zT results65⟩;refine zw 48 false ?_;refine M7 ?_;refine zg ?_;obtain⟨_,h⟩|⟨_,h⟩:=zI h;replace h:=h.symm;refine zw 52 true ?_;refine zh ?_;refine zg ?_;refine Mc ?_;refine Mb ?_;cases h;exact⟨rfl,zT results65⟩;refine zw 52 false ?_;refine M7 ?_;refine Mc ?_;obtain⟨_,h⟩|⟨_,h⟩:=zI h;refine Mb ?_;cases h;exact⟨rfl,zT results65⟩;refine Mf ?_;exact M0 h;exact M1 h;rcases o6 with⟨⟩|_;try simp only at h
 refine Me ?_;exact M2 h results65;exact Ma h
noncomputable abbrev AU:=fun z=>((7,.p (.int .i64 (z:Int))):Nat×AV)
theorem qr2(U:List (List UInt8))(v2:List UInt8)(r3:Int)(h:qfu U v2=some r3):Con D prog 124 [(.slc (v8t ucq U)),(.str v2)] (.int .i64 r3):=by
 refine zP call124 func124 rfl ntmps124 fun X w hT=>?_;simp only[qfu]at h;refine Mm ?_;refine M5 ?_;obtain⟨o4,h5,h⟩:=zB h;refine zo h5 (fun s=>⟨[(0,.p (.slc (v8t ucq U))),(1,.p (.str v2)),AU U.length,AK s],[]⟩) (fun o=>match o with|.inl o6=>tX 0 ⟨[],[]⟩|.inr o7=>tY prog Tryz.f124 (.int .i64 o7)) ?_ ?_;clear h h5;intro _ x h;simp only[qcz]at h;refine M8 ?_;obtain⟨_,h⟩|⟨_,h⟩:=zI h;refine M9 ?_;refine M4 ?_;obtain⟨_,_,_,_,h⟩:=zX h;refine Mc ?_;obtain⟨_,h⟩|⟨_,h⟩:=zI h;refine Mb ?_;cases h;exact⟨rfl,zT results124⟩;refine Mf ?_;exact M0 h;exact M1 h;rcases o4 with⟨⟩|_;try simp only at h
 refine Me ?_;exact M2 h results124;exact Ma h
theorem qo2(U:List (List UInt8))(v2:List UInt8)(r3:Bool)(h:qd0 U v2=some r3):Con D prog 66 [(.slc (v8t ucq U)),(.str v2)] (.bool r3):=by
 refine zP call66 func66 rfl ntmps66 fun X w hT=>?_;simp only[qd0]at h;refine Mm ?_;refine M4 ?_;refine zU ?_;obtain⟨_,h5,h⟩:=zB h;refine zc (qr2 U v2 _ h5) ?_;exact M2 h results66
theorem qo3(U:List Value)(f2:Value->Option (Bool))(f2_k:FuncId)(f2_cs:List PV)(f2_h:∀(y3:Value) (r4:Bool),f2 y3=some r4->Con D prog f2_k ((qa2 y3)::f2_cs) (.bool r4))(r5:Int)(h:qd1 U f2=some r5):Con D prog 192 [(.slc (v8t qa2 U)),.func (.func f2_k) f2_cs] (.int .i64 r5):=by
 refine zP call192 func192 rfl ntmps192 fun X w hT=>?_;simp only[qd1]at h;refine Mm ?_;refine M5 ?_;obtain⟨o6,h7,h⟩:=zB h;refine zo h7 (fun s=>⟨[(0,.p (.slc (v8t qa2 U))),(1,.p (.func (.func f2_k) f2_cs)),AU U.length,AK s],[]⟩) (fun o=>match o with|.inl o8=>tX 0 ⟨[],[]⟩|.inr o9=>tY prog Tryz.f192 (.int .i64 o9)) ?_ ?_;clear h h7;intro _ x h;simp only[qb9]at h;refine M8 ?_;obtain⟨_,h⟩|⟨_,h⟩:=zI h;refine M9 ?_;refine M4 ?_;obtain⟨ak,_,_,_,h⟩:=zX h;refine zU ?_;obtain⟨_,al,h⟩:=zB h;refine zc (f2_h ak _ al) ?_;refine Tp ?_;obtain⟨_,h⟩|⟨_,h⟩:=zI h;refine Mb ?_;cases h;exact⟨rfl,zT results192⟩;refine Mf ?_;exact M0 h;exact M1 h;rcases o6 with⟨⟩|_;try simp only at h
 refine Me ?_;exact M2 h results192;exact Ma h
theorem qnv(U:List Value)(f2:Value->Option (Bool))(f2_k:FuncId)(f2_cs:List PV)(f2_h:∀(y3:Value) (r4:Bool),f2 y3=some r4->Con D prog f2_k ((qa2 y3)::f2_cs) (.bool r4))(r5:Bool)(h:qc2 U f2=some r5):Con D prog 125 [(.slc (v8t qa2 U)),.func (.func f2_k) f2_cs] (.bool r5):=by
 refine zP call125 func125 rfl ntmps125 fun X w hT=>?_;simp only[qc2]at h;refine Mm ?_;refine M4 ?_;refine zU ?_;obtain⟨_,h7,h⟩:=zB h;refine zc (qo3 U f2 f2_k f2_cs f2_h _ h7) ?_;exact M2 h results125
theorem qor(U:Value)(r2:Bool)(h:qk1 U=some r2):Con D prog 127 [(qa2 U)] (.bool r2):=by
 refine zP call127 func127 rfl ntmps127 fun X w hT=>?_;simp only[qk1]at h;refine Mm ?_;refine Md ?_;refine Tq ?_;refine Mc ?_;obtain⟨_,h⟩|⟨_,h⟩:=zI h;refine T0 ?_;refine zU ?_;obtain⟨_,h⟩|⟨_,h⟩:=zI h;replace h:=h.symm;refine zw 10 true ?_;refine M7 ?_;refine T3 ?_;exact T6 h results127;refine zw 10 false ?_;refine zh ?_;refine T3 ?_;exact T6 h results127;refine T8 ?_;refine Mc ?_;obtain⟨_,h⟩|⟨_,h⟩:=zI h;refine Mb ?_;exact T6 h results127;refine T8 ?_;refine Mc ?_;obtain⟨_,h⟩|⟨_,h⟩:=zI h;refine T0 ?_;refine zU ?_;obtain⟨_,h⟩|⟨_,h⟩:=zI h;replace h:=h.symm;refine zw 25 true ?_;refine M7 ?_;refine zg ?_;refine T3 ?_;exact T6 h results127;refine zw 25 false ?_;refine zh ?_;refine T3 ?_;exact T6 h results127;refine T8 ?_;refine Mc ?_;obtain⟨_,h⟩|⟨_,h⟩:=zI h;refine T0 ?_;refine zU ?_;obtain⟨_,h⟩|⟨_,h⟩:=zI h;replace h:=h.symm;refine zw 36 true ?_;refine M7 ?_;refine T3 ?_;exact T6 h results127;refine zw 36 false ?_;refine zh ?_;refine T3 ?_;exact T6 h results127;refine Tb ?_;exact M2 h results127
theorem qr3(U:Value)(r2:Bool)(h:qd5 U=some r2):Con D prog 126 [(qa2 U)] (.bool r2):=by
 refine zP call126 func126 rfl ntmps126 fun X w hT=>?_;simp only[qd5]at h;refine Mm ?_;refine M4 ?_;refine zU ?_;obtain⟨_,h4,h⟩:=zB h;refine zc (qor U _ h4) ?_;exact M2 h results126
theorem qt3(U:List Value)(r2:Bool)(h:qhl U=some r2):Con D prog 67 [(.slc (v8t qa2 U))] (.bool r2):=by
 refine zP call67 func67 rfl ntmps67 fun X w hT=>?_;simp only[qhl]at h;refine Mm ?_;refine M4 ?_;refine zU ?_;obtain⟨_,h4,h⟩:=zB h;refine zc (qnv U (fun(y5:Value)=>qd5 y5) 126 [] (fun y5 r h=>qr3 y5 r h) _ h4) ?_;exact M2 h results67
noncomputable abbrev AW:=((1,.loc 1 1 0 0):Nat×AV)
noncomputable abbrev AX:=fun z=>((24,.p (.int .i64 (z:Int))):Nat×AV)
noncomputable abbrev AY:=fun z=>((25,.p (.int .i64 z)):Nat×AV)
noncomputable abbrev AZ:=fun z=>((5,.p (.int .i64 z)):Nat×AV)
theorem qh5(U:Table)(r2:Int)(h:qg4 U=some r2):Con D prog 28 [(qab U)] (.int .i64 r2):=by
 refine zP call28 func28 rfl ntmps28 fun X w hT=>?_;simp only[qg4]at h;refine Mm ?_;refine Md ?_;refine zU ?_;obtain⟨_,h4,h⟩:=zB h;refine zc (qsq U.Name _ h4) ?_;refine Mc ?_;obtain⟨h5,h⟩|⟨h5,h⟩:=zI h;refine Mj ?_;refine zU ?_;obtain⟨h6,h⟩|⟨h6,h⟩:=zI h;refine zw 16 true ?_;refine zh ?_;refine Mc ?_;exact M6 h results28;refine zw 16 false ?_;refine M7 ?_;refine zg ?_;refine Mc ?_;obtain⟨h7,h⟩|⟨h7,h⟩:=zI h;exact M6 h results28;refine Mj ?_;refine Mo ?_;obtain⟨o8,h9,h⟩:=zB h;refine zo h9 (fun s=>⟨[AW,(23,.p (.slc (v8t ucq U.Attrs))),AX U.Attrs.length,AY s],[(1,.arr 31 3 1 [.p (qab U)])]⟩) (fun o=>match o with|.inl ay=>tX 0 ⟨[AW],[(1,.arr 31 3 1 [.p (qab U)])]⟩|.inr am=>tY prog Tryz.f28 (.int .i64 am)) ?_ ?_;clear h h4 h5 h6 h7 h9;intro ap x h;simp only[qiy]at h;refine M8 ?_;obtain⟨_,h⟩|⟨_,h⟩:=zI h;refine M9 ?_;obtain⟨aj,_,_,_,h⟩:=zX h;refine M4 ?_;refine zU ?_;obtain⟨_,aq,h⟩:=zB h;refine zc (qsq aj _ aq) ?_;refine zU ?_;obtain⟨_,h⟩|⟨_,h⟩:=zI h;refine zw 33 false ?_;refine M7 ?_;obtain⟨_,h⟩:=qac h;obtain⟨_,h⟩:=qac h;refine Mn ?_;obtain⟨_,ar,h⟩:=zB h;refine zc (qo2 (U.Attrs.take (ap.toNat)) aj _ ar) ?_;refine Mc ?_;obtain⟨_,h⟩|⟨_,h⟩:=zI h;refine Mb ?_;cases h;exact⟨rfl,zT results28⟩;refine Mf ?_;exact M0 h;refine zw 33 true ?_;refine zh ?_;refine Mc ?_;refine Mb ?_;cases h;exact⟨rfl,zT results28⟩;exact M1 h;rcases o8 with⟨⟩|_;try simp only at h
 refine Me ?_;refine M5 ?_;obtain⟨au,ak,h⟩:=zB h;refine zo ak (fun s=>⟨[AW,AZ s.1,(43,.p (.slc (v8t qaq U.Rows))),(44,.p (.int .i64 (U.Rows.length:Int))),(45,.p (.int .i64 s.2))],[(1,.arr 31 3 1 [.p (qab U)])]⟩) (fun o=>match o with|.inl az=>tX 2 ⟨[],[]⟩|.inr av=>tY prog Tryz.f28 (.int .i64 av)) ?_ ?_;clear h h4 h5 h6 h7 h9 ak;intro s x h;obtain⟨_,_⟩:=s;simp only[qkm]at h;dsimp only;refine M8 ?_;obtain⟨_,h⟩|⟨_,h⟩:=zI h;refine M9 ?_;obtain⟨aw,_,_,_,h⟩:=zX h;refine zU<|zl<|zn<|zs<|zb<|zs<|zr ?_;refine Mc ?_;obtain⟨_,h⟩|⟨_,h⟩:=zI h;refine T0 ?_;refine zU<|zl<|zn<|zq<|yr<|zt<|yr<|zt ?_;cases h;exact⟨rfl,zT results28⟩;refine T8 ?_;refine Mc ?_;obtain⟨_,h⟩|⟨_,h⟩:=zI h;refine T0 ?_;refine zU<|zl<|zn<|zq<|yr<|zt<|yr<|zt ?_;cases h;exact⟨rfl,zT results28⟩;refine T8 ?_;refine zU ?_;obtain⟨_,ax,h⟩:=zB h;refine zc (qt3 aw.Values _ ax) ?_;refine Mc ?_;obtain⟨_,h⟩|⟨_,h⟩:=zI h;refine Mf ?_;refine Mk ?_;exact M0 h;refine T0 ?_;refine zU<|zl<|zn<|zq<|yr<|zt<|yr<|zt ?_;cases h;exact⟨rfl,zT results28⟩;exact M1 h;rcases au with⟨⟩|_;try simp only at h
 refine Me ?_;exact M2 h results28;exact Ma h;exact Ma h;exact M6 h results28
noncomputable abbrev Aa:=fun z=>((18,.p (.int .i64 z)):Nat×AV)
theorem qq2(n1:Int)(U:List FD)(r3:Int)(h:qgu n1 U=some r3):Con D prog 43 [(.int .i64 n1),(.slc (v8t qa7 U))] (.int .i64 r3):=by
 refine zP call43 func43 rfl ntmps43 fun X w hT=>?_;simp only[qgu]at h;refine Mm ?_;refine Md ?_;refine zU ?_;obtain⟨h4,h⟩|⟨h4,h⟩:=zI h;refine zw 9 true ?_;refine zh ?_;refine Mc ?_;exact M6 h results43;refine zw 9 false ?_;refine Mn ?_;refine Mc ?_;obtain⟨h5,h⟩|⟨h5,h⟩:=zI h;exact M6 h results43;refine Mj ?_;refine Mc ?_;obtain⟨h6,h⟩|⟨h6,h⟩:=zI h;exact M6 h results43;refine Mj ?_;refine Mo ?_;obtain⟨o7,h8,h⟩:=zB h;refine zo h8 (fun s=>⟨[(0,.p (.int .i64 n1)),(16,.p (.slc (v8t qa7 U))),(17,.p (.int .i64 (U.length:Int))),Aa s],[]⟩) (fun o=>match o with|.inl o9=>tX 0 ⟨[],[]⟩|.inr ak=>tY prog Tryz.f43 (.int .i64 ak)) ?_ ?_;clear h h4 h5 h6 h8;intro _ x h;simp only[qc6]at h;refine M8 ?_;obtain⟨_,h⟩|⟨_,h⟩:=zI h;refine M9 ?_;obtain⟨_,_,_,_,h⟩:=zX h;refine M4 ?_;obtain⟨_,h⟩:=qhe h;refine Mc ?_;obtain⟨_,h⟩|⟨_,h⟩:=zI h;refine Mb ?_;cases h;exact⟨rfl,zT results43⟩;refine Mf ?_;exact M0 h;exact M1 h;rcases o7 with⟨⟩|_;try simp only at h
 refine Me ?_;exact M2 h results43;exact Ma h
noncomputable abbrev Ac:=fun z=>((6,.p (.slc (v8t (ucp .i64) z))):Nat×AV)
theorem qvb(U:List Int)(r2:Int)(h:qla U=some r2):Con D prog 72 [(.slc (v8t (ucp .i64) U))] (.int .i64 r2):=by
 refine zP call72 func72 rfl ntmps72 fun X w hT=>?_;simp only[qla]at h;refine Mm ?_;refine M4 ?_;refine M5 ?_;obtain⟨o3,h4,h⟩:=zB h;refine zo h4 (fun s=>⟨[(3,.p (.int .i64 0)),Ac U,AU U.length,AK s],[]⟩) (fun o=>match o with|.inl o5=>tX 0 ⟨[(3,.p (.int .i64 0))],[]⟩|.inr o6=>tY prog Tryz.f72 (.int .i64 o6)) ?_ ?_;clear h h4;intro _ x h;simp only[qbo]at h;refine M8 ?_;obtain⟨_,h⟩|⟨_,h⟩:=zI h;refine M9 ?_;obtain⟨_,_,_,_,h⟩:=zX h;refine M4 ?_;refine Mc ?_;obtain⟨_,h⟩|⟨_,h⟩:=zI h;refine Mb ?_;cases h;exact⟨rfl,zT results72⟩;refine Mf ?_;exact M0 h;exact M1 h;rcases o3 with⟨⟩|_;try simp only at h
 refine Me ?_;exact M2 h results72;exact Ma h
theorem qij(U:Int)(r2:Bool)(h:qdl U=some r2):Con D prog 129 [(.int .i64 U)] (.bool r2):=by
 refine zP call129 func129 rfl ntmps129 fun X w hT=>?_;simp only[qdl]at h;refine Mm ?_;refine M4 ?_;exact M2 h results129
theorem qjx(U:Int)(y2:Int)(r3:Int)(h:qd6 U y2=some r3):Con D prog 73 [(.int .i64 U),(.int .i64 y2)] (.int .i64 r3):=by
 refine zP call73 func73 rfl ntmps73 fun X w hT=>?_;simp only[qd6]at h;refine Mm ?_;refine M4 ?_;refine zU ?_;obtain⟨_,h5,h⟩:=zB h;refine zc (qij U _ h5) ?_;refine M4 ?_;refine zU ?_;obtain⟨_,h7,h⟩:=zB h;refine zc (qij y2 _ h7) ?_;refine Md ?_;refine Mc ?_;obtain⟨_,h⟩|⟨_,h⟩:=zI h;refine zi<|zs<|zs<|zr ?_;refine Mc ?_;obtain⟨_,h⟩|⟨_,h⟩:=zI h;refine T0 ?_;refine zU<|zl<|zn<|zq<|zt<|zt ?_;exact T6 h results73;refine Mi ?_;refine T5 ?_;exact T6 h results73;refine Mj ?_;refine Mc ?_;obtain⟨_,h⟩|⟨_,h⟩:=zI h;exact M6 h results73;refine Mj ?_;refine Mc ?_;obtain⟨_,h⟩|⟨_,h⟩:=zI h;exact M6 h results73;refine Mj ?_;refine Mc ?_;obtain⟨_,h⟩|⟨_,h⟩:=zI h;exact M6 h results73;refine Mi ?_;exact M2 h results73
theorem qq3(U:Int)(r2:Bool)(h:qif U=some r2):Con D prog 130 [(.int .i64 U)] (.bool r2):=by
 refine zP call130 func130 rfl ntmps130 fun X w hT=>?_;simp only[qif]at h;refine Mm ?_;refine M4 ?_;exact M2 h results130
theorem qos(U:Int)(y2:Int)(r3:Int)(h:qhm U y2=some r3):Con D prog 74 [(.int .i64 U),(.int .i64 y2)] (.int .i64 r3):=by
 refine zP call74 func74 rfl ntmps74 fun X w hT=>?_;simp only[qhm]at h;refine Mm ?_;refine M4 ?_;refine zU ?_;obtain⟨_,h5,h⟩:=zB h;refine zc (qq3 U _ h5) ?_;refine M4 ?_;refine zU ?_;obtain⟨_,h7,h⟩:=zB h;refine zc (qq3 y2 _ h7) ?_;refine Md ?_;refine Mc ?_;obtain⟨_,h⟩|⟨_,h⟩:=zI h;refine zi<|zs<|zs<|zr ?_;refine Mc ?_;obtain⟨_,h⟩|⟨_,h⟩:=zI h;refine T0 ?_;refine zU<|zl<|zn<|zq<|zt<|zt ?_;exact T6 h results74;refine Mi ?_;refine T5 ?_;exact T6 h results74;refine Mj ?_;refine Mc ?_;obtain⟨_,h⟩|⟨_,h⟩:=zI h;exact M6 h results74;refine Mj ?_;refine Mc ?_;obtain⟨_,h⟩|⟨_,h⟩:=zI h;exact M6 h results74;refine Mj ?_;refine Mc ?_;obtain⟨_,h⟩|⟨_,h⟩:=zI h;exact M6 h results74;refine Mi ?_;exact M2 h results74
theorem qbx(U:CellRef)(b2:CellRef)(r3:Int)(h:qam U b2=some r3):Con D prog 32 [(qaa U),(qaa b2)] (.int .i64 r3):=by
 refine zP call32 func32 rfl ntmps32 fun X w hT=>?_;simp only[qam]at h;refine Mm ?_;refine Mu ?_;refine yU ?_;obtain⟨r4,h5,h⟩:=zB h;refine yc (qjx U.ID b2.ID _ h5) ?_;refine yU ?_;obtain⟨r6,h7,h⟩:=zB h;refine yc (qos U.Attr b2.Attr _ h7) ?_;refine yU ?_;obtain⟨_,h9,h⟩:=zB h;refine yc (qvb [r4,r6] _ h9) ?_;exact Mp h results32
noncomputable abbrev Ad:=fun z=>((0,.p (.slc (v8t qaa z))):Nat×AV)
theorem qxf(U:List CellRef)(r2:Bool)(h:qkn U=some r2):Con D prog 44 [(.slc (v8t qaa U))] (.bool r2):=by
 refine zP call44 func44 rfl ntmps44 fun X w hT=>?_;simp only[qkn]at h;refine Mm ?_;refine M5 ?_;obtain⟨o3,h4,h⟩:=zB h;refine zo h4 (fun s=>⟨[Ad U,AT s],[]⟩) (fun o=>match o with|.inl o5=>tX 0 ⟨[],[]⟩|.inr o6=>tY prog Tryz.f44 (.bool o6)) ?_ ?_;clear h h4;intro _ x h;simp only[qfh]at h;refine Tm ?_;refine Mc ?_;obtain⟨_,h⟩|⟨_,h⟩:=zI h;refine Ta ?_;obtain⟨x9,_,_,_,h⟩:=zX h;obtain⟨ai,_,_,_,h⟩:=zX h;refine yU ?_;obtain⟨_,aj,h⟩:=zB h;refine yc (qbx x9 ai _ aj) ?_;refine Mr ?_;obtain⟨_,h⟩|⟨_,h⟩:=zI h;cases h;refine Mf ?_;exact M0 h;exact M1 h;rcases o3 with⟨⟩|_;try simp only at h
 refine Me ?_;exact M2 h results44;exact Ma h
theorem qli(U:List Row)(f2:Row->Option (Bool))(f2_k:FuncId)(f2_cs:List PV)(f2_h:∀(y3:Row) (r4:Bool),f2 y3=some r4->Con D prog f2_k ((qaq y3)::f2_cs) (.bool r4))(r5:Int)(h:qdt U f2=some r5):Con D prog 95 [(.slc (v8t qaq U)),.func (.func f2_k) f2_cs] (.int .i64 r5):=by
 refine zP call95 func95 rfl ntmps95 fun X w hT=>?_;simp only[qdt]at h;refine Mm ?_;refine M5 ?_;obtain⟨o6,h7,h⟩:=zB h;refine zo h7 (fun s=>⟨[(0,.p (.slc (v8t qaq U))),(1,.p (.func (.func f2_k) f2_cs)),AU U.length,AK s],[]⟩) (fun o=>match o with|.inl o8=>tX 0 ⟨[],[]⟩|.inr o9=>tY prog Tryz.f95 (.int .i64 o9)) ?_ ?_;clear h h7;intro _ x h;simp only[qcj]at h;refine M8 ?_;obtain⟨_,h⟩|⟨_,h⟩:=zI h;refine M9 ?_;refine M4 ?_;obtain⟨ak,_,_,_,h⟩:=zX h;refine zU ?_;obtain⟨_,al,h⟩:=zB h;refine zc (f2_h ak _ al) ?_;refine Tp ?_;obtain⟨_,h⟩|⟨_,h⟩:=zI h;refine Mb ?_;cases h;exact⟨rfl,zT results95⟩;refine Mf ?_;exact M0 h;exact M1 h;rcases o6 with⟨⟩|_;try simp only at h
 refine Me ?_;exact M2 h results95;exact Ma h
theorem qza(U:Row)(c2:Int)(r3:Bool)(h:qm7 U c2=some r3):Con D prog 96 [(qaq U),.imm [.int .i64 c2]] (.bool r3):=by
 refine zP call96 func96 rfl ntmps96 fun X w hT=>?_;simp only[qm7]at h;refine Mm ?_;refine M4 ?_;exact M2 h results96
theorem q25(t1:Table)(U:Int)(r3:Int×Bool)(h:qqp t1 U=some r3):Con D prog 45 [(qab t1),(.int .i64 U)] (.tup [(.int .i64 r3.1),(.bool r3.2)]):=by
 refine zP call45 func45 rfl ntmps45 fun X w hT=>?_;simp only[qqp]at h;refine Mm ?_;refine M4 ?_;refine zU ?_;obtain⟨_,h5,h⟩:=zB h;refine zc (qli t1.Rows (fun(y6:Row)=>qm7 y6 U) 96 [.imm [.int .i64 U]] (fun y6 r h=>qza y6 U r h) _ h5) ?_;refine M4 ?_;exact M2 h results45
noncomputable abbrev Ae:=((3,.loc 3 1 0 0):Nat×AV)
noncomputable abbrev Af:=fun z=>((3,.arr 31 3 1 [.p (qab z)]):Nat×AO)
theorem qky(U:Table)(f2:List FD)(c3:List CellRef)(r4:Int)(h:qh9 U f2 c3=some r4):Con D prog 17 [(qab U),(.slc (v8t qa7 f2)),(.slc (v8t qaa c3))] (.int .i64 r4):=by
 refine zP call17 func17 rfl ntmps17 fun X w hT=>?_;simp only[qh9]at h;refine Mm ?_;refine Md ?_;refine zU ?_;obtain⟨_,h6,h⟩:=zB h;refine zc (qh5 U _ h6) ?_;refine M4 ?_;refine Mc ?_;obtain⟨h7,h⟩|⟨h7,h⟩:=zI h;cases h;refine Mj ?_;refine zU ?_;obtain⟨_,h9,h⟩:=zB h;refine zc (qq2 (U.Attrs.length:Int) f2 _ h9) ?_;refine M4 ?_;refine Mc ?_;obtain⟨aj,h⟩|⟨aj,h⟩:=zI h;cases h;refine Mj ?_;refine Mc ?_;obtain⟨ak,h⟩|⟨ak,h⟩:=zI h;cases h;refine Mj ?_;refine zU ?_;obtain⟨_,al,h⟩:=zB h;refine zc (qxf c3 _ al) ?_;refine Mc ?_;obtain⟨am,h⟩|⟨am,h⟩:=zI h;refine Mj ?_;refine Mo ?_;obtain⟨aq,ap,h⟩:=zB h;refine zo ap (fun s=>⟨[Ae,(37,.p (.slc (v8t qaa c3))),(38,.p (.int .i64 (c3.length:Int))),(39,.p (.int .i64 s))],[Af U]⟩) (fun o=>match o with|.inl aw=>tX 0 ⟨[],[]⟩|.inr ar=>tY prog Tryz.f17 (.int .i64 ar)) ?_ ?_;clear h h6 h7 h9 aj ak al am ap;intro _ x h;simp only[qji]at h;refine M8 ?_;obtain⟨_,h⟩|⟨_,h⟩:=zI h;refine M9 ?_;obtain⟨au,_,_,_,h⟩:=zX h;refine M4 ?_;refine zU ?_;obtain⟨_,av,h⟩:=zB h;refine zc (q25 U au.ID _ av) ?_;refine M4 ?_;refine zU ?_;obtain⟨_,h⟩|⟨_,h⟩:=zI h;refine zw 52 false ?_;refine M7 ?_;refine zU ?_;obtain⟨_,h⟩|⟨_,h⟩:=zI h;cases h;refine zw 57 false ?_;refine M7 ?_;refine M7 ?_;refine Mc ?_;obtain⟨_,h⟩|⟨_,h⟩:=zI h;cases h;refine Mf ?_;exact M0 h;cases h;exact M1 h;rcases aq with⟨⟩|_;try simp only at h
 refine Me ?_;exact M2 h results17;exact Ma h;cases h
noncomputable abbrev Ag:=fun z=>((22,.p (.int .i64 (z:Int))):Nat×AV)
noncomputable abbrev Ah:=fun z=>((23,.p (.int .i64 z)):Nat×AV)
noncomputable abbrev Ai:=fun z=>((1,.arr 94 2 1 [.p (qai z)]):Nat×AO)
noncomputable abbrev Aj:=fun z=>((35,.p (.slc (v8t (qal (ucp .i64)) z))):Nat×AV)
noncomputable abbrev Ak:=fun z=>((36,.p (.int .i64 (z:Int))):Nat×AV)
noncomputable abbrev Al:=fun z=>((37,.p (.int .i64 z)):Nat×AV)
noncomputable abbrev Am:=fun z=>((42,.p (.int .i64 (z:Int))):Nat×AV)
theorem qix(U:Instance)(r2:Int)(h:qgv U=some r2):Con D prog 55 [(qai U)] (.int .i64 r2):=by
 refine zP call55 func55 rfl ntmps55 fun X w hT=>?_;simp only[qgv]at h;refine Mm ?_;refine Md ?_;refine zU ?_;obtain⟨h3,h⟩|⟨h3,h⟩:=zI h;cases h;refine zw 14 false ?_;refine M7 ?_;refine zg ?_;refine Mc ?_;obtain⟨h4,h⟩|⟨h4,h⟩:=zI h;cases h;refine Mj ?_;refine Mo ?_;obtain⟨o5,h6,h⟩:=zB h;refine zo h6 (fun s=>⟨[AW,(21,.p (.slc (v8t (ucp .i64) U.Weights))),Ag U.Weights.length,Ah s],[Ai U]⟩) (fun o=>match o with|.inl o7=>tX 0 ⟨[AW],[Ai U]⟩|.inr o8=>tY prog Tryz.f55 (.int .i64 o8)) ?_ ?_;clear h h3 h4 h6;intro _ x h;simp only[qjj]at h;refine M8 ?_;obtain⟨_,h⟩|⟨_,h⟩:=zI h;refine M9 ?_;obtain⟨_,_,_,_,h⟩:=zX h;refine M4 ?_;refine zU ?_;obtain⟨_,h⟩|⟨_,h⟩:=zI h;cases h;refine zw 29 false ?_;refine Mn ?_;refine Mc ?_;obtain⟨_,h⟩|⟨_,h⟩:=zI h;cases h;refine Mf ?_;exact M0 h;exact M1 h;rcases o5 with⟨⟩|_;try simp only at h
 refine My ?_;refine Mo ?_;obtain⟨aq,ai,h⟩:=zB h;refine zo ai (fun s=>⟨[AW,Aj U.Edges,Ak U.Edges.length,Al s],[Ai U]⟩) (fun o=>match o with|.inl ba=>tX 2 ⟨[],[]⟩|.inr ar=>tY prog Tryz.f55 (.int .i64 ar)) ?_ ?_;clear h h3 h4 h6 ai;intro aj x h;simp only[qjk]at h;refine M8 ?_;obtain⟨ak,h⟩|⟨ak,h⟩:=zI h;refine M9 ?_;obtain⟨ab,au,av,aw,h⟩:=zX h;refine M4 ?_;refine M5 ?_;obtain⟨ax,al,h⟩:=zB h;refine zo al (fun s=>⟨[AW,Ac ab,AP s.1,Aj U.Edges,Ak U.Edges.length,Al aj,(41,.p (.slc (v8t (ucp .i64) ab))),Am ab.length,(43,.p (.int .i64 s.2))],[Ai U]⟩) (fun o=>match o with|.inl bc=>tX 4 ⟨[AW,Ac ab,Aj U.Edges,Ak U.Edges.length,Al aj],[Ai U]⟩|.inr ay=>tY prog Tryz.f55 (.int .i64 ay)) ?_ ?_;clear h ak au av aw al;intro s x h;obtain⟨_,_⟩:=s;simp only[qhp]at h;dsimp only;refine M8 ?_;obtain⟨_,h⟩|⟨_,h⟩:=zI h;refine M9 ?_;obtain⟨_,_,_,_,h⟩:=zX h;refine Md ?_;refine zU ?_;obtain⟨_,h⟩|⟨_,h⟩:=zI h;cases h;refine zw 50 false ?_;refine M7 ?_;refine Mn ?_;refine Mc ?_;obtain⟨_,h⟩|⟨_,h⟩:=zI h;cases h;refine zj<|zk<|zn<|zr ?_;refine Mk ?_;exact M0 h;exact M1 h;rcases ax with⟨⟩|_;try simp only at h
 refine Me ?_;refine Mc ?_;obtain⟨_,h⟩|⟨_,h⟩:=zI h;cases h;refine Mf ?_;exact M0 h;try simp only at h
 refine zZ fun s hq=>?_;refine yr<|zt<|yr<|zt ?_;cases h;refine⟨rfl,?_⟩;exact hq;exact M1 h;rcases aq with⟨⟩|_;try simp only at h
 refine Me ?_;exact M2 h results55;exact Ma h;exact Ma h
theorem qot(a1:Int)(b2:Int)(U:Instance)(r4:Int)(h:qjl a1 b2 U=some r4):Con D prog 100 [(.int .i64 a1),(.int .i64 b2),.imm [.slc (v8t (ucp .i64) U.Weights),.slc (v8t (qal (ucp .i64)) U.Edges)]] (.int .i64 r4):=by
 refine zP call100 func100 rfl ntmps100 fun X w hT=>?_;simp only[qjl]at h;refine Mm ?_;refine Mu ?_;obtain⟨_,_,_,_,h⟩:=zX h;obtain⟨_,_,_,_,h⟩:=zX h;exact Mp h results100
noncomputable abbrev An:=fun z=>((0,.p (.slc (v8t (ucp .i64) z))):Nat×AV)
theorem qq4(U:List Int)(f2:Int->Option (Bool))(f2_k:FuncId)(f2_cs:List PV)(f2_h:∀(y3:Int) (r4:Bool),f2 y3=some r4->Con D prog f2_k ((.int .i64 y3)::f2_cs) (.bool r4))(r5:Int)(h:qfb U f2=some r5):Con D prog 179 [(.slc (v8t (ucp .i64) U)),.func (.func f2_k) f2_cs] (.int .i64 r5):=by
 refine zP call179 func179 rfl ntmps179 fun X w hT=>?_;simp only[qfb]at h;refine Mm ?_;refine M5 ?_;obtain⟨o6,h7,h⟩:=zB h;refine zo h7 (fun s=>⟨[An U,(1,.p (.func (.func f2_k) f2_cs)),AU U.length,AK s],[]⟩) (fun o=>match o with|.inl o8=>tX 0 ⟨[],[]⟩|.inr o9=>tY prog Tryz.f179 (.int .i64 o9)) ?_ ?_;clear h h7;intro _ x h;simp only[qcm]at h;refine M8 ?_;obtain⟨_,h⟩|⟨_,h⟩:=zI h;refine M9 ?_;refine M4 ?_;obtain⟨ak,_,_,_,h⟩:=zX h;refine zU ?_;obtain⟨_,al,h⟩:=zB h;refine zc (f2_h ak _ al) ?_;refine Tp ?_;obtain⟨_,h⟩|⟨_,h⟩:=zI h;refine Mb ?_;cases h;exact⟨rfl,zT results179⟩;refine Mf ?_;exact M0 h;exact M1 h;rcases o6 with⟨⟩|_;try simp only at h
 refine Me ?_;exact M2 h results179;exact Ma h
theorem qjy(U:List Int)(f2:Int->Option (Bool))(f2_k:FuncId)(f2_cs:List PV)(f2_h:∀(y3:Int) (r4:Bool),f2 y3=some r4->Con D prog f2_k ((.int .i64 y3)::f2_cs) (.bool r4))(r5:Bool)(h:qcn U f2=some r5):Con D prog 101 [(.slc (v8t (ucp .i64) U)),.func (.func f2_k) f2_cs] (.bool r5):=by
 refine zP call101 func101 rfl ntmps101 fun X w hT=>?_;simp only[qcn]at h;refine Mm ?_;refine M4 ?_;refine zU ?_;obtain⟨_,h7,h⟩:=zB h;refine zc (qq4 U f2 f2_k f2_cs f2_h _ h7) ?_;exact M2 h results101
theorem qvy(U:Int)(c2:List Int)(r3:Bool)(h:qhq U c2=some r3):Con D prog 102 [(.int .i64 U),.imm [.slc (v8t (ucp .i64) c2)]] (.bool r3):=by
 refine zP call102 func102 rfl ntmps102 fun X w hT=>?_;simp only[qhq]at h;refine Mm ?_;refine M4 ?_;obtain⟨_,_,_,_,h⟩:=zX h;exact M2 h results102
noncomputable abbrev Ao:=fun z=>((5,.arr 71 1 1 [.own 26 1 0 z]):Nat×AO)
noncomputable abbrev Ap:=fun z=>((6,.own 30 1 0 z):Nat×AV)
noncomputable abbrev Aq:=fun z=>((32,.p (.slc (v8t (qal (ucp .i64)) z))):Nat×AV)
noncomputable abbrev Ar:=fun z=>((33,.p (.int .i64 (z:Int))):Nat×AV)
noncomputable abbrev As:=fun z=>((26,.arr 3 1 1 (v8t AV.p (v8t (ucp .i64) z))):Nat×AO)
noncomputable abbrev At:=fun z=>((30,.arr 71 1 1 (qk8 30 3 1 1 (ucp .i64) z)):Nat×AO)
noncomputable abbrev Au:=fun z=>((65,.arr 3 1 1 (v8t AV.p (v8t (ucp .i64) z))):Nat×AO)
noncomputable abbrev Av:=fun z=>((0,.own 65 1 0 z):Nat×AV)
noncomputable abbrev Aw:=fun z=>((30,.arr 71 1 1 (qk8 30 3 1 2 (ucp .i64) z)):Nat×AO)
noncomputable abbrev Ax:=fun z=>((1,.p (.int .i64 ((z:Nat):Int))):Nat×AV)
noncomputable abbrev Ay:=fun z=>((30,.arr 71 1 1 (qk8 30 3 1 3 (ucp .i64) z)):Nat×AO)
noncomputable abbrev Az:=((6,.p (.int .i64 20)):Nat×AV)
noncomputable abbrev A0:=fun z=>((15,.p (.int .i64 z)):Nat×AV)
noncomputable abbrev A1:=fun z=>((16,.p (.int .i64 z)):Nat×AV)
noncomputable abbrev A2:=fun z=>((2,.p (.int .i64 z)):Nat×AV)
noncomputable abbrev A3:=fun z=>((30,.arr 71 1 1 (qk8 30 3 1 4 (ucp .i64) z)):Nat×AO)
noncomputable abbrev A4:=fun z=>((9,.p (.int .i64 z)):Nat×AV)
noncomputable abbrev A5:=fun z=>((24,.p (.int .i64 z)):Nat×AV)
noncomputable abbrev A6:=fun z=>((2,.p (.int .i64 ((z:Nat):Int))):Nat×AV)
noncomputable abbrev A7:=fun z=>((13,.own 94 1 0 z):Nat×AV)
noncomputable abbrev A8:=fun z=>((94,.arr 3 1 1 (v8t AV.p (v8t (ucp .i64) z))):Nat×AO)
noncomputable abbrev Ef:=fun z y x w v=>([AW,AF,Ap z,AP y,Aq x,Ar (List.length x),(34,.p (.int .i64 y)),(44,.p (.slc (v8t (ucp .i64) w))),(45,.p (.int .i64 ((List.length w):Int))),(46,.p (.int .i64 v))]:List (Nat×AV))
noncomputable abbrev Eg:=fun z y x w=>([AF,Ap z,A7 y,(79,.own 65 1 0 x),(80,.p (.int .i64 ((x:Nat):Int))),(81,.p (.int .i64 w))]:List (Nat×AV))
theorem qyh(i1:Instance)(r2:List Int×Int)(h:qls i1=some r2):Con D prog 49 [(qai i1)] (.tup [(.slc (v8t (ucp .i64) r2.1)),(.int .i64 r2.2)]):=by
 refine zP call49 func49 rfl ntmps49 fun X w hT=>?_;simp only[qls]at h;refine Mm ?_;refine Md ?_;refine zU ?_;obtain⟨_,h4,h⟩:=zB h;refine zc (qix i1 _ h4) ?_;refine M4 ?_;refine Mc ?_;obtain⟨h5,h⟩|⟨h5,h⟩:=zI h;exact M6 h results49;have ai:=v78.2 h5;refine Mi ?_;obtain⟨h6,h⟩:=qac h;obtain⟨h7,h⟩:=qac h;refine M4 ?_;obtain⟨h8,h⟩:=qac h;obtain⟨h9,h⟩:=qac h;refine zW 4 ?_;refine zM ⟨[AW,AF,(30,.own 30 1 0 ((v6u i1.Weights.length ([]:List Int))).length)],(Ai i1::Ao ((v6u i1.Edges.length 0)).length::(26,.arr 3 1 1 (v8t AV.p (v8t (ucp .i64) (v6u i1.Edges.length 0))))::(30,.arr 71 1 1 (qk8 30 3 1 1 (ucp .i64) (v6u i1.Weights.length ([]:List Int))))::qhd 30 3 1 1 (ucp .i64) (v6u i1.Weights.length ([]:List Int)) [])⟩ ?_;refine M5 ?_;obtain⟨du,ar,h⟩:=zB h;refine zo ar (fun s=>⟨[AW,AF,Ap s.2.1.length,Aq i1.Edges,Ar i1.Edges.length,(34,.p (.int .i64 s.2.2))],(Ai i1::Ao s.1.length::As s.1::At s.2.1::qhd 30 3 1 1 (ucp .i64) s.2.1 [])⟩) (fun bd=>tX 0 ⟨[AW,AF,Ap bd.2.length],(Ai i1::Ao bd.1.length::As bd.1::At bd.2::qhd 30 3 1 1 (ucp .i64) bd.2 [])⟩) ?_ ?_;clear h h4 h5 ai h6 h7 h8 h9 ar;intro s x h;obtain⟨ay,_,ah⟩:=s;simp only[qf6]at h;dsimp only;refine M8 ?_;obtain⟨ce,h⟩|⟨ce,h⟩:=zI h;refine M9 ?_;obtain⟨aj,dv,dw,dx,h⟩:=zX h;refine M4 ?_;obtain⟨_,dy,dz,d8,h⟩:=zX h;refine M4 ?_;refine Mo ?_;obtain⟨_,cg,h⟩:=zB h;refine zo cg (fun s=>⟨Ef s.1.length ah i1.Edges aj s.2,(Ai i1::Ao ((ay.set ah.toNat (aj.length:Int))).length::As (ay.set ah.toNat (aj.length:Int))::At s.1::qhd 30 3 1 1 (ucp .i64) s.1 [])⟩) (fun bn=>tX 2 ⟨[AW,AF,Ap bn.length,Aq i1.Edges,Ar i1.Edges.length,(34,.p (.int .i64 ah))],(Ai i1::Ao ((ay.set ah.toNat (aj.length:Int))).length::As (ay.set ah.toNat (aj.length:Int))::At bn::qhd 30 3 1 1 (ucp .i64) bn [])⟩) ?_ ?_;clear h ce dv dw dx dy dz d8 cg;intro s x h;obtain⟨bo,d9⟩:=s;simp only[qf5]at h;dsimp only;refine M8 ?_;obtain⟨_,h⟩|⟨_,h⟩:=zI h;refine M9 ?_;obtain⟨bp,_,_,_,h⟩:=zX h;refine Mv ?_;obtain⟨bq,_,_,_,h⟩:=zX h;obtain⟨_,h⟩:=qac h;refine zW 11 ?_;refine zM ⟨Ef ((bo.set bp.toNat (bq++[ah]))).length ah i1.Edges aj d9,(Ai i1::Ao ((ay.set ah.toNat (aj.length:Int))).length::As (ay.set ah.toNat (aj.length:Int))::At (bo.set bp.toNat (bq++[ah]))::qhd 30 3 1 1 (ucp .i64) (bo.set bp.toNat (bq++[ah])) [])⟩ ?_;refine zl<|yn<|zn<|zr ?_;exact M0 h;exact M1 h;try simp only at h
 refine Mx ?_;exact M0 h;exact M1 h;obtain⟨ab,U⟩:=du;try simp only at h
 refine Me ?_;obtain⟨be,h⟩:=qac h;refine M5 ?_;obtain⟨ae,az,h⟩:=zB h;refine zo az (fun s=>⟨[AW,AF,Ap U.length,(11,.own 65 1 0 s.1.length),(67,.p (.int .i64 ((i1.Weights.length:Nat):Int))),(68,.p (.int .i64 s.2))],(Ai i1::Ao ab.length::As ab::At U::Au s.1::qhd 30 3 1 1 (ucp .i64) U [])⟩) (fun ch=>tX 4 ⟨[AW,AF,Ap U.length,(11,.own 65 1 0 ch.length)],(Ai i1::Ao ab.length::As ab::At U::Au ch::qhd 30 3 1 1 (ucp .i64) U [])⟩) ?_ ?_;clear h h4 h5 ai h6 h7 h8 h9 ar be az;intro s x h;obtain⟨_,_⟩:=s;simp only[qf7]at h;dsimp only;refine M8 ?_;obtain⟨_,h⟩|⟨_,h⟩:=zI h;refine M9 ?_;refine Mv ?_;obtain⟨_,_,_,_,h⟩:=zX h;refine Mk ?_;exact M0 h;exact M1 h;try simp only at h
 refine Me ?_;refine zU ?_;refine zM ⟨[AF,Ap U.length,(11,.own 65 1 0 ae.length),(76,.own 65 1 0 ae.length),(77,.func (.func 100) [.loc 1 1 0 0])],(Ai i1::Ao ab.length::As ab::At U::Au ae::qhd 30 3 1 1 (ucp .i64) U [])⟩ ?_;refine qbb (avs:=[.own 65 1 0 ae.length,.func (.func 100) [.loc 1 1 0 0]]) 115 rfl (qao rfl) rfl func99 rfl call99 ntmps99 (by simp) (by simp only[go_sem,seval,ai];all_goals rfl) ?_
 intro _ _ _;refine zL ⟨[Av ae.length,(1,.func (.func 100) [.loc 1 1 0 0])],(Ai i1::Ao ab.length::As ab::Aw U::Au ae::qhd 30 3 1 2 (ucp .i64) U [])⟩ ?_;refine Tn ?_;refine zM ⟨[(4,.own 65 1 0 ae.length),(6,.p (.int .i64 ((ae.length:Nat):Int))),(7,.func (.func 100) [.loc 1 1 0 0])],(Ai i1::Ao ab.length::As ab::Aw U::Au ae::qhd 30 3 1 2 (ucp .i64) U [])⟩ ?_;refine qbb (avs:=[.own 65 1 0 ae.length,.p (.int .i64 ((ae.length:Nat):Int)),.func (.func 100) [.loc 1 1 0 0]]) 124 rfl (qao rfl) rfl func178 rfl call178 ntmps178 (by simp) (by simp only[go_sem,seval,ai];all_goals rfl) ?_
 intro br bt bu;refine zL ⟨[Av ae.length,Ax ae.length,(2,.func (.func 100) [.loc 1 1 0 0])],(Ai i1::Ao ab.length::As ab::Ay U::Au ae::qhd 30 3 1 3 (ucp .i64) U [])⟩ ?_;refine Mm ?_;refine M4 ?_;refine Tl ?_;obtain⟨ea,bf,h⟩:=zB h;refine zo bf (fun s=>⟨[Av s.1.length,Ax ae.length,(2,.func (.func 100) [.loc 1 1 0 0]),Az,AP s.2.1,AK s.2.2],(Ai i1::Ao ab.length::As ab::Ay U::Au s.1::qhd 30 3 1 3 (ucp .i64) U [])⟩) (fun bv=>tX 0 ⟨[Av bv.1.length,Ax ae.length,(2,.func (.func 100) [.loc 1 1 0 0]),Az,AP bv.2],(Ai i1::Ao ab.length::As ab::Ay U::Au bv.1::qhd 30 3 1 3 (ucp .i64) U [])⟩) ?_ ?_;clear h h4 h5 ai h6 h7 h8 h9 ar be az bf;intro s x h;obtain⟨al,ba,am⟩:=s;simp only[qj4]at h;refine Mw ?_;refine Mc ?_;obtain⟨bg,h⟩|⟨bg,h⟩:=zI h;have bh:=eq_true bg;refine Te ?_;refine zU ?_;refine zM ⟨[Av al.length,Ax ae.length,(2,.func (.func 100) [.loc 1 1 0 0]),Az,AK am,(14,.own 65 1 0 al.length),A0 ba,A1 am,(17,.func (.func 100) [.loc 1 1 0 0])],(Ai i1::Ao ab.length::As ab::Ay U::Au al::qhd 30 3 1 3 (ucp .i64) U [])⟩ ?_;refine qbb (avs:=[.own 65 1 0 al.length,.p (.int .i64 ba),.p (.int .i64 am),.func (.func 100) [.loc 1 1 0 0]]) 187 rfl (qao rfl) rfl func230 rfl call230 ntmps230 (by simp) (by simp only[go_sem,seval,bh];all_goals rfl) ?_
 intro ci cj cl;refine zL ⟨[Av al.length,AA ba,A2 am,(3,.func (.func 100) [.loc 1 1 0 0])],(Ai i1::Ao ab.length::As ab::A3 U::Au al::qhd 30 3 1 4 (ucp .i64) U [])⟩ ?_;refine Mm ?_;refine Mo ?_;obtain⟨co,cq,h⟩:=zB h;refine zo cq (fun s=>⟨[Av s.1.length,AA ba,A2 am,(3,.func (.func 100) [.loc 1 1 0 0]),AK s.2],(Ai i1::Ao ab.length::As ab::A3 U::Au s.1::qhd 30 3 1 4 (ucp .i64) U [])⟩) (fun eb=>tX 0 ⟨[],(Ai i1::Ao ab.length::As ab::A3 U::Au eb::qhd 30 3 1 4 (ucp .i64) U [])⟩) ?_ ?_;clear h bg bh cq;intro s x h;obtain⟨_,cr⟩:=s;simp only[qqr]at h;refine Mw ?_;refine Mc ?_;obtain⟨ct,h⟩|⟨ct,h⟩:=zI h;refine M9 ?_;refine Mo ?_;obtain⟨_,cu,h⟩:=zB h;refine zo cu (fun s=>⟨[Av s.1.length,AA ba,A2 am,(3,.func (.func 100) [.loc 1 1 0 0]),AK cr,A4 s.2],(Ai i1::Ao ab.length::As ab::A3 U::Au s.1::qhd 30 3 1 4 (ucp .i64) U [])⟩) (fun cv=>tX 2 ⟨[Av cv.length,AA ba,A2 am,(3,.func (.func 100) [.loc 1 1 0 0]),AK cr],(Ai i1::Ao ab.length::As ab::A3 U::Au cv::qhd 30 3 1 4 (ucp .i64) U [])⟩) ?_ ?_;clear h ct cu;intro s x h;obtain⟨_,_⟩:=s;simp only[qqq]at h;dsimp only;refine zs<|zs<|zd ?_;refine yU ?_;obtain⟨_,h⟩|⟨_,h⟩:=zI h;refine yw 21 true ?_;refine Mg ?_;obtain⟨ed,_,_,_,h⟩:=zX h;refine Mg ?_;refine T1 ?_;obtain⟨ek,_,_,_,h⟩:=zX h;refine T1 ?_;obtain⟨_,en,h⟩:=zB h;refine yc (qot ed ek i1 _ en) ?_;refine yg ?_;refine yU ?_;refine ydS ?_;refine zn ?_;obtain⟨_,h⟩|⟨_,h⟩:=zI h;refine zi<|zk<|zn<|zs<|zb<|zd ?_;obtain⟨_,_,_,ep,h⟩:=zX h;have fo:=eq_true (by simpa only[v6f] using ep);refine yU ?_;refine ydS ?_;refine yn<|zn<|zr ?_;exact M0 h;exact M1 h;refine yw 21 false ?_;refine yk ?_;refine yU ?_;refine ydS ?_;refine zn ?_;exact M1 h;try simp only at h
 refine Mx ?_;exact M0 h;exact M1 h;try simp only at h
 refine zA<|yh ?_;refine vc7 (by simp only[results230];simp only[go_sem,seval,bh];exact rfl) ?_;obtain⟨er,h⟩:=qac h;refine zM ⟨[Av co.length,Ax ae.length,(2,.func (.func 100) [.loc 1 1 0 0]),Az,AK am,(18,.p (.tup []))],(Ai i1::Ao ab.length::As ab::A3 U::Au co::qhd 30 3 1 4 (ucp .i64) U [])⟩ ?_;clear er;refine Td ?_;refine Mv ?_;refine zU<|zl<|yn ?_;exact Ms h;have bh:=eq_false bg;exact M1 h;obtain⟨ap,bc⟩:=ea;try simp only at h
 refine Me ?_;refine zU ?_;refine zM ⟨[Av ap.length,Ax ae.length,(2,.func (.func 100) [.loc 1 1 0 0]),Az,(23,.own 65 1 0 ap.length),A5 bc,(25,.p (.int .i64 ((ae.length:Nat):Int))),(26,.func (.func 100) [.loc 1 1 0 0])],(Ai i1::Ao ab.length::As ab::Ay U::Au ap::qhd 30 3 1 3 (ucp .i64) U [])⟩ ?_;refine qbb (avs:=[.own 65 1 0 ap.length,.p (.int .i64 bc),.p (.int .i64 ((ae.length:Nat):Int)),.func (.func 100) [.loc 1 1 0 0]]) 240 rfl (qao rfl) rfl func230 rfl call230 ntmps230 (by simp) (by simp only[go_sem,seval,ai];all_goals rfl) ?_
 intro cw cx cy;refine zL ⟨[Av ap.length,AA bc,A6 ae.length,(3,.func (.func 100) [.loc 1 1 0 0])],(Ai i1::Ao ab.length::As ab::A3 U::Au ap::qhd 30 3 1 4 (ucp .i64) U [])⟩ ?_;refine Mm ?_;refine Mo ?_;obtain⟨ag,bi,h⟩:=zB h;refine zo bi (fun s=>⟨[Av s.1.length,AA bc,A6 ae.length,(3,.func (.func 100) [.loc 1 1 0 0]),AK s.2],(Ai i1::Ao ab.length::As ab::A3 U::Au s.1::qhd 30 3 1 4 (ucp .i64) U [])⟩) (fun eu=>tX 0 ⟨[],(Ai i1::Ao ab.length::As ab::A3 U::Au eu::qhd 30 3 1 4 (ucp .i64) U [])⟩) ?_ ?_;clear h h4 h5 ai h6 h7 h8 h9 ar be az bf bi;intro s x h;obtain⟨_,cz⟩:=s;simp only[qfi]at h;refine Mw ?_;refine Mc ?_;obtain⟨c9,h⟩|⟨c9,h⟩:=zI h;refine M9 ?_;refine Mo ?_;obtain⟨_,da,h⟩:=zB h;refine zo da (fun s=>⟨[Av s.1.length,AA bc,A6 ae.length,(3,.func (.func 100) [.loc 1 1 0 0]),AK cz,A4 s.2],(Ai i1::Ao ab.length::As ab::A3 U::Au s.1::qhd 30 3 1 4 (ucp .i64) U [])⟩) (fun db=>tX 2 ⟨[Av db.length,AA bc,A6 ae.length,(3,.func (.func 100) [.loc 1 1 0 0]),AK cz],(Ai i1::Ao ab.length::As ab::A3 U::Au db::qhd 30 3 1 4 (ucp .i64) U [])⟩) ?_ ?_;clear h c9 da;intro s x h;obtain⟨_,_⟩:=s;simp only[qhr]at h;dsimp only;refine zs<|zs<|zd ?_;refine yU ?_;obtain⟨_,h⟩|⟨_,h⟩:=zI h;refine yw 21 true ?_;refine Mg ?_;obtain⟨ew,_,_,_,h⟩:=zX h;refine Mg ?_;refine T1 ?_;obtain⟨ey,_,_,_,h⟩:=zX h;refine T1 ?_;obtain⟨_,e7,h⟩:=zB h;refine yc (qot ew ey i1 _ e7) ?_;refine yg ?_;refine yU ?_;refine ydS ?_;refine zn ?_;obtain⟨_,h⟩|⟨_,h⟩:=zI h;refine zi<|zk<|zn<|zs<|zb<|zd ?_;obtain⟨_,_,_,e8,h⟩:=zX h;have fq:=eq_true (by simpa only[v6f] using e8);refine yU ?_;refine ydS ?_;refine yn<|zn<|zr ?_;exact M0 h;exact M1 h;refine yw 21 false ?_;refine yk ?_;refine yU ?_;refine ydS ?_;refine zn ?_;exact M1 h;try simp only at h
 refine Mx ?_;exact M0 h;exact M1 h;try simp only at h
 refine zA<|yh ?_;refine vc7 (by simp only[results230];simp only[go_sem,seval,ai];exact rfl) ?_;obtain⟨e9,h⟩:=qac h;refine zM ⟨[Av ag.length,Ax ae.length,(2,.func (.func 100) [.loc 1 1 0 0]),Az,(27,.p (.tup []))],(Ai i1::Ao ab.length::As ab::A3 U::Au ag::qhd 30 3 1 4 (ucp .i64) U [])⟩ ?_;clear e9;refine zl<|zn<|zb ?_;obtain⟨fa,bw,h⟩:=zB h;refine zo bw (fun s=>⟨[Av ag.length,Ax ae.length,(2,.func (.func 100) [.loc 1 1 0 0]),AG s],(Ai i1::Ao ab.length::As ab::A3 U::Au ag::qhd 30 3 1 4 (ucp .i64) U [])⟩) (fun ft=>tX 2 ⟨[],(Ai i1::Ao ab.length::As ab::A3 U::Au ag::qhd 30 3 1 4 (ucp .i64) U [])⟩) ?_ ?_;clear h h4 h5 ai h6 h7 h8 h9 ar be az bf bi bw;intro bx x h;simp only[qj5]at h;refine Tm ?_;refine Mc ?_;obtain⟨dc,h⟩|⟨dc,h⟩:=zI h;refine Te ?_;refine Tl ?_;obtain⟨fb,de,h⟩:=zB h;refine zo de (fun s=>⟨[Av ag.length,Ax ae.length,(2,.func (.func 100) [.loc 1 1 0 0]),AG bx,(7,.p (.int .i64 0)),(8,.p (.int .i64 (v96.wrap (2*bx))))],(Ai i1::Ao ab.length::As ab::A3 U::Au ag::qhd 30 3 1 4 (ucp .i64) U [])⟩) (fun fu=>tX 4 ⟨[Av ag.length,Ax ae.length,(2,.func (.func 100) [.loc 1 1 0 0]),AG bx,(7,.p (.int .i64 0))],(Ai i1::Ao ab.length::As ab::A3 U::Au ag::qhd 30 3 1 4 (ucp .i64) U [])⟩) ?_ ?_;clear h dc de;intro s x h;simp only[qqs]at h;refine Tm ?_;refine Mc ?_;obtain⟨_,h⟩|⟨_,h⟩:=zI h;cases h;exact M1 h;cases fb;try simp only at h
 refine My ?_;refine M4 ?_;refine Mc ?_;obtain⟨_,h⟩|⟨_,h⟩:=zI h;cases h;refine zj<|zk<|zn<|zr ?_;refine zU<|zl<|yn ?_;exact Ms h;exact M1 h;cases fa;try simp only at h
 refine zA<|yh ?_;refine vc7 (by simp only[results178];simp only[go_sem,seval,ai];exact rfl) ?_;obtain⟨fc,h⟩:=qac h;refine zM ⟨[(8,.p (.tup []))],(Ai i1::Ao ab.length::As ab::A3 U::Au ag::qhd 30 3 1 4 (ucp .i64) U [])⟩ ?_;clear fc;refine zl ?_;refine vc7 (by simp only[results99];simp only[go_sem,seval,ai];exact rfl) ?_;obtain⟨fe,h⟩:=qac h;refine zM ⟨[AF,Ap U.length,(11,.own 65 1 0 ag.length),(78,.p (.tup []))],(Ao ab.length::As ab::At U::Au ag::qhd 30 3 1 1 (ucp .i64) U [])⟩ ?_;clear fe;refine Td ?_;refine M5 ?_;obtain⟨bz,df,h⟩:=zB h;refine zo df (fun s=>⟨Eg U.length s.2.1.length ag.length s.2.2,(Ao s.1.length::As s.1::At U::Au ag::A8 s.2.1::qhd 30 3 1 1 (ucp .i64) U [])⟩) (fun dg=>tX 6 ⟨[A7 dg.length],[A8 dg]⟩) ?_ ?_;clear h h4 h5 ai h6 h7 h8 h9 ar be az bf bi bw df;intro s x h;obtain⟨ca,bj,dh⟩:=s;simp only[qfk]at h;dsimp only;refine M8 ?_;obtain⟨di,h⟩|⟨di,h⟩:=zI h;refine M9 ?_;obtain⟨ff,fg,fh,fi,h⟩:=zX h;refine Md ?_;obtain⟨cc,fj,fk,fl,h⟩:=zX h;refine zU ?_;obtain⟨_,dj,h⟩:=zB h;refine zc (qjy cc (fun(cd:Int)=>qhq cd ca) 102 [.imm [.slc (v8t (ucp .i64) ca)]] (fun cd r h=>qvy cd ca r h) _ dj) ?_;refine Tp ?_;obtain⟨dl,h⟩|⟨dl,h⟩:=zI h;refine T0 ?_;obtain⟨_,h⟩:=qac h;refine zU<|zl<|zn<|zx<|ze<|yh<|zn<|zr ?_;exact M0 h;refine Mi ?_;refine Mo ?_;obtain⟨_,dm,h⟩:=zB h;refine zo dm (fun s=>⟨[AF,Ap U.length,A7 bj.length,(79,.own 65 1 0 ag.length),(80,.p (.int .i64 ((ag.length:Nat):Int))),(81,.p (.int .i64 dh)),(98,.own (fx 30 ff.toNat) 1 0 cc.length),(99,.p (.int .i64 ((cc.length:Nat):Int))),(100,.p (.int .i64 s.2))],(Ao s.1.length::As s.1::At U::Au ag::A8 bj::qhd 30 3 1 1 (ucp .i64) U [])⟩) (fun dn=>tX 8 ⟨Eg U.length bj.length ag.length dh,(Ao dn.length::As dn::At U::Au ag::A8 bj::qhd 30 3 1 1 (ucp .i64) U [])⟩) ?_ ?_;clear h di fg fh fi fj fk fl dj dl dm;intro s x h;obtain⟨_,_⟩:=s;simp only[qfj]at h;dsimp only;refine M8 ?_;obtain⟨_,h⟩|⟨_,h⟩:=zI h;refine M9 ?_;obtain⟨_,_,_,_,h⟩:=zX h;obtain⟨_,_,_,_,h⟩:=zX h;obtain⟨_,h⟩:=qac h;refine Mv ?_;obtain⟨_,_,_,_,h⟩:=zX h;refine Mk ?_;exact M0 h;exact M1 h;try simp only at h
 refine Mx ?_;exact M0 h;exact M1 h;try simp only at h
 refine Me ?_;refine zU ?_;refine zM ⟨[A7 bz.length,(112,.own 94 1 0 bz.length)],[A8 bz]⟩ ?_;obtain⟨dp,dq,h⟩:=zB h;refine zSI Yq.srt103 dq ?_;have fm:=q7s dq;refine zM ⟨[A7 dp.length,(113,.p (.tup []))],[A8 dp]⟩ ?_;clear fm;refine Td ?_;exact M2 h results49
theorem quz(U:List Int)(v2:Int)(r3:Int)(h:qil U v2=some r3):Con D prog 181 [(.slc (v8t (ucp .i64) U)),(.int .i64 v2)] (.int .i64 r3):=by
 refine zP call181 func181 rfl ntmps181 fun X w hT=>?_;simp only[qil]at h;refine Mm ?_;refine M5 ?_;obtain⟨o4,h5,h⟩:=zB h;refine zo h5 (fun s=>⟨[An U,AA v2,AU U.length,AK s],[]⟩) (fun o=>match o with|.inl o6=>tX 0 ⟨[],[]⟩|.inr o7=>tY prog Tryz.f181 (.int .i64 o7)) ?_ ?_;clear h h5;intro _ x h;simp only[qd7]at h;refine M8 ?_;obtain⟨_,h⟩|⟨_,h⟩:=zI h;refine M9 ?_;refine M4 ?_;obtain⟨_,_,_,_,h⟩:=zX h;refine Mc ?_;obtain⟨_,h⟩|⟨_,h⟩:=zI h;refine Mb ?_;cases h;exact⟨rfl,zT results181⟩;refine Mf ?_;exact M0 h;exact M1 h;rcases o4 with⟨⟩|_;try simp only at h
 refine Me ?_;exact M2 h results181;exact Ma h
theorem qr4(U:List Int)(v2:Int)(r3:Bool)(h:qfv U v2=some r3):Con D prog 104 [(.slc (v8t (ucp .i64) U)),(.int .i64 v2)] (.bool r3):=by
 refine zP call104 func104 rfl ntmps104 fun X w hT=>?_;simp only[qfv]at h;refine Mm ?_;refine M4 ?_;refine zU ?_;obtain⟨_,h5,h⟩:=zB h;refine zc (quz U v2 _ h5) ?_;exact M2 h results104
noncomputable abbrev A9:=fun z=>((1,.p (.slc (v8t (ucp .i64) z))):Nat×AV)
theorem qyi(i1:Instance)(U:List Int)(r3:Int×Int)(h:qlt i1 U=some r3):Con D prog 50 [(qai i1),(.slc (v8t (ucp .i64) U))] (.tup [(.int .i64 r3.1),(.int .i64 r3.2)]):=by
 refine zP call50 func50 rfl ntmps50 fun X w hT=>?_;simp only[qlt]at h;refine Mm ?_;refine Md ?_;refine zU ?_;obtain⟨_,h5,h⟩:=zB h;refine zc (qix i1 _ h5) ?_;refine M4 ?_;refine Mc ?_;obtain⟨h6,h⟩|⟨h6,h⟩:=zI h;cases h;refine Mi ?_;refine M5 ?_;obtain⟨o7,h8,h⟩:=zB h;refine zo h8 (fun s=>⟨[A9 U,AB,AP s.1,(15,.p (.slc (v8t (ucp .i64) U))),(16,.p (.int .i64 (U.length:Int))),(17,.p (.int .i64 s.2))],[(2,.arr 94 2 1 [.p (qai i1)])]⟩) (fun o=>match o with|.inl o9=>tX 0 ⟨[(7,.p (.int .i64 o9))],[]⟩|.inr ai=>tY prog Tryz.f50 (.tup [(.int .i64 ai.1),(.int .i64 ai.2)])) ?_ ?_;clear h h5 h6 h8;intro s x h;obtain⟨_,al⟩:=s;simp only[qim]at h;dsimp only;refine M8 ?_;obtain⟨_,h⟩|⟨_,h⟩:=zI h;refine M9 ?_;obtain⟨am,_,_,_,h⟩:=zX h;refine Md ?_;refine zU ?_;obtain⟨_,h⟩|⟨_,h⟩:=zI h;cases h;refine zw 24 false ?_;refine M7 ?_;refine Mn ?_;refine zU ?_;obtain⟨_,h⟩|⟨_,h⟩:=zI h;cases h;refine zw 31 false ?_;refine Mn ?_;obtain⟨_,h⟩:=qac h;obtain⟨_,h⟩:=qac h;refine Mn ?_;obtain⟨_,ap,h⟩:=zB h;refine zc (qr4 (U.take (al.toNat)) am _ ap) ?_;refine Mc ?_;obtain⟨_,h⟩|⟨_,h⟩:=zI h;cases h;refine zj<|zk<|zn<|zr ?_;obtain⟨_,_,_,_,h⟩:=zX h;refine Mk ?_;exact M0 h;exact M1 h;rcases o7 with _|_;try simp only at h
 refine Me ?_;exact M2 h results50;exact Ma h
noncomputable abbrev BA:=fun z=>((0,.p (.slc (v8t (qal (ucp .i64)) z))):Nat×AV)
theorem qku(U:List (List Int))(f2:(List Int)->Option (Bool))(f2_k:FuncId)(f2_cs:List PV)(f2_h:∀(y3:List Int) (r4:Bool),f2 y3=some r4->Con D prog f2_k ((.slc (v8t (ucp .i64) y3))::f2_cs) (.bool r4))(r5:Int)(h:qcg U f2=some r5):Con D prog 241 [(.slc (v8t (qal (ucp .i64)) U)),.func (.func f2_k) f2_cs] (.int .i64 r5):=by
 refine zP call241 func241 rfl ntmps241 fun X w hT=>?_;simp only[qcg]at h;refine Mm ?_;refine M5 ?_;obtain⟨o6,h7,h⟩:=zB h;refine zo h7 (fun s=>⟨[BA U,(1,.p (.func (.func f2_k) f2_cs)),AU U.length,AK s],[]⟩) (fun o=>match o with|.inl o8=>tX 0 ⟨[],[]⟩|.inr o9=>tY prog Tryz.f241 (.int .i64 o9)) ?_ ?_;clear h h7;intro _ x h;simp only[qa9]at h;refine M8 ?_;obtain⟨_,h⟩|⟨_,h⟩:=zI h;refine M9 ?_;refine M4 ?_;obtain⟨ak,_,_,_,h⟩:=zX h;refine zU ?_;obtain⟨_,al,h⟩:=zB h;refine zc (f2_h ak _ al) ?_;refine Tp ?_;obtain⟨_,h⟩|⟨_,h⟩:=zI h;refine Mb ?_;cases h;exact⟨rfl,zT results241⟩;refine Mf ?_;exact M0 h;exact M1 h;rcases o6 with⟨⟩|_;try simp only at h
 refine Me ?_;exact M2 h results241;exact Ma h
theorem qn5(U:List (List Int))(f2:(List Int)->Option (Bool))(f2_k:FuncId)(f2_cs:List PV)(f2_h:∀(y3:List Int) (r4:Bool),f2 y3=some r4->Con D prog f2_k ((.slc (v8t (ucp .i64) y3))::f2_cs) (.bool r4))(r5:Bool)(h:qce U f2=some r5):Con D prog 182 [(.slc (v8t (qal (ucp .i64)) U)),.func (.func f2_k) f2_cs] (.bool r5):=by
 refine zP call182 func182 rfl ntmps182 fun X w hT=>?_;simp only[qce]at h;refine Mm ?_;refine M4 ?_;refine zU ?_;obtain⟨_,h7,h⟩:=zB h;refine zc (qku U f2 f2_k f2_cs f2_h _ h7) ?_;exact M2 h results182
theorem qr5(v1:Int)(U:Hitset_search)(c3:Int)(r4:Bool)(h:qd8 v1 U c3=some r4):Con D prog 242 [(.int .i64 v1),.imm [.imm [.slc (v8t (ucp .i64) U.in_.Weights),.slc (v8t (qal (ucp .i64)) U.in_.Edges),.slc (v8t (ucp .i64) U.marks),.int .i64 U.left]],.imm [.int .i64 c3]] (.bool r4):=by
 refine zP call242 func242 rfl ntmps242 fun X w hT=>?_;simp only[qd8]at h;refine Mm ?_;refine Mu ?_;obtain⟨_,_,_,_,h⟩:=zX h;exact Mp h results242
theorem qdh(U:Hitset_search)(e2:List Int)(m3:Int)(r4:Bool)(h:qbd U e2 m3=some r4):Con D prog 184 [(.imm [.slc (v8t (ucp .i64) U.in_.Weights),.slc (v8t (qal (ucp .i64)) U.in_.Edges),.slc (v8t (ucp .i64) U.marks),.int .i64 U.left]),(.slc (v8t (ucp .i64) e2)),(.int .i64 m3)] (.bool r4):=by
 refine zP call184 func184 rfl ntmps184 fun X w hT=>?_;simp only[qbd]at h;refine Mm ?_;refine M4 ?_;refine zU ?_;obtain⟨_,h6,h⟩:=zB h;refine zc (qjy e2 (fun(y7:Int)=>qd8 y7 U m3) 242 [.imm [.imm [.slc (v8t (ucp .i64) U.in_.Weights),.slc (v8t (qal (ucp .i64)) U.in_.Edges),.slc (v8t (ucp .i64) U.marks),.int .i64 U.left]],.imm [.int .i64 m3]] (fun y7 r h=>qr5 y7 U m3 r h) _ h6) ?_;exact M2 h results184
theorem qq5(e1:List Int)(U:Hitset_search)(r3:Bool)(h:qct e1 U=some r3):Con D prog 183 [(.slc (v8t (ucp .i64) e1)),.imm [.imm [.slc (v8t (ucp .i64) U.in_.Weights),.slc (v8t (qal (ucp .i64)) U.in_.Edges),.slc (v8t (ucp .i64) U.marks),.int .i64 U.left]]] (.bool r3):=by
 refine zP call183 func183 rfl ntmps183 fun X w hT=>?_;simp only[qct]at h;refine Mm ?_;refine M4 ?_;refine zU ?_;obtain⟨_,h5,h⟩:=zB h;refine zc (qdh U e1 1 _ h5) ?_;refine zU ?_;obtain⟨_,h⟩|⟨_,h⟩:=zI h;refine zw 8 false ?_;refine zh ?_;exact M2 h results183;refine zw 8 true ?_;refine Mn ?_;obtain⟨_,h8,h⟩:=zB h;replace h:=h.symm;refine zc (qdh U e1 0 _ h8) ?_;refine zg ?_;exact M2 h results183
theorem qja(U:Hitset_search)(r2:Bool)(h:qdm U=some r2):Con D prog 106 [(.imm [.slc (v8t (ucp .i64) U.in_.Weights),.slc (v8t (qal (ucp .i64)) U.in_.Edges),.slc (v8t (ucp .i64) U.marks),.int .i64 U.left])] (.bool r2):=by
 refine zP call106 func106 rfl ntmps106 fun X w hT=>?_;simp only[qdm]at h;refine Mm ?_;refine M4 ?_;refine zU ?_;obtain⟨_,h4,h⟩:=zB h;refine zc (qn5 U.in_.Edges (fun(y5:List Int)=>qct y5 U) 183 [.imm [.imm [.slc (v8t (ucp .i64) U.in_.Weights),.slc (v8t (qal (ucp .i64)) U.in_.Edges),.slc (v8t (ucp .i64) U.marks),.int .i64 U.left]]] (fun y5 r h=>qq5 y5 U r h) _ h4) ?_;exact M2 h results106
noncomputable abbrev BB:=fun z y x w=>((0,.p (.imm [.slc (v8t (ucp .i64) z),.slc (v8t (qal (ucp .i64)) y),.slc (v8t (ucp .i64) x),.int .i64 w])):Nat×AV)
noncomputable abbrev BC:=fun z=>((19,.p (.slc (v8t (qal (ucp .i64)) z))):Nat×AV)
noncomputable abbrev BD:=fun z=>((20,.p (.int .i64 (z:Int))):Nat×AV)
noncomputable abbrev BE:=fun z=>((21,.p (.int .i64 z)):Nat×AV)
noncomputable abbrev BF:=fun z=>((14,.arr 3 1 1 (v8t AV.p (v8t (ucp .i64) z))):Nat×AO)
noncomputable abbrev BG:=fun z=>((30,.p (.int .i64 z)):Nat×AV)
theorem qlj(U:Hitset_search)(r2:Int)(h:qdu U=some r2):Con D prog 108 [(.imm [.slc (v8t (ucp .i64) U.in_.Weights),.slc (v8t (qal (ucp .i64)) U.in_.Edges),.slc (v8t (ucp .i64) U.marks),.int .i64 U.left])] (.int .i64 r2):=by
 refine zP call108 func108 rfl ntmps108 fun X w hT=>?_;simp only[qdu]at h;refine Mm ?_;refine M4 ?_;obtain⟨h3,h⟩:=qac h;obtain⟨h4,h⟩:=qac h;refine M4 ?_;refine M5 ?_;obtain⟨_,h6,h⟩:=zB h;refine zo h6 (fun s=>⟨[BB U.in_.Weights U.in_.Edges U.marks U.left,(3,.own 14 1 0 s.1.length),AN s.2.1,BC U.in_.Edges,BD U.in_.Edges.length,BE s.2.2],[BF s.1]⟩) (fun o7=>tX 0 ⟨[AN o7],[]⟩) ?_ ?_;clear h h3 h4 h6;intro s x h;obtain⟨_,_,ah⟩:=s;simp only[qdn]at h;dsimp only;refine M8 ?_;obtain⟨ai,h⟩|⟨ai,h⟩:=zI h;refine M9 ?_;obtain⟨ab,ar,au,av,h⟩:=zX h;refine Md ?_;refine zU ?_;obtain⟨_,aj,h⟩:=zB h;refine zc (qdh U ab 1 _ aj) ?_;refine Tp ?_;obtain⟨ak,h⟩|⟨ak,h⟩:=zI h;refine T4 ?_;exact M0 h;refine Mi ?_;refine Mo ?_;obtain⟨aw,al,h⟩:=zB h;refine zo al (fun s=>⟨[BB U.in_.Weights U.in_.Edges U.marks U.left,(3,.own 14 1 0 s.1.length),AN s.2.1,BC U.in_.Edges,BD U.in_.Edges.length,BE ah,(28,.p (.slc (v8t (ucp .i64) ab))),(29,.p (.int .i64 (ab.length:Int))),BG s.2.2],[BF s.1]⟩) (fun ac=>tX 2 ⟨[BB U.in_.Weights U.in_.Edges U.marks U.left,(3,.own 14 1 0 ac.1.length),AN ac.2,BC U.in_.Edges,BD U.in_.Edges.length,BE ah],[BF ac.1]⟩) ?_ ?_;clear h ai ar au av aj ak al;intro s x h;obtain⟨_,_,_⟩:=s;simp only[qco]at h;dsimp only;refine M8 ?_;obtain⟨_,h⟩|⟨_,h⟩:=zI h;refine M9 ?_;obtain⟨_,_,_,_,h⟩:=zX h;refine Md ?_;obtain⟨_,_,_,_,h⟩:=zX h;refine Mc ?_;obtain⟨_,h⟩|⟨_,h⟩:=zI h;refine T4 ?_;exact M0 h;refine Mi ?_;obtain⟨_,_,_,_,h⟩:=zX h;refine Mu ?_;refine yU ?_;obtain⟨_,h⟩|⟨_,h⟩:=zI h;refine yw 50 true ?_;refine yk ?_;refine Mr ?_;refine Tj ?_;refine Mk ?_;exact M0 h;refine yw 50 false ?_;refine T1 ?_;obtain⟨_,_,_,ax,h⟩:=zX h;have az:=eq_true (by simpa only[v6f] using ax);refine Mg ?_;refine yg ?_;obtain⟨_,_,_,ay,h⟩:=zX h;have ba:=eq_true (by simpa only[v6f] using ay);refine Mg ?_;refine Mr ?_;obtain⟨_,h⟩|⟨_,h⟩:=zI h;refine Tj ?_;refine Mk ?_;exact M0 h;refine Mf ?_;exact M0 h;exact M1 h;obtain⟨_,_⟩:=aw;try simp only at h
 refine Mx ?_;exact M0 h;exact M1 h;try simp only at h
 refine Me ?_;exact M2 h results108
noncomputable abbrev BH:=fun z=>((31,.arr 150 2 1 [.p (qak z)]):Nat×AO)
noncomputable abbrev BI:=fun z=>((55,.arr 3 1 1 (v8t AV.p (v8t (ucp .i64) z))):Nat×AO)
noncomputable abbrev BJ:=fun z y x w=>((58,.arr 222 4 1 [.agg [.p (.slc (v8t (ucp .i64) z)),.p (.slc (v8t (qal (ucp .i64)) y)),.own 55 1 0 x,.p (.int .i64 w)]]):Nat×AO)
noncomputable abbrev BK:=((0,.loc 58 1 0 0):Nat×AV)
noncomputable abbrev BL:=((1,.loc 31 1 0 0):Nat×AV)
noncomputable abbrev BM:=fun z y x w=>((58,.arr 222 4 1 [.agg [.p (.slc (v8t (ucp .i64) z)),.p (.slc (v8t (qal (ucp .i64)) y)),.own 55 1 0 x,.p (.int .i64 (v96.wrap (w-1)))]]):Nat×AO)
noncomputable abbrev BN:=fun z=>((266,.arr 2 1 1 (v8t AV.p (v8t (ucp .i64) z))):Nat×AO)
noncomputable abbrev BO:=fun z=>((5,.own 254 1 0 z):Nat×AV)
noncomputable abbrev BP:=fun z=>((24,.p (.slc (v8t (qal (ucp .i64)) z))):Nat×AV)
noncomputable abbrev BQ:=fun z=>((25,.p (.int .i64 (z:Int))):Nat×AV)
noncomputable abbrev BR:=fun z=>((26,.p (.int .i64 z)):Nat×AV)
noncomputable abbrev BS:=fun z=>((254,.arr 305 2 1 (v8t AV.p (v8t qcd z))):Nat×AO)
noncomputable abbrev BT:=fun z=>((8,.p (.slc (v8t (ucp .i64) z))):Nat×AV)
noncomputable abbrev BU:=fun z=>((47,.p (.int .i64 z)):Nat×AV)
noncomputable abbrev Eh:=fun z y x w v=>([BH z,BI y,BJ x w (List.length y) v]:List (Nat×AO))
noncomputable abbrev Ei:=fun z y x w v=>([BH z,BI y,BM x w (List.length y) v]:List (Nat×AO))
noncomputable abbrev Ej:=fun z y x w v u t=>([BH z,BI y,BM x w (List.length y) v,BS u,BN t]:List (Nat×AO))
noncomputable abbrev Ek:=fun z y x w v u=>([(31,.arr 150 2 1 [.agg [.own 120 1 0 (List.length z),.p (.int .i64 y)]]),BI x,BM w v (List.length x) u,(120,.arr 3 1 1 (v8t AV.p (v8t (ucp .i64) z)))]:List (Nat×AO))
noncomputable abbrev El:=fun z y x=>([BK,BL,A2 z,A4 y,(71,.loc 58 1 0 0),(72,.loc 31 1 0 0),(82,.p (.int .i64 (v96.wrap (z+x))))]:List (Nat×AV))
noncomputable abbrev Em:=fun z y=>([BK,A4 z,(91,.p (.bool true)),(92,.loc 58 1 0 0),(93,.loc 31 1 0 0),(94,.p (.int .i64 y))]:List (Nat×AV))
theorem qu0(U:Instance)(r2:(List Int×Int×Hitset_best×Int)->Option (Bool×Hitset_best×List Int×Int))(bv:∀(s3:List Int) (s4:Int) (b5:Hitset_best) (w6:Int) (t7:Bool) (b8:Hitset_best) (b9:List Int) (aw:Int),r2 (s3,s4,b5,w6)=some (t7,b8,b9,aw)->Ip D prog 52 [.loc 58 1 0 0,.loc 31 1 0 0,.p (.int .i64 w6)] (Eh b5 s3 U.Weights U.Edges s4) (.p (.bool t7)) (Eh b8 b9 U.Weights U.Edges aw))(s3:List Int)(s4:Int)(b5:Hitset_best)(w6:Int)(t7:Bool)(b8:Hitset_best)(b9:List Int)(aw:Int)(h:qfl U r2 (s3,s4,b5,w6)=some (t7,b8,b9,aw)):Ip D prog 52 [.loc 58 1 0 0,.loc 31 1 0 0,.p (.int .i64 w6)] (Eh b5 s3 U.Weights U.Edges s4) (.p (.bool t7)) (Eh b8 b9 U.Weights U.Edges aw):=by
 simp only[qfl]at h;refine Ip.of_awp2 59 ⟨[(6,.p (.bool t7))],Eh b8 b9 U.Weights U.Edges aw⟩ call52 func52 rfl ntmps52 (by simp) (by simp only[results52];simp only[go_sem,seval];all_goals exact rfl) fun X bw bx bz=>?_
 show AWp _ _ _ ⟨[BK,BL,A2 w6],Eh b5 s3 U.Weights U.Edges s4⟩;refine Mm ?_;refine Md ?_;refine zU ?_;refine zM ⟨[BK,BL,A2 w6,(13,.loc 58 1 0 0)],Eh b5 s3 U.Weights U.Edges s4⟩ ?_;refine qbb (avs:=[.loc 58 1 0 0]) 163 rfl (qao rfl) rfl func105 rfl call105 ntmps105 (by simp) (by simp only[go_sem,seval];all_goals rfl) ?_
 intro _ _ _;show AWp _ _ _ ⟨[BK],Eh b5 s3 U.Weights U.Edges s4⟩;refine Mm ?_;refine M4 ?_;refine M4 ?_;refine Mt ?_;refine qa5 (by simp only[results105];simp only[go_sem,seval];exact rfl) ?_;refine Mc ?_;obtain⟨ax,h⟩|⟨ax,h⟩:=zI h;have aj:=eq_true ax;refine Mj ?_;refine zU ?_;obtain⟨_,bf,h⟩:=zB h;refine zc (qja (Hitset_search.mk U s3 (v96.wrap (s4-1))) _ bf) ?_;refine Tp ?_;obtain⟨bc,h⟩|⟨bc,h⟩:=zI h;refine Mq ?_;cases h;refine⟨.inr rfl,?_⟩;exact zV;have ak:=v78.2 bc;refine Mj ?_;refine zU ?_;refine zM ⟨[BK,BL,A2 w6,(19,.loc 58 1 0 0)],Ei b5 s3 U.Weights U.Edges s4⟩ ?_;refine qbb (avs:=[.loc 58 1 0 0]) 178 rfl (qao rfl) rfl func107 rfl call107 ntmps107 (by simp) (by simp only[go_sem,seval,aj,ak];all_goals rfl) ?_
 intro bg bh bi;show AWp _ _ _ ⟨[BK],Ei b5 s3 U.Weights U.Edges s4⟩;refine Mm ?_;refine M4 ?_;refine zU ?_;obtain⟨aq,h⟩:=qac h;refine zM ⟨[BK,(18,.p (.slc (v8t (ucp .i64) U.Weights)))],Ei b5 s3 U.Weights U.Edges s4⟩ ?_;refine qbb (avs:=[.p (.slc (v8t (ucp .i64) U.Weights))]) 261 rfl (qao rfl) rfl func63 rfl call63 ntmps63 (by simp) (by simp only[go_sem,seval,aj,ak,aq];all_goals rfl) ?_
 intro da db dc;refine qwl (T:=fun e s'=>(e=.normal\/e=.ret)/\Le ⟨prog,8,261,X,Ei b5 s3 U.Weights U.Edges s4,da,db,D,dc⟩ s' ⟨[(2,.own 266 1 0 (U.Weights).length)],[BH b5,BI s3,BM U.Weights U.Edges s3.length s4,BN U.Weights]⟩) ?_ ?_;show AWp _ _ _ ⟨[An U.Weights],Ei b5 s3 U.Weights U.Edges s4⟩;refine Mm ?_;refine Md ?_;refine zW 1 ?_;refine qwm (by simp only[go_sem,seval,aj,ak,aq];exact rfl) (by simp only[go_sem,seval,aj,ak,aq]) underlying44 rfl ?_;intro b hb;refine Tp ?_;cases b;refine Mi ?_;refine Mt ?_;refine⟨.inr rfl,?_⟩;exact zV;refine zi ?_;have di:U.Weights=[]:=by
   rcases hz:U.Weights with _|⟨x,z⟩
   · rfl
   · rw[hz]at hb;exact absurd (hb (by simp)) (by simp)
 refine Mm ?_;refine T5 ?_;refine⟨.inr rfl,?_⟩;exact zV;intro e s' hT;obtain⟨he,hle⟩:=hT;refine Wk.to hle ?_;refine q4t he (by simp only[results63];simp only[go_sem,seval,aj,ak,aq];exact rfl) ?_;clear hle he;refine M4 ?_;refine M4 ?_;refine M5 ?_;obtain⟨de,bj,h⟩:=zB h;refine zo bj (fun s=>⟨[BK,(4,.own 266 1 0 s.1.length),BO s.2.1.length,AG s.2.2.1,BP U.Edges,BQ U.Edges.length,BR s.2.2.2],Ej b5 s3 U.Weights U.Edges s4 s.2.1 s.1⟩) (fun bm=>tX 0 ⟨[BO bm.1.length,AG bm.2],[BH b5,BI s3,BM U.Weights U.Edges s3.length s4,BS bm.1]⟩) ?_ ?_;clear h ax aj bf bc ak aq bj;intro s x h;obtain⟨bd,al,be,am⟩:=s;simp only[qdo]at h;dsimp only;refine M8 ?_;obtain⟨bn,h⟩|⟨bn,h⟩:=zI h;refine M9 ?_;obtain⟨ar,ca,cc,cd,h⟩:=zX h;refine Md ?_;refine zU ?_;obtain⟨_,bo,h⟩:=zB h;refine zc (qdh (Hitset_search.mk U s3 (v96.wrap (s4-1))) ar 1 _ bo) ?_;refine Tp ?_;obtain⟨bp,h⟩|⟨bp,h⟩:=zI h;refine T4 ?_;exact M0 h;refine Mi ?_;refine M5 ?_;obtain⟨ce,bq,h⟩:=zB h;refine zo bq (fun s=>⟨[BK,(4,.own 266 1 0 bd.length),BO al.length,AG be,AP am,BT ar,A4 s.1,BP U.Edges,BQ U.Edges.length,BR am,(34,.p (.slc (v8t (ucp .i64) ar))),(35,.p (.int .i64 (ar.length:Int))),(36,.p (.int .i64 s.2))],Ej b5 s3 U.Weights U.Edges s4 al bd⟩) (fun df=>tX 2 ⟨[BK,(4,.own 266 1 0 bd.length),BO al.length,AG be,AP am,BT ar,A4 df,BP U.Edges,BQ U.Edges.length,BR am],Ej b5 s3 U.Weights U.Edges s4 al bd⟩) ?_ ?_;clear h bn ca cc cd bo bp bq;intro s x h;obtain⟨_,_⟩:=s;simp only[qes]at h;dsimp only;refine M8 ?_;obtain⟨_,h⟩|⟨_,h⟩:=zI h;refine M9 ?_;obtain⟨_,_,_,_,h⟩:=zX h;refine M4 ?_;obtain⟨_,_,_,_,h⟩:=zX h;refine Mc ?_;obtain⟨_,h⟩|⟨_,h⟩:=zI h;refine Tj ?_;obtain⟨_,_,_,_,h⟩:=zX h;refine Mk ?_;exact M0 h;refine Mf ?_;exact M0 h;exact M1 h;try simp only at h
 refine My ?_;refine Mc ?_;obtain⟨cg,h⟩|⟨cg,h⟩:=zI h;refine T4 ?_;exact M0 h;refine Mj ?_;refine Mo ?_;obtain⟨_,ch,h⟩:=zB h;refine zo ch (fun s=>⟨[BK,(4,.own 266 1 0 s.1.length),BO al.length,AG be,AP am,A4 ce,BP U.Edges,BQ U.Edges.length,BR am,(57,.p (.slc (v8t (ucp .i64) ar))),(58,.p (.int .i64 (ar.length:Int))),(59,.p (.int .i64 s.2))],Ej b5 s3 U.Weights U.Edges s4 al s.1⟩) (fun ci=>tX 4 ⟨[BK,(4,.own 266 1 0 ci.length),BO al.length,AG be,AP am,A4 ce,BP U.Edges,BQ U.Edges.length,BR am],Ej b5 s3 U.Weights U.Edges s4 al ci⟩) ?_ ?_;clear h bn ca cc cd bo bp bq cg ch;intro s x h;obtain⟨_,_⟩:=s;simp only[qet]at h;dsimp only;refine M8 ?_;obtain⟨_,h⟩|⟨_,h⟩:=zI h;refine M9 ?_;obtain⟨_,_,_,_,h⟩:=zX h;refine Mv ?_;obtain⟨_,_,_,_,h⟩:=zX h;refine Mk ?_;exact M0 h;exact M1 h;try simp only at h
 refine Me ?_;obtain⟨_,h⟩:=qac h;refine Mv ?_;refine Mk ?_;exact M0 h;exact M1 h;obtain⟨_,_⟩:=de;try simp only at h
 refine Me ?_;refine Mt ?_;refine qa5 (by simp only[results107];simp only[go_sem,seval,aj,ak,aq];exact rfl) ?_;refine M4 ?_;refine Mc ?_;obtain⟨cj,h⟩|⟨cj,h⟩:=zI h;refine Mq ?_;cases h;refine⟨.inr rfl,?_⟩;exact zV;refine Mi ?_;refine zU ?_;obtain⟨ah,cl,h⟩:=zB h;refine zc (qlj (Hitset_search.mk U s3 (v96.wrap (s4-1))) _ cl) ?_;refine Md ?_;refine Mc ?_;obtain⟨co,h⟩|⟨co,h⟩:=zI h;refine T0 ?_;refine M5 ?_;obtain⟨_,cq,h⟩:=zB h;refine zo cq (fun s=>⟨[BL,(45,.own 55 1 0 s3.length),(46,.p (.int .i64 ((s3.length:Nat):Int))),BU s.2],Ek s.1 w6 s3 U.Weights U.Edges s4⟩) (fun cr=>tX 0 ⟨[],Ek cr w6 s3 U.Weights U.Edges s4⟩) ?_ ?_;clear h ax aj bf bc ak aq bj cj cl co cq;intro s x h;obtain⟨_,_⟩:=s;simp only[qeu]at h;dsimp only;refine M8 ?_;obtain⟨_,h⟩|⟨_,h⟩:=zI h;refine M9 ?_;obtain⟨_,_,_,_,h⟩:=zX h;refine M4 ?_;refine Mc ?_;obtain⟨_,h⟩|⟨_,h⟩:=zI h;refine Tj ?_;obtain⟨_,h⟩:=qac h;refine Mk ?_;exact M0 h;refine Mf ?_;exact M0 h;exact M1 h;try simp only at h
 refine Me ?_;refine T5 ?_;cases h;refine⟨.inr rfl,?_⟩;exact zV;refine Mi ?_;obtain⟨_,_,_,_,h⟩:=zX h;refine M4 ?_;obtain⟨br,_,_,_,h⟩:=zX h;refine zU ?_;refine zM ⟨El w6 ah br,[BH b5,BI (s3.set ah.toNat 1),BM U.Weights U.Edges ((s3.set ah.toNat 1)).length s4]⟩ ?_;refine zM ⟨El w6 ah br,[BH b5,BI (s3.set ah.toNat 1),BM U.Weights U.Edges ((s3.set ah.toNat 1)).length s4]⟩ ?_;obtain⟨dg,ct,h⟩:=zB h;obtain⟨cu,ay,ap,az⟩:=dg;try simp only at h
 refine zIp [] (bv (s3.set ah.toNat 1) (v96.wrap (s4-1)) b5 (v96.wrap (w6+br)) cu ay ap az ct) ?_;clear ct;refine zM ⟨[BK,BL,A2 w6,A4 ah,(83,.p (.bool cu))],Eh ay ap U.Weights U.Edges az⟩ ?_;refine M4 ?_;obtain⟨_,_,_,_,h⟩:=zX h;refine Mc ?_;obtain⟨cv,cw,h⟩:=zB h;refine zJ (fun(ba:List Int×Int×Bool×Hitset_best)=>tE ⟨prog,104,59,X,Eh b5 s3 U.Weights U.Edges s4,bw,bx,D,bz⟩ .normal ⟨[BK,A4 ah,(12,.p (.bool ba.2.2.1))],Eh ba.2.2.2 ba.1 U.Weights U.Edges ba.2.1⟩) cv ?_ ?_;replace h:=cw;clear cw;refine Tn ?_;obtain⟨_,h⟩|⟨_,h⟩:=zI h;refine zw 91 true ?_;refine M7 ?_;refine zM ⟨Em ah w6,[BH ay,BI (ap.set ah.toNat 2),BJ U.Weights U.Edges ((ap.set ah.toNat 2)).length az]⟩ ?_;refine zM ⟨Em ah w6,[BH ay,BI (ap.set ah.toNat 2),BJ U.Weights U.Edges ((ap.set ah.toNat 2)).length az]⟩ ?_;obtain⟨dh,cx,h⟩:=zB h;obtain⟨cy,cz,bt,c9⟩:=dh;try simp only at h
 refine zIp [] (bv (ap.set ah.toNat 2) az ay w6 cy cz bt c9 cx) ?_;clear cx;refine zM ⟨[BK,A4 ah,(91,.p (.bool true)),(95,.p (.bool cy))],Eh cz bt U.Weights U.Edges c9⟩ ?_;exact M0 h;refine zw 91 false ?_;refine zh ?_;exact M0 h;obtain⟨_,_,_,_⟩:=cv;try simp only at h
 refine zA<|zn<|zs<|zr ?_;obtain⟨_,_,_,_,h⟩:=zX h;refine M4 ?_;refine Mt ?_;cases h;refine⟨.inr rfl,?_⟩;exact zV;have aj:=eq_false ax;refine Mq ?_;cases h;refine⟨.inr rfl,?_⟩;exact zV
theorem qt4(in_5775:Instance)(n:Nat):∀(U:List Int) (ac:Int) (ae:Hitset_best) (weight_7054:Int) (t6_7047:Bool) (ag:Hitset_best) (ab:List Int) (ah:Int),q8a (qfl in_5775) n (U,ac,ae,weight_7054)=some (t6_7047,ag,ab,ah)->Ip D prog 52 [.loc 58 1 0 0,.loc 31 1 0 0,.p (.int .i64 weight_7054)] (Eh ae U in_5775.Weights in_5775.Edges ac) (.p (.bool t6_7047)) (Eh ag ab in_5775.Weights in_5775.Edges ah):=by
  induction n with
  |zero=>intro U ac ae weight_7054 t6_7047 ag ab ah h;cases h
  |succ n ih=>intro U ac ae weight_7054 t6_7047 ag ab ah h;exact qu0 in_5775 _ ih U ac ae weight_7054 t6_7047 ag ab ah h
noncomputable abbrev BV:=fun z y=>((31,.arr 150 2 1 [.p (.agg [.slc (v8t (ucp .i64) z),.int .i64 y])]):Nat×AO)
noncomputable abbrev En:=([(11,.loc 31 1 0 0),(34,.loc 58 1 0 0),(35,.loc 31 1 0 0)]:List (Nat×AV))
theorem qpv(U:Instance)(b2:Int)(r3:List Int×Int×Int)(h:qg5 U b2=some r3):Con D prog 19 [(qai U),(.int .i64 b2)] (.tup [(.slc (v8t (ucp .i64) r3.1)),(.int .i64 r3.2.1),(.int .i64 r3.2.2)]):=by
 refine zP call19 func19 rfl ntmps19 fun X w hT=>?_;simp only[qg5]at h;refine Mm ?_;refine M4 ?_;refine zU ?_;obtain⟨r4,h5,h⟩:=zB h;refine zc (qyh U _ h5) ?_;refine Md ?_;refine Mc ?_;obtain⟨h6,h⟩|⟨h6,h⟩:=zI h;exact M6 h results19;have ak:=v78.2 h6;refine Mj ?_;refine Mc ?_;obtain⟨h7,h⟩|⟨h7,h⟩:=zI h;have ai:=eq_true h7;exact M6 h results19;have ai:=eq_false h7;refine Mi ?_;refine zU ?_;obtain⟨r8,h9,h⟩:=zB h;refine zc (qyi U r4.1 _ h9) ?_;refine M4 ?_;refine Md ?_;refine zU ?_;refine zM ⟨[(11,.loc 31 1 0 0),(32,.p (qai U)),(33,.p (.int .i64 b2))],[BV r4.1 r8.1]⟩ ?_;refine qbb (avs:=[.p (qai U),.p (.int .i64 b2)]) 46 rfl (qao rfl) rfl func51 rfl call51 ntmps51 (by simp) (by simp only[go_sem,seval,ak,ai];all_goals rfl) ?_
 intro _ _ _;show AWp _ _ _ ⟨[(0,.p (qai U)),AA b2],[BV r4.1 r8.1]⟩;refine Mm ?_;refine Mu ?_;obtain⟨_,h⟩:=qac h;obtain⟨_,h⟩:=qac h;refine yU ?_;refine yd<|zn<|zq ?_;refine qa5 (by simp only[results51];simp only[go_sem,seval,ak,ai];exact rfl) ?_;refine zU ?_;refine zM ⟨En,[BV r4.1 r8.1,(55,.arr 3 1 1 (v8t AV.p (v8t (ucp .i64) (v6u U.Weights.length 0)))),BJ U.Weights U.Edges ((v6u U.Weights.length 0)).length b2]⟩ ?_;refine zM ⟨En,[(31,.arr 150 2 1 [.p (qak (Hitset_best.mk r4.1 r8.1))]),(55,.arr 3 1 1 (v8t AV.p (v8t (ucp .i64) (v6u U.Weights.length 0)))),BJ U.Weights U.Edges ((v6u U.Weights.length 0)).length b2]⟩ ?_;obtain⟨au,al,h⟩:=zB h;obtain⟨am,ap,av,aw⟩:=au;try simp only at h
 refine zIp [] (qt4 U 64 (v6u U.Weights.length 0) b2 (Hitset_best.mk r4.1 r8.1) 0 am ap av aw al) ?_;clear al;refine zM ⟨[(11,.loc 31 1 0 0),(36,.p (.bool am))],[BH ap]⟩ ?_;refine Mc ?_;obtain⟨_,h⟩|⟨_,h⟩:=zI h;refine Tg ?_;exact Mp h results19;exact M6 h results19
noncomputable abbrev BW:=fun z=>((10,.p (.int .i64 z)):Nat×AV)
theorem qbe(U:List CellRef)(t2:CellRef)(c3:CellRef->CellRef->Option (Int))(c3_k:FuncId)(c3_cs:List PV)(c3_h:∀(y4:CellRef) (y5:CellRef) (r6:Int),c3 y4 y5=some r6->Con D prog c3_k ((qaa y4)::(qaa y5)::c3_cs) (.int .i64 r6))(r7:Int×Bool)(h:qaw U t2 c3=some r7):Con D prog 31 [(.slc (v8t qaa U)),(qaa t2),.func (.func c3_k) c3_cs] (.tup [(.int .i64 r7.1),(.bool r7.2)]):=by
 refine zP call31 func31 rfl ntmps31 fun X w hT=>?_;simp only[qaw]at h;refine Mm ?_;refine M4 ?_;refine M4 ?_;refine Tl ?_;obtain⟨_,h9,h⟩:=zB h;refine zo h9 (fun s=>⟨[Ad U,(2,.p (.func (.func c3_k) c3_cs)),AC,(8,.p (.int .i64 (U.length:Int))),A4 s.1,BW s.2],[(4,.arr 100 2 1 [.p (qaa t2)])]⟩) (fun ak=>tX 0 ⟨[Ad U,(2,.p (.func (.func c3_k) c3_cs)),AC,(8,.p (.int .i64 (U.length:Int))),A4 ak],[(4,.arr 100 2 1 [.p (qaa t2)])]⟩) ?_ ?_;clear h h9;intro s x h;obtain⟨_,_⟩:=s;simp only[qbq]at h;refine Mw ?_;refine Mc ?_;obtain⟨_,h⟩|⟨_,h⟩:=zI h;refine Te ?_;refine Mu ?_;obtain⟨al,_,_,_,h⟩:=zX h;refine yU ?_;obtain⟨_,am,h⟩:=zB h;refine yc (c3_h al t2 _ am) ?_;refine Mr ?_;obtain⟨_,h⟩|⟨_,h⟩:=zI h;refine Tj ?_;refine zU<|zl<|yn ?_;exact Ms h;refine zj<|zr ?_;refine zU<|zl<|yn ?_;exact Ms h;exact M1 h;try simp only at h
 refine zA<|yh<|zn<|zs<|zd ?_;refine yU ?_;obtain⟨_,h⟩|⟨_,h⟩:=zI h;refine yw 39 true ?_;refine Mg ?_;obtain⟨ap,_,_,_,h⟩:=zX h;refine Mg ?_;obtain⟨_,aq,h⟩:=zB h;replace h:=h.symm;refine yc (c3_h ap t2 _ aq) ?_;refine yg ?_;exact Mp h results31;refine yw 39 false ?_;refine yk ?_;exact Mp h results31
theorem qb8(U:Update_entries)(i2:Int)(r3:Int)(h:qbn U i2=some r3):Con D prog 58 [(.imm [.int .i64 U.n,.slc (v8t (ucp .i64) U.parent),.slc (v8t qaf U.known)]),(.int .i64 i2)] (.int .i64 r3):=by
 refine zP call58 func58 rfl ntmps58 fun X w hT=>?_;simp only[qbn]at h;refine Mm ?_;refine Tl ?_;obtain⟨_,h5,h⟩:=zB h;refine zo h5 (fun s=>⟨[(0,.p (.imm [.int .i64 U.n,.slc (v8t (ucp .i64) U.parent),.slc (v8t qaf U.known)])),AA s],[]⟩) (fun o6=>tX 0 ⟨[AA o6],[]⟩) ?_ ?_;clear h h5;intro _ x h;simp only[qd2]at h;refine Tm ?_;obtain⟨_,_,_,_,h⟩:=zX h;refine Mc ?_;obtain⟨_,h⟩|⟨_,h⟩:=zI h;refine zi<|zk<|zn<|zb<|zr ?_;refine zU<|zl<|yn ?_;exact Ms h;exact M1 h;try simp only at h
 refine Me ?_;exact M2 h results58
theorem v49(a b:List UInt8)(w:World):(callFunc 244 #[.string ⟨a.toArray⟩,.string ⟨b.toArray⟩]).run prog w=.ok (.value (.int .i64 (Lib.compareBytes a b))) w:=by
  rw[run_callFunc_extern func244 (by kernel_rfl) (by kernel_rfl) (by kernel_rfl) (e:=Extern.BytealgCompare.compare) (by kernel_rfl),Lib.run_compareString];rfl
theorem qp8(U:List UInt8)(b2:List UInt8)(r3:Int)(h:qgx U b2=some r3):Con D prog 193 [(.str U),(.str b2)] (.int .i64 r3):=by
 refine zP call193 func193 rfl ntmps193 fun X w hT=>?_;simp only[qgx]at h;refine Mm ?_;refine M4 ?_;refine zU ?_;refine vu1 (v49 U b2) (by simp only[go_sem,seval];all_goals((repeat' refine uco ?_ ?_)<;>first|rfl|(simp;done)|(simp;rfl)|(simp[*];done)|(simp[*];rfl))) (by simp only[go_sem,seval];all_goals((repeat' refine uco ?_ ?_)<;>first|rfl|(simp;done)|(simp;rfl)|(simp[*];done)|(simp[*];rfl))) rfl ?_
 exact M2 h results193
theorem qvz(U:List UInt8)(b2:List UInt8)(r3:Int)(h:qjm U b2=some r3):Con D prog 128 [(.str U),(.str b2)] (.int .i64 r3):=by
 refine zP call128 func128 rfl ntmps128 fun X w hT=>?_;simp only[qjm]at h;refine Mm ?_;refine M4 ?_;refine zU ?_;obtain⟨_,h5,h⟩:=zB h;refine zc (qp8 U b2 _ h5) ?_;exact M2 h results128
theorem qh6(U:Value)(b2:Value)(r3:Int)(h:qfd U b2=some r3):Con D prog 71 [(qa2 U),(qa2 b2)] (.int .i64 r3):=by
 refine zP call71 func71 rfl ntmps71 fun X w hT=>?_;simp only[qfd]at h;refine Mm ?_;refine Mu ?_;refine yU ?_;obtain⟨r4,h5,h⟩:=zB h;refine yc (qos U.Kind b2.Kind _ h5) ?_;refine yU ?_;obtain⟨r6,h7,h⟩:=zB h;refine yc (qjx U.Num b2.Num _ h7) ?_;refine yU ?_;obtain⟨r8,h9,h⟩:=zB h;refine yc (qvz U.Str b2.Str _ h9) ?_;refine yU ?_;obtain⟨_,al,h⟩:=zB h;refine yc (qvb [r4,r6,r8] _ al) ?_;exact Mp h results71
theorem qr6(U:Update_entries)(i2:Int)(k3:Int)(r4:Bool)(h:qfw U i2 k3=some r4):Con D prog 185 [(.imm [.int .i64 U.n,.slc (v8t (ucp .i64) U.parent),.slc (v8t qaf U.known)]),(.int .i64 i2),(.int .i64 k3)] (.bool r4):=by
 refine zP call185 func185 rfl ntmps185 fun X w hT=>?_;simp only[qfw]at h;refine Mm ?_;refine M4 ?_;refine zU ?_;obtain⟨_,h6,h⟩:=zB h;refine zc (qb8 U i2 _ h6) ?_;refine zU ?_;obtain⟨_,h8,h⟩:=zB h;refine zc (qb8 U k3 _ h8) ?_;refine Mu ?_;refine yU ?_;obtain⟨_,h⟩|⟨_,h⟩:=zI h;refine yw 16 true ?_;refine yk ?_;exact Mp h results185;refine yw 16 false ?_;refine Mg ?_;refine T1 ?_;obtain⟨ag,_,_,_,h⟩:=zX h;refine T1 ?_;obtain⟨_,h⟩|⟨_,h⟩:=zI h;obtain⟨ak,_,h⟩:=zB h;refine M3 ?_;obtain⟨ah,_,_,_,h⟩:=zX h;refine T1 ?_;obtain⟨_,h⟩|⟨_,h⟩:=zI h;obtain⟨al,_,h⟩:=zB h;iterate 3 refine M3 ?_
 obtain⟨_,am,h⟩:=zB h;replace h:=h.symm;refine yc (qh6 ak al _ am) ?_;refine T1 ?_;exact Mp h results185;replace h:=h.symm;have ap:ah=none:=by cases hz:ah<;>simp_all
 refine Mg ?_;refine yk ?_;refine yg ?_;exact Mp h results185;replace h:=h.symm;have aq:ag=none:=by cases hz:ag<;>simp_all
 refine T1 ?_;refine yk ?_;refine T1 ?_;refine yk ?_;refine yg ?_;exact Mp h results185
noncomputable abbrev BX:=fun z=>((13,.p (.int .i64 z)):Nat×AV)
theorem qe5(U:Update_entries)(i2:Int)(k3:Int)(s4:Int)(r5:Bool)(h:qcb U i2 k3 s4=some r5):Con D prog 109 [(.imm [.int .i64 U.n,.slc (v8t (ucp .i64) U.parent),.slc (v8t qaf U.known)]),(.int .i64 i2),(.int .i64 k3),(.int .u32 s4)] (.bool r5):=by
 refine zP call109 func109 rfl ntmps109 fun X w hT=>?_;simp only[qcb]at h;refine Mm ?_;refine M5 ?_;obtain⟨o6,h7,h⟩:=zB h;refine zo h7 (fun s=>⟨[(0,.p (.imm [.int .i64 U.n,.slc (v8t (ucp .i64) U.parent),.slc (v8t qaf U.known)])),AA i2,A2 k3,(3,.p (.int .u32 s4)),BX U.n,(14,.p (.int .i64 s))],[]⟩) (fun o=>match o with|.inl o8=>tX 0 ⟨[],[]⟩|.inr o9=>tY prog Tryz.f109 (.bool o9)) ?_ ?_;clear h h7;intro ai x h;simp only[qdp]at h;refine M8 ?_;obtain⟨_,h⟩|⟨_,h⟩:=zI h;refine M9 ?_;refine Mu ?_;obtain⟨_,h⟩:=qhe h;refine yU ?_;obtain⟨_,h⟩|⟨_,h⟩:=zI h;refine yw 22 true ?_;refine M3 ?_;refine M3 ?_;refine Mg ?_;obtain⟨_,al,h⟩:=zB h;refine yc (qr6 U (v96.wrap ((v96.wrap (i2*U.n))+ai)) (v96.wrap ((v96.wrap (k3*U.n))+ai)) _ al) ?_;refine yg ?_;refine Mr ?_;obtain⟨_,h⟩|⟨_,h⟩:=zI h;refine Mf ?_;exact M0 h;refine Mb ?_;cases h;exact⟨rfl,zT results109⟩;refine yw 22 false ?_;refine yk ?_;refine Mr ?_;refine Mf ?_;exact M0 h;exact M1 h;rcases o6 with⟨⟩|_;try simp only at h
 refine Me ?_;exact M2 h results109;exact Ma h
noncomputable abbrev BY:=fun z=>((1,.p (.slc (v8t qa7 z))):Nat×AV)
noncomputable abbrev BZ:=fun z=>((12,.p (.int .i64 (z:Int))):Nat×AV)
noncomputable abbrev Ba:=fun z=>((1,.p (.slc (v8t qaa z))):Nat×AV)
noncomputable abbrev Bb:=fun z=>((17,.p (.slc (v8t qaq z))):Nat×AV)
noncomputable abbrev Bc:=fun z y x=>((30,.arr 165 3 1 [.agg [.p (.int .i64 (z:Int)),.own 55 1 0 y,.own 74 1 0 x]]):Nat×AO)
noncomputable abbrev Bd:=fun z=>((74,.arr 166 1 1 (v8t AV.p (v8t qaf z))):Nat×AO)
noncomputable abbrev Be:=((0,.loc 30 1 0 0):Nat×AV)
noncomputable abbrev Bf:=fun z=>((1,.p (.int .i64 (z:Int))):Nat×AV)
noncomputable abbrev Bg:=fun z=>((2,.p (.slc (v8t qa7 z))):Nat×AV)
noncomputable abbrev Bh:=fun z=>((7,.p (.bool z)):Nat×AV)
noncomputable abbrev Bi:=((6,.p (.bool false)):Nat×AV)
noncomputable abbrev Bj:=fun z=>((14,.p (.slc (v8t qa7 z))):Nat×AV)
noncomputable abbrev Bk:=fun z=>((15,.p (.int .i64 (z:Int))):Nat×AV)
noncomputable abbrev Bl:=((9,.loc 102 1 0 0):Nat×AV)
noncomputable abbrev Bm:=fun z=>((102,.arr 69 2 1 [.p (qa7 z)]):Nat×AO)
noncomputable abbrev Bn:=((7,.p (.bool true)):Nat×AV)
noncomputable abbrev Bo:=fun z=>((11,.p (.int .i64 z)):Nat×AV)
noncomputable abbrev Bp:=fun z=>((46,.p (.int .i64 (z:Int))):Nat×AV)
noncomputable abbrev Bq:=((56,.p (.bool true)):Nat×AV)
noncomputable abbrev Eo:=fun z y x=>([Bc z (List.length y) (List.length x),BI y,Bd x]:List (Nat×AO))
noncomputable abbrev Ep:=fun z y x w=>([Bc z (List.length y) (List.length x),BI y,Bd x,Bm w]:List (Nat×AO))
noncomputable abbrev Eq:=fun z y x w v u t=>([Be,Bf z,Bg y,Bn,Bl,BW x,Bo w,Bj y,Bk (List.length y),A1 v,BD z,BE x,A5 x,AY w,Bp u,BU t,Bq,(74,.p (.bool true))]:List (Nat×AV))
theorem qmy(U:Table)(f2:List FD)(c3:List CellRef)(r4:Bool)(h:qgy U f2 c3=some r4):Con D prog 20 [(qab U),(.slc (v8t qa7 f2)),(.slc (v8t qaa c3))] (.bool r4):=by
 refine zP call20 func20 rfl ntmps20 fun X w hT=>?_;simp only[qgy]at h;refine M8 ?_;refine zL ⟨[BY f2,(2,.p (.slc (v8t qaa c3))),(3,.p (.imm [.str U.Name,.slc (v8t ucq U.Attrs),.slc (v8t qaq U.Rows)]))],[]⟩ ?_;refine zF0 mixed (fun i5 w6 h7=>?_);refine zF0l 0 ?_;refine zF0m 1 ?_;refine zF0f 3 ?_;refine zF0l 4 ?_;refine zF0b 5 underlying29 ?_;refine zF0m 6 ?_;refine zF1 ?_;refine zFs 2 ?_;refine zM ⟨[(7,.p (qab U)),(8,.p (.slc (v8t qaa c3))),BZ U.Rows.length,(13,.p (.slc (v8t qa7 f2)))],[]⟩ ?_;refine qbb (avs:=[.p (qab U),.p (.slc (v8t qaa c3))]) 15 rfl (qao rfl) rfl func53 rfl call53 ntmps53 (by simp) (by simp only[go_sem,seval];all_goals rfl) ?_
 intro i8 w9 bp;show AWp _ _ _ ⟨[(0,.p (qab U)),Ba c3],[]⟩;refine Mm ?_;refine M4 ?_;refine M5 ?_;obtain⟨dc,ba,h⟩:=zB h;refine zo ba (fun s=>⟨[Ba c3,(2,.loc 17 1 0 0),(5,.loc 30 1 0 0),Bb U.Rows,AQ U.Rows.length,AS s.2.2],[(17,.arr 31 3 1 [.p (qab U)]),Bc U.Attrs.length s.1.length s.2.1.length,BI s.1,Bd s.2.1]⟩) (fun ay=>tX 0 ⟨[(5,.loc 30 1 0 0)],Eo U.Attrs.length ay.1 ay.2⟩) ?_ ?_;clear h ba;intro s x h;obtain⟨_,_,bq⟩:=s;simp only[qe7]at h;dsimp only;refine M8 ?_;obtain⟨br,h⟩|⟨br,h⟩:=zI h;refine M9 ?_;obtain⟨bt,de,df,dg,h⟩:=zX h;refine M4 ?_;refine Mo ?_;obtain⟨dh,bu,h⟩:=zB h;refine zo bu (fun s=>⟨[Ba c3,(2,.loc 17 1 0 0),(5,.loc 30 1 0 0),(7,.loc 22 1 0 0),Bb U.Rows,AQ U.Rows.length,AS bq,BQ U.Attrs.length,BR s.2.2],[(17,.arr 31 3 1 [.p (qab U)]),(22,.arr 65 2 1 [.p (qaq bt)]),Bc U.Attrs.length s.1.length s.2.1.length,BI s.1,Bd s.2.1]⟩) (fun az=>tX 2 ⟨[Ba c3,(2,.loc 17 1 0 0),(5,.loc 30 1 0 0),Bb U.Rows,AQ U.Rows.length,AS bq],[(17,.arr 31 3 1 [.p (qab U)]),Bc U.Attrs.length az.1.length az.2.length,BI az.1,Bd az.2]⟩) ?_ ?_;clear h br de df dg bu;intro s x h;obtain⟨_,_,di⟩:=s;simp only[qf8]at h;dsimp only;refine M8 ?_;obtain⟨_,h⟩|⟨_,h⟩:=zI h;refine M9 ?_;refine Mu ?_;obtain⟨_,h⟩:=qac h;refine T9 ?_;refine zU ?_;obtain⟨_,dj,h⟩:=zB h;refine zc (qbe c3 (CellRef.mk bt.ID di) (fun(bc:CellRef) (bd:CellRef)=>qam bc bd) 32 [] (fun bc bd r h=>qbx bc bd r h) _ dj) ?_;refine M4 ?_;refine Mc ?_;obtain⟨_,h⟩|⟨_,h⟩:=zI h;refine Tj ?_;obtain⟨_,h⟩:=qac h;refine Mk ?_;exact M0 h;refine zj<|zd ?_;obtain⟨_,_,_,_,h⟩:=zX h;obtain⟨_,h⟩:=qac h;refine Mz ?_;exact M0 h;exact M1 h;obtain⟨_,_⟩:=dh;try simp only at h
 refine Mx ?_;exact M0 h;exact M1 h;obtain⟨ag,ab⟩:=dc;try simp only at h
 refine Me ?_;refine Mt ?_;refine qa5 (by simp only[results53];simp only[go_sem,seval];exact rfl) ?_;refine zl ?_;refine zFk ?_;refine zFs 7 ?_;refine zM ⟨[(9,.loc 30 1 0 0),BZ U.Rows.length,(13,.p (.slc (v8t qa7 f2)))],Eo U.Attrs.length ag ab⟩ ?_;refine qbb (avs:=[.loc 30 1 0 0,.p (.int .i64 (U.Rows.length:Int)),.p (.slc (v8t qa7 f2))]) 93 rfl (qao rfl) rfl func54 rfl call54 ntmps54 (by simp) (by simp only[go_sem,seval];all_goals rfl) ?_
 intro am ap aq;show AWp _ _ _ ⟨[Be,Bf U.Rows.length,Bg f2],Eo U.Attrs.length ag ab⟩;refine Mm ?_;refine M5 ?_;obtain⟨dl,bv,h⟩:=zB h;refine zo bv (fun s=>⟨[Be,Bf U.Rows.length,Bg f2,Bh s.2],Eo U.Attrs.length s.1 ab⟩) (fun o=>match o with|.inl bw=>tX 0 ⟨[],[(30,.arr 165 3 1 [.agg [.p (.int .i64 (U.Attrs.length:Int)),.own 55 1 0 bw.length,.own 74 1 0 ab.length]]),(55,.arr 3 1 1 (v8t AV.p (v8t (ucp .i64) bw))),Bd ab]⟩|.inr bx=>tZ ⟨[Bi],[(30,.arr 165 3 1 [.agg [.p (.int .i64 (U.Attrs.length:Int)),.own 55 1 0 bx.length,.own 74 1 0 ab.length]]),(55,.arr 3 1 1 (v8t AV.p (v8t (ucp .i64) bx))),Bd ab]⟩) ?_ ?_;clear h ba bv;intro s x h;obtain⟨_,_⟩:=s;simp only[qez]at h;refine Mw ?_;refine Mc ?_;obtain⟨bz,h⟩|⟨bz,h⟩:=zI h;refine Te ?_;refine M4 ?_;refine Mo ?_;obtain⟨dm,ca,h⟩:=zB h;refine zo ca (fun s=>⟨[Be,Bf U.Rows.length,Bg f2,Bh s.2.1,Bj f2,Bk f2.length,A1 s.2.2],Eo U.Attrs.length s.1 ab⟩) (fun o=>match o with|.inl be=>tX 2 ⟨[Be,Bf U.Rows.length,Bg f2,(7,.p (.bool be.2))],[(30,.arr 165 3 1 [.agg [.p (.int .i64 (U.Attrs.length:Int)),.own 55 1 0 be.1.length,.own 74 1 0 ab.length]]),(55,.arr 3 1 1 (v8t AV.p (v8t (ucp .i64) be.1))),Bd ab]⟩|.inr cc=>tZ ⟨[Bi],[(30,.arr 165 3 1 [.agg [.p (.int .i64 (U.Attrs.length:Int)),.own 55 1 0 cc.length,.own 74 1 0 ab.length]]),(55,.arr 3 1 1 (v8t AV.p (v8t (ucp .i64) cc))),Bd ab]⟩) ?_ ?_;clear h bz ca;intro s x h;obtain⟨_,_,ar⟩:=s;simp only[qey]at h;dsimp only;refine M8 ?_;obtain⟨cd,h⟩|⟨cd,h⟩:=zI h;refine M9 ?_;obtain⟨aj,dn,dp,dq,h⟩:=zX h;refine M4 ?_;refine Mo ?_;obtain⟨du,ce,h⟩:=zB h;refine zo ce (fun s=>⟨[Be,Bf U.Rows.length,Bg f2,Bh s.2.1,Bl,Bj f2,Bk f2.length,A1 ar,BD U.Rows.length,BE s.2.2],Ep U.Attrs.length s.1 ab aj⟩) (fun o=>match o with|.inl bf=>tX 4 ⟨[Be,Bf U.Rows.length,Bg f2,(7,.p (.bool bf.2)),Bj f2,Bk f2.length,A1 ar],[(30,.arr 165 3 1 [.agg [.p (.int .i64 (U.Attrs.length:Int)),.own 55 1 0 bf.1.length,.own 74 1 0 ab.length]]),(55,.arr 3 1 1 (v8t AV.p (v8t (ucp .i64) bf.1))),Bd ab]⟩|.inr cg=>tZ ⟨[Bi],[(30,.arr 165 3 1 [.agg [.p (.int .i64 (U.Attrs.length:Int)),.own 55 1 0 cg.length,.own 74 1 0 ab.length]]),(55,.arr 3 1 1 (v8t AV.p (v8t (ucp .i64) cg))),Bd ab]⟩) ?_ ?_;clear h cd dn dp dq ce;intro s x h;obtain⟨_,_,ae⟩:=s;simp only[qex]at h;dsimp only;refine M8 ?_;obtain⟨ch,h⟩|⟨ch,h⟩:=zI h;refine M9 ?_;refine M4 ?_;refine Mo ?_;obtain⟨dv,ci,h⟩:=zB h;refine zo ci (fun s=>⟨[Be,Bf U.Rows.length,Bg f2,Bh s.2.1,Bl,BW ae,Bj f2,Bk f2.length,A1 ar,BD U.Rows.length,BE ae,A5 ae,AY s.2.2],Ep U.Attrs.length s.1 ab aj⟩) (fun o=>match o with|.inl bg=>tX 6 ⟨[Be,Bf U.Rows.length,Bg f2,(7,.p (.bool bg.2)),Bl,Bj f2,Bk f2.length,A1 ar,BD U.Rows.length,BE ae],[(30,.arr 165 3 1 [.agg [.p (.int .i64 (U.Attrs.length:Int)),.own 55 1 0 bg.1.length,.own 74 1 0 ab.length]]),(55,.arr 3 1 1 (v8t AV.p (v8t (ucp .i64) bg.1))),Bd ab,Bm aj]⟩|.inr cj=>tZ ⟨[Bi],[(30,.arr 165 3 1 [.agg [.p (.int .i64 (U.Attrs.length:Int)),.own 55 1 0 cj.length,.own 74 1 0 ab.length]]),(55,.arr 3 1 1 (v8t AV.p (v8t (ucp .i64) cj))),Bd ab]⟩) ?_ ?_;clear h ch ci;intro s x h;obtain⟨cl,_,ah⟩:=s;simp only[qew]at h;dsimp only;refine M8 ?_;obtain⟨co,h⟩|⟨co,h⟩:=zI h;refine M9 ?_;refine Md ?_;refine zU ?_;obtain⟨_,cq,h⟩:=zB h;refine zc (qe5 (Update_entries.mk (U.Attrs.length:Int) cl ab) ae ah aj.Lhs _ cq) ?_;refine zU ?_;obtain⟨cr,h⟩|⟨cr,h⟩:=zI h;refine zw 35 false ?_;refine M7 ?_;refine Mn ?_;obtain⟨_,ct,h⟩:=zB h;refine zc (qe5 (Update_entries.mk (U.Attrs.length:Int) cl ab) ae ah aj.Rhs _ ct) ?_;refine Mc ?_;obtain⟨cu,h⟩|⟨cu,h⟩:=zI h;refine T4 ?_;exact M0 h;refine Mi ?_;refine M4 ?_;refine Mo ?_;obtain⟨dw,cv,h⟩:=zB h;refine zo cv (fun s=>⟨[Be,Bf U.Rows.length,Bg f2,Bn,Bl,BW ae,Bo ah,Bj f2,Bk f2.length,A1 ar,BD U.Rows.length,BE ae,A5 ae,AY ah,Bp U.Attrs.length,BU s.2],Ep U.Attrs.length s.1 ab aj⟩) (fun o=>match o with|.inl cw=>tX 8 ⟨[Be,Bf U.Rows.length,Bg f2,Bn,Bl,BW ae,Bj f2,Bk f2.length,A1 ar,BD U.Rows.length,BE ae,A5 ae,AY ah],[(30,.arr 165 3 1 [.agg [.p (.int .i64 (U.Attrs.length:Int)),.own 55 1 0 cw.length,.own 74 1 0 ab.length]]),(55,.arr 3 1 1 (v8t AV.p (v8t (ucp .i64) cw))),Bd ab,Bm aj]⟩|.inr cx=>tZ ⟨[Bi],[(30,.arr 165 3 1 [.agg [.p (.int .i64 (U.Attrs.length:Int)),.own 55 1 0 cx.length,.own 74 1 0 ab.length]]),(55,.arr 3 1 1 (v8t AV.p (v8t (ucp .i64) cx))),Bd ab]⟩) ?_ ?_;clear h co cq cr ct cu cv;intro s x h;obtain⟨ai,ak⟩:=s;simp only[qev]at h;dsimp only;refine M8 ?_;obtain⟨bh,h⟩|⟨bh,h⟩:=zI h;have au:=eq_true bh;refine M9 ?_;refine zU<|zl<|zn<|zs ?_;refine zdl 24 ?_;obtain⟨_,h⟩:=qhe h;refine yU ?_;obtain⟨av,h⟩|⟨av,h⟩:=zI h;refine ywL 56 true ?_;refine M3 ?_;refine M3 ?_;refine Mg ?_;refine ydl (hev:=by kernel_rfl) ?_;refine zM ⟨[Be,Bf U.Rows.length,Bg f2,Bn,Bl,BW ae,Bo ah,Bj f2,Bk f2.length,A1 ar,BD U.Rows.length,BE ae,A5 ae,AY ah,Bp U.Attrs.length,BU ak,Bq,(57,.loc 30 1 0 0),(65,.p (.int .i64 (v96.wrap ((v96.wrap (ae*(U.Attrs.length:Int)))+ak)))),(73,.p (.int .i64 (v96.wrap ((v96.wrap (ah*(U.Attrs.length:Int)))+ak))))],Ep U.Attrs.length ai ab aj⟩ ?_;refine qbb (avs:=[.loc 30 1 0 0,.p (.int .i64 (v96.wrap ((v96.wrap (ae*(U.Attrs.length:Int)))+ak))),.p (.int .i64 (v96.wrap ((v96.wrap (ah*(U.Attrs.length:Int)))+ak)))]) 174 rfl (qbr rfl rfl (by exact rfl) (by exact rfl)) rfl func110 rfl call110 ntmps110 (by simp) (by simp only[go_sem,seval,au,av];all_goals rfl) ?_
 intro dx dy dz;show AWp _ _ _ ⟨[Be,(1,.p (.int .i64 (v96.wrap ((v96.wrap (ae*(U.Attrs.length:Int)))+ak)))),(2,.p (.int .i64 (v96.wrap ((v96.wrap (ah*(U.Attrs.length:Int)))+ak))))],Ep U.Attrs.length ai ab aj⟩;refine Mm ?_;refine M4 ?_;refine zU ?_;obtain⟨aw,d8,h⟩:=zB h;refine zc (qb8 (Update_entries.mk (U.Attrs.length:Int) ai ab) (v96.wrap ((v96.wrap (ae*(U.Attrs.length:Int)))+ak)) _ d8) ?_;refine zU ?_;obtain⟨ax,d9,h⟩:=zB h;refine zc (qb8 (Update_entries.mk (U.Attrs.length:Int) ai ab) (v96.wrap ((v96.wrap (ah*(U.Attrs.length:Int)))+ak)) _ d9) ?_;refine zU<|zl<|zn<|zs ?_;obtain⟨ea,cy,h⟩:=zB h;refine zJ (fun(eb:Bool)=>tE ⟨prog,68,174,X,Ep U.Attrs.length ai ab aj,dx,dy,D,dz⟩ .normal ⟨[Be,AA aw,A2 ax,(30,.p (.bool eb))],Ep U.Attrs.length ai ab aj⟩) ea ?_ ?_;replace h:=cy;clear cy;refine zr ?_;obtain⟨cz,_,_,_,h⟩:=zX h;refine zW 7 ?_;obtain⟨_,h⟩|⟨_,h⟩:=zI h;obtain⟨_,_,h⟩:=zB h;refine zU ?_;refine M7 ?_;refine Mn ?_;obtain⟨c9,_,_,_,h⟩:=zX h;refine Mn ?_;obtain⟨_,h⟩|⟨_,h⟩:=zI h;obtain⟨_,_,h⟩:=zB h;replace h:=h.symm;refine zg ?_;exact M0 h;replace h:=h.symm;have ff:c9=none:=by cases hz:c9<;>simp_all
 refine zg ?_;exact M0 h;have fg:cz=none:=by cases hz:cz<;>simp_all
 refine Th ?_;exact M0 h;try simp only at h
 refine zA<|zn ?_;obtain⟨bi,h⟩|⟨bi,h⟩:=zI h;refine zi<|zs<|zd ?_;obtain⟨_,_,_,_,h⟩:=zX h;obtain⟨ed,ek,h⟩:=zB h;obtain⟨_,_,_,_,h⟩:=zX h;obtain⟨en,ep,h⟩:=zB h;refine yU ?_;obtain⟨_,er,h⟩:=zB h;refine yc (qh6 ed en _ er) ?_;refine yU ?_;refine yd<|zn<|zq<|zt ?_;refine qa5 (by simp only[results110];simp only[go_sem,seval,au,av,bi,ek,ep];exact rfl) ?_;refine zg ?_;refine Mc ?_;obtain⟨_,h⟩|⟨_,h⟩:=zI h;refine Mf ?_;exact M0 h;refine Mb ?_;exact Ms h;have da:=v78.2 bi;refine Mj ?_;obtain⟨db,_,_,_,h⟩:=zX h;refine zW 7 ?_;obtain⟨bj,h⟩|⟨bj,h⟩:=zI h;obtain⟨_,eu,h⟩:=zB h;refine Mc ?_;refine Mi ?_;obtain⟨_,_,_,_,h⟩:=zX h;refine M4 ?_;refine Mt ?_;refine qa5 (by simp only[results110];simp only[go_sem,seval,au,av,da,bj,eu];exact rfl) ?_;obtain⟨ew,h⟩:=qac h;replace h:=h.symm;refine zM ⟨Eq U.Rows.length f2 ae ah ar U.Attrs.length ak,[Bc U.Attrs.length ((ai.set ax.toNat aw)).length ab.length,BI (ai.set ax.toNat aw),Bd ab,Bm aj]⟩ ?_;clear ew;refine zg ?_;refine Mc ?_;refine Mf ?_;exact M0 h;have ey:=v78.2 bj;have e7:db=none:=by cases hz:db<;>simp_all
 refine Mc ?_;refine Tj ?_;refine M4 ?_;obtain⟨_,_,_,_,h⟩:=zX h;refine M4 ?_;refine Mt ?_;refine qa5 (by simp only[results110];simp only[go_sem,seval,au,av,da,ey,e7];exact rfl) ?_;obtain⟨e8,h⟩:=qac h;replace h:=h.symm;refine zM ⟨Eq U.Rows.length f2 ae ah ar U.Attrs.length ak,[Bc U.Attrs.length ((ai.set aw.toNat ax)).length ab.length,BI (ai.set aw.toNat ax),Bd ab,Bm aj]⟩ ?_;clear e8;refine zg ?_;refine Mc ?_;refine Mf ?_;exact M0 h;refine ywL 56 false ?_;refine yk ?_;refine ydl (hev:=by kernel_rfl) ?_;refine zh ?_;refine Mc ?_;refine Mf ?_;exact M0 h;have au:=eq_false bh;exact M1 h;rcases dw with _|_;try simp only at h
 refine Mx ?_;exact M0 h;try simp only at h
 refine zA<|yr<|yr<|zt ?_;exact Ms h;refine zw 35 true ?_;refine zh ?_;refine Mc ?_;refine T4 ?_;exact M0 h;exact M1 h;rcases dv with⟨_,_⟩|_;try simp only at h
 refine Mx ?_;exact M0 h;try simp only at h
 refine zA<|yr<|yr<|zt ?_;exact Ms h;exact M1 h;rcases du with⟨_,_⟩|_;try simp only at h
 refine Mx ?_;exact M0 h;try simp only at h
 refine zA<|yr<|yr<|zt ?_;exact Ms h;exact M1 h;rcases dm with⟨_,_⟩|_;try simp only at h
 refine zA<|yh<|yn ?_;exact Ms h;try simp only at h
 refine zA<|yr<|yr ?_;exact Ms h;exact M1 h;rcases dl with _|_;try simp only at h
 refine Me ?_;refine Mt ?_;refine qa5 (by simp only[results54];simp only[go_sem,seval];exact rfl) ?_;obtain⟨e9,h⟩:=qac h;refine zM ⟨[(14,.p (.bool true))],[]⟩ ?_;clear e9;refine zl ?_;refine zFk ?_;refine zFs 8 ?_;refine zU<|zl ?_;refine zFk ?_;refine zFe ?_;refine zn<|zq ?_;exact T6 h results20;try simp only at h
 refine zA<|yr<|zt ?_;refine qa5 (by simp only[results54];simp only[go_sem,seval];exact rfl) ?_;obtain⟨fa,h⟩:=qac h;refine zM ⟨[(14,.p (.bool false))],[]⟩ ?_;clear fa;refine zl ?_;refine zFk ?_;refine zFs 8 ?_;refine zU<|zl ?_;refine zFk ?_;refine zFe ?_;refine zn<|zq ?_;exact T6 h results20
noncomputable abbrev Br:=fun z=>((10,.p (.int .i64 (z:Int))):Nat×AV)
noncomputable abbrev Bs:=fun z=>((6,.own 24 1 0 z):Nat×AV)
noncomputable abbrev Bt:=fun z=>((26,.p (.int .i64 (z:Int))):Nat×AV)
noncomputable abbrev Bu:=fun z=>((27,.p (.int .i64 z)):Nat×AV)
theorem qsw(U:List (List Node))(r2:List Node)(h:qe0 U=some r2):Con D prog 111 [(.slc (v8t (qal qa1) U))] (.slc (v8t qa1 r2)):=by
 refine zP call111 func111 rfl ntmps111 fun X w hT=>?_;simp only[qe0]at h;refine Mm ?_;refine M4 ?_;refine M5 ?_;obtain⟨_,h4,h⟩:=zB h;refine zo h4 (fun s=>⟨[(0,.p (.slc (v8t (qal qa1) U))),AT s.1,(9,.p (.slc (v8t (qal qa1) U))),Br U.length,Bo s.2],[]⟩) (fun o5=>tX 0 ⟨[(0,.p (.slc (v8t (qal qa1) U))),AT o5],[]⟩) ?_ ?_;clear h h4;intro s x h;obtain⟨_,_⟩:=s;simp only[qdd]at h;dsimp only;refine M8 ?_;obtain⟨_,h⟩|⟨_,h⟩:=zI h;refine M9 ?_;obtain⟨_,_,_,_,h⟩:=zX h;refine M4 ?_;refine M4 ?_;refine Mc ?_;obtain⟨_,h⟩|⟨_,h⟩:=zI h;cases h;refine Mf ?_;exact M0 h;exact M1 h;try simp only at h
 refine Me ?_;refine zU ?_;obtain⟨ae,h⟩:=qac h;obtain⟨ag,h⟩:=qac h;refine zN Yq.grw186 24 ae ag ?_;refine M5 ?_;obtain⟨_,ah,h⟩:=zB h;refine zo ah (fun s=>⟨[Bs s.1.length,(25,.p (.slc (v8t (qal qa1) U))),Bt U.length,Bu s.2],[(24,.arr 230 2 1 (v8t AV.p (v8t qa1 s.1)))]⟩) (fun ai=>tX 2 ⟨[Bs ai.length],[(24,.arr 230 2 1 (v8t AV.p (v8t qa1 ai)))]⟩) ?_ ?_;clear h h4 ae ag ah;intro s x h;obtain⟨_,_⟩:=s;simp only[qde]at h;dsimp only;refine M8 ?_;obtain⟨_,h⟩|⟨_,h⟩:=zI h;refine M9 ?_;obtain⟨_,_,_,_,h⟩:=zX h;refine Mv ?_;obtain⟨_,h⟩:=qac h;refine Mk ?_;exact M0 h;exact M1 h;try simp only at h
 refine Me ?_;exact M2 h results111
noncomputable abbrev Bv:=fun z=>((40,.arr 3 1 1 (v8t AV.p (v8t (ucp .i64) z))):Nat×AO)
noncomputable abbrev Bw:=fun z y x w=>((43,.arr 222 4 1 [.agg [.p (.slc (v8t (ucp .i64) z)),.p (.slc (v8t (qal (ucp .i64)) y)),.own 40 1 0 x,.p (.int .i64 w)]]):Nat×AO)
noncomputable abbrev By:=((0,.loc 43 1 0 0):Nat×AV)
noncomputable abbrev Bz:=fun z y x w=>((43,.arr 222 4 1 [.agg [.p (.slc (v8t (ucp .i64) z)),.p (.slc (v8t (qal (ucp .i64)) y)),.own 40 1 0 x,.p (.int .i64 (v96.wrap (w-1)))]]):Nat×AO)
noncomputable abbrev B0:=fun z=>((237,.arr 2 1 1 (v8t AV.p (v8t (ucp .i64) z))):Nat×AO)
noncomputable abbrev B1:=fun z=>((5,.own 225 1 0 z):Nat×AV)
noncomputable abbrev B2:=fun z=>((225,.arr 305 2 1 (v8t AV.p (v8t qcd z))):Nat×AO)
noncomputable abbrev B3:=fun z=>((9,.p (.slc (v8t qa1 z))):Nat×AV)
noncomputable abbrev Er:=fun z y x w=>([Bv z,Bw y x (List.length z) w]:List (Nat×AO))
noncomputable abbrev Es:=fun z y x w=>([Bv z,Bz y x (List.length z) w]:List (Nat×AO))
theorem qxg(U:Instance)(r2:(List Int×Int×Int)->Option (List Node×Int×List Int×Int))(bv:∀(s3:List Int) (s4:Int) (b5:Int) (t6:List Node) (t7:Int) (b8:List Int) (b9:Int),r2 (s3,s4,b5)=some (t6,t7,b8,b9)->Ip D prog 56 [.loc 43 1 0 0,.p (.int .i64 b5)] (Er s3 U.Weights U.Edges s4) (.p (.tup [.slc (v8t qa1 t6),.int .i64 t7])) (Er b8 U.Weights U.Edges b9))(s3:List Int)(s4:Int)(b5:Int)(t6:List Node)(t7:Int)(b8:List Int)(b9:Int)(h:qhs U r2 (s3,s4,b5)=some (t6,t7,b8,b9)):Ip D prog 56 [.loc 43 1 0 0,.p (.int .i64 b5)] (Er s3 U.Weights U.Edges s4) (.p (.tup [.slc (v8t qa1 t6),.int .i64 t7])) (Er b8 U.Weights U.Edges b9):=by
 simp only[qhs]at h;refine Ip.of_awp2 44 ⟨[(4,.p (.slc (v8t qa1 t6))),AZ t7],Er b8 U.Weights U.Edges b9⟩ call56 func56 rfl ntmps56 (by simp) (by simp only[results56];simp only[go_sem,seval];all_goals exact rfl) fun X c9 da db=>?_
 show AWp _ _ _ ⟨[By,AA b5],Er s3 U.Weights U.Edges s4⟩;refine Mm ?_;refine Md ?_;refine zU ?_;refine zM ⟨[By,AA b5,(12,.loc 43 1 0 0)],Er s3 U.Weights U.Edges s4⟩ ?_;refine qbb (avs:=[.loc 43 1 0 0]) 134 rfl (qao rfl) rfl func105 rfl call105 ntmps105 (by simp) (by simp only[go_sem,seval];all_goals rfl) ?_
 intro _ _ _;show AWp _ _ _ ⟨[By],Er s3 U.Weights U.Edges s4⟩;refine Mm ?_;refine M4 ?_;refine M4 ?_;refine Mt ?_;refine qa5 (by simp only[results105];simp only[go_sem,seval];exact rfl) ?_;refine Mc ?_;obtain⟨ba,h⟩|⟨ba,h⟩:=zI h;have ai:=eq_true ba;refine Mj ?_;refine zU ?_;obtain⟨bc,h⟩|⟨bc,h⟩:=zI h;have aj:=eq_true bc;refine zw 17 true ?_;refine zh ?_;refine Mc ?_;refine Mq ?_;cases h;refine⟨.inr rfl,?_⟩;exact zV;have aj:=eq_false bc;refine zw 17 false ?_;refine zg ?_;obtain⟨_,bw,h⟩:=zB h;refine zc (qja (Hitset_search.mk U s3 (v96.wrap (s4-1))) _ bw) ?_;refine Mc ?_;obtain⟨bg,h⟩|⟨bg,h⟩:=zI h;refine Mq ?_;cases h;refine⟨.inr rfl,?_⟩;exact zV;have ap:=v78.2 bg;refine Mj ?_;refine zU ?_;refine zM ⟨[By,AA b5,(24,.loc 43 1 0 0)],Es s3 U.Weights U.Edges s4⟩ ?_;refine qbb (avs:=[.loc 43 1 0 0]) 149 rfl (qao rfl) rfl func107 rfl call107 ntmps107 (by simp) (by simp only[go_sem,seval,ai,aj,ap];all_goals rfl) ?_
 intro bh bi bj;show AWp _ _ _ ⟨[By],Es s3 U.Weights U.Edges s4⟩;refine Mm ?_;refine M4 ?_;refine zU ?_;obtain⟨ax,h⟩:=qac h;refine zM ⟨[By,(18,.p (.slc (v8t (ucp .i64) U.Weights)))],Es s3 U.Weights U.Edges s4⟩ ?_;refine qbb (avs:=[.p (.slc (v8t (ucp .i64) U.Weights))]) 232 rfl (qao rfl) rfl func63 rfl call63 ntmps63 (by simp) (by simp only[go_sem,seval,ai,aj,ap,ax];all_goals rfl) ?_
 intro cq cr ct;refine qwl (T:=fun e s'=>(e=.normal\/e=.ret)/\Le ⟨prog,8,232,X,Es s3 U.Weights U.Edges s4,cq,cr,D,ct⟩ s' ⟨[(2,.own 237 1 0 (U.Weights).length)],[Bv s3,Bz U.Weights U.Edges s3.length s4,B0 U.Weights]⟩) ?_ ?_;show AWp _ _ _ ⟨[An U.Weights],Es s3 U.Weights U.Edges s4⟩;refine Mm ?_;refine Md ?_;refine zW 1 ?_;refine qwm (by simp only[go_sem,seval,ai,aj,ap,ax];exact rfl) (by simp only[go_sem,seval,ai,aj,ap,ax]) underlying44 rfl ?_;intro b hb;refine Tp ?_;cases b;refine Mi ?_;refine Mt ?_;refine⟨.inr rfl,?_⟩;exact zV;refine zi ?_;have dc:U.Weights=[]:=by
   rcases hz:U.Weights with _|⟨x,z⟩
   · rfl
   · rw[hz]at hb;exact absurd (hb (by simp)) (by simp)
 refine Mm ?_;refine T5 ?_;refine⟨.inr rfl,?_⟩;exact zV;intro e s' hT;obtain⟨he,hle⟩:=hT;refine Wk.to hle ?_;refine q4t he (by simp only[results63];simp only[go_sem,seval,ai,aj,ap,ax];exact rfl) ?_;clear hle he;refine M4 ?_;refine M4 ?_;refine M5 ?_;obtain⟨cu,bx,h⟩:=zB h;refine zo bx (fun s=>⟨[By,(4,.own 237 1 0 s.1.length),B1 s.2.1.length,AG s.2.2.1,BP U.Edges,BQ U.Edges.length,BR s.2.2.2],[Bv s3,Bz U.Weights U.Edges s3.length s4,B2 s.2.1,B0 s.1]⟩) (fun bm=>tX 0 ⟨[B1 bm.1.length,AG bm.2],[Bv s3,Bz U.Weights U.Edges s3.length s4,B2 bm.1]⟩) ?_ ?_;clear h ba ai bc aj bw bg ap ax bx;intro s x h;obtain⟨bd,ak,be,al⟩:=s;simp only[qns]at h;dsimp only;refine M8 ?_;obtain⟨bn,h⟩|⟨bn,h⟩:=zI h;refine M9 ?_;obtain⟨aq,bz,ca,cc,h⟩:=zX h;refine Md ?_;refine zU ?_;obtain⟨_,bo,h⟩:=zB h;refine zc (qdh (Hitset_search.mk U s3 (v96.wrap (s4-1))) aq 1 _ bo) ?_;refine Tp ?_;obtain⟨bp,h⟩|⟨bp,h⟩:=zI h;refine T4 ?_;exact M0 h;refine Mi ?_;refine M5 ?_;obtain⟨cd,bq,h⟩:=zB h;refine zo bq (fun s=>⟨[By,(4,.own 237 1 0 bd.length),B1 ak.length,AG be,AP al,BT aq,A4 s.1,BP U.Edges,BQ U.Edges.length,BR al,(34,.p (.slc (v8t (ucp .i64) aq))),(35,.p (.int .i64 (aq.length:Int))),(36,.p (.int .i64 s.2))],[Bv s3,Bz U.Weights U.Edges s3.length s4,B2 ak,B0 bd]⟩) (fun cv=>tX 2 ⟨[By,(4,.own 237 1 0 bd.length),B1 ak.length,AG be,AP al,BT aq,A4 cv,BP U.Edges,BQ U.Edges.length,BR al],[Bv s3,Bz U.Weights U.Edges s3.length s4,B2 ak,B0 bd]⟩) ?_ ?_;clear h bn bz ca cc bo bp bq;intro s x h;obtain⟨_,_⟩:=s;simp only[qsg]at h;dsimp only;refine M8 ?_;obtain⟨_,h⟩|⟨_,h⟩:=zI h;refine M9 ?_;obtain⟨_,_,_,_,h⟩:=zX h;refine M4 ?_;obtain⟨_,_,_,_,h⟩:=zX h;refine Mc ?_;obtain⟨_,h⟩|⟨_,h⟩:=zI h;refine Tj ?_;obtain⟨_,_,_,_,h⟩:=zX h;refine Mk ?_;exact M0 h;refine Mf ?_;exact M0 h;exact M1 h;try simp only at h
 refine My ?_;refine Mc ?_;obtain⟨ce,h⟩|⟨ce,h⟩:=zI h;refine T4 ?_;exact M0 h;refine Mj ?_;refine Mo ?_;obtain⟨_,cg,h⟩:=zB h;refine zo cg (fun s=>⟨[By,(4,.own 237 1 0 s.1.length),B1 ak.length,AG be,AP al,A4 cd,BP U.Edges,BQ U.Edges.length,BR al,(57,.p (.slc (v8t (ucp .i64) aq))),(58,.p (.int .i64 (aq.length:Int))),(59,.p (.int .i64 s.2))],[Bv s3,Bz U.Weights U.Edges s3.length s4,B2 ak,B0 s.1]⟩) (fun ch=>tX 4 ⟨[By,(4,.own 237 1 0 ch.length),B1 ak.length,AG be,AP al,A4 cd,BP U.Edges,BQ U.Edges.length,BR al],[Bv s3,Bz U.Weights U.Edges s3.length s4,B2 ak,B0 ch]⟩) ?_ ?_;clear h bn bz ca cc bo bp bq ce cg;intro s x h;obtain⟨_,_⟩:=s;simp only[qsh]at h;dsimp only;refine M8 ?_;obtain⟨_,h⟩|⟨_,h⟩:=zI h;refine M9 ?_;obtain⟨_,_,_,_,h⟩:=zX h;refine Mv ?_;obtain⟨_,_,_,_,h⟩:=zX h;refine Mk ?_;exact M0 h;exact M1 h;try simp only at h
 refine Me ?_;obtain⟨_,h⟩:=qac h;refine Mv ?_;refine Mk ?_;exact M0 h;exact M1 h;obtain⟨_,_⟩:=cu;try simp only at h
 refine Me ?_;refine Mt ?_;refine qa5 (by simp only[results107];simp only[go_sem,seval,ai,aj,ap,ax];exact rfl) ?_;refine M4 ?_;refine Mc ?_;obtain⟨_,h⟩|⟨_,h⟩:=zI h;refine Mq ?_;cases h;refine⟨.inr rfl,?_⟩;exact zV;refine Mi ?_;refine zU ?_;obtain⟨ae,cw,h⟩:=zB h;refine zc (qlj (Hitset_search.mk U s3 (v96.wrap (s4-1))) _ cw) ?_;refine Md ?_;refine Mc ?_;obtain⟨_,h⟩|⟨_,h⟩:=zI h;refine Mq ?_;cases h;refine⟨.inr rfl,?_⟩;exact zV;refine Mi ?_;obtain⟨_,_,_,_,h⟩:=zX h;refine M4 ?_;obtain⟨br,_,_,_,h⟩:=zX h;refine zU ?_;refine zM ⟨[By,AA b5,AK ae,(45,.loc 43 1 0 0),(55,.p (.int .i64 (v96.wrap (b5-br))))],[Bv (s3.set ae.toNat 1),Bz U.Weights U.Edges ((s3.set ae.toNat 1)).length s4]⟩ ?_;refine zM ⟨[By,AA b5,AK ae,(45,.loc 43 1 0 0),(55,.p (.int .i64 (v96.wrap (b5-br))))],[Bv (s3.set ae.toNat 1),Bz U.Weights U.Edges ((s3.set ae.toNat 1)).length s4]⟩ ?_;obtain⟨cx,ci,h⟩:=zB h;obtain⟨ar,cj,am,ay⟩:=cx;try simp only at h
 refine zIp [] (bv (s3.set ae.toNat 1) (v96.wrap (s4-1)) (v96.wrap (b5-br)) ar cj am ay ci) ?_;clear ci;refine zM ⟨[By,AA b5,AK ae,(56,.p (.tup [.slc (v8t qa1 ar),.int .i64 cj]))],Er am U.Weights U.Edges ay⟩ ?_;refine Md ?_;refine Mc ?_;obtain⟨_,h⟩|⟨_,h⟩:=zI h;refine Mq ?_;cases h;refine⟨.inr rfl,?_⟩;exact zV;refine Mi ?_;obtain⟨_,_,_,_,h⟩:=zX h;refine M4 ?_;refine zU ?_;refine zM ⟨[By,AK ae,B3 ar,(69,.loc 43 1 0 0),(70,.p (.int .i64 b5))],[Bv (am.set ae.toNat 2),Bw U.Weights U.Edges ((am.set ae.toNat 2)).length ay]⟩ ?_;refine zM ⟨[By,AK ae,B3 ar,(69,.loc 43 1 0 0),(70,.p (.int .i64 b5))],[Bv (am.set ae.toNat 2),Bw U.Weights U.Edges ((am.set ae.toNat 2)).length ay]⟩ ?_;obtain⟨cy,cl,h⟩:=zB h;obtain⟨bf,co,az,bt⟩:=cy;try simp only at h
 refine zIp [] (bv (am.set ae.toNat 2) ay b5 bf co az bt cl) ?_;clear cl;refine zM ⟨[By,AK ae,B3 ar,(71,.p (.tup [.slc (v8t qa1 bf),.int .i64 co]))],Er az U.Weights U.Edges bt⟩ ?_;refine Md ?_;refine Mc ?_;obtain⟨_,h⟩|⟨_,h⟩:=zI h;refine Mq ?_;cases h;refine⟨.inr rfl,?_⟩;exact zV;refine Mi ?_;obtain⟨_,_,_,_,h⟩:=zX h;refine M4 ?_;refine zU ?_;refine zM ⟨[(88,.p (.slc (v8t (qal qa1) [[(Node.mk ae [])],ar,bf])))],[Bv (az.set ae.toNat 0),Bw U.Weights U.Edges ((az.set ae.toNat 0)).length bt]⟩ ?_;obtain⟨_,cz,h⟩:=zB h;refine zc (qsw [[(Node.mk ae [])],ar,bf] _ cz) ?_;refine Mt ?_;cases h;refine⟨.inr rfl,?_⟩;exact zV;have ai:=eq_false ba;refine Mq ?_;cases h;refine⟨.inr rfl,?_⟩;exact zV
theorem qv0(in_29331:Instance)(n:Nat):∀(U:List Int) (ac:Int) (bound_30543:Int) (t4_30537:List Node) (t5_30538:Int) (ab:List Int) (ae:Int),q8a (qhs in_29331) n (U,ac,bound_30543)=some (t4_30537,t5_30538,ab,ae)->Ip D prog 56 [.loc 43 1 0 0,.p (.int .i64 bound_30543)] (Er U in_29331.Weights in_29331.Edges ac) (.p (.tup [.slc (v8t qa1 t4_30537),.int .i64 t5_30538])) (Er ab in_29331.Weights in_29331.Edges ae):=by
  induction n with
  |zero=>intro U ac bound_30543 t4_30537 t5_30538 ab ae h;cases h
  |succ n ih=>intro U ac bound_30543 t4_30537 t5_30538 ab ae h;exact qxg in_29331 _ ih U ac bound_30543 t4_30537 t5_30538 ab ae h
noncomputable abbrev Et:=fun z y x w=>([(40,.arr 3 1 1 (v8t AV.p (v8t (ucp .i64) (v6u (List.length z) 0)))),Bw z y x w]:List (Nat×AO))
theorem qsr(U:Instance)(b2:Int)(b3:Int)(r4:List Node×Int)(h:qjn U b2 b3=some r4):Con D prog 21 [(qai U),(.int .i64 b2),(.int .i64 b3)] (.tup [(.slc (v8t qa1 r4.1)),(.int .i64 r4.2)]):=by
 refine zP call21 func21 rfl ntmps21 fun X w hT=>?_;simp only[qjn]at h;refine Mm ?_;refine Md ?_;refine zU ?_;obtain⟨_,h6,h⟩:=zB h;refine zc (qix U _ h6) ?_;refine M4 ?_;refine Mc ?_;obtain⟨h7,h⟩|⟨h7,h⟩:=zI h;exact M6 h results21;have ap:=v78.2 h7;refine zj<|zk<|zn<|zs<|zb<|zs<|zr ?_;refine Mc ?_;obtain⟨h8,h⟩|⟨h8,h⟩:=zI h;have ah:=eq_true h8;refine Mb ?_;exact T6 h results21;have ah:=eq_false h8;refine T8 ?_;refine zU ?_;obtain⟨h9,h⟩|⟨h9,h⟩:=zI h;have aj:=eq_true h9;refine zw 20 true ?_;refine zh ?_;refine Mc ?_;refine Mb ?_;exact T6 h results21;have aj:=eq_false h9;refine zw 20 false ?_;refine Mn ?_;refine Mc ?_;obtain⟨ak,h⟩|⟨ak,h⟩:=zI h;have al:=eq_true ak;refine Mb ?_;exact T6 h results21;have al:=eq_false ak;refine Tb ?_;refine zU ?_;refine zM ⟨[AA b2,(24,.p (qai U)),AY b3],[]⟩ ?_;refine qbb (avs:=[.p (qai U),.p (.int .i64 b3)]) 31 rfl (qao rfl) rfl func51 rfl call51 ntmps51 (by simp) (by simp only[go_sem,seval,ap,ah,aj,al];all_goals rfl) ?_
 intro _ _ _;show AWp _ _ _ ⟨[(0,.p (qai U)),AA b3],[]⟩;refine Mm ?_;refine Mu ?_;obtain⟨_,h⟩:=qac h;obtain⟨_,h⟩:=qac h;refine yU ?_;refine yd<|zn<|zq ?_;refine qa5 (by simp only[results51];simp only[go_sem,seval,ap,ah,aj,al];exact rfl) ?_;refine zU ?_;refine zM ⟨[(26,.loc 43 1 0 0),Bu b2],Et U.Weights U.Edges ((v6u U.Weights.length 0)).length b3⟩ ?_;refine zM ⟨[(26,.loc 43 1 0 0),Bu b2],Et U.Weights U.Edges ((v6u U.Weights.length 0)).length b3⟩ ?_;obtain⟨aw,aq,h⟩:=zB h;obtain⟨ar,au,ax,ay⟩:=aw;try simp only at h
 refine zIp [] (qv0 U 64 (v6u U.Weights.length 0) b3 b2 ar au ax ay aq) ?_;clear aq;refine zM ⟨[(28,.p (.tup [.slc (v8t qa1 ar),.int .i64 au]))],[]⟩ ?_;exact M2 h results21
end Go.Proofs.YtijpapagpebllaaGreatDoor
