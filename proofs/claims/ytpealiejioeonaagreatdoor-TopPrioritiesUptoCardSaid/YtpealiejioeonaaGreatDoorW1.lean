/- -/
import Derived.Shelf.Small.Strs
import Derived.Shelf.SlSortCmp.NoneTotal
import Derived.Ground.SlsfProg
import Derived.Shelf.SortM.Plain
import Derived.Shelf.SortM.SortNone
import Derived.Ground.SlgmProg
import Derived.Ground.SlgnProg
import Derived.Shelf.Spec.SlicesGrow
import Derived.Ground.Names8Prog
import Derived.Test.YtpealiejioeonaaGreatDoorT1
import Derived.Test.YtpealiejioeonaaGreatDoorL1
import Derived.Test.YtpealiejioeonaaGreatDoorA3
import Derived.Test.YtpealiejioeonaaGreatDoorL2
import Derived.Test.YtpealiejioeonaaGreatDoorA2
set_option linter.unusedVariables false
set_option linter.unusedSimpArgs false
set_option maxHeartbeats 4000000
set_option maxRecDepth 20000
open And renaming intro→v5f
open Bool renaming eq_false_iff→vz4
open Int renaming eq_ofNat_of_zero_le→v1v,tmod→v2h
open Go.IntKind renaming i64→vz8
open Go.Lib renaming compareBytes→v28
open List renaming map→v0v,replicate→vyw
open Nat renaming eq_of_beq_eq_true→v5g,le_refl→vza
open Option renaming bind_some→vzm,isSome_some→v5h
open Option.some renaming inj→v1p,injEq→vzs
open Go.Ab.PV renaming int→v5i,str→v5j
namespace Go.Proofs.YtpealiejioeonaaGreatDoor
open Go Go.Ab Tryz
variable {D:Prop}
theorem TK {α:Type} {a:Option α} {b c:α} (h:a=some b) (e:b=c:=by kernel_rfl):a=some c:=h.trans (congrArg some e)
theorem mixed:prog.follows .mixedOrders=true:=by kernel_rfl
@[reducible] noncomputable def cX (f:Func) (X:Nat→Prop) (w:World) (D:Prop) (hT:TabOk prog (fun b=>X b∨F (fun _=>none) (qa0 []) b) w):Cx:=⟨prog,f.ntmps,0,X,[],fun _=>none,w,D,hT⟩
theorem zd {N B:Nat} {X:Nat→Prop} {H0:List (Nat×AO)} {inj0:Inj} {J:World} {tb:TabOk prog (fun b=>X b∨F inj0 (qa0 H0) b) J} {Q:Exit→St→Prop} {st:St} {id:Nat} {l:List Oper} (h:DGo ⟨prog,N,B,X,H0,inj0,J,D,tb⟩ l.toArray l st [] (DK ⟨prog,N,B,X,H0,inj0,J,D,tb⟩ l.toArray Q)) (hs:qh2 l.toArray=true:=by kernel_rfl):AWp ⟨prog,N,B,X,H0,inj0,J,D,tb⟩ (.region id l.toArray true) Q st:=qzf mixed hs h
theorem zdl (n:Nat) {N B:Nat} {X:Nat→Prop} {H0:List (Nat×AO)} {inj0:Inj} {J:World} {tb:TabOk prog (fun b=>X b∨F inj0 (qa0 H0) b) J} {Q:Exit→St→Prop} {st:St} {id:Nat} {l:List Oper} (h:DGo ⟨prog,N,B,X,H0,inj0,J,D,tb⟩ l.toArray (l.take n) st [] (DKL ⟨prog,N,B,X,H0,inj0,J,D,tb⟩ l.toArray (l.drop n) Q)) (hs:qh2 l.toArray=true:=by kernel_rfl) (hl:q8v l.toArray n=true:=by kernel_rfl):AWp ⟨prog,N,B,X,H0,inj0,J,D,tb⟩ (.region id l.toArray true) Q st:=qzj n mixed hs hl h
def qbc (x:Value):PV:=.agg [.int .i64 x.Kind,.int .i64 x.Num,.str x.Str]
@[go_sem] theorem vkx (x:Value):PV.agg [.int .i64 x.Kind,.int .i64 x.Num,.str x.Str]=qbc x:=rfl
@[go_sem] theorem vhh (x:Value):(qbc x).cells=[.int .i64 x.Kind,.int .i64 x.Num,.str x.Str]:=rfl
@[go_sem] theorem vhi (x:Value):(qbc x).isAgg=true:=rfl
@[go_sem] theorem vhj (x:Value):(qbc x).isTup=false:=rfl
@[go_sem] theorem vky:qbc (Value.mk 0 0 [])=.agg [.int .i64 0,.int .i64 0,.str []]:=rfl
@[go_sem] theorem vkz (x:Value):(qbc x).flat=true:=rfl
def qav (x:Drossref03_Recipe):PV:=.agg [.int .u8 x.Attrs,.int .u8 x.Gap,.slc (v0v (qal (v5i .u8)) x.Rows)]
@[go_sem] theorem qzu (x:Drossref03_Recipe):PV.agg [.int .u8 x.Attrs,.int .u8 x.Gap,.slc (v0v (qal (v5i .u8)) x.Rows)]=qav x:=rfl
@[go_sem] theorem qm4 (x:Drossref03_Recipe):(qav x).cells=[.int .u8 x.Attrs,.int .u8 x.Gap,.slc (v0v (qal (v5i .u8)) x.Rows)]:=rfl
@[go_sem] theorem qy2 (x:Drossref03_Recipe):(qav x).isAgg=true:=rfl
@[go_sem] theorem qy3 (x:Drossref03_Recipe):(qav x).isTup=false:=rfl
@[simp] theorem q2g (a_Attrs:Int) (a_Gap:Int) (a_Rows:List (List Int)):qav ⟨a_Attrs,a_Gap,a_Rows⟩=.agg [.int .u8 a_Attrs,.int .u8 a_Gap,.slc (v0v (qal (v5i .u8)) a_Rows)]:=rfl
def qao (x:Row):PV:=.agg [.int .i64 x.ID,.slc (v0v qbc x.Values)]
@[go_sem] theorem vqn (x:Row):PV.agg [.int .i64 x.ID,.slc (v0v qbc x.Values)]=qao x:=rfl
@[go_sem] theorem vma (x:Row):(qao x).cells=[.int .i64 x.ID,.slc (v0v qbc x.Values)]:=rfl
@[go_sem] theorem vmb (x:Row):(qao x).isAgg=true:=rfl
@[go_sem] theorem vmc (x:Row):(qao x).isTup=false:=rfl
@[go_sem] theorem vwx (l:List Row):((l.map qao).all fun y=>y.cells.length == 2)=true:=by simp [qao,PV.cells]
@[go_sem] theorem vwy (l:List Row):((l.map qao).map AV.p).all (qer 2)=true:=qj0 _ _ _ fun _=>⟨rfl,rfl⟩
@[simp] theorem vwz (a_ID:Int) (a_Values:List Value):qao ⟨a_ID,a_Values⟩=.agg [.int .i64 a_ID,.slc (v0v qbc a_Values)]:=rfl
def qad (x:Table):PV:=.agg [.str x.Name,.slc (v0v v5j x.Attrs),.slc (v0v qao x.Rows)]
@[go_sem] theorem vk0 (x:Table):PV.agg [.str x.Name,.slc (v0v v5j x.Attrs),.slc (v0v qao x.Rows)]=qad x:=rfl
@[go_sem] theorem vhk (x:Table):(qad x).cells=[.str x.Name,.slc (v0v v5j x.Attrs),.slc (v0v qao x.Rows)]:=rfl
@[go_sem] theorem vhl (x:Table):(qad x).isAgg=true:=rfl
@[go_sem] theorem vhm (x:Table):(qad x).isTup=false:=rfl
@[simp] theorem vqo (a_Name:List UInt8) (a_Attrs:List (List UInt8)) (a_Rows:List Row):qad ⟨a_Name,a_Attrs,a_Rows⟩=.agg [.str a_Name,.slc (v0v v5j a_Attrs),.slc (v0v qao a_Rows)]:=rfl
def qpd (x:FD):PV:=.agg [.int .u32 x.Lhs,.int .u32 x.Rhs]
@[go_sem] theorem vso (x:FD):PV.agg [.int .u32 x.Lhs,.int .u32 x.Rhs]=qpd x:=rfl
@[go_sem] theorem vqp (x:FD):(qpd x).cells=[.int .u32 x.Lhs,.int .u32 x.Rhs]:=rfl
@[go_sem] theorem vqq (x:FD):(qpd x).isAgg=true:=rfl
@[go_sem] theorem vqr (x:FD):(qpd x).isTup=false:=rfl
@[go_sem] theorem vsp:qpd (FD.mk 0 0)=.agg [.int .u32 0,.int .u32 0]:=rfl
@[go_sem] theorem vsq (x:FD):(qpd x).flat=true:=rfl
def qpe (x:Term):PV:=.agg [.int .i64 x.Var,.int .i64 x.Attr,.int .i64 x.Value.Kind,.int .i64 x.Value.Num,.str x.Value.Str]
@[go_sem] theorem vmd (x:Term):PV.agg [.int .i64 x.Var,.int .i64 x.Attr,.int .i64 x.Value.Kind,.int .i64 x.Value.Num,.str x.Value.Str]=qpe x:=rfl
@[go_sem] theorem vk1 (x:Term):(qpe x).cells=[.int .i64 x.Var,.int .i64 x.Attr,.int .i64 x.Value.Kind,.int .i64 x.Value.Num,.str x.Value.Str]:=rfl
@[go_sem] theorem vk2 (x:Term):(qpe x).isAgg=true:=rfl
@[go_sem] theorem vk3 (x:Term):(qpe x).isTup=false:=rfl
@[go_sem] theorem vme:qpe (Term.mk 0 0 (Value.mk 0 0 []))=.agg [.int .i64 0,.int .i64 0,.int .i64 0,.int .i64 0,.str []]:=rfl
@[go_sem] theorem vmf (x:Term):(qpe x).flat=true:=rfl
def qde (x:Atom):PV:=.agg [.int .i64 x.Left.Var,.int .i64 x.Left.Attr,.int .i64 x.Left.Value.Kind,.int .i64 x.Left.Value.Num,.str x.Left.Value.Str,.int .i64 x.Op,.int .i64 x.Right.Var,.int .i64 x.Right.Attr,.int .i64 x.Right.Value.Kind,.int .i64 x.Right.Value.Num,.str x.Right.Value.Str]
@[go_sem] theorem vmg (x:Atom):PV.agg [.int .i64 x.Left.Var,.int .i64 x.Left.Attr,.int .i64 x.Left.Value.Kind,.int .i64 x.Left.Value.Num,.str x.Left.Value.Str,.int .i64 x.Op,.int .i64 x.Right.Var,.int .i64 x.Right.Attr,.int .i64 x.Right.Value.Kind,.int .i64 x.Right.Value.Num,.str x.Right.Value.Str]=qde x:=rfl
@[go_sem] theorem vk4 (x:Atom):(qde x).cells=[.int .i64 x.Left.Var,.int .i64 x.Left.Attr,.int .i64 x.Left.Value.Kind,.int .i64 x.Left.Value.Num,.str x.Left.Value.Str,.int .i64 x.Op,.int .i64 x.Right.Var,.int .i64 x.Right.Attr,.int .i64 x.Right.Value.Kind,.int .i64 x.Right.Value.Num,.str x.Right.Value.Str]:=rfl
@[go_sem] theorem vk5 (x:Atom):(qde x).isAgg=true:=rfl
@[go_sem] theorem vk6 (x:Atom):(qde x).isTup=false:=rfl
@[go_sem] theorem vmh:qde (Atom.mk (Term.mk 0 0 (Value.mk 0 0 [])) 0 (Term.mk 0 0 (Value.mk 0 0 [])))=.agg [.int .i64 0,.int .i64 0,.int .i64 0,.int .i64 0,.str [],.int .i64 0,.int .i64 0,.int .i64 0,.int .i64 0,.int .i64 0,.str []]:=rfl
@[go_sem] theorem vmi (x:Atom):(qde x).flat=true:=rfl
def qab (x:Denial):PV:=.agg [.int .i64 x.Vars,.slc (v0v qde x.Atoms)]
@[go_sem] theorem vhn (x:Denial):PV.agg [.int .i64 x.Vars,.slc (v0v qde x.Atoms)]=qab x:=rfl
@[go_sem] theorem vha (x:Denial):(qab x).cells=[.int .i64 x.Vars,.slc (v0v qde x.Atoms)]:=rfl
@[go_sem] theorem vhb (x:Denial):(qab x).isAgg=true:=rfl
@[go_sem] theorem vhc (x:Denial):(qab x).isTup=false:=rfl
@[simp] theorem vmj (a_Vars:Int) (a_Atoms:List Atom):qab ⟨a_Vars,a_Atoms⟩=.agg [.int .i64 a_Vars,.slc (v0v qde a_Atoms)]:=rfl
def qfh (x:Cell):PV:=.agg [.bool x.Any,.int .i64 x.Value.Kind,.int .i64 x.Value.Num,.str x.Value.Str]
@[go_sem] theorem vmk (x:Cell):PV.agg [.bool x.Any,.int .i64 x.Value.Kind,.int .i64 x.Value.Num,.str x.Value.Str]=qfh x:=rfl
@[go_sem] theorem vk7 (x:Cell):(qfh x).cells=[.bool x.Any,.int .i64 x.Value.Kind,.int .i64 x.Value.Num,.str x.Value.Str]:=rfl
@[go_sem] theorem vk8 (x:Cell):(qfh x).isAgg=true:=rfl
@[go_sem] theorem vk9 (x:Cell):(qfh x).isTup=false:=rfl
@[go_sem] theorem vml:qfh (Cell.mk false (Value.mk 0 0 []))=.agg [.bool false,.int .i64 0,.int .i64 0,.str []]:=rfl
@[go_sem] theorem vmm (x:Cell):(qfh x).flat=true:=rfl
def qig (x:CFD):PV:=.agg [.slc (v0v (v5i .i64) x.Lhs),.int .i64 x.Rhs,.slc (v0v qfh x.Pattern)]
@[go_sem] theorem vqs (x:CFD):PV.agg [.slc (v0v (v5i .i64) x.Lhs),.int .i64 x.Rhs,.slc (v0v qfh x.Pattern)]=qig x:=rfl
@[go_sem] theorem vmn (x:CFD):(qig x).cells=[.slc (v0v (v5i .i64) x.Lhs),.int .i64 x.Rhs,.slc (v0v qfh x.Pattern)]:=rfl
@[go_sem] theorem vmo (x:CFD):(qig x).isAgg=true:=rfl
@[go_sem] theorem vmp (x:CFD):(qig x).isTup=false:=rfl
@[simp] theorem vw0 (a_Lhs:List Int) (a_Rhs:Int) (a_Pattern:List Cell):qig ⟨a_Lhs,a_Rhs,a_Pattern⟩=.agg [.slc (v0v (v5i .i64) a_Lhs),.int .i64 a_Rhs,.slc (v0v qfh a_Pattern)]:=rfl
def qwd (x:OD):PV:=.agg [.slc (v0v (v5i .i64) x.Lhs),.slc (v0v (v5i .i64) x.Rhs)]
@[go_sem] theorem vsr (x:OD):PV.agg [.slc (v0v (v5i .i64) x.Lhs),.slc (v0v (v5i .i64) x.Rhs)]=qwd x:=rfl
@[go_sem] theorem vqt (x:OD):(qwd x).cells=[.slc (v0v (v5i .i64) x.Lhs),.slc (v0v (v5i .i64) x.Rhs)]:=rfl
@[go_sem] theorem vqu (x:OD):(qwd x).isAgg=true:=rfl
@[go_sem] theorem vqv (x:OD):(qwd x).isTup=false:=rfl
@[simp] theorem encOD_mk (a_Lhs:List Int) (a_Rhs:List Int):qwd ⟨a_Lhs,a_Rhs⟩=.agg [.slc (v0v (v5i .i64) a_Lhs),.slc (v0v (v5i .i64) a_Rhs)]:=rfl
def q5g (x:IND):PV:=.agg [.str x.From,.slc (v0v (v5i .i64) x.Lhs),.str x.To,.slc (v0v (v5i .i64) x.Rhs)]
@[go_sem] theorem vqw (x:IND):PV.agg [.str x.From,.slc (v0v (v5i .i64) x.Lhs),.str x.To,.slc (v0v (v5i .i64) x.Rhs)]=q5g x:=rfl
@[go_sem] theorem vmq (x:IND):(q5g x).cells=[.str x.From,.slc (v0v (v5i .i64) x.Lhs),.str x.To,.slc (v0v (v5i .i64) x.Rhs)]:=rfl
@[go_sem] theorem vmr (x:IND):(q5g x).isAgg=true:=rfl
@[go_sem] theorem vms (x:IND):(q5g x).isTup=false:=rfl
@[simp] theorem vw1 (a_From:List UInt8) (a_Lhs:List Int) (a_To:List UInt8) (a_Rhs:List Int):q5g ⟨a_From,a_Lhs,a_To,a_Rhs⟩=.agg [.str a_From,.slc (v0v (v5i .i64) a_Lhs),.str a_To,.slc (v0v (v5i .i64) a_Rhs)]:=rfl
def qbx (x:Constraint):PV:=.agg [.str x.Name,.str x.Table,.int .i64 x.Kind,.int .u32 x.FD.Lhs,.int .u32 x.FD.Rhs,.int .u32 x.MVD.Lhs,.int .u32 x.MVD.Rhs,.str x.IND.From,.slc (v0v (v5i .i64) x.IND.Lhs),.str x.IND.To,.slc (v0v (v5i .i64) x.IND.Rhs),.slc (v0v (v5i .i64) x.CFD.Lhs),.int .i64 x.CFD.Rhs,.slc (v0v qfh x.CFD.Pattern),.slc (v0v (v5i .i64) x.OD.Lhs),.slc (v0v (v5i .i64) x.OD.Rhs),.int .i64 x.Denial.Vars,.slc (v0v qde x.Denial.Atoms)]
@[go_sem] theorem q96 (x:Constraint):PV.agg [.str x.Name,.str x.Table,.int .i64 x.Kind,.int .u32 x.FD.Lhs,.int .u32 x.FD.Rhs,.int .u32 x.MVD.Lhs,.int .u32 x.MVD.Rhs,.str x.IND.From,.slc (v0v (v5i .i64) x.IND.Lhs),.str x.IND.To,.slc (v0v (v5i .i64) x.IND.Rhs),.slc (v0v (v5i .i64) x.CFD.Lhs),.int .i64 x.CFD.Rhs,.slc (v0v qfh x.CFD.Pattern),.slc (v0v (v5i .i64) x.OD.Lhs),.slc (v0v (v5i .i64) x.OD.Rhs),.int .i64 x.Denial.Vars,.slc (v0v qde x.Denial.Atoms)]=qbx x:=rfl
@[go_sem] theorem q72 (x:Constraint):(qbx x).cells=[.str x.Name,.str x.Table,.int .i64 x.Kind,.int .u32 x.FD.Lhs,.int .u32 x.FD.Rhs,.int .u32 x.MVD.Lhs,.int .u32 x.MVD.Rhs,.str x.IND.From,.slc (v0v (v5i .i64) x.IND.Lhs),.str x.IND.To,.slc (v0v (v5i .i64) x.IND.Rhs),.slc (v0v (v5i .i64) x.CFD.Lhs),.int .i64 x.CFD.Rhs,.slc (v0v qfh x.CFD.Pattern),.slc (v0v (v5i .i64) x.OD.Lhs),.slc (v0v (v5i .i64) x.OD.Rhs),.int .i64 x.Denial.Vars,.slc (v0v qde x.Denial.Atoms)]:=rfl
@[go_sem] theorem q73 (x:Constraint):(qbx x).isAgg=true:=rfl
@[go_sem] theorem q74 (x:Constraint):(qbx x).isTup=false:=rfl
@[simp] theorem vcy (a_Name:List UInt8) (a_Table:List UInt8) (a_Kind:Int) (a_FD:FD) (a_MVD:FD) (a_IND:IND) (a_CFD:CFD) (a_OD:OD) (a_Denial:Denial):qbx ⟨a_Name,a_Table,a_Kind,a_FD,a_MVD,a_IND,a_CFD,a_OD,a_Denial⟩=.agg [.str a_Name,.str a_Table,.int .i64 a_Kind,.int .u32 a_FD.Lhs,.int .u32 a_FD.Rhs,.int .u32 a_MVD.Lhs,.int .u32 a_MVD.Rhs,.str a_IND.From,.slc (v0v (v5i .i64) a_IND.Lhs),.str a_IND.To,.slc (v0v (v5i .i64) a_IND.Rhs),.slc (v0v (v5i .i64) a_CFD.Lhs),.int .i64 a_CFD.Rhs,.slc (v0v qfh a_CFD.Pattern),.slc (v0v (v5i .i64) a_OD.Lhs),.slc (v0v (v5i .i64) a_OD.Rhs),.int .i64 a_Denial.Vars,.slc (v0v qde a_Denial.Atoms)]:=rfl
def qaa (x:Arr3_int64):PV:=.agg [.int .i64 x.x0,.int .i64 x.x1,.int .i64 x.x2]
@[go_sem] theorem q97 (x:Arr3_int64):PV.agg [.int .i64 x.x0,.int .i64 x.x1,.int .i64 x.x2]=qaa x:=rfl
@[go_sem] theorem q75 (x:Arr3_int64):(qaa x).cells=[.int .i64 x.x0,.int .i64 x.x1,.int .i64 x.x2]:=rfl
@[go_sem] theorem q76 (x:Arr3_int64):(qaa x).isAgg=true:=rfl
@[go_sem] theorem q77 (x:Arr3_int64):(qaa x).isTup=false:=rfl
@[go_sem] theorem q98:qaa (Arr3_int64.mk 0 0 0)=.agg [.int .i64 0,.int .i64 0,.int .i64 0]:=rfl
@[go_sem] theorem q99 (x:Arr3_int64):(qaa x).flat=true:=rfl
def qac (x:Hypergraph):PV:=.agg [.slc (v0v (v5i .i64) x.Vertices),.slc (v0v (qal (v5i .i64)) x.Edges)]
@[go_sem] theorem vaa (x:Hypergraph):PV.agg [.slc (v0v (v5i .i64) x.Vertices),.slc (v0v (qal (v5i .i64)) x.Edges)]=qac x:=rfl
@[go_sem] theorem q78 (x:Hypergraph):(qac x).cells=[.slc (v0v (v5i .i64) x.Vertices),.slc (v0v (qal (v5i .i64)) x.Edges)]:=rfl
@[go_sem] theorem q79 (x:Hypergraph):(qac x).isAgg=true:=rfl
@[go_sem] theorem q8a (x:Hypergraph):(qac x).isTup=false:=rfl
@[simp] theorem vcz (a_Vertices:List Int) (a_Edges:List (List Int)):qac ⟨a_Vertices,a_Edges⟩=.agg [.slc (v0v (v5i .i64) a_Vertices),.slc (v0v (qal (v5i .i64)) a_Edges)]:=rfl
def qbo (x:Drossref09_Dep):PV:=.agg [.int .u8 x.L,.int .u8 x.R]
@[go_sem] theorem q2k (x:Drossref09_Dep):PV.agg [.int .u8 x.L,.int .u8 x.R]=qbo x:=rfl
@[go_sem] theorem qpf (x:Drossref09_Dep):(qbo x).cells=[.int .u8 x.L,.int .u8 x.R]:=rfl
@[go_sem] theorem q2h (x:Drossref09_Dep):(qbo x).isAgg=true:=rfl
@[go_sem] theorem q2i (x:Drossref09_Dep):(qbo x).isTup=false:=rfl
@[go_sem] theorem q2l:qbo (Drossref09_Dep.mk 0 0)=.agg [.int .u8 0,.int .u8 0]:=rfl
@[go_sem] theorem q2m (x:Drossref09_Dep):(qbo x).flat=true:=rfl
def qai (x:Arr2_int):PV:=.agg [.int .i64 x.x0,.int .i64 x.x1]
@[go_sem] theorem vc0 (x:Arr2_int):PV.agg [.int .i64 x.x0,.int .i64 x.x1]=qai x:=rfl
@[go_sem] theorem vcs (x:Arr2_int):(qai x).cells=[.int .i64 x.x0,.int .i64 x.x1]:=rfl
@[go_sem] theorem vct (x:Arr2_int):(qai x).isAgg=true:=rfl
@[go_sem] theorem vcu (x:Arr2_int):(qai x).isTup=false:=rfl
@[go_sem] theorem vc1:qai (Arr2_int.mk 0 0)=.agg [.int .i64 0,.int .i64 0]:=rfl
@[go_sem] theorem vc2 (x:Arr2_int):(qai x).flat=true:=rfl
def qih (x:Graph_tarjan):PV:=.agg [.slc (v0v (qal (v5i .i64)) x.next),.slc (v0v (v5i .i64) x.index),.slc (v0v (v5i .i64) x.low),.slc (v0v PV.bool x.on),.slc (v0v (v5i .i64) x.stack),.int .i64 x.count,.slc (v0v (qal (v5i .i64)) x.out)]
@[go_sem] theorem q5r (x:Graph_tarjan):PV.agg [.slc (v0v (qal (v5i .i64)) x.next),.slc (v0v (v5i .i64) x.index),.slc (v0v (v5i .i64) x.low),.slc (v0v PV.bool x.on),.slc (v0v (v5i .i64) x.stack),.int .i64 x.count,.slc (v0v (qal (v5i .i64)) x.out)]=qih x:=rfl
@[go_sem] theorem q5h (x:Graph_tarjan):(qih x).cells=[.slc (v0v (qal (v5i .i64)) x.next),.slc (v0v (v5i .i64) x.index),.slc (v0v (v5i .i64) x.low),.slc (v0v PV.bool x.on),.slc (v0v (v5i .i64) x.stack),.int .i64 x.count,.slc (v0v (qal (v5i .i64)) x.out)]:=rfl
@[go_sem] theorem q5i (x:Graph_tarjan):(qih x).isAgg=true:=rfl
@[go_sem] theorem q5j (x:Graph_tarjan):(qih x).isTup=false:=rfl
@[simp] theorem vab (a_next:List (List Int)) (a_index:List Int) (a_low:List Int) (a_on:List Bool) (a_stack:List Int) (a_count:Int) (a_out:List (List Int)):qih ⟨a_next,a_index,a_low,a_on,a_stack,a_count,a_out⟩=.agg [.slc (v0v (qal (v5i .i64)) a_next),.slc (v0v (v5i .i64) a_index),.slc (v0v (v5i .i64) a_low),.slc (v0v PV.bool a_on),.slc (v0v (v5i .i64) a_stack),.int .i64 a_count,.slc (v0v (qal (v5i .i64)) a_out)]:=rfl
def qak (x:Arr2_int64):PV:=.agg [.int .i64 x.x0,.int .i64 x.x1]
@[go_sem] theorem vac (x:Arr2_int64):PV.agg [.int .i64 x.x0,.int .i64 x.x1]=qak x:=rfl
@[go_sem] theorem q8b (x:Arr2_int64):(qak x).cells=[.int .i64 x.x0,.int .i64 x.x1]:=rfl
@[go_sem] theorem q8c (x:Arr2_int64):(qak x).isAgg=true:=rfl
@[go_sem] theorem q8d (x:Arr2_int64):(qak x).isTup=false:=rfl
@[simp] theorem vc3 (a_x0:Int) (a_x1:Int):qak ⟨a_x0,a_x1⟩=.agg [.int .i64 a_x0,.int .i64 a_x1]:=rfl
@[go_sem] theorem vad:qak (Arr2_int64.mk 0 0)=.agg [.int .i64 0,.int .i64 0]:=rfl
@[go_sem] theorem vae (x:Arr2_int64):(qak x).flat=true:=rfl
def qhn (x:Priority_game):PV:=.agg [.slc (v0v (v5i .i64) x.h.Vertices),.slc (v0v (qal (v5i .i64)) x.h.Edges),.int .u16 x.free,.slc (v0v (v5i .u16) x.near),.slc (v0v (v5i .u16) x.above)]
@[go_sem] theorem q5k (x:Priority_game):PV.agg [.slc (v0v (v5i .i64) x.h.Vertices),.slc (v0v (qal (v5i .i64)) x.h.Edges),.int .u16 x.free,.slc (v0v (v5i .u16) x.near),.slc (v0v (v5i .u16) x.above)]=qhn x:=rfl
@[go_sem] theorem q2n (x:Priority_game):(qhn x).cells=[.slc (v0v (v5i .i64) x.h.Vertices),.slc (v0v (qal (v5i .i64)) x.h.Edges),.int .u16 x.free,.slc (v0v (v5i .u16) x.near),.slc (v0v (v5i .u16) x.above)]:=rfl
@[go_sem] theorem q2o (x:Priority_game):(qhn x).isAgg=true:=rfl
@[go_sem] theorem q2p (x:Priority_game):(qhn x).isTup=false:=rfl
@[simp] theorem q8e (a_h:Hypergraph) (a_free:Int) (a_near:List Int) (a_above:List Int):qhn ⟨a_h,a_free,a_near,a_above⟩=.agg [.slc (v0v (v5i .i64) a_h.Vertices),.slc (v0v (qal (v5i .i64)) a_h.Edges),.int .u16 a_free,.slc (v0v (v5i .u16) a_near),.slc (v0v (v5i .u16) a_above)]:=rfl
def qgz:Option Priority_game→PV
  | none=>.nilp
  | some x=>.imm [.slc (v0v (v5i .i64) x.h.Vertices),.slc (v0v (qal (v5i .i64)) x.h.Edges),.int .u16 x.free,.slc (v0v (v5i .u16) x.near),.slc (v0v (v5i .u16) x.above)]
@[go_sem] theorem q2q:qgz none=.nilp:=rfl
@[go_sem] theorem q2r (x:Priority_game):qgz (some x)=.imm [.slc (v0v (v5i .i64) x.h.Vertices),.slc (v0v (qal (v5i .i64)) x.h.Edges),.int .u16 x.free,.slc (v0v (v5i .u16) x.near),.slc (v0v (v5i .u16) x.above)]:=rfl
theorem qkz (a b:Arr3_int64):qpm prog 173 (qaa a) (qaa b)=some (decide (a=b)):=by
  obtain⟨_,_,_⟩:=a;obtain⟨J,O,U⟩:=b;simp only [qaa,qpm,qwh,eqC,go_sem,seval,beq_self_eq_true,Bool.true_and,Bool.and_true,if_true,vzm,v5h];congr 1;rw [Bool.eq_iff_iff];simp
@[go_sem] theorem q2s (x:Arr3_int64):qwh prog 173 (qaa x)=true:=by
  obtain⟨_,_,_⟩:=x;simp only [qaa,qpm,qwh,eqC,go_sem,seval,beq_self_eq_true,Bool.true_and,Bool.and_true,if_true,vzm,v5h]
@[go_sem] theorem qpv {V:Type} (k:Arr3_int64) (m:List (Arr3_int64×V)) (g:V→PV):qsk prog 173 (qaa k) (qg2 qaa m) ((qhc g m).map AV.p)=some ((quy m k).map fun v=>AV.p (g v)):=vd8 _ _ _ qkz k m g
@[go_sem] theorem q2j {V:Type} (J:Int) (O:Int) (U:Int) (m:List (Arr3_int64×V)) (g:V→PV):qsk prog 173 (.agg [.int .i64 J,.int .i64 O,.int .i64 U]) (qg2 qaa m) ((qhc g m).map AV.p)=some ((quy m (Arr3_int64.mk J O U)).map fun v=>AV.p (g v)):=qpv (Arr3_int64.mk J O U) m g
@[go_sem] theorem qqy {V:Type} (k:Arr3_int64) (m:List (Arr3_int64×V)) (g:V→PV) (v:V):q8i prog 173 (qaa k) (.p (g v)) (qg2 qaa m) ((qhc g m).map AV.p)=some (qg2 qaa (qzg m k v),(qhc g (qzg m k v)).map AV.p):=vid _ _ _ qkz k m g v
@[go_sem] theorem q2t {V:Type} (J:Int) (O:Int) (U:Int) (m:List (Arr3_int64×V)) (g:V→PV) (v:V):q8i prog 173 (.agg [.int .i64 J,.int .i64 O,.int .i64 U]) (.p (g v)) (qg2 qaa m) ((qhc g m).map AV.p)=some (qg2 qaa (qzg m (Arr3_int64.mk J O U) v),(qhc g (qzg m (Arr3_int64.mk J O U) v)).map AV.p):=qqy (Arr3_int64.mk J O U) m g v
theorem qop (J:Int) (O:Value) (h:qd1 J=some O):Con D prog 44 [(.int .u8 J)] (qbc O):=by
 refine zP call44 func44 rfl ntmps44 fun X w hT=>?_;simp only [qd1] at h;refine Mk ?_;refine Mc ?_;refine zU<|zl<|zn<|zb<|zs<|zr ?_;refine Ma ?_;obtain⟨_,h⟩|⟨_,h⟩:=zI h;refine M4 ?_;exact T3 h results44;refine Mz ?_;refine Ma ?_;obtain⟨_,h⟩|⟨_,h⟩:=zI h;refine M4 ?_;exact T3 h results44;refine Mz ?_;refine Ma ?_;obtain⟨_,h⟩|⟨_,h⟩:=zI h;refine M4 ?_;exact T3 h results44;refine Mz ?_;refine Ma ?_;obtain⟨_,h⟩|⟨_,h⟩:=zI h;refine M4 ?_;exact T3 h results44;refine Mz ?_;refine Ma ?_;obtain⟨_,h⟩|⟨_,h⟩:=zI h;refine M4 ?_;exact T3 h results44;refine Mz ?_;refine Ma ?_;obtain⟨_,h⟩|⟨_,h⟩:=zI h;refine M4 ?_;exact T3 h results44;refine Mz ?_;refine Ma ?_;obtain⟨_,h⟩|⟨_,h⟩:=zI h;refine M4 ?_;exact T3 h results44;refine Mz ?_;refine Ma ?_;obtain⟨_,h⟩|⟨_,h⟩:=zI h;refine M4 ?_;exact T3 h results44;refine Mz ?_;refine Ma ?_;obtain⟨_,h⟩|⟨_,h⟩:=zI h;refine M4 ?_;exact T3 h results44;refine Mz ?_;refine Ma ?_;obtain⟨_,h⟩|⟨_,h⟩:=zI h;refine M4 ?_;exact T3 h results44;refine Mz ?_;refine Ma ?_;obtain⟨_,h⟩|⟨_,h⟩:=zI h;refine M4 ?_;exact T3 h results44;refine T2 ?_;exact M1 h results44
theorem qs6 (U:Drossref03_Recipe) (J:Int) (r3:Table) (h:qh6 U J=some r3):Con D prog 18 [(qav U),(.int .i64 J)] (qad r3):=by
 refine zP call18 func18 rfl ntmps18 fun X w hT=>?_;simp only [qh6] at h;refine Mk ?_;refine M8 ?_;obtain⟨h4,h⟩:=qag h;obtain⟨h5,h⟩:=qag h;refine zW 4 ?_;obtain⟨O,h7,h⟩:=zB h;replace h7:=v1p h7;refine vmv (st':=⟨[(1,.p (.int .i64 J)),(2,.loc 2 1 0 0),(4,.loc 4 1 0 0),(10,.own 10 1 0 0),(13,.own 11 1 0 J.toNat)],[(2,.arr 24 3 1 [.p (qav U)]),(4,.arr 30 3 1 [.agg [.p (.str []),.nils,.nils]]),(10,.arr 9 1 1 []),(11,.arr 9 1 1 (v0v AV.p (v0v v5j O)))]⟩) (by simp only [go_sem,seval,←h7];all_goals ((repeat' refine v5f ?_ ?_) <;> first | rfl | (simp;done) | (simp;rfl) | (simp [*];done) | (simp [*];rfl))) ?_
 have au:O.length=8:=by rw [←h7];rfl
 clear h7;obtain⟨h8,h⟩:=qag h;refine M7 ?_;obtain⟨_,ai,h⟩:=zB h;refine zO (fun (s:List Row×Int)=>⟨[(1,.p (.int .i64 J)),(2,.loc 2 1 0 0),(4,.loc 4 1 0 0),(5,.loc 5 1 0 0),(6,.p (.int .i64 s.2))],[(2,.arr 24 3 1 [.p (qav U)]),(4,.arr 30 3 1 [.agg [.p (.str []),.nils,.nils]]),(5,.arr 30 3 1 [.agg [.p (.str [114]),.own 10 1 0 ((O.take J.toNat)).length,.own 64 1 0 s.1.length]]),(10,.arr 9 1 1 (v0v AV.p (v0v v5j (O.take J.toNat)))),(64,.arr 65 2 1 (v0v AV.p (v0v qao s.1)))]⟩) (fun (aj:List Row)=>tE (cX Tryz.f18 X w D hT) (.exit 0) ⟨[(4,.loc 4 1 0 0),(5,.loc 5 1 0 0)],[(4,.arr 30 3 1 [.agg [.p (.str []),.nils,.nils]]),(5,.arr 30 3 1 [.agg [.p (.str [114]),.own 10 1 0 ((O.take J.toNat)).length,.own 64 1 0 aj.length]]),(10,.arr 9 1 1 (v0v AV.p (v0v v5j (O.take J.toNat)))),(64,.arr 65 2 1 (v0v AV.p (v0v qao aj)))]⟩) ai ?_ ?_;clear h h4 h5 au h8 ai;intro s x h;obtain⟨ac,ae⟩:=s;simp only [qf0] at h;refine Mv ?_;refine Ma ?_;obtain⟨ak,h⟩|⟨ak,h⟩:=zI h;refine Mb ?_;refine M7 ?_;obtain⟨aw,am,h⟩:=zB h;refine zO (fun (s:List Value×Int)=>⟨[(1,.p (.int .i64 J)),(2,.loc 2 1 0 0),(4,.loc 4 1 0 0),(5,.loc 5 1 0 0),(6,.p (.int .i64 ae)),(7,.loc 7 1 0 0),(8,.p (.int .i64 s.2))],[(2,.arr 24 3 1 [.p (qav U)]),(4,.arr 30 3 1 [.agg [.p (.str []),.nils,.nils]]),(5,.arr 30 3 1 [.agg [.p (.str [114]),.own 10 1 0 ((O.take J.toNat)).length,.own 64 1 0 ac.length]]),(7,.arr 65 2 1 [.agg [.p (.int .i64 (vz8.wrap (1+(vz8.wrap (ae * (vz8.wrap (1+(vz8.wrap (v2h U.Gap 3))))))))),.own 58 1 0 s.1.length]]),(10,.arr 9 1 1 (v0v AV.p (v0v v5j (O.take J.toNat)))),(58,.arr 135 3 1 (v0v AV.p (v0v qbc s.1))),(64,.arr 65 2 1 (v0v AV.p (v0v qao ac)))]⟩) (fun (ap:List Value)=>tE (cX Tryz.f18 X w D hT) (.exit 2) ⟨[(1,.p (.int .i64 J)),(2,.loc 2 1 0 0),(4,.loc 4 1 0 0),(5,.loc 5 1 0 0),(6,.p (.int .i64 ae)),(7,.loc 7 1 0 0)],[(2,.arr 24 3 1 [.p (qav U)]),(4,.arr 30 3 1 [.agg [.p (.str []),.nils,.nils]]),(5,.arr 30 3 1 [.agg [.p (.str [114]),.own 10 1 0 ((O.take J.toNat)).length,.own 64 1 0 ac.length]]),(7,.arr 65 2 1 [.agg [.p (.int .i64 (vz8.wrap (1+(vz8.wrap (ae * (vz8.wrap (1+(vz8.wrap (v2h U.Gap 3))))))))),.own 58 1 0 ap.length]]),(10,.arr 9 1 1 (v0v AV.p (v0v v5j (O.take J.toNat)))),(58,.arr 135 3 1 (v0v AV.p (v0v qbc ap))),(64,.arr 65 2 1 (v0v AV.p (v0v qao ac)))]⟩) am ?_ ?_;clear h ak am;intro s x h;obtain⟨_,_⟩:=s;simp only [qfz] at h;refine Mv ?_;refine Ma ?_;obtain⟨_,h⟩|⟨_,h⟩:=zI h;refine Mb ?_;refine Mc ?_;obtain⟨_,_,_,_,h⟩:=zX h;refine Ma ?_;obtain⟨_,h⟩|⟨_,h⟩:=zI h;refine zi<|zr ?_;obtain⟨ax,_,_,_,h⟩:=zX h;refine zU<|zl<|zn<|zd ?_;refine yU ?_;obtain⟨_,ay,h⟩:=zB h;refine yc (qop ax _ ay) ?_;obtain⟨_,h⟩:=qag h;refine Mx ?_;exact M0 h;refine zj<|zk<|zn<|zd ?_;refine yU ?_;obtain⟨_,az,h⟩:=zB h;refine yc (qop 0 _ az) ?_;obtain⟨_,h⟩:=qag h;refine Mx ?_;exact M0 h;exact M3 h;try simp only at h
 refine zA<|yh<|zn<|zr ?_;refine zW 4 ?_;refine zM ⟨[(1,.p (.int .i64 J)),(2,.loc 2 1 0 0),(4,.loc 4 1 0 0),(5,.loc 5 1 0 0),(6,.p (.int .i64 ae)),(61,.own 64 1 0 ac.length),(63,.own 63 1 0 1)],[(2,.arr 24 3 1 [.p (qav U)]),(4,.arr 30 3 1 [.agg [.p (.str []),.nils,.nils]]),(5,.arr 30 3 1 [.agg [.p (.str [114]),.own 10 1 0 ((O.take J.toNat)).length,.own 64 1 0 ac.length]]),(10,.arr 9 1 1 (v0v AV.p (v0v v5j (O.take J.toNat)))),(63,.arr 65 2 1 [.p (.agg [.int .i64 (vz8.wrap (1+(vz8.wrap (ae * (vz8.wrap (1+(vz8.wrap (v2h U.Gap 3)))))))),.slc (v0v qbc aw)])]),(64,.arr 65 2 1 (v0v AV.p (v0v qao ac)))]⟩ ?_;obtain⟨_,h⟩:=qag h;refine Ml ?_;exact M0 h;exact M3 h;try simp only at h
 refine Me ?_;exact M1 h results18
theorem qrw (J:Drossref03_Recipe) (U:Int) (O:Table×Bool) (h:qee J U=some O):Con D prog 4 [(qav J),(.int .i64 U)] (.tup [(qad O.1),(.bool O.2)]):=by
 refine zP call4 func4 rfl ntmps4 fun X w hT=>?_;simp only [qee] at h;refine Mk ?_;refine Mc ?_;refine Ma ?_;obtain⟨_,h⟩|⟨_,h⟩:=zI h;exact M2 h results4;refine Mi ?_;refine zU ?_;obtain⟨_,h6,h⟩:=zB h;refine zc (qs6 J (vz8.wrap (v2h J.Attrs 6)) _ h6) ?_;exact M1 h results4
theorem qju (x:Int) (r:Int) (h:qge x=some r):Con D prog 191 [(.int .u32 x)] (.int .i64 r):=by
 obtain⟨hx,h⟩:=qag h;obtain⟨n,rfl⟩:=v1v hx.1;have hn:n < 4294967296:=by omega
 replace h:=v1p h;subst h;rw [Int.toNat_natCast];refine zP call191 func191 rfl ntmps191 fun X w hT=>?_;refine Mk ?_;refine Ma ?_;by_cases J:n=0;subst J;refine T7 ?_;refine Ma ?_;refine Mp ?_;refine Mn ?_;exact zT results191;have hb:((n:Int) == 0)=false:=by simp;omega
 refine T7 ?_;refine Ma ?_;refine Mi ?_;refine zW 6 ?_;refine zTab (g:=0) (x:=.tmp 10) (k:=.u32) (tzI n) (by kernel_rfl) underlying278 (vls n) (by simp only [go_sem,seval, *];exact vtz J hn) ?_;have hw:=@vek n;refine Ms ?_;have ht:vq1 n=qkt.getD (tzI n) 0:=if_neg J;rw [ht];exact zT results191
theorem vw2 (a b:List UInt8) (w:World):(callFunc 323 #[.string ⟨a.toArray⟩,.string ⟨b.toArray⟩]).run prog w=.ok (.value (.int .i64 (v28 a b))) w:=by
  rw [run_callFunc_extern func323 (by kernel_rfl) (by kernel_rfl) (by kernel_rfl) (e:=Extern.BytealgCompare.compare) (by kernel_rfl),Lib.run_compareString];rfl
theorem qn0 (J:List UInt8) (O:List UInt8) (U:Int) (h:qf3 J O=some U):Con D prog 309 [(.str J),(.str O)] (.int .i64 U):=by
 refine zP call309 func309 rfl ntmps309 fun X w hT=>?_;simp only [qf3] at h;refine Mk ?_;refine M8 ?_;refine zU ?_;refine vn1 (vw2 J O) (by simp only [go_sem,seval];all_goals ((repeat' refine v5f ?_ ?_) <;> first | rfl | (simp;done) | (simp;rfl) | (simp [*];done) | (simp [*];rfl))) (by simp only [go_sem,seval];all_goals ((repeat' refine v5f ?_ ?_) <;> first | rfl | (simp;done) | (simp;rfl) | (simp [*];done) | (simp [*];rfl))) rfl ?_
 exact M1 h results309
theorem qmq (J:List UInt8) (O:List UInt8) (U:Int) (h:qh9 J O=some U):Con D prog 294 [(.str J),(.str O)] (.int .i64 U):=by
 refine zP call294 func294 rfl ntmps294 fun X w hT=>?_;simp only [qh9] at h;refine Mk ?_;refine M8 ?_;refine zU ?_;obtain⟨_,h5,h⟩:=zB h;refine zc (qn0 J O _ h5) ?_;exact M1 h results294
theorem vhd:vb0 prog q9d:=by
  intro k t ps r O J;unfold q9d at O;by_cases hk:k=294
  · subst hk
    simp only [Nat.beq_refl,cond_true,vzs] at O;subst O;dsimp only at J;split at J
    · rename_i x y
      cases J;have c:∀D,Con D prog 294 [(.str x),(.str y)] (.int .i64 (v28 x y)):=fun D=>qmq x y _ rfl
      exact⟨(c True).1,fun D=>(c D).2⟩
    · cases J
  · have:Nat.beq k 294=false:=vz4.2 fun h=>hk (v5g h)
    rw [this,cond_false] at O;by_cases hk:k=191
    · subst hk
      simp only [Nat.beq_refl,cond_true,vzs] at O;subst O;dsimp only at J;split at J
      · rename_i n
        split at J
        · rename_i hn
          cases J;have c:∀D,Con D prog 191 [.int .u32 n] (.int .i64 (vq1 n.toNat)):=fun D=>qju n _ (if_pos hn)
          exact⟨(c True).1,fun D=>(c D).2⟩
        · cases J
      · cases J
    · have:Nat.beq k 191=false:=vz4.2 fun h=>hk (v5g h)
      rw [this,cond_false] at O;cases O
theorem run5:vhv D prog 5 [] (.bool true):=q1y (by decide +kernel) mixed vhd vjl
theorem qli (r:Bool) (h:qhe=some r):Con D prog 5 [] (.bool r):=by
 cases h;exact⟨call5,run5⟩
theorem qpq (J:List UInt8) (O:Bool) (h:qjr J=some O):Con D prog 57 [(.str J)] (.bool O):=by
 refine zP call57 func57 rfl ntmps57 fun X w hT=>?_;simp only [qjr] at h;refine Mk ?_;refine Mc ?_;refine zU ?_;obtain⟨U,h⟩|⟨U,h⟩:=zI h;refine zw 8 true ?_;refine Mg ?_;refine Ma ?_;exact M2 h results57;refine zw 8 false ?_;refine M6 ?_;refine zU ?_;obtain⟨h4,h⟩|⟨h4,h⟩:=zI h;refine zw 13 true ?_;refine zh ?_;refine Ma ?_;exact M2 h results57;refine zw 13 false ?_;refine Mj ?_;refine Ma ?_;obtain⟨h5,h⟩|⟨h5,h⟩:=zI h;exact M2 h results57;refine Mh ?_;obtain⟨o6,h7,h⟩:=zB h;refine zO (fun (s:Int)=>⟨[(0,.p (.str J)),(18,.p (.int .i64 (J.length:Int))),(19,.p (.int .i64 s))],[]⟩) (fun (o:Unit⊕(Bool))=>match o with|.inl o8=>tE (cX Tryz.f57 X w D hT) (.exit 0) ⟨[],[]⟩|.inr o9=>tR prog Tryz.f57 (.bool o9)) h7 ?_ ?_;clear h U h4 h5 h7;intro ah x h;simp only [qgl] at h;refine M9 ?_;obtain⟨_,h⟩|⟨_,h⟩:=zI h;refine Mb ?_;refine M8 ?_;obtain⟨am,_,_,_,h⟩:=zX h;refine Ma ?_;obtain⟨ap,ai,h⟩:=zB h;refine zJ (fun (aq:Bool)=>tE (cX Tryz.f57 X w D hT) .normal ⟨[(0,.p (.str J)),(3,.p (.int .i64 ah)),(4,.p (.int .u8 ((am.toNat:Nat):Int))),(5,.p (.bool aq)),(18,.p (.int .i64 (J.length:Int))),(19,.p (.int .i64 ah))],[]⟩) ap ?_ ?_;replace h:=ai;clear ai;refine zr ?_;refine zU ?_;obtain⟨_,h⟩|⟨_,h⟩:=zI h;refine zw 27 true ?_;refine Mj ?_;refine zU ?_;obtain⟨_,h⟩|⟨_,h⟩:=zI h;refine zw 31 true ?_;refine Mg ?_;exact M0 h;refine zw 31 false ?_;refine M6 ?_;obtain⟨_,h⟩|⟨_,h⟩:=zI h;refine zw 34 true ?_;refine M6 ?_;refine zU ?_;obtain⟨_,h⟩|⟨_,h⟩:=zI h;refine zw 39 true ?_;refine zh ?_;exact M0 h;replace h:=h.symm;refine zw 39 false ?_;refine Mj ?_;exact M0 h;replace h:=h.symm;refine zw 34 false ?_;refine zh ?_;refine T4 ?_;refine Mj ?_;exact M0 h;refine zw 27 false ?_;refine zh ?_;refine zU ?_;refine M6 ?_;obtain⟨_,h⟩|⟨_,h⟩:=zI h;refine zw 34 true ?_;refine M6 ?_;refine zU ?_;obtain⟨_,h⟩|⟨_,h⟩:=zI h;refine zw 39 true ?_;refine zh ?_;exact M0 h;replace h:=h.symm;refine zw 39 false ?_;refine Mj ?_;exact M0 h;replace h:=h.symm;refine zw 34 false ?_;refine zh ?_;refine T4 ?_;refine Mj ?_;exact M0 h;try simp only at h
 refine zA<|zn<|zs<|zr ?_;refine zU ?_;obtain⟨_,h⟩|⟨_,h⟩:=zI h;refine zw 45 false ?_;refine zh ?_;refine Ma ?_;refine Md ?_;exact M0 h;refine zw 45 true ?_;refine M6 ?_;obtain⟨_,h⟩|⟨_,h⟩:=zI h;replace h:=h.symm;refine zw 48 true ?_;refine zh ?_;refine Mj ?_;refine zh ?_;refine zg ?_;refine Ma ?_;refine M4 ?_;cases h;exact⟨rfl,zT results57⟩;refine zw 48 false ?_;refine M6 ?_;refine zg ?_;obtain⟨_,h⟩|⟨_,h⟩:=zI h;replace h:=h.symm;refine zw 52 true ?_;refine zh ?_;refine zg ?_;refine Ma ?_;refine M4 ?_;cases h;exact⟨rfl,zT results57⟩;refine zw 52 false ?_;refine M6 ?_;refine Ma ?_;obtain⟨_,h⟩|⟨_,h⟩:=zI h;refine M4 ?_;cases h;exact⟨rfl,zT results57⟩;refine Md ?_;exact M0 h;exact M3 h;rcases o6 with⟨⟩ | _;try simp only at h
 refine Me ?_;exact M1 h results57;exact M5 h
theorem qpg (J:List (List UInt8)) (O:List UInt8) (U:Int) (h:qe4 J O=some U):Con D prog 118 [(.slc (v0v v5j J)),(.str O)] (.int .i64 U):=by
 refine zP call118 func118 rfl ntmps118 fun X w hT=>?_;simp only [qe4] at h;refine Mk ?_;refine M7 ?_;obtain⟨o4,h5,h⟩:=zB h;refine zO (fun (s:Int)=>⟨[(0,.p (.slc (v0v v5j J))),(1,.p (.str O)),(7,.p (.int .i64 (J.length:Int))),(8,.p (.int .i64 s))],[]⟩) (fun (o:Unit⊕(Int))=>match o with|.inl o6=>tE (cX Tryz.f118 X w D hT) (.exit 0) ⟨[],[]⟩|.inr o7=>tR prog Tryz.f118 (.int .i64 o7)) h5 ?_ ?_;clear h h5;intro _ x h;simp only [qcn] at h;refine M9 ?_;obtain⟨_,h⟩|⟨_,h⟩:=zI h;refine Mb ?_;refine M8 ?_;obtain⟨_,_,_,_,h⟩:=zX h;refine Ma ?_;obtain⟨_,h⟩|⟨_,h⟩:=zI h;refine M4 ?_;cases h;exact⟨rfl,zT results118⟩;refine Md ?_;exact M0 h;exact M3 h;rcases o4 with⟨⟩ | _;try simp only at h
 refine Me ?_;exact M1 h results118;exact M5 h
theorem qm5 (J:List (List UInt8)) (O:List UInt8) (U:Bool) (h:qdq J O=some U):Con D prog 58 [(.slc (v0v v5j J)),(.str O)] (.bool U):=by
 refine zP call58 func58 rfl ntmps58 fun X w hT=>?_;simp only [qdq] at h;refine Mk ?_;refine M8 ?_;refine zU ?_;obtain⟨_,h5,h⟩:=zB h;refine zc (qpg J O _ h5) ?_;exact M1 h results58
theorem qm6 (J:List Value) (O:Value→Option (Bool)) (f2_k:FuncId) (f2_cs:List PV) (f2_h:∀(U:Value) (r4:Bool),O U=some r4→Con D prog f2_k ((qbc U) :: f2_cs) (.bool r4)) (r5:Int) (h:qdr J O=some r5):Con D prog 190 [(.slc (v0v qbc J)),.func (.func f2_k) f2_cs] (.int .i64 r5):=by
 refine zP call190 func190 rfl ntmps190 fun X w hT=>?_;simp only [qdr] at h;refine Mk ?_;refine M7 ?_;obtain⟨o6,h7,h⟩:=zB h;refine zO (fun (s:Int)=>⟨[(0,.p (.slc (v0v qbc J))),(1,.p (.func (.func f2_k) f2_cs)),(7,.p (.int .i64 (J.length:Int))),(8,.p (.int .i64 s))],[]⟩) (fun (o:Unit⊕(Int))=>match o with|.inl o8=>tE (cX Tryz.f190 X w D hT) (.exit 0) ⟨[],[]⟩|.inr o9=>tR prog Tryz.f190 (.int .i64 o9)) h7 ?_ ?_;clear h h7;intro _ x h;simp only [qb3] at h;refine M9 ?_;obtain⟨_,h⟩|⟨_,h⟩:=zI h;refine Mb ?_;refine M8 ?_;obtain⟨aj,_,_,_,h⟩:=zX h;refine zU ?_;obtain⟨_,ak,h⟩:=zB h;refine zc (f2_h aj _ ak) ?_;refine zl<|zn ?_;obtain⟨_,h⟩|⟨_,h⟩:=zI h;refine M4 ?_;cases h;exact⟨rfl,zT results190⟩;refine Md ?_;exact M0 h;exact M3 h;rcases o6 with⟨⟩ | _;try simp only at h
 refine Me ?_;exact M1 h results190;exact M5 h
theorem qla (J:List Value) (O:Value→Option (Bool)) (f2_k:FuncId) (f2_cs:List PV) (f2_h:∀(U:Value) (r4:Bool),O U=some r4→Con D prog f2_k ((qbc U) :: f2_cs) (.bool r4)) (r5:Bool) (h:qcr J O=some r5):Con D prog 119 [(.slc (v0v qbc J)),.func (.func f2_k) f2_cs] (.bool r5):=by
 refine zP call119 func119 rfl ntmps119 fun X w hT=>?_;simp only [qcr] at h;refine Mk ?_;refine M8 ?_;refine zU ?_;obtain⟨_,h7,h⟩:=zB h;refine zc (qm6 J O f2_k f2_cs f2_h _ h7) ?_;exact M1 h results119
theorem qmr (J:Value) (O:Bool) (h:qjh J=some O):Con D prog 121 [(qbc J)] (.bool O):=by
 refine zP call121 func121 rfl ntmps121 fun X w hT=>?_;simp only [qjh] at h;refine Mk ?_;refine Mc ?_;refine zU<|zl<|zn<|zb<|zs<|zr ?_;refine Ma ?_;obtain⟨_,h⟩|⟨_,h⟩:=zI h;refine Mp ?_;refine zU ?_;obtain⟨_,h⟩|⟨_,h⟩:=zI h;replace h:=h.symm;refine zw 10 true ?_;refine M6 ?_;exact Mq h results121;refine zw 10 false ?_;refine zh ?_;exact Mq h results121;refine Mz ?_;refine Ma ?_;obtain⟨_,h⟩|⟨_,h⟩:=zI h;refine M4 ?_;exact T3 h results121;refine Mz ?_;refine Ma ?_;obtain⟨_,h⟩|⟨_,h⟩:=zI h;refine Mp ?_;refine zU ?_;obtain⟨_,h⟩|⟨_,h⟩:=zI h;replace h:=h.symm;refine zw 25 true ?_;refine M6 ?_;refine zg ?_;exact Mq h results121;refine zw 25 false ?_;refine zh ?_;exact Mq h results121;refine Mz ?_;refine Ma ?_;obtain⟨_,h⟩|⟨_,h⟩:=zI h;refine Mp ?_;refine zU ?_;obtain⟨_,h⟩|⟨_,h⟩:=zI h;replace h:=h.symm;refine zw 36 true ?_;refine M6 ?_;exact Mq h results121;refine zw 36 false ?_;refine zh ?_;exact Mq h results121;refine T2 ?_;exact M1 h results121
theorem qph (J:Value) (O:Bool) (h:qdu J=some O):Con D prog 120 [(qbc J)] (.bool O):=by
 refine zP call120 func120 rfl ntmps120 fun X w hT=>?_;simp only [qdu] at h;refine Mk ?_;refine M8 ?_;refine zU ?_;obtain⟨_,U,h⟩:=zB h;refine zc (qmr J _ U) ?_;exact M1 h results120
theorem qqz (J:List Value) (U:Bool) (h:qgm J=some U):Con D prog 59 [(.slc (v0v qbc J))] (.bool U):=by
 refine zP call59 func59 rfl ntmps59 fun X w hT=>?_;simp only [qgm] at h;refine Mk ?_;refine M8 ?_;refine zU ?_;obtain⟨_,h4,h⟩:=zB h;refine zc (qla J (fun (O:Value)=>qdu O) 120 [] (fun O r h=>qph O r h) _ h4) ?_;exact M1 h results59
theorem qkb (J:Table) (r2:Int) (h:qh7 J=some r2):Con D prog 23 [(qad J)] (.int .i64 r2):=by
 refine zP call23 func23 rfl ntmps23 fun X w hT=>?_;simp only [qh7] at h;refine Mk ?_;refine Mc ?_;refine zU ?_;obtain⟨_,O,h⟩:=zB h;refine zc (qpq J.Name _ O) ?_;refine Ma ?_;obtain⟨U,h⟩|⟨U,h⟩:=zI h;refine Mt ?_;refine zU ?_;obtain⟨h6,h⟩|⟨h6,h⟩:=zI h;refine zw 16 true ?_;refine zh ?_;refine Ma ?_;exact M2 h results23;refine zw 16 false ?_;refine M6 ?_;refine zg ?_;refine Ma ?_;obtain⟨h7,h⟩|⟨h7,h⟩:=zI h;exact M2 h results23;refine Mh ?_;obtain⟨o8,h9,h⟩:=zB h;refine zO (fun (s:Int)=>⟨[(1,.loc 1 1 0 0),(23,.p (.slc (v0v v5j J.Attrs))),(24,.p (.int .i64 (J.Attrs.length:Int))),(25,.p (.int .i64 s))],[(1,.arr 30 3 1 [.p (qad J)])]⟩) (fun (o:Unit⊕(Int))=>match o with|.inl ay=>tE (cX Tryz.f23 X w D hT) (.exit 0) ⟨[(1,.loc 1 1 0 0)],[(1,.arr 30 3 1 [.p (qad J)])]⟩ | .inr am=>tR prog Tryz.f23 (.int .i64 am)) h9 ?_ ?_;clear h O U h6 h7 h9;intro ap x h;simp only [qho] at h;refine M9 ?_;obtain⟨_,h⟩|⟨_,h⟩:=zI h;refine Mb ?_;obtain⟨ai,_,_,_,h⟩:=zX h;refine M8 ?_;refine zU ?_;obtain⟨_,aq,h⟩:=zB h;refine zc (qpq ai _ aq) ?_;refine zU ?_;obtain⟨_,h⟩|⟨_,h⟩:=zI h;refine zw 33 false ?_;refine M6 ?_;obtain⟨_,h⟩:=qag h;obtain⟨_,h⟩:=qag h;refine Mj ?_;obtain⟨_,ar,h⟩:=zB h;refine zc (qm5 (J.Attrs.take (ap.toNat)) ai _ ar) ?_;refine Ma ?_;obtain⟨_,h⟩|⟨_,h⟩:=zI h;refine M4 ?_;cases h;exact⟨rfl,zT results23⟩;refine Md ?_;exact M0 h;refine zw 33 true ?_;refine zh ?_;refine Ma ?_;refine M4 ?_;cases h;exact⟨rfl,zT results23⟩;exact M3 h;rcases o8 with⟨⟩ | _;try simp only at h
 refine Me ?_;refine M7 ?_;obtain⟨au,aj,h⟩:=zB h;refine zO (fun (s:Int×Int)=>⟨[(1,.loc 1 1 0 0),(5,.p (.int .i64 s.1)),(43,.p (.slc (v0v qao J.Rows))),(44,.p (.int .i64 (J.Rows.length:Int))),(45,.p (.int .i64 s.2))],[(1,.arr 30 3 1 [.p (qad J)])]⟩) (fun (o:Unit⊕(Int))=>match o with|.inl az=>tE (cX Tryz.f23 X w D hT) (.exit 2) ⟨[],[]⟩ | .inr av=>tR prog Tryz.f23 (.int .i64 av)) aj ?_ ?_;clear h O U h6 h7 h9 aj;intro s x h;obtain⟨_,_⟩:=s;simp only [qix] at h;dsimp only;refine M9 ?_;obtain⟨_,h⟩|⟨_,h⟩:=zI h;refine Mb ?_;obtain⟨aw,_,_,_,h⟩:=zX h;refine zU<|zl<|zn<|zs<|zb<|zs<|zr ?_;refine Ma ?_;obtain⟨_,h⟩|⟨_,h⟩:=zI h;refine Mp ?_;refine zU<|zl<|zn<|zq<|yr<|zt<|yr<|zt ?_;cases h;exact⟨rfl,zT results23⟩;refine Mz ?_;refine Ma ?_;obtain⟨_,h⟩|⟨_,h⟩:=zI h;refine Mp ?_;refine zU<|zl<|zn<|zq<|yr<|zt<|yr<|zt ?_;cases h;exact⟨rfl,zT results23⟩;refine Mz ?_;refine zU ?_;obtain⟨_,ax,h⟩:=zB h;refine zc (qqz aw.Values _ ax) ?_;refine Ma ?_;obtain⟨_,h⟩|⟨_,h⟩:=zI h;refine Md ?_;refine Ml ?_;exact M0 h;refine Mp ?_;refine zU<|zl<|zn<|zq<|yr<|zt<|yr<|zt ?_;cases h;exact⟨rfl,zT results23⟩;exact M3 h;rcases au with⟨⟩ | _;try simp only at h
 refine Me ?_;exact M1 h results23;exact M5 h;exact M5 h;exact M2 h results23
theorem qvn (O:Int) (J:List FD) (U:Int) (h:qj4 O J=some U):Con D prog 100 [(.int .i64 O),(.slc (v0v qpd J))] (.int .i64 U):=by
 refine zP call100 func100 rfl ntmps100 fun X w hT=>?_;simp only [qj4] at h;refine Mk ?_;refine Mc ?_;refine zU ?_;obtain⟨h4,h⟩|⟨h4,h⟩:=zI h;refine zw 9 true ?_;refine zh ?_;refine Ma ?_;exact M2 h results100;refine zw 9 false ?_;refine Mj ?_;refine Ma ?_;obtain⟨h5,h⟩|⟨h5,h⟩:=zI h;exact M2 h results100;refine Mt ?_;refine Ma ?_;obtain⟨h6,h⟩|⟨h6,h⟩:=zI h;exact M2 h results100;refine Mh ?_;obtain⟨o7,h8,h⟩:=zB h;refine zO (fun (s:Int)=>⟨[(0,.p (.int .i64 O)),(16,.p (.slc (v0v qpd J))),(17,.p (.int .i64 (J.length:Int))),(18,.p (.int .i64 s))],[]⟩) (fun (o:Unit⊕(Int))=>match o with|.inl o9=>tE (cX Tryz.f100 X w D hT) (.exit 0) ⟨[],[]⟩ | .inr aj=>tR prog Tryz.f100 (.int .i64 aj)) h8 ?_ ?_;clear h h4 h5 h6 h8;intro _ x h;simp only [qfn] at h;refine M9 ?_;obtain⟨_,h⟩|⟨_,h⟩:=zI h;refine Mb ?_;obtain⟨_,_,_,_,h⟩:=zX h;refine M8 ?_;obtain⟨_,h⟩:=qfy h;refine Ma ?_;obtain⟨_,h⟩|⟨_,h⟩:=zI h;refine M4 ?_;cases h;exact⟨rfl,zT results100⟩;refine Md ?_;exact M0 h;exact M3 h;rcases o7 with⟨⟩ | _;try simp only at h
 refine Me ?_;exact M1 h results100;exact M5 h
theorem qms (J:Int) (O:List Int) (h:qgn J=some O):Con D prog 122 [(.int .u32 J)] (.slc (v0v (v5i .i64) O)):=by
 refine zP call122 func122 rfl ntmps122 fun X w hT=>?_;simp only [qgn] at h;refine Mk ?_;refine M8 ?_;refine zU<|zl<|zn<|zs<|zb ?_;obtain⟨_,U,h⟩:=zB h;refine zO (fun (s:Int×List Int)=>⟨[(0,.p (.int .u32 s.1)),(3,.own 14 1 0 s.2.length)],[(14,.arr 3 1 1 (v0v AV.p (v0v (v5i .i64) s.2)))]⟩) (fun (o5:List Int)=>tE (cX Tryz.f122 X w D hT) (.exit 0) ⟨[(3,.own 14 1 0 o5.length)],[(14,.arr 3 1 1 (v0v AV.p (v0v (v5i .i64) o5)))]⟩) U ?_ ?_;clear h U;intro s x h;obtain⟨s6,_⟩:=s;simp only [qf1] at h;refine Mv ?_;refine Ma ?_;obtain⟨_,h⟩|⟨_,h⟩:=zI h;refine zi<|zk<|zn<|zs<|zb<|zr ?_;refine zU ?_;obtain⟨_,ag,h⟩:=zB h;refine zc (qju s6 _ ag) ?_;obtain⟨_,h⟩:=qag h;refine Ml ?_;exact M0 h;exact M3 h;try simp only at h
 refine Me ?_;exact M1 h results122
theorem qun (J:Int) (O:Int) (U:Term) (h:qt4 J O=some U):Con D prog 192 [(.int .i64 J),(.int .i64 O)] (qpe U):=by
 refine zP call192 func192 rfl ntmps192 fun X w hT=>?_;simp only [qt4] at h;refine Mk ?_;refine M8 ?_;exact M1 h results192
theorem qq0 (O:Int) (J:Int) (U:Atom) (h:qmg O J=some U):Con D prog 123 [(.int .i64 O),(.int .i64 J)] (qde U):=by
 refine zP call123 func123 rfl ntmps123 fun X w hT=>?_;simp only [qmg] at h;refine Mk ?_;refine M8 ?_;refine zU ?_;obtain⟨_,h5,h⟩:=zB h;refine zc (qun 1 J _ h5) ?_;refine zU ?_;obtain⟨_,h7,h⟩:=zB h;refine zc (qun 2 J _ h7) ?_;exact M1 h results123
theorem qvo (n1:Int) (J:FD) (r3:List Denial×Int) (h:qj5 n1 J=some r3):Con D prog 60 [(.int .i64 n1),(qpd J)] (.tup [(.slc (v0v qab r3.1)),(.int .i64 r3.2)]):=by
 refine zP call60 func60 rfl ntmps60 fun X w hT=>?_;simp only [qj5] at h;refine Mk ?_;refine Mc ?_;refine zU ?_;obtain⟨_,h5,h⟩:=zB h;refine zc (qvn n1 [J] _ h5) ?_;refine M8 ?_;refine Ma ?_;obtain⟨h6,h⟩|⟨h6,h⟩:=zI h;exact M2 h results60;refine Mi ?_;refine Mc ?_;refine zU ?_;obtain⟨O,h8,h⟩:=zB h;refine zc (qms (IntKind.u32.wrap ((BitVec.ofInt 32 J.Rhs &&& ~~~ (BitVec.ofInt 32 J.Lhs)).toNat:Int)) _ h8) ?_;refine T0 ?_;obtain⟨_,am,h⟩:=zB h;refine zO (fun (s:List Denial×Int)=>⟨[(3,.loc 3 1 0 0),(7,.own 58 1 0 s.1.length),(25,.p (.slc (v0v (v5i .i64) O))),(26,.p (.int .i64 (O.length:Int))),(27,.p (.int .i64 s.2))],[(3,.arr 69 2 1 [.p (qpd J)]),(58,.arr 92 2 1 (v0v AV.p (v0v qab s.1)))]⟩) (fun (ap:List Denial)=>tE (cX Tryz.f60 X w D hT) (.exit 0) ⟨[(7,.own 58 1 0 ap.length)],[(58,.arr 92 2 1 (v0v AV.p (v0v qab ap)))]⟩) am ?_ ?_;clear h h5 h6 h8 am;intro s x h;obtain⟨U,ag⟩:=s;simp only [qhf] at h;dsimp only;refine M9 ?_;obtain⟨aq,h⟩|⟨aq,h⟩:=zI h;refine Mb ?_;obtain⟨ah,ax,ay,az,h⟩:=zX h;refine M8 ?_;refine Mc ?_;refine zU ?_;obtain⟨ar,au,h⟩:=zB h;refine zc (qms J.Lhs _ au) ?_;refine T0 ?_;obtain⟨a7,av,h⟩:=zB h;refine zO (fun (s:List Atom×Int)=>⟨[(3,.loc 3 1 0 0),(7,.own 58 1 0 U.length),(9,.p (.int .i64 ah)),(10,.loc 10 1 0 0),(25,.p (.slc (v0v (v5i .i64) O))),(26,.p (.int .i64 (O.length:Int))),(27,.p (.int .i64 ag)),(34,.p (.slc (v0v (v5i .i64) ar))),(35,.p (.int .i64 (ar.length:Int))),(36,.p (.int .i64 s.2))],[(3,.arr 69 2 1 [.p (qpd J)]),(10,.arr 92 2 1 [.agg [.p (.int .i64 2),.own 45 1 0 s.1.length]]),(45,.arr 247 11 1 (v0v AV.p (v0v qde s.1))),(58,.arr 92 2 1 (v0v AV.p (v0v qab U)))]⟩) (fun (aw:List Atom)=>tE (cX Tryz.f60 X w D hT) (.exit 2) ⟨[(3,.loc 3 1 0 0),(7,.own 58 1 0 U.length),(9,.p (.int .i64 ah)),(10,.loc 10 1 0 0),(25,.p (.slc (v0v (v5i .i64) O))),(26,.p (.int .i64 (O.length:Int))),(27,.p (.int .i64 ag))],[(3,.arr 69 2 1 [.p (qpd J)]),(10,.arr 92 2 1 [.agg [.p (.int .i64 2),.own 45 1 0 aw.length]]),(45,.arr 247 11 1 (v0v AV.p (v0v qde aw))),(58,.arr 92 2 1 (v0v AV.p (v0v qab U)))]⟩) av ?_ ?_;clear h aq ax ay az au av;intro s x h;obtain⟨_,_⟩:=s;simp only [qfo] at h;dsimp only;refine M9 ?_;obtain⟨_,h⟩|⟨_,h⟩:=zI h;refine Mb ?_;obtain⟨a8,_,_,_,h⟩:=zX h;refine zU<|zl<|zn<|zd ?_;refine yU ?_;obtain⟨_,ba,h⟩:=zB h;refine yc (qq0 1 a8 _ ba) ?_;obtain⟨_,h⟩:=qag h;refine Mx ?_;exact M0 h;exact M3 h;try simp only at h
 refine zA<|yh<|zn<|zs<|zd ?_;refine yU ?_;obtain⟨bb,bd,h⟩:=zB h;refine yc (qq0 2 ah _ bd) ?_;obtain⟨_,h⟩:=qag h;refine yU ?_;refine yd<|zn<|zr ?_;refine zW 3 ?_;refine zM ⟨[(3,.loc 3 1 0 0),(25,.p (.slc (v0v (v5i .i64) O))),(26,.p (.int .i64 (O.length:Int))),(27,.p (.int .i64 ag)),(55,.own 58 1 0 U.length),(57,.own 57 1 0 1)],[(3,.arr 69 2 1 [.p (qpd J)]),(57,.arr 92 2 1 [.p (.agg [.int .i64 2,.slc (v0v qde (a7++[bb]))])]),(58,.arr 92 2 1 (v0v AV.p (v0v qab U)))]⟩ ?_;obtain⟨_,h⟩:=qag h;refine Ml ?_;exact M0 h;exact M3 h;try simp only at h
 refine Me ?_;exact M1 h results60
theorem qn1 (J:List Atom) (O:Atom→Option (Bool)) (f2_k:FuncId) (f2_cs:List PV) (f2_h:∀(U:Atom) (r4:Bool),O U=some r4→Con D prog f2_k ((qde U) :: f2_cs) (.bool r4)) (r5:Int) (h:qd5 J O=some r5):Con D prog 193 [(.slc (v0v qde J)),.func (.func f2_k) f2_cs] (.int .i64 r5):=by
 refine zP call193 func193 rfl ntmps193 fun X w hT=>?_;simp only [qd5] at h;refine Mk ?_;refine M7 ?_;obtain⟨o6,h7,h⟩:=zB h;refine zO (fun (s:Int)=>⟨[(0,.p (.slc (v0v qde J))),(1,.p (.func (.func f2_k) f2_cs)),(7,.p (.int .i64 (J.length:Int))),(8,.p (.int .i64 s))],[]⟩) (fun (o:Unit⊕(Int))=>match o with|.inl o8=>tE (cX Tryz.f193 X w D hT) (.exit 0) ⟨[],[]⟩|.inr o9=>tR prog Tryz.f193 (.int .i64 o9)) h7 ?_ ?_;clear h h7;intro _ x h;simp only [qcb] at h;refine M9 ?_;obtain⟨_,h⟩|⟨_,h⟩:=zI h;refine Mb ?_;refine M8 ?_;obtain⟨aj,_,_,_,h⟩:=zX h;refine zU ?_;obtain⟨_,ak,h⟩:=zB h;refine zc (f2_h aj _ ak) ?_;refine zl<|zn ?_;obtain⟨_,h⟩|⟨_,h⟩:=zI h;refine M4 ?_;cases h;exact⟨rfl,zT results193⟩;refine Md ?_;exact M0 h;exact M3 h;rcases o6 with⟨⟩ | _;try simp only at h
 refine Me ?_;exact M1 h results193;exact M5 h
theorem qlz (J:List Atom) (O:Atom→Option (Bool)) (f2_k:FuncId) (f2_cs:List PV) (f2_h:∀(U:Atom) (r4:Bool),O U=some r4→Con D prog f2_k ((qde U) :: f2_cs) (.bool r4)) (r5:Bool) (h:qc1 J O=some r5):Con D prog 124 [(.slc (v0v qde J)),.func (.func f2_k) f2_cs] (.bool r5):=by
 refine zP call124 func124 rfl ntmps124 fun X w hT=>?_;simp only [qc1] at h;refine Mk ?_;refine M8 ?_;refine zU ?_;obtain⟨_,h7,h⟩:=zB h;refine zc (qn1 J O f2_k f2_cs f2_h _ h7) ?_;exact M1 h results124
theorem qlj (O:Int) (U:Int) (J:Term) (r4:Bool) (h:qfp O U J=some r4):Con D prog 126 [(.int .i64 O),(.int .i64 U),(qpe J)] (.bool r4):=by
 refine zP call126 func126 rfl ntmps126 fun X w hT=>?_;simp only [qfp] at h;refine Mk ?_;refine Mc ?_;refine Ma ?_;obtain⟨_,h⟩|⟨_,h⟩:=zI h;refine Mp ?_;refine zU ?_;obtain⟨_,h⟩|⟨_,h⟩:=zI h;refine zw 13 true ?_;refine Mj ?_;obtain⟨_,h8,h⟩:=zB h;refine zc (qmr J.Value _ h8) ?_;refine Mn ?_;exact T3 h results126;refine zw 13 false ?_;refine zh ?_;refine Mn ?_;exact T3 h results126;refine Mi ?_;refine zU ?_;obtain⟨_,h⟩|⟨_,h⟩:=zI h;refine zw 21 true ?_;refine M6 ?_;refine T4 ?_;obtain⟨_,h⟩|⟨_,h⟩:=zI h;refine zw 27 true ?_;refine M6 ?_;refine zU ?_;obtain⟨_,h⟩|⟨_,h⟩:=zI h;refine zw 32 true ?_;refine M6 ?_;refine T4 ?_;obtain⟨_,h⟩|⟨_,h⟩:=zI h;replace h:=h.symm;refine zw 38 true ?_;refine M6 ?_;refine zg ?_;exact M1 h results126;refine zw 38 false ?_;refine zh ?_;exact M1 h results126;refine zw 32 false ?_;refine Mg ?_;exact M1 h results126;refine zw 27 false ?_;refine Mg ?_;refine zU ?_;refine zh ?_;exact M1 h results126;refine zw 21 false ?_;refine Mg ?_;refine zU ?_;refine Mg ?_;exact M1 h results126
theorem qup (O:Atom) (U:Int) (J:Denial) (r4:Bool) (h:qhp O U J=some r4):Con D prog 125 [(qde O),.imm [.int .i64 U],.imm [.int .i64 J.Vars,.slc (v0v qde J.Atoms)]] (.bool r4):=by
 refine zP call125 func125 rfl ntmps125 fun X w hT=>?_;simp only [qhp] at h;refine Mk ?_;refine M8 ?_;refine zU ?_;obtain⟨_,h⟩|⟨_,h⟩:=zI h;refine zw 8 true ?_;refine Mg ?_;refine zU ?_;refine zh ?_;exact M1 h results125;refine zw 8 false ?_;refine M6 ?_;refine zU ?_;obtain⟨_,h⟩|⟨_,h⟩:=zI h;refine zw 13 true ?_;refine Mg ?_;exact M1 h results125;refine zw 13 false ?_;refine M6 ?_;refine Mj ?_;obtain⟨_,h8,h⟩:=zB h;refine zc (qlj U J.Vars O.Left _ h8) ?_;refine T4 ?_;obtain⟨_,h⟩|⟨_,h⟩:=zI h;refine zw 22 false ?_;refine M6 ?_;refine Mj ?_;obtain⟨_,ag,h⟩:=zB h;replace h:=h.symm;refine zc (qlj U J.Vars O.Right _ ag) ?_;refine zg ?_;exact M1 h results125;refine zw 22 true ?_;refine zh ?_;exact M1 h results125
theorem qpr (O:Int) (J:Denial) (r3:Bool) (h:qjs O J=some r3):Con D prog 61 [(.int .i64 O),(qab J)] (.bool r3):=by
 refine zP call61 func61 rfl ntmps61 fun X w hT=>?_;simp only [qjs] at h;refine Mk ?_;refine Mc ?_;refine zU ?_;obtain⟨_,h⟩|⟨_,h⟩:=zI h;refine zw 8 true ?_;refine Mg ?_;refine Ma ?_;exact M2 h results61;refine zw 8 false ?_;refine M6 ?_;refine zU ?_;obtain⟨_,h⟩|⟨_,h⟩:=zI h;refine zw 13 true ?_;refine zh ?_;refine Ma ?_;exact M2 h results61;refine zw 13 false ?_;refine M6 ?_;refine zg ?_;refine Ma ?_;obtain⟨_,h⟩|⟨_,h⟩:=zI h;exact M2 h results61;refine Mi ?_;refine zU ?_;obtain⟨_,h8,h⟩:=zB h;refine zc (qlz J.Atoms (fun (U:Atom)=>qhp U O J) 125 [.imm [.int .i64 O],.imm [.int .i64 J.Vars,.slc (v0v qde J.Atoms)]] (fun U r h=>qup U O J r h) _ h8) ?_;exact M1 h results61
theorem qn2 (J:List Cell) (O:Cell→Option (Bool)) (f2_k:FuncId) (f2_cs:List PV) (f2_h:∀(U:Cell) (r4:Bool),O U=some r4→Con D prog f2_k ((qfh U) :: f2_cs) (.bool r4)) (r5:Int) (h:qh8 J O=some r5):Con D prog 194 [(.slc (v0v qfh J)),.func (.func f2_k) f2_cs] (.int .i64 r5):=by
 refine zP call194 func194 rfl ntmps194 fun X w hT=>?_;simp only [qh8] at h;refine Mk ?_;refine M7 ?_;obtain⟨o6,h7,h⟩:=zB h;refine zO (fun (s:Int)=>⟨[(0,.p (.slc (v0v qfh J))),(1,.p (.func (.func f2_k) f2_cs)),(7,.p (.int .i64 (J.length:Int))),(8,.p (.int .i64 s))],[]⟩) (fun (o:Unit⊕(Int))=>match o with|.inl o8=>tE (cX Tryz.f194 X w D hT) (.exit 0) ⟨[],[]⟩|.inr o9=>tR prog Tryz.f194 (.int .i64 o9)) h7 ?_ ?_;clear h h7;intro _ x h;simp only [qjt] at h;refine M9 ?_;obtain⟨_,h⟩|⟨_,h⟩:=zI h;refine Mb ?_;refine M8 ?_;obtain⟨aj,_,_,_,h⟩:=zX h;refine zU ?_;obtain⟨_,ak,h⟩:=zB h;refine zc (f2_h aj _ ak) ?_;refine zl<|zn ?_;obtain⟨_,h⟩|⟨_,h⟩:=zI h;refine M4 ?_;cases h;exact⟨rfl,zT results194⟩;refine Md ?_;exact M0 h;exact M3 h;rcases o6 with⟨⟩ | _;try simp only at h
 refine Me ?_;exact M1 h results194;exact M5 h
theorem ql0 (J:List Cell) (O:Cell→Option (Bool)) (f2_k:FuncId) (f2_cs:List PV) (f2_h:∀(U:Cell) (r4:Bool),O U=some r4→Con D prog f2_k ((qfh U) :: f2_cs) (.bool r4)) (r5:Bool) (h:qgo J O=some r5):Con D prog 127 [(.slc (v0v qfh J)),.func (.func f2_k) f2_cs] (.bool r5):=by
 refine zP call127 func127 rfl ntmps127 fun X w hT=>?_;simp only [qgo] at h;refine Mk ?_;refine M8 ?_;refine zU ?_;obtain⟨_,h7,h⟩:=zB h;refine zc (qn2 J O f2_k f2_cs f2_h _ h7) ?_;exact M1 h results127
theorem qpi (J:Cell) (O:Bool) (h:qg7 J=some O):Con D prog 128 [(qfh J)] (.bool O):=by
 refine zP call128 func128 rfl ntmps128 fun X w hT=>?_;simp only [qg7] at h;refine Mk ?_;refine M8 ?_;refine zU ?_;obtain⟨_,h⟩|⟨_,h⟩:=zI h;refine zw 5 true ?_;refine M6 ?_;refine T4 ?_;obtain⟨_,h⟩|⟨_,h⟩:=zI h;replace h:=h.symm;refine zw 11 false ?_;refine M6 ?_;refine zg ?_;refine zw 15 false ?_;refine zh ?_;refine zg ?_;exact M1 h results128;refine zw 11 true ?_;refine zh ?_;exact M1 h results128;refine zw 5 false ?_;refine zh ?_;refine zU ?_;refine M6 ?_;refine zg ?_;refine zw 15 true ?_;refine Mj ?_;obtain⟨_,U,h⟩:=zB h;replace h:=h.symm;refine zc (qmr J.Value _ U) ?_;refine Mj ?_;exact M1 h results128
theorem qk0 (O:Int) (J:CFD) (r3:Bool) (h:qij O J=some r3):Con D prog 62 [(.int .i64 O),(qig J)] (.bool r3):=by
 refine zP call62 func62 rfl ntmps62 fun X w hT=>?_;simp only [qij] at h;refine Mk ?_;refine Mc ?_;refine zU ?_;obtain⟨h4,h⟩|⟨h4,h⟩:=zI h;refine zw 10 true ?_;refine Mg ?_;refine zU ?_;refine Mg ?_;refine Ma ?_;exact M2 h results62;refine zw 10 false ?_;refine Mj ?_;refine zU ?_;obtain⟨h5,h⟩|⟨h5,h⟩:=zI h;refine zw 14 true ?_;refine Mg ?_;refine zU ?_;refine zh ?_;refine Ma ?_;exact M2 h results62;refine zw 14 false ?_;refine M6 ?_;refine zU ?_;obtain⟨h6,h⟩|⟨h6,h⟩:=zI h;refine zw 19 true ?_;refine Mg ?_;refine Ma ?_;exact M2 h results62;refine zw 19 false ?_;refine M6 ?_;refine T4 ?_;obtain⟨h7,h⟩|⟨h7,h⟩:=zI h;refine zw 25 true ?_;refine zh ?_;refine Ma ?_;exact M2 h results62;refine zw 25 false ?_;refine M6 ?_;refine M6 ?_;refine Mj ?_;refine Ma ?_;obtain⟨h8,h⟩|⟨h8,h⟩:=zI h;exact M2 h results62;refine Mi ?_;refine M7 ?_;obtain⟨o9,ak,h⟩:=zB h;refine zO (fun (s:Int×Int)=>⟨[(0,.p (.int .i64 O)),(3,.loc 3 1 0 0),(5,.p (.int .i64 s.1)),(36,.p (.slc (v0v (v5i .i64) J.Lhs))),(37,.p (.int .i64 (J.Lhs.length:Int))),(38,.p (.int .i64 s.2))],[(3,.arr 87 3 1 [.p (qig J)])]⟩) (fun (o:Unit⊕(Bool))=>match o with|.inl ar=>tE (cX Tryz.f62 X w D hT) (.exit 0) ⟨[(3,.loc 3 1 0 0)],[(3,.arr 87 3 1 [.p (qig J)])]⟩ | .inr ap=>tR prog Tryz.f62 (.bool ap)) ak ?_ ?_;clear h h4 h5 h6 h7 h8 ak;intro s x h;obtain⟨_,_⟩:=s;simp only [qlf] at h;dsimp only;refine M9 ?_;obtain⟨_,h⟩|⟨_,h⟩:=zI h;refine Mb ?_;obtain⟨_,_,_,_,h⟩:=zX h;refine Mc ?_;refine zU ?_;obtain⟨_,h⟩|⟨_,h⟩:=zI h;refine zw 45 true ?_;refine Mg ?_;refine Ma ?_;refine Mm ?_;cases h;exact⟨rfl,zT results62⟩;refine zw 45 false ?_;refine M6 ?_;refine zU ?_;obtain⟨_,h⟩|⟨_,h⟩:=zI h;refine zw 50 true ?_;refine zh ?_;refine Ma ?_;refine Mm ?_;cases h;exact⟨rfl,zT results62⟩;refine zw 50 false ?_;refine M6 ?_;refine zg ?_;refine Ma ?_;obtain⟨_,h⟩|⟨_,h⟩:=zI h;refine Mm ?_;cases h;exact⟨rfl,zT results62⟩;refine zj<|zk<|zn<|zr ?_;refine Ml ?_;exact M0 h;exact M3 h;rcases o9 with⟨⟩ | _;try simp only at h
 refine Me ?_;refine zU ?_;obtain⟨_,aq,h⟩:=zB h;refine zc (ql0 J.Pattern (fun (U:Cell)=>qg7 U) 128 [] (fun U r h=>qpi U r h) _ aq) ?_;exact M1 h results62;exact M5 h
theorem qoq (J:List Int) (O:Int→Option (Bool)) (f2_k:FuncId) (f2_cs:List PV) (f2_h:∀(U:Int) (r4:Bool),O U=some r4→Con D prog f2_k ((.int .i64 U) :: f2_cs) (.bool r4)) (r5:Int) (h:qis J O=some r5):Con D prog 229 [(.slc (v0v (v5i .i64) J)),.func (.func f2_k) f2_cs] (.int .i64 r5):=by
 refine zP call229 func229 rfl ntmps229 fun X w hT=>?_;simp only [qis] at h;refine Mk ?_;refine M7 ?_;obtain⟨o6,h7,h⟩:=zB h;refine zO (fun (s:Int)=>⟨[(0,.p (.slc (v0v (v5i .i64) J))),(1,.p (.func (.func f2_k) f2_cs)),(7,.p (.int .i64 (J.length:Int))),(8,.p (.int .i64 s))],[]⟩) (fun (o:Unit⊕(Int))=>match o with|.inl o8=>tE (cX Tryz.f229 X w D hT) (.exit 0) ⟨[],[]⟩|.inr o9=>tR prog Tryz.f229 (.int .i64 o9)) h7 ?_ ?_;clear h h7;intro _ x h;simp only [qj6] at h;refine M9 ?_;obtain⟨_,h⟩|⟨_,h⟩:=zI h;refine Mb ?_;refine M8 ?_;obtain⟨aj,_,_,_,h⟩:=zX h;refine zU ?_;obtain⟨_,ak,h⟩:=zB h;refine zc (f2_h aj _ ak) ?_;refine zl<|zn ?_;obtain⟨_,h⟩|⟨_,h⟩:=zI h;refine M4 ?_;cases h;exact⟨rfl,zT results229⟩;refine Md ?_;exact M0 h;exact M3 h;rcases o6 with⟨⟩ | _;try simp only at h
 refine Me ?_;exact M1 h results229;exact M5 h
theorem qii (J:List Int) (O:Int→Option (Bool)) (f2_k:FuncId) (f2_cs:List PV) (f2_h:∀(U:Int) (r4:Bool),O U=some r4→Con D prog f2_k ((.int .i64 U) :: f2_cs) (.bool r4)) (r5:Bool) (h:qep J O=some r5):Con D prog 162 [(.slc (v0v (v5i .i64) J)),.func (.func f2_k) f2_cs] (.bool r5):=by
 refine zP call162 func162 rfl ntmps162 fun X w hT=>?_;simp only [qep] at h;refine Mk ?_;refine M8 ?_;refine zU ?_;obtain⟨_,h7,h⟩:=zB h;refine zc (qoq J O f2_k f2_cs f2_h _ h7) ?_;exact M1 h results162
theorem qs7 (J:Int) (O:Int) (U:Bool) (h:qj7 J O=some U):Con D prog 195 [(.int .i64 J),.imm [.int .i64 O]] (.bool U):=by
 refine zP call195 func195 rfl ntmps195 fun X w hT=>?_;simp only [qj7] at h;refine Mk ?_;refine M8 ?_;refine zU ?_;obtain⟨_,h⟩|⟨_,h⟩:=zI h;refine zw 6 true ?_;refine zh ?_;exact M1 h results195;replace h:=h.symm;refine zw 6 false ?_;refine M6 ?_;exact M1 h results195
theorem qor (J:Int) (O:List Int) (r3:Bool) (h:qlx J O=some r3):Con D prog 129 [(.int .i64 J),(.slc (v0v (v5i .i64) O))] (.bool r3):=by
 refine zP call129 func129 rfl ntmps129 fun X w hT=>?_;simp only [qlx] at h;refine Mk ?_;refine M8 ?_;refine zU ?_;obtain⟨_,h⟩|⟨_,h⟩:=zI h;refine zw 8 true ?_;refine Mj ?_;obtain⟨_,h6,h⟩:=zB h;replace h:=h.symm;refine zc (qii O (fun (U:Int)=>qj7 U J) 195 [.imm [.int .i64 J]] (fun U r h=>qs7 U J r h) _ h6) ?_;refine zg ?_;exact M1 h results129;refine zw 8 false ?_;refine zh ?_;exact M1 h results129
theorem qnp (J:Int) (O:OD) (U:Bool) (h:qks J O=some U):Con D prog 63 [(.int .i64 J),(qwd O)] (.bool U):=by
 refine zP call63 func63 rfl ntmps63 fun X w hT=>?_;simp only [qks] at h;refine Mk ?_;refine M8 ?_;refine zU ?_;obtain⟨_,h5,h⟩:=zB h;refine zc (qor J O.Lhs _ h5) ?_;refine zU ?_;obtain⟨_,h⟩|⟨_,h⟩:=zI h;refine zw 9 true ?_;refine M6 ?_;obtain⟨_,h8,h⟩:=zB h;refine zc (qor J O.Rhs _ h8) ?_;exact M1 h results63;refine zw 9 false ?_;refine zh ?_;exact M1 h results63
theorem qkc (J:Table) (O:Constraint) (U:List Denial×Int) (h:qcx J O=some U):Con D prog 24 [(qad J),(qbx O)] (.tup [(.slc (v0v qab U.1)),(.int .i64 U.2)]):=by
 refine zP call24 func24 rfl ntmps24 fun X w hT=>?_;simp only [qcx] at h;refine Mk ?_;refine M8 ?_;refine Mc ?_;refine zU ?_;obtain⟨_,h⟩|⟨_,h⟩:=zI h;refine zw 15 false ?_;refine M6 ?_;refine zU ?_;obtain⟨_,h⟩|⟨_,h⟩:=zI h;refine zw 20 true ?_;refine zh ?_;refine Ma ?_;exact M2 h results24;refine zw 20 false ?_;refine M6 ?_;refine Ma ?_;obtain⟨_,h⟩|⟨_,h⟩:=zI h;exact M2 h results24;refine Mt ?_;refine zU<|zl<|zn<|zb<|zs<|zs<|zr ?_;refine Ma ?_;obtain⟨_,h⟩|⟨_,h⟩:=zI h;refine zi<|zk<|zn ?_;refine M4 ?_;exact T3 h results24;refine zj<|zr ?_;refine Ma ?_;obtain⟨_,h⟩|⟨_,h⟩:=zI h;refine M4 ?_;exact T3 h results24;refine Mz ?_;refine Ma ?_;obtain⟨_,h⟩|⟨_,h⟩:=zI h;refine zi<|zs<|zs<|zr ?_;obtain⟨_,h⟩:=qfy h;refine Ma ?_;obtain⟨_,h⟩|⟨_,h⟩:=zI h;refine Mm ?_;exact T3 h results24;refine Mi ?_;refine zU ?_;obtain⟨_,ac,h⟩:=zB h;refine zc (qvo (J.Attrs.length:Int) O.FD _ ac) ?_;exact Mq h results24;refine Mz ?_;refine Ma ?_;obtain⟨_,h⟩|⟨_,h⟩:=zI h;refine zi<|zs<|zs<|zr ?_;refine zU ?_;obtain⟨_,ae,h⟩:=zB h;refine zc (qpr (J.Attrs.length:Int) O.Denial _ ae) ?_;refine Ma ?_;obtain⟨_,h⟩|⟨_,h⟩:=zI h;refine Mi ?_;exact Mq h results24;refine Mm ?_;exact T3 h results24;refine Mz ?_;refine Ma ?_;obtain⟨_,h⟩|⟨_,h⟩:=zI h;refine Mp ?_;refine zU ?_;obtain⟨_,ag,h⟩:=zB h;refine zc (qk0 (J.Attrs.length:Int) O.CFD _ ag) ?_;refine Ma ?_;obtain⟨_,h⟩|⟨_,h⟩:=zI h;refine T2 ?_;exact M1 h results24;refine M4 ?_;exact T3 h results24;refine Mz ?_;refine Ma ?_;obtain⟨_,h⟩|⟨_,h⟩:=zI h;refine Mp ?_;refine zU ?_;obtain⟨_,ah,h⟩:=zB h;refine zc (qnp (J.Attrs.length:Int) O.OD _ ah) ?_;refine Ma ?_;obtain⟨_,h⟩|⟨_,h⟩:=zI h;refine T2 ?_;exact M1 h results24;refine M4 ?_;exact T3 h results24;refine T2 ?_;exact M1 h results24;refine zw 15 true ?_;refine Mg ?_;refine Ma ?_;exact M2 h results24
theorem qlk (J:Cell) (O:Value) (U:Bool) (h:qjb J O=some U):Con D prog 131 [(qfh J),(qbc O)] (.bool U):=by
 refine zP call131 func131 rfl ntmps131 fun X w hT=>?_;simp only [qjb] at h;refine Mk ?_;refine M8 ?_;refine zU ?_;obtain⟨_,h⟩|⟨_,h⟩:=zI h;refine zw 7 true ?_;refine zh ?_;exact M1 h results131;replace h:=h.symm;refine zw 7 false ?_;refine M6 ?_;refine zg ?_;exact M1 h results131
theorem qrx (J:CFD) (O:List Value) (U:Bool) (h:qk8 J O=some U):Con D prog 130 [(qig J),(.slc (v0v qbc O))] (.bool U):=by
 refine zP call130 func130 rfl ntmps130 fun X w hT=>?_;simp only [qk8] at h;refine Mk ?_;refine M7 ?_;obtain⟨o4,h5,h⟩:=zB h;refine zO (fun (s:Int)=>⟨[(1,.p (.slc (v0v qbc O))),(2,.loc 2 1 0 0),(8,.p (.slc (v0v (v5i .i64) J.Lhs))),(9,.p (.int .i64 (J.Lhs.length:Int))),(10,.p (.int .i64 s))],[(2,.arr 87 3 1 [.p (qig J)])]⟩) (fun (o:Unit⊕(Bool))=>match o with|.inl o6=>tE (cX Tryz.f130 X w D hT) (.exit 0) ⟨[],[]⟩|.inr o7=>tR prog Tryz.f130 (.bool o7)) h5 ?_ ?_;clear h h5;intro _ x h;simp only [qmh] at h;refine M9 ?_;obtain⟨_,h⟩|⟨_,h⟩:=zI h;refine Mb ?_;obtain⟨_,_,_,_,h⟩:=zX h;refine Mw ?_;obtain⟨ah,_,_,_,h⟩:=zX h;obtain⟨ai,_,_,_,h⟩:=zX h;refine yU ?_;obtain⟨_,aj,h⟩:=zB h;refine yc (qlk ah ai _ aj) ?_;refine Mo ?_;obtain⟨_,h⟩|⟨_,h⟩:=zI h;refine Md ?_;exact M0 h;refine M4 ?_;cases h;exact⟨rfl,zT results130⟩;exact M3 h;rcases o4 with⟨⟩ | _;try simp only at h
 refine Me ?_;exact M1 h results130;exact M5 h
theorem qq1 (J:CFD) (O:Cell) (h:qkp J=some O):Con D prog 132 [(qig J)] (qfh O):=by
 refine zP call132 func132 rfl ntmps132 fun X w hT=>?_;simp only [qkp] at h;refine Mk ?_;refine M8 ?_;obtain⟨_,U,_,_,h⟩:=zX h;have ac:=voa U;exact M1 h results132
theorem qpw (J:Int) (O:List Value) (U:List Value) (r4:Bool) (h:qhv J O U=some r4):Con D prog 196 [(.int .i64 J),.imm [.slc (v0v qbc O)],.imm [.slc (v0v qbc U)]] (.bool r4):=by
 refine zP call196 func196 rfl ntmps196 fun X w hT=>?_;simp only [qhv] at h;refine Mk ?_;refine Mw ?_;obtain⟨_,_,_,_,h⟩:=zX h;obtain⟨_,_,_,_,h⟩:=zX h;exact Mu h results196
theorem qll (U:CFD) (J:List Value) (O:List Value) (r4:Bool) (h:qjc U J O=some r4):Con D prog 133 [(qig U),(.slc (v0v qbc J)),(.slc (v0v qbc O))] (.bool r4):=by
 refine zP call133 func133 rfl ntmps133 fun X w hT=>?_;simp only [qjc] at h;refine Mk ?_;refine Mw ?_;obtain⟨_,_,_,_,h⟩:=zX h;obtain⟨_,_,_,_,h⟩:=zX h;refine yU ?_;obtain⟨_,h⟩|⟨_,h⟩:=zI h;refine yw 18 false ?_;refine yk ?_;exact Mu h results133;refine yw 18 true ?_;refine Mf ?_;obtain⟨_,ag,h⟩:=zB h;replace h:=h.symm;refine yc (qii U.Lhs (fun (ac:Int)=>qhv ac J O) 196 [.imm [.slc (v0v qbc J)],.imm [.slc (v0v qbc O)]] (fun ac r h=>qpw ac J O r h) _ ag) ?_;refine yg ?_;exact Mu h results133
theorem qm7 (t1:Table) (U:CFD) (r3:List (List Int)×Int) (h:qhs t1 U=some r3):Con D prog 64 [(qad t1),(qig U)] (.tup [(.slc (v0v (qal (v5i .i64)) r3.1)),(.int .i64 r3.2)]):=by
 refine zP call64 func64 rfl ntmps64 fun X w hT=>?_;simp only [qhs] at h;refine Mk ?_;refine Mc ?_;refine zU ?_;obtain⟨_,h5,h⟩:=zB h;refine zc (qkb t1 _ h5) ?_;refine M8 ?_;refine Ma ?_;obtain⟨h6,h⟩|⟨h6,h⟩:=zI h;exact M2 h results64;refine Mt ?_;refine zU ?_;obtain⟨_,h8,h⟩:=zB h;refine zc (qk0 (t1.Attrs.length:Int) U _ h8) ?_;refine Ma ?_;obtain⟨h9,h⟩|⟨h9,h⟩:=zI h;refine Mi ?_;refine M7 ?_;obtain⟨J,aq,h⟩:=zB h;refine zO (fun (s:List Row×Int)=>⟨[(3,.loc 3 1 0 0),(7,.own 41 1 0 s.1.length),(28,.p (.slc (v0v qao t1.Rows))),(29,.p (.int .i64 (t1.Rows.length:Int))),(30,.p (.int .i64 s.2))],[(3,.arr 87 3 1 [.p (qig U)]),(41,.arr 65 2 1 (v0v AV.p (v0v qao s.1)))]⟩) (fun (ax:List Row)=>tE (cX Tryz.f64 X w D hT) (.exit 0) ⟨[(3,.loc 3 1 0 0),(7,.own 41 1 0 ax.length)],[(3,.arr 87 3 1 [.p (qig U)]),(41,.arr 65 2 1 (v0v AV.p (v0v qao ax)))]⟩) aq ?_ ?_;clear h h5 h6 h8 h9 aq;intro s x h;obtain⟨_,_⟩:=s;simp only [qiy] at h;dsimp only;refine M9 ?_;obtain⟨_,h⟩|⟨_,h⟩:=zI h;refine Mb ?_;obtain⟨bt,_,_,_,h⟩:=zX h;refine M8 ?_;refine zU ?_;obtain⟨_,bu,h⟩:=zB h;refine zc (qrx U bt.Values _ bu) ?_;refine zl<|zn ?_;obtain⟨_,h⟩|⟨_,h⟩:=zI h;refine zi<|zr ?_;obtain⟨_,h⟩:=qag h;refine Ml ?_;exact M0 h;refine Md ?_;exact M0 h;exact M3 h;try simp only at h
 refine Me ?_;refine M7 ?_;obtain⟨bv,ay,h⟩:=zB h;refine zO (fun (s:List (List Int)×List (List Int)×Int)=>⟨[(3,.loc 3 1 0 0),(7,.own 41 1 0 J.length),(10,.own 65 1 0 s.1.length),(11,.own 88 1 0 s.2.1.length),(43,.own 41 1 0 J.length),(44,.p (.int .i64 ((J.length:Nat):Int))),(45,.p (.int .i64 s.2.2))],[(3,.arr 87 3 1 [.p (qig U)]),(41,.arr 65 2 1 (v0v AV.p (v0v qao J))),(65,.arr 34 1 1 (v0v AV.p (v0v (qal (v5i .i64)) s.1))),(88,.arr 34 1 1 (v0v AV.p (v0v (qal (v5i .i64)) s.2.1)))]⟩) (fun (ah:List (List Int)×List (List Int))=>tE (cX Tryz.f64 X w D hT) (.exit 2) ⟨[(10,.own 65 1 0 ah.1.length),(11,.own 88 1 0 ah.2.length)],[(65,.arr 34 1 1 (v0v AV.p (v0v (qal (v5i .i64)) ah.1))),(88,.arr 34 1 1 (v0v AV.p (v0v (qal (v5i .i64)) ah.2)))]⟩) ay ?_ ?_;clear h h5 h6 h8 h9 aq ay;intro s x h;obtain⟨ac,az,O⟩:=s;simp only [qi1] at h;dsimp only;refine M9 ?_;obtain⟨ar,h⟩|⟨ar,h⟩:=zI h;refine Mb ?_;obtain⟨ae,a7,a8,ba,h⟩:=zX h;refine zU<|zl<|zn<|zs<|zs<|zd ?_;refine yU ?_;obtain⟨bw,au,h⟩:=zB h;refine yc (qq1 U _ au) ?_;obtain⟨bx,bb,bd,bf,h⟩:=zX h;refine yU ?_;obtain⟨_,av,h⟩:=zB h;refine yc (qlk bw bx _ av) ?_;refine Mo ?_;obtain⟨aw,h⟩|⟨aw,h⟩:=zI h;refine Mi ?_;obtain⟨bz,h⟩:=qag h;obtain⟨b6,h⟩:=qag h;refine T0 ?_;obtain⟨_,bg,h⟩:=zB h;refine zO (fun (s:List (List Int)×Int)=>⟨[(3,.loc 3 1 0 0),(7,.own 41 1 0 J.length),(10,.own 65 1 0 ac.length),(11,.own 88 1 0 s.1.length),(13,.loc 13 1 0 0),(43,.own 41 1 0 J.length),(44,.p (.int .i64 ((J.length:Nat):Int))),(45,.p (.int .i64 O)),(69,.own 41 1 (vz8.wrap (O+1)).toNat (J.length - (vz8.wrap (O+1)).toNat)),(70,.p (.int .i64 (((J.length - (vz8.wrap (O+1)).toNat):Nat):Int))),(71,.p (.int .i64 s.2))],[(3,.arr 87 3 1 [.p (qig U)]),(13,.arr 65 2 1 [.p (qao ae)]),(41,.arr 65 2 1 (v0v AV.p (v0v qao J))),(65,.arr 34 1 1 (v0v AV.p (v0v (qal (v5i .i64)) ac))),(88,.arr 34 1 1 (v0v AV.p (v0v (qal (v5i .i64)) s.1)))]⟩) (fun (bh:List (List Int))=>tE (cX Tryz.f64 X w D hT) (.exit 4) ⟨[(3,.loc 3 1 0 0),(7,.own 41 1 0 J.length),(10,.own 65 1 0 ac.length),(11,.own 88 1 0 bh.length),(43,.own 41 1 0 J.length),(44,.p (.int .i64 ((J.length:Nat):Int))),(45,.p (.int .i64 O))],[(3,.arr 87 3 1 [.p (qig U)]),(41,.arr 65 2 1 (v0v AV.p (v0v qao J))),(65,.arr 34 1 1 (v0v AV.p (v0v (qal (v5i .i64)) ac))),(88,.arr 34 1 1 (v0v AV.p (v0v (qal (v5i .i64)) bh)))]⟩) bg ?_ ?_;clear h ar a7 a8 ba au bb bd bf av aw bz b6 bg;intro s x h;obtain⟨bj,b9⟩:=s;simp only [qiz] at h;dsimp only;refine M9 ?_;obtain⟨_,h⟩|⟨_,h⟩:=zI h;refine Mb ?_;obtain⟨bm,ca,cc,_,h⟩:=zX h;obtain⟨_,cd⟩:=qng ca;have cu:=eq_true (qqf cd cc);refine M8 ?_;refine zU ?_;obtain⟨_,ce,h⟩:=zB h;refine zc (qll U ae.Values bm.Values _ ce) ?_;refine zl<|zn ?_;obtain⟨_,h⟩|⟨_,h⟩:=zI h;refine zi<|zr ?_;refine zW 7 ?_;refine zM ⟨[(3,.loc 3 1 0 0),(7,.own 41 1 0 J.length),(10,.own 65 1 0 ac.length),(13,.loc 13 1 0 0),(43,.own 41 1 0 J.length),(44,.p (.int .i64 ((J.length:Nat):Int))),(45,.p (.int .i64 O)),(69,.own 41 1 (vz8.wrap (O+1)).toNat (J.length - (vz8.wrap (O+1)).toNat)),(70,.p (.int .i64 (((J.length - (vz8.wrap (O+1)).toNat):Nat):Int))),(71,.p (.int .i64 b9)),(81,.own 88 1 0 bj.length),(87,.own 87 1 0 1)],[(3,.arr 87 3 1 [.p (qig U)]),(13,.arr 65 2 1 [.p (qao ae)]),(41,.arr 65 2 1 (v0v AV.p (v0v qao J))),(65,.arr 34 1 1 (v0v AV.p (v0v (qal (v5i .i64)) ac))),(87,.arr 34 1 1 [.p (.slc (v0v (v5i .i64) [ae.ID,bm.ID]))]),(88,.arr 34 1 1 (v0v AV.p (v0v (qal (v5i .i64)) bj)))]⟩ ?_;obtain⟨_,h⟩:=qag h;refine Ml ?_;exact M0 h;refine Md ?_;exact M0 h;exact M3 h;try simp only at h
 refine Tc ?_;exact M0 h;refine zi<|zr ?_;refine zW 5 ?_;refine zM ⟨[(3,.loc 3 1 0 0),(7,.own 41 1 0 J.length),(11,.own 88 1 0 az.length),(12,.p (.int .i64 O)),(13,.loc 13 1 0 0),(43,.own 41 1 0 J.length),(44,.p (.int .i64 ((J.length:Nat):Int))),(45,.p (.int .i64 O)),(60,.own 65 1 0 ac.length),(64,.own 64 1 0 1)],[(3,.arr 87 3 1 [.p (qig U)]),(13,.arr 65 2 1 [.p (qao ae)]),(41,.arr 65 2 1 (v0v AV.p (v0v qao J))),(64,.arr 34 1 1 [.p (.slc (v0v (v5i .i64) [ae.ID]))]),(65,.arr 34 1 1 (v0v AV.p (v0v (qal (v5i .i64)) ac))),(88,.arr 34 1 1 (v0v AV.p (v0v (qal (v5i .i64)) az)))]⟩ ?_;obtain⟨cg,h⟩:=qag h;refine M8 ?_;obtain⟨ci,h⟩:=qag h;obtain⟨cj,h⟩:=qag h;refine T0 ?_;obtain⟨_,bn,h⟩:=zB h;refine zO (fun (s:List (List Int)×Int)=>⟨[(3,.loc 3 1 0 0),(7,.own 41 1 0 J.length),(10,.own 65 1 0 (ac.length+1)),(11,.own 88 1 0 s.1.length),(13,.loc 13 1 0 0),(43,.own 41 1 0 J.length),(44,.p (.int .i64 ((J.length:Nat):Int))),(45,.p (.int .i64 O)),(69,.own 41 1 (vz8.wrap (O+1)).toNat (J.length - (vz8.wrap (O+1)).toNat)),(70,.p (.int .i64 (((J.length - (vz8.wrap (O+1)).toNat):Nat):Int))),(71,.p (.int .i64 s.2))],[(3,.arr 87 3 1 [.p (qig U)]),(13,.arr 65 2 1 [.p (qao ae)]),(41,.arr 65 2 1 (v0v AV.p (v0v qao J))),(65,.arr 34 1 1 (v0v AV.p (v0v (qal (v5i .i64)) (ac++[[ae.ID]])))),(88,.arr 34 1 1 (v0v AV.p (v0v (qal (v5i .i64)) s.1)))]⟩) (fun (bp:List (List Int))=>tE (cX Tryz.f64 X w D hT) (.exit 4) ⟨[(3,.loc 3 1 0 0),(7,.own 41 1 0 J.length),(10,.own 65 1 0 (ac.length+1)),(11,.own 88 1 0 bp.length),(43,.own 41 1 0 J.length),(44,.p (.int .i64 ((J.length:Nat):Int))),(45,.p (.int .i64 O))],[(3,.arr 87 3 1 [.p (qig U)]),(41,.arr 65 2 1 (v0v AV.p (v0v qao J))),(65,.arr 34 1 1 (v0v AV.p (v0v (qal (v5i .i64)) (ac++[[ae.ID]])))),(88,.arr 34 1 1 (v0v AV.p (v0v (qal (v5i .i64)) bp)))]⟩) bn ?_ ?_;clear h ar a7 a8 ba au bb bd bf av aw cg ci cj bn;intro s x h;obtain⟨bq,cl⟩:=s;simp only [qi0] at h;dsimp only;refine M9 ?_;obtain⟨_,h⟩|⟨_,h⟩:=zI h;refine Mb ?_;obtain⟨br,cn,co,_,h⟩:=zX h;obtain⟨_,cq⟩:=qng cn;have cv:=eq_true (qqf cq co);refine M8 ?_;refine zU ?_;obtain⟨_,ct,h⟩:=zB h;refine zc (qll U ae.Values br.Values _ ct) ?_;refine zl<|zn ?_;obtain⟨_,h⟩|⟨_,h⟩:=zI h;refine zi<|zr ?_;refine zW 7 ?_;refine zM ⟨[(3,.loc 3 1 0 0),(7,.own 41 1 0 J.length),(10,.own 65 1 0 (ac.length+1)),(13,.loc 13 1 0 0),(43,.own 41 1 0 J.length),(44,.p (.int .i64 ((J.length:Nat):Int))),(45,.p (.int .i64 O)),(69,.own 41 1 (vz8.wrap (O+1)).toNat (J.length - (vz8.wrap (O+1)).toNat)),(70,.p (.int .i64 (((J.length - (vz8.wrap (O+1)).toNat):Nat):Int))),(71,.p (.int .i64 cl)),(81,.own 88 1 0 bq.length),(87,.own 87 1 0 1)],[(3,.arr 87 3 1 [.p (qig U)]),(13,.arr 65 2 1 [.p (qao ae)]),(41,.arr 65 2 1 (v0v AV.p (v0v qao J))),(65,.arr 34 1 1 (v0v AV.p (v0v (qal (v5i .i64)) (ac++[[ae.ID]])))),(87,.arr 34 1 1 [.p (.slc (v0v (v5i .i64) [ae.ID,br.ID]))]),(88,.arr 34 1 1 (v0v AV.p (v0v (qal (v5i .i64)) bq)))]⟩ ?_;obtain⟨_,h⟩:=qag h;refine Ml ?_;exact M0 h;refine Md ?_;exact M0 h;exact M3 h;try simp only at h
 refine Tc ?_;exact M0 h;exact M3 h;obtain⟨_,_⟩:=bv;try simp only at h
 refine Me ?_;obtain⟨_,h⟩:=qag h;exact M1 h results64;exact M2 h results64
theorem quq (J:Table) (O:Int→Option (Bool)) (o2_k:FuncId) (o2_cs:List PV) (o2_h:∀(U:Int) (r4:Bool),O U=some r4→Con D prog o2_k ((.int .i64 U) :: o2_cs) (.bool r4)) (r5:Int) (h:qnx J O=some r5):Con D prog 134 [(qad J),.func (.func o2_k) o2_cs] (.int .i64 r5):=by
 refine zP call134 func134 rfl ntmps134 fun X w hT=>?_;simp only [qnx] at h;refine Mk ?_;refine Mc ?_;refine zU ?_;obtain⟨_,h7,h⟩:=zB h;refine zc (qkb J _ h7) ?_;refine M8 ?_;refine Ma ?_;obtain⟨_,h⟩|⟨_,h⟩:=zI h;exact M2 h results134;refine Mt ?_;refine zU ?_;obtain⟨_,ah,h⟩:=zB h;refine zc (o2_h (J.Attrs.length:Int) _ ah) ?_;refine Ma ?_;obtain⟨_,h⟩|⟨_,h⟩:=zI h;refine Mi ?_;exact M1 h results134;exact M2 h results134
theorem qn3 (O:Int) (J:OD) (U:Bool) (h:qf2 O J=some U):Con D prog 135 [(.int .i64 O),.imm [.slc (v0v (v5i .i64) J.Lhs),.slc (v0v (v5i .i64) J.Rhs)]] (.bool U):=by
 refine zP call135 func135 rfl ntmps135 fun X w hT=>?_;simp only [qf2] at h;refine Mk ?_;refine M8 ?_;refine zU ?_;obtain⟨_,h5,h⟩:=zB h;refine zc (qnp O J _ h5) ?_;exact M1 h results135
theorem qhb (J:Int) (O:Bool) (h:qc8 J=some O):Con D prog 211 [(.int .i64 J)] (.bool O):=by
 refine zP call211 func211 rfl ntmps211 fun X w hT=>?_;simp only [qc8] at h;refine Mk ?_;refine M8 ?_;exact M1 h results211
theorem qk1 (J:Int) (O:Int) (U:Int) (h:qes J O=some U):Con D prog 143 [(.int .i64 J),(.int .i64 O)] (.int .i64 U):=by
 refine zP call143 func143 rfl ntmps143 fun X w hT=>?_;simp only [qes] at h;refine Mk ?_;refine M8 ?_;refine zU ?_;obtain⟨_,h5,h⟩:=zB h;refine zc (qhb J _ h5) ?_;refine M8 ?_;refine zU ?_;obtain⟨_,h7,h⟩:=zB h;refine zc (qhb O _ h7) ?_;refine Mc ?_;refine Ma ?_;obtain⟨_,h⟩|⟨_,h⟩:=zI h;refine zi<|zs<|zs<|zr ?_;refine Ma ?_;obtain⟨_,h⟩|⟨_,h⟩:=zI h;refine Mp ?_;refine zU<|zl<|zn<|zq<|zt<|zt ?_;exact T3 h results143;refine Mi ?_;refine Mn ?_;exact T3 h results143;refine Mt ?_;refine Ma ?_;obtain⟨_,h⟩|⟨_,h⟩:=zI h;exact M2 h results143;refine Mt ?_;refine Ma ?_;obtain⟨_,h⟩|⟨_,h⟩:=zI h;exact M2 h results143;refine Mt ?_;refine Ma ?_;obtain⟨_,h⟩|⟨_,h⟩:=zI h;exact M2 h results143;refine Mi ?_;exact M1 h results143
theorem qzv (J:List Int) (O:Int) (h:qoj J=some O):Con D prog 174 [(.slc (v0v (v5i .i64) J))] (.int .i64 O):=by
 refine zP call174 func174 rfl ntmps174 fun X w hT=>?_;simp only [qoj] at h;refine Mk ?_;refine M8 ?_;refine M7 ?_;obtain⟨o3,U,h⟩:=zB h;refine zO (fun (s:Int)=>⟨[(3,.p (.int .i64 0)),(6,.p (.slc (v0v (v5i .i64) J))),(7,.p (.int .i64 (J.length:Int))),(8,.p (.int .i64 s))],[]⟩) (fun (o:Unit⊕(Int))=>match o with|.inl o5=>tE (cX Tryz.f174 X w D hT) (.exit 0) ⟨[(3,.p (.int .i64 0))],[]⟩|.inr o6=>tR prog Tryz.f174 (.int .i64 o6)) U ?_ ?_;clear h U;intro _ x h;simp only [qcv] at h;refine M9 ?_;obtain⟨_,h⟩|⟨_,h⟩:=zI h;refine Mb ?_;obtain⟨_,_,_,_,h⟩:=zX h;refine M8 ?_;refine Ma ?_;obtain⟨_,h⟩|⟨_,h⟩:=zI h;refine M4 ?_;cases h;exact⟨rfl,zT results174⟩;refine Md ?_;exact M0 h;exact M3 h;rcases o3 with⟨⟩ | _;try simp only at h
 refine Me ?_;exact M1 h results174;exact M5 h
theorem qip (J:Int) (O:Bool) (h:qg8 J=some O):Con D prog 248 [(.int .i64 J)] (.bool O):=by
 refine zP call248 func248 rfl ntmps248 fun X w hT=>?_;simp only [qg8] at h;refine Mk ?_;refine M8 ?_;exact M1 h results248
theorem qmt (J:Int) (O:Int) (U:Int) (h:qgp J O=some U):Con D prog 175 [(.int .i64 J),(.int .i64 O)] (.int .i64 U):=by
 refine zP call175 func175 rfl ntmps175 fun X w hT=>?_;simp only [qgp] at h;refine Mk ?_;refine M8 ?_;refine zU ?_;obtain⟨_,h5,h⟩:=zB h;refine zc (qip J _ h5) ?_;refine M8 ?_;refine zU ?_;obtain⟨_,h7,h⟩:=zB h;refine zc (qip O _ h7) ?_;refine Mc ?_;refine Ma ?_;obtain⟨_,h⟩|⟨_,h⟩:=zI h;refine zi<|zs<|zs<|zr ?_;refine Ma ?_;obtain⟨_,h⟩|⟨_,h⟩:=zI h;refine Mp ?_;refine zU<|zl<|zn<|zq<|zt<|zt ?_;exact T3 h results175;refine Mi ?_;refine Mn ?_;exact T3 h results175;refine Mt ?_;refine Ma ?_;obtain⟨_,h⟩|⟨_,h⟩:=zI h;exact M2 h results175;refine Mt ?_;refine Ma ?_;obtain⟨_,h⟩|⟨_,h⟩:=zI h;exact M2 h results175;refine Mt ?_;refine Ma ?_;obtain⟨_,h⟩|⟨_,h⟩:=zI h;exact M2 h results175;refine Mi ?_;exact M1 h results175
theorem qos (J:Value) (O:Value) (U:Int) (h:qik J O=some U):Con D prog 250 [(qbc J),(qbc O)] (.int .i64 U):=by
 refine zP call250 func250 rfl ntmps250 fun X w hT=>?_;simp only [qik] at h;refine Mk ?_;refine Mw ?_;refine yU ?_;obtain⟨r4,h5,h⟩:=zB h;refine yc (qmt J.Kind O.Kind _ h5) ?_;refine yU ?_;obtain⟨r6,h7,h⟩:=zB h;refine yc (qk1 J.Num O.Num _ h7) ?_;refine yU ?_;obtain⟨r8,h9,h⟩:=zB h;refine yc (qmq J.Str O.Str _ h9) ?_;refine yU ?_;obtain⟨_,ak,h⟩:=zB h;refine yc (qzv [r4,r6,r8] _ ak) ?_;exact Mu h results250
theorem qlm (O:Row) (U:Row) (J:List Int) (r4:Int) (h:qjd O U J=some r4):Con D prog 197 [(qao O),(qao U),(.slc (v0v (v5i .i64) J))] (.int .i64 r4):=by
 refine zP call197 func197 rfl ntmps197 fun X w hT=>?_;simp only [qjd] at h;refine Mk ?_;refine M7 ?_;obtain⟨o5,h6,h⟩:=zB h;refine zO (fun (s:Int)=>⟨[(3,.loc 3 1 0 0),(4,.loc 4 1 0 0),(10,.p (.slc (v0v (v5i .i64) J))),(11,.p (.int .i64 (J.length:Int))),(12,.p (.int .i64 s))],[(3,.arr 65 2 1 [.p (qao O)]),(4,.arr 65 2 1 [.p (qao U)])]⟩) (fun (o:Unit⊕(Int))=>match o with|.inl o7=>tE (cX Tryz.f197 X w D hT) (.exit 0) ⟨[],[]⟩|.inr o8=>tR prog Tryz.f197 (.int .i64 o8)) h6 ?_ ?_;clear h h6;intro _ x h;simp only [qmi] at h;refine M9 ?_;obtain⟨_,h⟩|⟨_,h⟩:=zI h;refine Mb ?_;obtain⟨_,_,_,_,h⟩:=zX h;refine Mw ?_;obtain⟨ai,_,_,_,h⟩:=zX h;obtain⟨aj,_,_,_,h⟩:=zX h;refine yU ?_;obtain⟨_,ak,h⟩:=zB h;refine yc (qos ai aj _ ak) ?_;refine T5 ?_;refine Ma ?_;obtain⟨_,h⟩|⟨_,h⟩:=zI h;refine M4 ?_;cases h;exact⟨rfl,zT results197⟩;refine Md ?_;exact M0 h;exact M3 h;rcases o5 with⟨⟩ | _;try simp only at h
 refine Me ?_;exact M1 h results197;exact M5 h
theorem qvp (J:Row) (O:Row) (U:OD) (r4:Int) (h:qo7 J O U=some r4):Con D prog 136 [(qao J),(qao O),(qwd U)] (.int .i64 r4):=by
 refine zP call136 func136 rfl ntmps136 fun X w hT=>?_;simp only [qo7] at h;refine Mk ?_;refine Mw ?_;refine yU ?_;obtain⟨r5,h6,h⟩:=zB h;refine yc (qlm J O U.Lhs _ h6) ?_;refine yU ?_;obtain⟨r7,h8,h⟩:=zB h;refine yc (qlm J O U.Rhs _ h8) ?_;refine yU ?_;refine yd<|zn<|zs<|zb ?_;obtain⟨t9,ae,h⟩:=zB h;refine zJ (fun (am:Bool)=>tE (cX Tryz.f136 X w D hT) .normal ⟨[(7,.p (.int .i64 r5)),(8,.p (.int .i64 r7)),(19,.p (.bool am))],[]⟩) t9 ?_ ?_;replace h:=ae;clear ae;refine zr ?_;refine zU ?_;obtain⟨_,h⟩|⟨_,h⟩:=zI h;replace h:=h.symm;refine zw 22 true ?_;refine Mj ?_;exact M0 h;refine zw 22 false ?_;refine zh ?_;exact M0 h;try simp only at h
 refine zA<|zn ?_;obtain⟨_,h⟩|⟨_,h⟩:=zI h;refine M4 ?_;exact T3 h results136;refine Mz ?_;refine Ma ?_;obtain⟨_,h⟩|⟨_,h⟩:=zI h;refine M4 ?_;exact T3 h results136;refine T2 ?_;exact M1 h results136
theorem qpj (J:Table) (O:OD) (r3:List (List Int)×Int) (h:qji J O=some r3):Con D prog 65 [(qad J),(qwd O)] (.tup [(.slc (v0v (qal (v5i .i64)) r3.1)),(.int .i64 r3.2)]):=by
 refine zP call65 func65 rfl ntmps65 fun X w hT=>?_;simp only [qji] at h;refine Mk ?_;refine Mc ?_;refine zU ?_;obtain⟨_,h5,h⟩:=zB h;refine zc (quq J (fun (y6:Int)=>qf2 y6 O) 135 [.imm [.slc (v0v (v5i .i64) O.Lhs),.slc (v0v (v5i .i64) O.Rhs)]] (fun y6 r h=>qn3 y6 O r h) _ h5) ?_;refine M8 ?_;refine Ma ?_;obtain⟨h7,h⟩|⟨h7,h⟩:=zI h;exact M2 h results65;refine Mi ?_;refine M7 ?_;obtain⟨_,h9,h⟩:=zB h;refine zO (fun (s:List (List Int)×Int)=>⟨[(2,.loc 2 1 0 0),(3,.loc 3 1 0 0),(7,.own 48 1 0 s.1.length),(19,.p (.slc (v0v qao J.Rows))),(20,.p (.int .i64 (J.Rows.length:Int))),(21,.p (.int .i64 s.2))],[(2,.arr 30 3 1 [.p (qad J)]),(3,.arr 89 2 1 [.p (qwd O)]),(48,.arr 34 1 1 (v0v AV.p (v0v (qal (v5i .i64)) s.1)))]⟩) (fun (ak:List (List Int))=>tE (cX Tryz.f65 X w D hT) (.exit 0) ⟨[(7,.own 48 1 0 ak.length)],[(48,.arr 34 1 1 (v0v AV.p (v0v (qal (v5i .i64)) ak)))]⟩) h9 ?_ ?_;clear h h5 h7 h9;intro s x h;obtain⟨_,U⟩:=s;simp only [qki] at h;dsimp only;refine M9 ?_;obtain⟨am,h⟩|⟨am,h⟩:=zI h;refine Mb ?_;obtain⟨ac,av,aw,ax,h⟩:=zX h;refine M8 ?_;obtain⟨ay,h⟩:=qag h;obtain⟨az,h⟩:=qag h;refine T0 ?_;obtain⟨_,ap,h⟩:=zB h;refine zO (fun (s:List (List Int)×Int)=>⟨[(2,.loc 2 1 0 0),(3,.loc 3 1 0 0),(7,.own 48 1 0 s.1.length),(9,.loc 9 1 0 0),(19,.p (.slc (v0v qao J.Rows))),(20,.p (.int .i64 (J.Rows.length:Int))),(21,.p (.int .i64 U)),(30,.p (.slc (v0v qao ((J.Rows.drop (vz8.wrap (U+1)).toNat).take (J.Rows.length - (vz8.wrap (U+1)).toNat))))),(31,.p (.int .i64 (((J.Rows.drop (vz8.wrap (U+1)).toNat).take (J.Rows.length - (vz8.wrap (U+1)).toNat)).length:Int))),(32,.p (.int .i64 s.2))],[(2,.arr 30 3 1 [.p (qad J)]),(3,.arr 89 2 1 [.p (qwd O)]),(9,.arr 65 2 1 [.p (qao ac)]),(48,.arr 34 1 1 (v0v AV.p (v0v (qal (v5i .i64)) s.1)))]⟩) (fun (aq:List (List Int))=>tE (cX Tryz.f65 X w D hT) (.exit 2) ⟨[(2,.loc 2 1 0 0),(3,.loc 3 1 0 0),(7,.own 48 1 0 aq.length),(19,.p (.slc (v0v qao J.Rows))),(20,.p (.int .i64 (J.Rows.length:Int))),(21,.p (.int .i64 U))],[(2,.arr 30 3 1 [.p (qad J)]),(3,.arr 89 2 1 [.p (qwd O)]),(48,.arr 34 1 1 (v0v AV.p (v0v (qal (v5i .i64)) aq)))]⟩) ap ?_ ?_;clear h am av aw ax ay az ap;intro s x h;obtain⟨ar,a7⟩:=s;simp only [qkh] at h;dsimp only;refine M9 ?_;obtain⟨_,h⟩|⟨_,h⟩:=zI h;refine Mb ?_;obtain⟨au,_,_,_,h⟩:=zX h;refine M8 ?_;refine zU ?_;obtain⟨_,a8,h⟩:=zB h;refine zc (qvp ac au O _ a8) ?_;refine Ma ?_;obtain⟨_,h⟩|⟨_,h⟩:=zI h;refine zi<|zr ?_;refine zW 7 ?_;refine zM ⟨[(2,.loc 2 1 0 0),(3,.loc 3 1 0 0),(9,.loc 9 1 0 0),(19,.p (.slc (v0v qao J.Rows))),(20,.p (.int .i64 (J.Rows.length:Int))),(21,.p (.int .i64 U)),(30,.p (.slc (v0v qao ((J.Rows.drop (vz8.wrap (U+1)).toNat).take (J.Rows.length - (vz8.wrap (U+1)).toNat))))),(31,.p (.int .i64 (((J.Rows.drop (vz8.wrap (U+1)).toNat).take (J.Rows.length - (vz8.wrap (U+1)).toNat)).length:Int))),(32,.p (.int .i64 a7)),(41,.own 48 1 0 ar.length),(47,.own 47 1 0 1)],[(2,.arr 30 3 1 [.p (qad J)]),(3,.arr 89 2 1 [.p (qwd O)]),(9,.arr 65 2 1 [.p (qao ac)]),(47,.arr 34 1 1 [.p (.slc (v0v (v5i .i64) [ac.ID,au.ID]))]),(48,.arr 34 1 1 (v0v AV.p (v0v (qal (v5i .i64)) ar)))]⟩ ?_;obtain⟨_,h⟩:=qag h;refine Ml ?_;exact M0 h;refine Md ?_;exact M0 h;exact M3 h;try simp only at h
 refine Tc ?_;exact M0 h;exact M3 h;try simp only at h
 refine Me ?_;exact M1 h results65
end Go.Proofs.YtpealiejioeonaaGreatDoor
namespace Go.Proofs
open Go Go.Ab Go.Shelf Tryz Go.Proofs.YtpealiejioeonaaGreatDoor
variable {D:Prop}
def Yq.sort71_ren:Go.Shelf.Ren:=⟨fun | 6=>71 | 15=>115 | 14=>142 | 28=>186 | 29=>187 | 20=>203 | 21=>204 | 22=>205 | 23=>206 | 24=>207 | 25=>208 | 26=>209 | 27=>210 | 46=>265 | 47=>252 | 48=>253 | 49=>266 | 50=>267 | 57=>299 | n=>n,fun | 22=>35 | 24=>34 | 25=>178 | 3=>3 | 39=>237 | 0=>0 | 53=>66 | 55=>110 | 4=>4 | 46=>305 | 45=>304 | 50=>201 | 5=>5 | 9=>9 | 66=>361 | 70=>365 | 76=>392 | 77=>393 | n=>n,fun | n=>n⟩
theorem Yq.sort71:Go.Proofs.SlLaysF.n6 prog Yq.sort71_ren:={
  mixed:=by kernel_rfl
  f6:=⟨f71.name,by decide,TK func71⟩
  f14:=⟨f142.name,by decide,TK func142⟩
  f15:=TK func115
  f20:=⟨f203.name,by decide,TK func203⟩
  f21:=⟨f204.name,by decide,TK func204⟩
  f22:=⟨f205.name,by decide,TK func205⟩
  f23:=⟨f206.name,by decide,TK func206⟩
  f24:=⟨f207.name,by decide,TK func207⟩
  f25:=⟨f208.name,by decide,TK func208⟩
  f26:=⟨f209.name,by decide,TK func209⟩
  f27:=⟨f210.name,by decide,TK func210⟩
  f28:=TK func186
  f29:=TK func187
  f46:=⟨f265.name,by decide,TK func265⟩
  f47:=TK func252
  f48:=TK func253
  f49:=⟨f266.name,by decide,TK func266⟩
  f50:=⟨f267.name,by decide,TK func267⟩
  f57:=⟨f299.name,by decide,TK func299⟩
  t0:=underlying0
  a0:=isAgg0
  z0:=sizeOf0
  v0:=zeroValue0
  t3:=underlying3
  a3:=isAgg3
  z3:=sizeOf3
  v3:=zeroValue3
  t4:=underlying4
  a4:=isAgg4
  z4:=sizeOf4
  v4:=zeroValue4
  t5:=underlying5
  a5:=isAgg5
  z5:=sizeOf5
  v5:=zeroValue5
  t9:=underlying9
  a9:=isAgg9
  z9:=sizeOf9
  v9:=zeroValue9
  t22:=underlying35
  a22:=isAgg35
  z22:=sizeOf35
  v22:=zeroValue35
  a24:=isAgg34
  z24:=sizeOf34
  t25:=underlying178
  a25:=isAgg178
  z25:=sizeOf178
  v25:=zeroValue178
  t39:=underlying237
  a39:=isAgg237
  z39:=sizeOf237
  v39:=zeroValue237
  t45:=underlying304
  a45:=isAgg304
  z45:=sizeOf304
  v45:=zeroValue304
  t46:=underlying305
  a46:=isAgg305
  z46:=sizeOf305
  v46:=zeroValue305
  t50:=underlying201
  a50:=isAgg201
  z50:=sizeOf201
  v50:=zeroValue201
  t53:=underlying66
  a53:=isAgg66
  z53:=sizeOf66
  v53:=zeroValue66
  t55:=underlying110
  a55:=isAgg110
  z55:=sizeOf110
  v55:=zeroValue110
  t66:=underlying361
  a66:=isAgg361
  z66:=sizeOf361
  v66:=zeroValue361
  t70:=underlying365
  a70:=isAgg365
  z70:=sizeOf365
  v70:=zeroValue365
  t76:=underlying392
  a76:=isAgg392
  z76:=sizeOf392
  v76:=zeroValue392
  t77:=underlying393
  a77:=isAgg393
  z77:=sizeOf393
  v77:=zeroValue393 }
def Yq.sort82_ren:Go.Shelf.Ren:=⟨fun | 6=>82 | 15=>115 | 14=>150 | 28=>186 | 29=>187 | 20=>214 | 21=>215 | 22=>216 | 23=>217 | 24=>218 | 25=>219 | 26=>220 | 27=>221 | 46=>268 | 47=>252 | 48=>253 | 49=>269 | 50=>270 | 57=>300 | n=>n,fun | 22=>188 | 24=>189 | 25=>191 | 3=>3 | 39=>237 | 0=>0 | 53=>66 | 55=>110 | 4=>4 | 46=>305 | 45=>304 | 50=>201 | 5=>5 | 9=>9 | 66=>361 | 70=>365 | 76=>392 | 77=>393 | n=>n,fun | n=>n⟩
theorem Yq.sort82:Go.Proofs.SlLaysF0.n6 prog Yq.sort82_ren:={
  mixed:=by kernel_rfl
  f6:=⟨f82.name,by decide,TK func82⟩
  f14:=⟨f150.name,by decide,TK func150⟩
  f15:=TK func115
  f20:=⟨f214.name,by decide,TK func214⟩
  f21:=⟨f215.name,by decide,TK func215⟩
  f22:=⟨f216.name,by decide,TK func216⟩
  f23:=⟨f217.name,by decide,TK func217⟩
  f24:=⟨f218.name,by decide,TK func218⟩
  f25:=⟨f219.name,by decide,TK func219⟩
  f26:=⟨f220.name,by decide,TK func220⟩
  f27:=⟨f221.name,by decide,TK func221⟩
  f28:=TK func186
  f29:=TK func187
  f46:=⟨f268.name,by decide,TK func268⟩
  f47:=TK func252
  f48:=TK func253
  f49:=⟨f269.name,by decide,TK func269⟩
  f50:=⟨f270.name,by decide,TK func270⟩
  f57:=⟨f300.name,by decide,TK func300⟩
  t0:=underlying0
  a0:=isAgg0
  z0:=sizeOf0
  v0:=zeroValue0
  t3:=underlying3
  a3:=isAgg3
  z3:=sizeOf3
  v3:=zeroValue3
  t4:=underlying4
  a4:=isAgg4
  z4:=sizeOf4
  v4:=zeroValue4
  t5:=underlying5
  a5:=isAgg5
  z5:=sizeOf5
  v5:=zeroValue5
  t9:=underlying9
  a9:=isAgg9
  z9:=sizeOf9
  v9:=zeroValue9
  t22:=underlying188
  a22:=isAgg188
  z22:=sizeOf188
  v22:=zeroValue188
  t25:=underlying191
  a25:=isAgg191
  z25:=sizeOf191
  v25:=zeroValue191
  t39:=underlying237
  a39:=isAgg237
  z39:=sizeOf237
  v39:=zeroValue237
  t45:=underlying304
  a45:=isAgg304
  z45:=sizeOf304
  v45:=zeroValue304
  t46:=underlying305
  a46:=isAgg305
  z46:=sizeOf305
  v46:=zeroValue305
  t50:=underlying201
  a50:=isAgg201
  z50:=sizeOf201
  v50:=zeroValue201
  t53:=underlying66
  a53:=isAgg66
  z53:=sizeOf66
  v53:=zeroValue66
  t55:=underlying110
  a55:=isAgg110
  z55:=sizeOf110
  v55:=zeroValue110
  t66:=underlying361
  a66:=isAgg361
  z66:=sizeOf361
  v66:=zeroValue361
  t70:=underlying365
  a70:=isAgg365
  z70:=sizeOf365
  v70:=zeroValue365
  t76:=underlying392
  a76:=isAgg392
  z76:=sizeOf392
  v76:=zeroValue392
  t77:=underlying393
  a77:=isAgg393
  z77:=sizeOf393
  v77:=zeroValue393 }
def Yq.sort140_ren:Go.Shelf.Ren:=⟨fun | 5=>140 | 8=>115 | 7=>202 | 19=>186 | 20=>187 | 10=>257 | 11=>258 | 12=>259 | 13=>260 | 14=>261 | 15=>262 | 16=>158 | 17=>263 | 18=>264 | 30=>296 | 31=>252 | 32=>253 | 33=>297 | 34=>298 | 35=>211 | 40=>310 | n=>n,fun | 23=>34 | 25=>2 | 3=>3 | 32=>237 | 22=>34 | 0=>0 | 44=>66 | 46=>110 | 4=>4 | 36=>305 | 35=>304 | 41=>201 | 5=>5 | 9=>9 | 53=>361 | 57=>365 | 63=>392 | 64=>393 | n=>n,fun | n=>n⟩
theorem Yq.sort140:Go.Proofs.SlLaysM.n5 prog Yq.sort140_ren:={
  mixed:=by kernel_rfl
  f5:=⟨f140.name,by decide,TK func140⟩
  f7:=⟨f202.name,by decide,TK func202⟩
  f8:=TK func115
  f10:=⟨f257.name,by decide,TK func257⟩
  f11:=⟨f258.name,by decide,TK func258⟩
  f12:=⟨f259.name,by decide,TK func259⟩
  f13:=⟨f260.name,by decide,TK func260⟩
  f14:=⟨f261.name,by decide,TK func261⟩
  f15:=⟨f262.name,by decide,TK func262⟩
  f16:=⟨f158.name,by decide,TK func158⟩
  f17:=⟨f263.name,by decide,TK func263⟩
  f18:=⟨f264.name,by decide,TK func264⟩
  f19:=TK func186
  f20:=TK func187
  f30:=⟨f296.name,by decide,TK func296⟩
  f31:=TK func252
  f32:=TK func253
  f33:=⟨f297.name,by decide,TK func297⟩
  f34:=⟨f298.name,by decide,TK func298⟩
  f35:=⟨f211.name,by decide,TK func211⟩
  f40:=⟨f310.name,by decide,TK func310⟩
  t0:=underlying0
  a0:=isAgg0
  z0:=sizeOf0
  v0:=zeroValue0
  t3:=underlying3
  a3:=isAgg3
  z3:=sizeOf3
  v3:=zeroValue3
  t4:=underlying4
  a4:=isAgg4
  z4:=sizeOf4
  v4:=zeroValue4
  t5:=underlying5
  a5:=isAgg5
  z5:=sizeOf5
  v5:=zeroValue5
  t9:=underlying9
  a9:=isAgg9
  z9:=sizeOf9
  v9:=zeroValue9
  t22:=underlying34
  a22:=isAgg34
  z22:=sizeOf34
  v22:=zeroValue34
  t23:=underlying34
  a23:=isAgg34
  z23:=sizeOf34
  v23:=zeroValue34
  t25:=underlying2
  a25:=isAgg2
  z25:=sizeOf2
  v25:=zeroValue2
  t32:=underlying237
  a32:=isAgg237
  z32:=sizeOf237
  v32:=zeroValue237
  t35:=underlying304
  a35:=isAgg304
  z35:=sizeOf304
  v35:=zeroValue304
  t36:=underlying305
  a36:=isAgg305
  z36:=sizeOf305
  v36:=zeroValue305
  t41:=underlying201
  a41:=isAgg201
  z41:=sizeOf201
  v41:=zeroValue201
  t44:=underlying66
  a44:=isAgg66
  z44:=sizeOf66
  v44:=zeroValue66
  t46:=underlying110
  a46:=isAgg110
  z46:=sizeOf110
  v46:=zeroValue110
  t53:=underlying361
  a53:=isAgg361
  z53:=sizeOf361
  v53:=zeroValue361
  t57:=underlying365
  a57:=isAgg365
  z57:=sizeOf365
  v57:=zeroValue365
  t63:=underlying392
  a63:=isAgg392
  z63:=sizeOf392
  v63:=zeroValue392
  t64:=underlying393
  a64:=isAgg393
  z64:=sizeOf393
  v64:=zeroValue393 }
def Yq.sort164_ren:Go.Shelf.Ren:=⟨fun | 5=>164 | 8=>115 | 7=>235 | 19=>186 | 20=>187 | 10=>280 | 11=>281 | 12=>282 | 13=>283 | 14=>284 | 15=>285 | 16=>286 | 17=>287 | 18=>288 | 30=>305 | 31=>252 | 32=>253 | 33=>306 | 34=>307 | 35=>248 | 40=>322 | n=>n,fun | 23=>82 | 25=>3 | 3=>3 | 32=>237 | 22=>82 | 0=>0 | 44=>66 | 46=>110 | 4=>4 | 36=>305 | 35=>304 | 41=>201 | 5=>5 | 9=>9 | 53=>361 | 57=>365 | 63=>392 | 64=>393 | n=>n,fun | n=>n⟩
theorem Yq.sort164:Go.Proofs.SlLaysM.n5 prog Yq.sort164_ren:={
  mixed:=by kernel_rfl
  f5:=⟨f164.name,by decide,TK func164⟩
  f7:=⟨f235.name,by decide,TK func235⟩
  f8:=TK func115
  f10:=⟨f280.name,by decide,TK func280⟩
  f11:=⟨f281.name,by decide,TK func281⟩
  f12:=⟨f282.name,by decide,TK func282⟩
  f13:=⟨f283.name,by decide,TK func283⟩
  f14:=⟨f284.name,by decide,TK func284⟩
  f15:=⟨f285.name,by decide,TK func285⟩
  f16:=⟨f286.name,by decide,TK func286⟩
  f17:=⟨f287.name,by decide,TK func287⟩
  f18:=⟨f288.name,by decide,TK func288⟩
  f19:=TK func186
  f20:=TK func187
  f30:=⟨f305.name,by decide,TK func305⟩
  f31:=TK func252
  f32:=TK func253
  f33:=⟨f306.name,by decide,TK func306⟩
  f34:=⟨f307.name,by decide,TK func307⟩
  f35:=⟨f248.name,by decide,TK func248⟩
  f40:=⟨f322.name,by decide,TK func322⟩
  t0:=underlying0
  a0:=isAgg0
  z0:=sizeOf0
  v0:=zeroValue0
  t3:=underlying3
  a3:=isAgg3
  z3:=sizeOf3
  v3:=zeroValue3
  t4:=underlying4
  a4:=isAgg4
  z4:=sizeOf4
  v4:=zeroValue4
  t5:=underlying5
  a5:=isAgg5
  z5:=sizeOf5
  v5:=zeroValue5
  t9:=underlying9
  a9:=isAgg9
  z9:=sizeOf9
  v9:=zeroValue9
  t22:=underlying82
  a22:=isAgg82
  z22:=sizeOf82
  v22:=zeroValue82
  t23:=underlying82
  a23:=isAgg82
  z23:=sizeOf82
  v23:=zeroValue82
  t25:=underlying3
  a25:=isAgg3
  z25:=sizeOf3
  v25:=zeroValue3
  t32:=underlying237
  a32:=isAgg237
  z32:=sizeOf237
  v32:=zeroValue237
  t35:=underlying304
  a35:=isAgg304
  z35:=sizeOf304
  v35:=zeroValue304
  t36:=underlying305
  a36:=isAgg305
  z36:=sizeOf305
  v36:=zeroValue305
  t41:=underlying201
  a41:=isAgg201
  z41:=sizeOf201
  v41:=zeroValue201
  t44:=underlying66
  a44:=isAgg66
  z44:=sizeOf66
  v44:=zeroValue66
  t46:=underlying110
  a46:=isAgg110
  z46:=sizeOf110
  v46:=zeroValue110
  t53:=underlying361
  a53:=isAgg361
  z53:=sizeOf361
  v53:=zeroValue361
  t57:=underlying365
  a57:=isAgg365
  z57:=sizeOf365
  v57:=zeroValue365
  t63:=underlying392
  a63:=isAgg392
  z63:=sizeOf392
  v63:=zeroValue392
  t64:=underlying393
  a64:=isAgg393
  z64:=sizeOf393
  v64:=zeroValue393 }
def Yq.sort273_ren:Go.Shelf.Ren:=⟨fun | 6=>273 | 15=>115 | 14=>301 | 28=>186 | 29=>187 | 20=>311 | 21=>312 | 22=>313 | 23=>314 | 24=>315 | 25=>316 | 26=>317 | 27=>318 | 46=>324 | 47=>252 | 48=>253 | 49=>325 | 50=>326 | 57=>327 | n=>n,fun | 22=>137 | 24=>82 | 25=>379 | 3=>3 | 39=>237 | 0=>0 | 53=>66 | 55=>110 | 4=>4 | 46=>305 | 45=>304 | 50=>201 | 5=>5 | 9=>9 | 66=>361 | 70=>365 | 76=>392 | 77=>393 | n=>n,fun | n=>n⟩
theorem Yq.sort273:Go.Proofs.SlLaysF.n6 prog Yq.sort273_ren:={
  mixed:=by kernel_rfl
  f6:=⟨f273.name,by decide,TK func273⟩
  f14:=⟨f301.name,by decide,TK func301⟩
  f15:=TK func115
  f20:=⟨f311.name,by decide,TK func311⟩
  f21:=⟨f312.name,by decide,TK func312⟩
  f22:=⟨f313.name,by decide,TK func313⟩
  f23:=⟨f314.name,by decide,TK func314⟩
  f24:=⟨f315.name,by decide,TK func315⟩
  f25:=⟨f316.name,by decide,TK func316⟩
  f26:=⟨f317.name,by decide,TK func317⟩
  f27:=⟨f318.name,by decide,TK func318⟩
  f28:=TK func186
  f29:=TK func187
  f46:=⟨f324.name,by decide,TK func324⟩
  f47:=TK func252
  f48:=TK func253
  f49:=⟨f325.name,by decide,TK func325⟩
  f50:=⟨f326.name,by decide,TK func326⟩
  f57:=⟨f327.name,by decide,TK func327⟩
  t0:=underlying0
  a0:=isAgg0
  z0:=sizeOf0
  v0:=zeroValue0
  t3:=underlying3
  a3:=isAgg3
  z3:=sizeOf3
  v3:=zeroValue3
  t4:=underlying4
  a4:=isAgg4
  z4:=sizeOf4
  v4:=zeroValue4
  t5:=underlying5
  a5:=isAgg5
  z5:=sizeOf5
  v5:=zeroValue5
  t9:=underlying9
  a9:=isAgg9
  z9:=sizeOf9
  v9:=zeroValue9
  t22:=underlying137
  a22:=isAgg137
  z22:=sizeOf137
  v22:=zeroValue137
  a24:=isAgg82
  z24:=sizeOf82
  t25:=underlying379
  a25:=isAgg379
  z25:=sizeOf379
  v25:=zeroValue379
  t39:=underlying237
  a39:=isAgg237
  z39:=sizeOf237
  v39:=zeroValue237
  t45:=underlying304
  a45:=isAgg304
  z45:=sizeOf304
  v45:=zeroValue304
  t46:=underlying305
  a46:=isAgg305
  z46:=sizeOf305
  v46:=zeroValue305
  t50:=underlying201
  a50:=isAgg201
  z50:=sizeOf201
  v50:=zeroValue201
  t53:=underlying66
  a53:=isAgg66
  z53:=sizeOf66
  v53:=zeroValue66
  t55:=underlying110
  a55:=isAgg110
  z55:=sizeOf110
  v55:=zeroValue110
  t66:=underlying361
  a66:=isAgg361
  z66:=sizeOf361
  v66:=zeroValue361
  t70:=underlying365
  a70:=isAgg365
  z70:=sizeOf365
  v70:=zeroValue365
  t76:=underlying392
  a76:=isAgg392
  z76:=sizeOf392
  v76:=zeroValue392
  t77:=underlying393
  a77:=isAgg393
  z77:=sizeOf393
  v77:=zeroValue393 }
theorem Yq.srt71:Srt1 prog 71:=⟨call71,fun enc J cf hO g cb blk off cap d w eg hc hH hb hs=>Any.slices_SortFunc_eq Yq.sort71 enc J cf hO g cb blk off cap d w eg hc hH hb hs,fun p cap fv w=>AnyF.slices_SortFunc_none { Yq.sort71 with } p cap fv w⟩
theorem Yq.srt82:SrtQ prog 82 2:=⟨call82,fun enc hk J cf hO g cb blk off cap d w eg hc hH hb hs=>AnyQ.slices_SortFunc_eq Yq.sort82 2 isAgg189 sizeOf189 enc hk J cf hO g cb blk off cap d w eg hc hH hb hs,fun p cap fv w=>AnyF.slices_SortFunc_none Yq.sort82 p cap fv w⟩
theorem Yq.srt140:SrtI prog 140:=⟨call140,fun blk off cap zs w hH hb hs=>AnyM.slices_Sort_int Yq.sort140 blk off cap zs w hH hb hs,fun p cap w=>AnyM.slices_Sort_int_none Yq.sort140 p cap w⟩
theorem Yq.srt164:SrtI prog 164:=⟨call164,fun blk off cap zs w hH hb hs=>AnyM.slices_Sort_int Yq.sort164 blk off cap zs w hH hb hs,fun p cap w=>AnyM.slices_Sort_int_none Yq.sort164 p cap w⟩
theorem Yq.srt273:Srt1 prog 273:=⟨call273,fun enc J cf hO g cb blk off cap d w eg hc hH hb hs=>Any.slices_SortFunc_eq Yq.sort273 enc J cf hO g cb blk off cap d w eg hc hH hb hs,fun p cap fv w=>AnyF.slices_SortFunc_none { Yq.sort273 with } p cap fv w⟩
def Yq.clone70_ren:Go.Shelf.Ren:=⟨fun | 41=>70 | n=>n,fun | 22=>34 | 23=>2 | 4=>4 | n=>n,fun | n=>n⟩
theorem Yq.clone70:Go.Proofs.SlLaysE0.n41 prog Yq.clone70_ren:={
  mixed:=by kernel_rfl
  f41:=⟨f70.name,by decide,TK func70⟩
  t4:=underlying4
  a4:=isAgg4
  z4:=sizeOf4
  v4:=zeroValue4
  t22:=underlying34
  a22:=isAgg34
  z22:=sizeOf34
  v22:=zeroValue34 }
def Yq.clone201_ren:Go.Shelf.Ren:=⟨fun | 41=>201 | n=>n,fun | 22=>28 | 23=>65 | 4=>4 | n=>n,fun | n=>n⟩
theorem Yq.clone201:Go.Proofs.SlLaysE0.n41 prog Yq.clone201_ren:={
  mixed:=by kernel_rfl
  f41:=⟨f201.name,by decide,TK func201⟩
  t4:=underlying4
  a4:=isAgg4
  z4:=sizeOf4
  v4:=zeroValue4
  t22:=underlying28
  a22:=isAgg28
  z22:=sizeOf28
  v22:=zeroValue28 }
def Yq.clone272_ren:Go.Shelf.Ren:=⟨fun | 41=>272 | n=>n,fun | 22=>82 | 23=>3 | 4=>4 | n=>n,fun | n=>n⟩
theorem Yq.clone272:Go.Proofs.SlLaysE0.n41 prog Yq.clone272_ren:={
  mixed:=by kernel_rfl
  f41:=⟨f272.name,by decide,TK func272⟩
  t4:=underlying4
  a4:=isAgg4
  z4:=sizeOf4
  v4:=zeroValue4
  t22:=underlying82
  a22:=isAgg82
  z22:=sizeOf82
  v22:=zeroValue82 }
theorem Yq.cln70:Cln prog 70 2 1 8:=AbE.cln Yq.clone70 call70 Tryz.t2 _ _ _ (by kernel_rfl) rfl rfl rfl rfl (by decide)
theorem Yq.cln201:Cln prog 201 65 2 32:=AbE.cln Yq.clone201 call201 Tryz.t65 _ _ _ (by kernel_rfl) rfl rfl rfl rfl (by decide)
theorem Yq.cln272:Cln prog 272 3 1 8:=AbE.cln Yq.clone272 call272 Tryz.t3 _ _ _ (by kernel_rfl) rfl rfl rfl rfl (by decide)
end Go.Proofs
namespace Go.Proofs.YtpealiejioeonaaGreatDoor
open Go Go.Ab Tryz
variable {D:Prop}
theorem qg0 (J:List Int) (O:List Int) (U:Int) (h:qae J O=some U):Con D prog 72 [(.slc (v0v (v5i .i64) J)),(.slc (v0v (v5i .i64) O))] (.int .i64 U):=by
 refine zP call72 func72 rfl ntmps72 fun X w hT=>?_;simp only [qae] at h;refine Mk ?_;refine M7 ?_;obtain⟨o4,h5,h⟩:=zB h;refine zO (fun (s:Int)=>⟨[(0,.p (.slc (v0v (v5i .i64) J))),(1,.p (.slc (v0v (v5i .i64) O))),(9,.p (.slc (v0v (v5i .i64) J))),(10,.p (.int .i64 (J.length:Int))),(11,.p (.int .i64 s))],[]⟩) (fun (o:Unit⊕(Int))=>match o with|.inl o6=>tE (cX Tryz.f72 X w D hT) (.exit 0) ⟨[(0,.p (.slc (v0v (v5i .i64) J))),(1,.p (.slc (v0v (v5i .i64) O)))],[]⟩|.inr o7=>tR prog Tryz.f72 (.int .i64 o7)) h5 ?_ ?_;clear h h5;intro _ x h;simp only [qba] at h;refine M9 ?_;obtain⟨_,h⟩|⟨_,h⟩:=zI h;refine Mb ?_;obtain⟨ah,_,_,_,h⟩:=zX h;refine Mc ?_;refine Ma ?_;obtain⟨_,h⟩|⟨_,h⟩:=zI h;refine Mm ?_;cases h;exact⟨rfl,zT results72⟩;refine Mi ?_;obtain⟨ai,_,_,_,h⟩:=zX h;refine M8 ?_;refine zU ?_;obtain⟨_,aj,h⟩:=zB h;refine zc (qk1 ah ai _ aj) ?_;refine M8 ?_;refine Ma ?_;obtain⟨_,h⟩|⟨_,h⟩:=zI h;refine M4 ?_;cases h;exact⟨rfl,zT results72⟩;refine Md ?_;exact M0 h;exact M3 h;rcases o4 with⟨⟩ | _;try simp only at h
 refine Ta ?_;refine Ma ?_;obtain⟨_,h⟩|⟨_,h⟩:=zI h;exact M2 h results72;refine Mi ?_;exact M1 h results72;exact M5 h
theorem qur (J:Table) (O:Denial) (U:Int) (h:qi2 J O=some U):Con D prog 137 [(qad J),(qab O)] (.int .i64 U):=by
 refine zP call137 func137 rfl ntmps137 fun X w hT=>?_;simp only [qi2] at h;refine Mk ?_;refine Mc ?_;refine zU ?_;obtain⟨_,h5,h⟩:=zB h;refine zc (qkb J _ h5) ?_;refine M8 ?_;refine Ma ?_;obtain⟨_,h⟩|⟨_,h⟩:=zI h;exact M2 h results137;refine zj<|zk<|zn<|zs<|zb<|zs<|zr ?_;refine zU ?_;obtain⟨_,h8,h⟩:=zB h;refine zc (qpr (J.Attrs.length:Int) O _ h8) ?_;refine Ma ?_;obtain⟨_,h⟩|⟨_,h⟩:=zI h;refine Mz ?_;refine zU ?_;obtain⟨_,h⟩|⟨_,h⟩:=zI h;refine zw 22 true ?_;refine M6 ?_;refine zg ?_;refine Ma ?_;obtain⟨_,h⟩|⟨_,h⟩:=zI h;refine M4 ?_;exact T3 h results137;refine T2 ?_;exact M1 h results137;refine zw 22 false ?_;refine zh ?_;refine Ma ?_;refine T2 ?_;exact M1 h results137;refine M4 ?_;exact T3 h results137
theorem qsg (J:List Row) (O:Term) (U:Value) (h:ql4 J O=some U):Con D prog 256 [(.slc (v0v qao J)),(qpe O)] (qbc U):=by
 refine zP call256 func256 rfl ntmps256 fun X w hT=>?_;simp only [ql4] at h;refine Mk ?_;refine Mc ?_;refine Ma ?_;obtain⟨_,h⟩|⟨_,h⟩:=zI h;exact M2 h results256;refine Tb ?_;obtain⟨_,_,_,_,h⟩:=zX h;obtain⟨_,_,_,_,h⟩:=zX h;exact Mu h results256
theorem qgg (J:List Row) (O:List Atom) (U:Bool) (h:qdo J O=some U):Con D prog 198 [(.slc (v0v qao J)),(.slc (v0v qde O))] (.bool U):=by
 refine zP call198 func198 rfl ntmps198 fun X w hT=>?_;simp only [qdo] at h;refine Mk ?_;refine M7 ?_;obtain⟨o4,h5,h⟩:=zB h;refine zO (fun (s:Int)=>⟨[(0,.p (.slc (v0v qao J))),(9,.p (.slc (v0v qde O))),(10,.p (.int .i64 (O.length:Int))),(11,.p (.int .i64 s))],[]⟩) (fun (o:Unit⊕(Bool))=>match o with|.inl o6=>tE (cX Tryz.f198 X w D hT) (.exit 0) ⟨[],[]⟩|.inr o7=>tR prog Tryz.f198 (.bool o7)) h5 ?_ ?_;clear h h5;intro _ x h;simp only [qdv] at h;refine M9 ?_;obtain⟨_,h⟩|⟨_,h⟩:=zI h;refine Mb ?_;obtain⟨ae,_,_,_,h⟩:=zX h;refine Mw ?_;refine yU ?_;obtain⟨ai,aj,h⟩:=zB h;refine yc (qsg J ae.Left _ aj) ?_;refine yU ?_;obtain⟨ak,am,h⟩:=zB h;refine yc (qsg J ae.Right _ am) ?_;obtain⟨_,ap,h⟩:=zB h;refine yc (qos ai ak _ ap) ?_;refine T5 ?_;refine Mc ?_;refine zU<|zl<|zn<|zb<|zs<|zr ?_;refine Ma ?_;obtain⟨_,h⟩|⟨_,h⟩:=zI h;refine T9 ?_;refine Ma ?_;obtain⟨_,h⟩|⟨_,h⟩:=zI h;refine Md ?_;exact M0 h;refine M4 ?_;cases h;exact⟨rfl,zT results198⟩;refine Mz ?_;refine Ma ?_;obtain⟨_,h⟩|⟨_,h⟩:=zI h;refine T9 ?_;refine Ma ?_;obtain⟨_,h⟩|⟨_,h⟩:=zI h;refine Md ?_;exact M0 h;refine M4 ?_;cases h;exact⟨rfl,zT results198⟩;refine Mz ?_;refine Ma ?_;obtain⟨_,h⟩|⟨_,h⟩:=zI h;refine T9 ?_;refine Ma ?_;obtain⟨_,h⟩|⟨_,h⟩:=zI h;refine Md ?_;exact M0 h;refine M4 ?_;cases h;exact⟨rfl,zT results198⟩;refine Mz ?_;refine Ma ?_;obtain⟨_,h⟩|⟨_,h⟩:=zI h;refine T9 ?_;refine Ma ?_;obtain⟨_,h⟩|⟨_,h⟩:=zI h;refine Md ?_;exact M0 h;refine M4 ?_;cases h;exact⟨rfl,zT results198⟩;refine T2 ?_;refine Ma ?_;refine M4 ?_;cases h;exact⟨rfl,zT results198⟩;exact M3 h;rcases o4 with⟨⟩ | _;try simp only at h
 refine Me ?_;exact M1 h results198;exact M5 h
theorem qot (J:List Row) (O:Row→Option (Bool)) (f2_k:FuncId) (f2_cs:List PV) (f2_h:∀(U:Row) (r4:Bool),O U=some r4→Con D prog f2_k ((qao U) :: f2_cs) (.bool r4)) (r5:Int) (h:qek J O=some r5):Con D prog 170 [(.slc (v0v qao J)),.func (.func f2_k) f2_cs] (.int .i64 r5):=by
 refine zP call170 func170 rfl ntmps170 fun X w hT=>?_;simp only [qek] at h;refine Mk ?_;refine M7 ?_;obtain⟨o6,h7,h⟩:=zB h;refine zO (fun (s:Int)=>⟨[(0,.p (.slc (v0v qao J))),(1,.p (.func (.func f2_k) f2_cs)),(7,.p (.int .i64 (J.length:Int))),(8,.p (.int .i64 s))],[]⟩) (fun (o:Unit⊕(Int))=>match o with|.inl o8=>tE (cX Tryz.f170 X w D hT) (.exit 0) ⟨[],[]⟩|.inr o9=>tR prog Tryz.f170 (.int .i64 o9)) h7 ?_ ?_;clear h h7;intro _ x h;simp only [qch] at h;refine M9 ?_;obtain⟨_,h⟩|⟨_,h⟩:=zI h;refine Mb ?_;refine M8 ?_;obtain⟨aj,_,_,_,h⟩:=zX h;refine zU ?_;obtain⟨_,ak,h⟩:=zB h;refine zc (f2_h aj _ ak) ?_;refine zl<|zn ?_;obtain⟨_,h⟩|⟨_,h⟩:=zI h;refine M4 ?_;cases h;exact⟨rfl,zT results170⟩;refine Md ?_;exact M0 h;exact M3 h;rcases o6 with⟨⟩ | _;try simp only at h
 refine Me ?_;exact M1 h results170;exact M5 h
theorem qdf (J:List Row) (O:Row→Option (Bool)) (f2_k:FuncId) (f2_cs:List PV) (f2_h:∀(U:Row) (r4:Bool),O U=some r4→Con D prog f2_k ((qao U) :: f2_cs) (.bool r4)) (r5:Bool) (h:qbb J O=some r5):Con D prog 199 [(.slc (v0v qao J)),.func (.func f2_k) f2_cs] (.bool r5):=by
 refine zP call199 func199 rfl ntmps199 fun X w hT=>?_;simp only [qbb] at h;refine Mk ?_;refine M8 ?_;refine zU ?_;obtain⟨_,h7,h⟩:=zB h;refine zc (qot J O f2_k f2_cs f2_h _ h7) ?_;exact M1 h results199
theorem qhy (O:Row) (J:Row) (U:Bool) (h:qcs O J=some U):Con D prog 200 [(qao O),.imm [.int .i64 J.ID,.slc (v0v qbc J.Values)]] (.bool U):=by
 refine zP call200 func200 rfl ntmps200 fun X w hT=>?_;simp only [qcs] at h;refine Mk ?_;refine M8 ?_;exact M1 h results200
theorem qq2 (J:Table) (O:Denial) (r3:List (List Int)×Int) (h:qet J O=some r3):Con False prog 66 [(qad J),(qab O)] (.tup [(.slc (v0v (qal (v5i .i64)) r3.1)),(.int .i64 r3.2)]):=by
 refine zP call66 func66 rfl ntmps66 fun X w hT=>?_;simp only [qet] at h;refine Mk ?_;refine Mc ?_;refine zU ?_;obtain⟨_,h5,h⟩:=zB h;refine zc (qur J O _ h5) ?_;refine M8 ?_;refine Ma ?_;obtain⟨h6,h⟩|⟨h6,h⟩:=zI h;exact M2 h results66;have ak:=vz4.2 h6;refine Mi ?_;refine M8 ?_;refine Ma ?_;obtain⟨o7,h8,h⟩:=zB h;refine zJ (fun (o9:List (List Int)×Bool)=>tE (cX Tryz.f66 X w False hT) .normal ⟨[(8,.loc 8 1 0 0),(9,.p (.bool o9.2))],[(8,.arr 35 1 1 [.own 200008 1 0 o9.1.length]),(200008,.arr 34 1 1 (v0v AV.p (v0v (qal (v5i .i64)) o9.1)))]⟩) o7 ?_ ?_;replace h:=h8;clear h8;refine zr ?_;refine zU ?_;refine zM ⟨[(8,.loc 8 1 0 0),(17,.p (qad J)),(18,.p (qab O)),(19,.func (.func 139) [.loc 7 1 0 0,.loc 8 1 0 0])],[(7,.arr 172 1 1 [.mapo 16 1]),(8,.arr 35 1 1 [.own 200008 1 0 0]),(16,.map 1 [] []),(200008,.arr 34 1 1 [])]⟩ ?_;obtain⟨U,bu,h⟩:=zB h;replace bu:=v1p bu;refine vmv (st':=⟨[(8,.loc 8 1 0 0),(17,.p (qad J)),(18,.p (qab O)),(19,.func (.func 139) [.loc 7 1 0 0,.loc 8 1 0 0])],[(7,.arr 172 1 1 [.mapo 16 1]),(8,.arr 35 1 1 [.own 200008 1 0 0]),(16,.map 1 (v0v AV.p (qg2 qaa U)) (v0v AV.p (qhc PV.bool U))),(200008,.arr 34 1 1 [])]⟩) (by simp only [go_sem,seval,ak,←bu];all_goals ((repeat' refine v5f ?_ ?_) <;> first | rfl | (simp;done) | (simp;rfl) | (simp [*];done) | (simp [*];rfl))) ?_
 clear bu;refine zM ⟨[(8,.loc 8 1 0 0),(17,.p (qad J)),(18,.p (qab O)),(19,.func (.func 139) [.loc 7 1 0 0,.loc 8 1 0 0])],[(7,.arr 172 1 1 [.mapo 16 1]),(8,.arr 35 1 1 [.own 200008 1 0 0]),(16,.map 1 (v0v AV.p (qg2 qaa U)) (v0v AV.p (qhc PV.bool U))),(200008,.arr 34 1 1 [])]⟩ ?_;refine qc7 (avs:=[.p (qad J),.p (qab O),.nils,.func (.func 139) [.loc 7 1 0 0,.loc 8 1 0 0]]) 26 rfl (qaw rfl) rfl func138 rfl call138 ntmps138 (by simp) (by simp only [go_sem,seval,ak];all_goals rfl) ?_
 intro d5 d6 d8;obtain⟨am,bv,h⟩:=zB h;replace bv:=v1p bv;refine qz6 (st':=⟨[(0,.p (qad J)),(1,.p (qab O)),(2,.p (.slc (v0v qao am))),(3,.func (.func 139) [.loc 7 1 0 0,.loc 8 1 0 0])],[(7,.arr 172 1 1 [.mapo 16 1]),(8,.arr 35 1 1 [.own 200008 1 0 0]),(16,.map 1 (v0v AV.p (qg2 qaa U)) (v0v AV.p (qhc PV.bool U))),(200008,.arr 34 1 1 [])]⟩) (by simp only [go_sem,seval,ak,←bv];all_goals ((repeat' refine v5f ?_ ?_) <;> first | rfl | (simp;done) | (simp;rfl) | (simp [*];done) | (simp [*];rfl))) ?_
 clear bv;refine Mk ?_;refine Mc ?_;refine Ma ?_;obtain⟨az,h⟩|⟨az,h⟩:=zI h;refine Mp ?_;refine zU ?_;obtain⟨_,d9,h⟩:=zB h;refine zc (qgg am O.Atoms _ d9) ?_;refine zU ?_;obtain⟨bd,h⟩|⟨bd,h⟩:=zI h;refine zw 21 false ?_;refine Mj ?_;refine zM ⟨[(21,.p (.bool false)),(22,.func (.func 139) [.loc 7 1 0 0,.loc 8 1 0 0]),(23,.p (.slc (v0v qao am)))],[(7,.arr 172 1 1 [.mapo 16 1]),(8,.arr 35 1 1 [.own 200008 1 0 0]),(16,.map 1 (v0v AV.p (qg2 qaa U)) (v0v AV.p (qhc PV.bool U))),(200008,.arr 34 1 1 [])]⟩ ?_;refine qc7 (avs:=[.p (.slc (v0v qao am)),.loc 7 1 0 0,.loc 8 1 0 0]) 73 rfl (qbh rfl rfl (by exact rfl) (by exact rfl)) rfl func139 rfl call139 ntmps139 (by simp) (by simp only [go_sem,seval,ak,az,bd];all_goals rfl) ?_
 intro ii ij ik;show AWp _ _ _ ⟨[(0,.p (.slc (v0v qao am))),(1,.loc 7 1 0 0),(2,.loc 8 1 0 0)],[(7,.arr 172 1 1 [.mapo 16 1]),(8,.arr 35 1 1 [.own 200008 1 0 0]),(16,.map 1 (v0v AV.p (qg2 qaa U)) (v0v AV.p (qhc PV.bool U))),(200008,.arr 34 1 1 [])]⟩;refine Mk ?_;refine M8 ?_;refine M7 ?_;obtain⟨db,ek,h⟩:=zB h;refine zO (fun (s:List Int×Int)=>⟨[(1,.loc 7 1 0 0),(2,.loc 8 1 0 0),(5,.own 92 1 0 s.1.length),(9,.p (.slc (v0v qao am))),(10,.p (.int .i64 (am.length:Int))),(11,.p (.int .i64 s.2))],[(7,.arr 172 1 1 [.mapo 16 1]),(8,.arr 35 1 1 [.own 200008 1 0 0]),(16,.map 1 (v0v AV.p (qg2 qaa U)) (v0v AV.p (qhc PV.bool U))),(92,.arr 2 1 1 (v0v AV.p (v0v (v5i .i64) s.1))),(200008,.arr 34 1 1 (v0v AV.p (v0v (qal (v5i .i64)) [])))]⟩) (fun (en:List Int)=>tE ⟨prog,39,73,X,[(7,.arr 172 1 1 [.mapo 16 1]),(8,.arr 35 1 1 [.own 200008 1 0 0]),(16,.map 1 (v0v AV.p (qg2 qaa U)) (v0v AV.p (qhc PV.bool U))),(200008,.arr 34 1 1 [])],ii,ij,False,ik⟩ (.exit 0) ⟨[(1,.loc 7 1 0 0),(2,.loc 8 1 0 0),(5,.own 92 1 0 en.length)],[(7,.arr 172 1 1 [.mapo 16 1]),(8,.arr 35 1 1 [.own 200008 1 0 0]),(16,.map 1 (v0v AV.p (qg2 qaa U)) (v0v AV.p (qhc PV.bool U))),(92,.arr 2 1 1 (v0v AV.p (v0v (v5i .i64) en))),(200008,.arr 34 1 1 (v0v AV.p (v0v (qal (v5i .i64)) [])))]⟩) ek ?_ ?_;clear h h5 h6 ak az d9 bd ek;intro s x h;obtain⟨_,_⟩:=s;simp only [qlg] at h;dsimp only;refine M9 ?_;obtain⟨_,h⟩|⟨_,h⟩:=zI h;refine Mb ?_;obtain⟨_,_,_,_,h⟩:=zX h;refine My ?_;obtain⟨_,h⟩:=qag h;refine Ml ?_;exact M0 h;exact M3 h;try simp only at h
 refine Me ?_;refine zU ?_;refine zM ⟨[(1,.loc 7 1 0 0),(2,.loc 8 1 0 0),(5,.own 92 1 0 db.length),(21,.own 92 1 0 db.length)],[(7,.arr 172 1 1 [.mapo 16 1]),(8,.arr 35 1 1 [.own 200008 1 0 0]),(16,.map 1 (v0v AV.p (qg2 qaa U)) (v0v AV.p (qhc PV.bool U))),(92,.arr 2 1 1 (v0v AV.p (v0v (v5i .i64) db))),(200008,.arr 34 1 1 (v0v AV.p (v0v (qal (v5i .i64)) [])))]⟩ ?_;obtain⟨bw,ep,h⟩:=zB h;refine zSI Yq.srt140 ep ?_;have im:=qqg ep;refine zM ⟨[(1,.loc 7 1 0 0),(2,.loc 8 1 0 0),(5,.own 92 1 0 bw.length),(22,.p (.tup []))],[(7,.arr 172 1 1 [.mapo 16 1]),(8,.arr 35 1 1 [.own 200008 1 0 0]),(16,.map 1 (v0v AV.p (qg2 qaa U)) (v0v AV.p (qhc PV.bool U))),(92,.arr 2 1 1 (v0v AV.p (v0v (v5i .i64) bw))),(200008,.arr 34 1 1 (v0v AV.p (v0v (qal (v5i .i64)) [])))]⟩ ?_;clear im;refine T8 ?_;refine M8 ?_;refine zM ⟨[(1,.loc 7 1 0 0),(2,.loc 8 1 0 0),(5,.p (.slc (v0v (v5i .i64) bw))),(8,.loc 81 1 0 0)],[(7,.arr 172 1 1 [.mapo 16 1]),(8,.arr 35 1 1 [.own 200008 1 0 0]),(16,.map 1 (v0v AV.p (qg2 qaa U)) (v0v AV.p (qhc PV.bool U))),(81,.arr 173 3 1 [.p (.agg [.int .i64 0,.int .i64 0,.int .i64 0])]),(200008,.arr 34 1 1 (v0v AV.p (v0v (qal (v5i .i64)) [])))]⟩ ?_;refine vt2 81 0 0 0 bw underlying173 underlying34 ?_;refine zl<|zn<|zs<|zs<|zr ?_;refine Ma ?_;obtain⟨bx,h⟩|⟨bx,h⟩:=zI h;refine Mi ?_;refine Ms ?_;refine qay (by simp only [results139];simp only [go_sem,seval,ak,az,bd,bx];exact rfl) ?_;refine Mn ?_;refine qay (by simp only [results138];simp only [go_sem,seval,ak,az,bd,bx];exact rfl) ?_;exact M0 h;have er:=vz4.2 bx;refine Mp ?_;refine My ?_;have ju:qcm 1 24=true:=by decide
 refine M8 ?_;refine Ms ?_;refine qay (by simp only [results139];simp only [go_sem,seval,ak,az,bd,er];exact rfl) ?_;refine Mn ?_;refine qay (by simp only [results138];simp only [go_sem,seval,ak,az,bd,er];exact rfl) ?_;exact M0 h;have io:=vz4.2 bd;refine zw 21 true ?_;refine zh ?_;refine Mn ?_;refine qay (by simp only [results138];simp only [go_sem,seval,ak,az,io];exact rfl) ?_;exact M0 h;have de:=vz4.2 az;refine Mh ?_;obtain⟨ip,eu,h⟩:=zB h;refine zO (fun (s:(List (Arr3_int64×Bool))×List (List Int)×Int)=>⟨[(2,.p (.slc (v0v qao am))),(3,.func (.func 139) [.loc 7 1 0 0,.loc 8 1 0 0]),(4,.loc 30 1 0 0),(5,.loc 31 1 0 0),(27,.p (.slc (v0v qao J.Rows))),(28,.p (.int .i64 (J.Rows.length:Int))),(29,.p (.int .i64 s.2.2))],[(7,.arr 172 1 1 [.mapo 16 1]),(8,.arr 35 1 1 [.own 200008 2 0 s.2.1.length]),(16,.map 1 (v0v AV.p (qg2 qaa s.1)) (v0v AV.p (qhc PV.bool s.1))),(30,.arr 30 3 1 [.p (qad J)]),(31,.arr 92 2 1 [.p (qab O)]),(200008,.arr 34 1 2 (v0v AV.p (v0v (qal (v5i .i64)) s.2.1)))]⟩) (fun (o:((List (Arr3_int64×Bool))×List (List Int)) ⊕ ((List (Arr3_int64×Bool))×List (List Int)))=>match o with|.inl bz=>tE ⟨prog,47,26,X,[(7,.arr 172 1 1 [.mapo 16 1]),(8,.arr 35 1 1 [.own 200008 1 0 0]),(16,.map 1 (v0v AV.p (qg2 qaa U)) (v0v AV.p (qhc PV.bool U))),(200008,.arr 34 1 1 [])],d5,d6,False,d8⟩ (.exit 0) ⟨[],[(7,.arr 172 1 1 [.mapo 16 1]),(8,.arr 35 1 1 [.own 200008 2 0 bz.2.length]),(16,.map 1 (v0v AV.p (qg2 qaa bz.1)) (v0v AV.p (qhc PV.bool bz.1))),(200008,.arr 34 1 2 (v0v AV.p (v0v (qal (v5i .i64)) bz.2)))]⟩ | .inr b6=>tE ⟨prog,47,26,X,[(7,.arr 172 1 1 [.mapo 16 1]),(8,.arr 35 1 1 [.own 200008 1 0 0]),(16,.map 1 (v0v AV.p (qg2 qaa U)) (v0v AV.p (qhc PV.bool U))),(200008,.arr 34 1 1 [])],d5,d6,False,d8⟩ .ret ⟨[(8,.p (.bool false))],[(7,.arr 172 1 1 [.mapo 16 1]),(8,.arr 35 1 1 [.own 200008 2 0 b6.2.length]),(16,.map 1 (v0v AV.p (qg2 qaa b6.1)) (v0v AV.p (qhc PV.bool b6.1))),(200008,.arr 34 1 2 (v0v AV.p (v0v (qal (v5i .i64)) b6.2)))]⟩) eu ?_ ?_;clear h h5 h6 ak az de eu;intro s x h;obtain⟨ag,ah,iq⟩:=s;simp only [qbw] at h;dsimp only;refine M9 ?_;obtain⟨bp,h⟩|⟨bp,h⟩:=zI h;have ap:=eq_true bp;refine Mb ?_;obtain⟨bj,ew,ey,e7,h⟩:=zX h;refine Mc ?_;refine zU ?_;obtain⟨_,df,h⟩:=zB h;refine zc (qdf am (fun (dg:Row)=>qcs dg bj) 200 [.imm [.int .i64 bj.ID,.slc (v0v qbc bj.Values)]] (fun dg r h=>qhy dg bj r h) _ df) ?_;refine zl<|zn ?_;obtain⟨b9,h⟩|⟨b9,h⟩:=zI h;refine Td ?_;exact M0 h;have av:=vz4.2 b9;refine zj<|zk<|zn<|zs ?_;refine zdl 8 ?_;refine yU ?_;obtain⟨e8,h⟩:=qag h;refine yK Yq.cln201 65 qao am _ rfl ⟨by unfold maxLen;omega,by omega⟩ ?_;have fa:=@qwn PV;obtain⟨fb,h⟩:=qag h;refine yU ?_;refine ydlS ?_;refine zM ⟨[(2,.p (.slc (v0v qao am))),(3,.func (.func 139) [.loc 7 1 0 0,.loc 8 1 0 0]),(4,.loc 30 1 0 0),(5,.loc 31 1 0 0),(27,.p (.slc (v0v qao J.Rows))),(28,.p (.int .i64 (J.Rows.length:Int))),(29,.p (.int .i64 iq)),(36,.p (qad J)),(37,.p (qab O)),(42,.p (.slc (v0v qao (am++[bj])))),(43,.func (.func 139) [.loc 7 1 0 0,.loc 8 1 0 0])],[(7,.arr 172 1 1 [.mapo 16 1]),(8,.arr 35 1 1 [.own 200008 2 0 ah.length]),(16,.map 1 (v0v AV.p (qg2 qaa ag)) (v0v AV.p (qhc PV.bool ag))),(30,.arr 30 3 1 [.p (qad J)]),(31,.arr 92 2 1 [.p (qab O)]),(200008,.arr 34 1 2 (v0v AV.p (v0v (qal (v5i .i64)) ah)))]⟩ ?_;refine qc7 (avs:=[.p (qad J),.p (qab O),.p (.slc (v0v qao (am++[bj]))),.func (.func 139) [.loc 7 1 0 0,.loc 8 1 0 0]]) 112 rfl (qaw rfl) rfl func138 rfl call138 ntmps138 (by simp) (by simp only [go_sem,seval,ap,av];all_goals rfl) ?_
 intro fc fe ff;obtain⟨aq,ca,h⟩:=zB h;replace ca:=v1p ca;refine qz6 (st':=⟨[(0,.p (qad J)),(1,.p (qab O)),(2,.p (.slc (v0v qao aq))),(3,.func (.func 139) [.loc 7 1 0 0,.loc 8 1 0 0])],[(7,.arr 172 1 1 [.mapo 16 1]),(8,.arr 35 1 1 [.own 200008 2 0 ah.length]),(16,.map 1 (v0v AV.p (qg2 qaa ag)) (v0v AV.p (qhc PV.bool ag))),(30,.arr 30 3 1 [.p (qad J)]),(31,.arr 92 2 1 [.p (qab O)]),(200008,.arr 34 1 2 (v0v AV.p (v0v (qal (v5i .i64)) ah)))]⟩) (by simp only [go_sem,seval,ap,av,←ca];all_goals ((repeat' refine v5f ?_ ?_) <;> first | rfl | (simp;done) | (simp;rfl) | (simp [*];done) | (simp [*];rfl))) ?_
 clear ca;refine Mk ?_;refine Mc ?_;refine Ma ?_;obtain⟨a7,h⟩|⟨a7,h⟩:=zI h;refine Mp ?_;refine zU ?_;obtain⟨_,fg,h⟩:=zB h;refine zc (qgg aq O.Atoms _ fg) ?_;refine zU ?_;obtain⟨bf,h⟩|⟨bf,h⟩:=zI h;refine zw 21 false ?_;refine Mj ?_;refine zM ⟨[(21,.p (.bool false)),(22,.func (.func 139) [.loc 7 1 0 0,.loc 8 1 0 0]),(23,.p (.slc (v0v qao aq)))],[(7,.arr 172 1 1 [.mapo 16 1]),(8,.arr 35 1 1 [.own 200008 2 0 ah.length]),(16,.map 1 (v0v AV.p (qg2 qaa ag)) (v0v AV.p (qhc PV.bool ag))),(30,.arr 30 3 1 [.p (qad J)]),(31,.arr 92 2 1 [.p (qab O)]),(200008,.arr 34 1 2 (v0v AV.p (v0v (qal (v5i .i64)) ah)))]⟩ ?_;refine qc7 (avs:=[.p (.slc (v0v qao aq)),.loc 7 1 0 0,.loc 8 1 0 0]) 159 rfl (qbh rfl rfl (by exact rfl) (by exact rfl)) rfl func139 rfl call139 ntmps139 (by simp) (by simp only [go_sem,seval,ap,av,a7,bf];all_goals rfl) ?_
 intro ir iu iw;show AWp _ _ _ ⟨[(0,.p (.slc (v0v qao aq))),(1,.loc 7 1 0 0),(2,.loc 8 1 0 0)],[(7,.arr 172 1 1 [.mapo 16 1]),(8,.arr 35 1 1 [.own 200008 2 0 ah.length]),(16,.map 1 (v0v AV.p (qg2 qaa ag)) (v0v AV.p (qhc PV.bool ag))),(30,.arr 30 3 1 [.p (qad J)]),(31,.arr 92 2 1 [.p (qab O)]),(200008,.arr 34 1 2 (v0v AV.p (v0v (qal (v5i .i64)) ah)))]⟩;refine Mk ?_;refine M8 ?_;refine M7 ?_;obtain⟨dh,fh,h⟩:=zB h;refine zO (fun (s:List Int×Int)=>⟨[(1,.loc 7 1 0 0),(2,.loc 8 1 0 0),(5,.own 178 1 0 s.1.length),(9,.p (.slc (v0v qao aq))),(10,.p (.int .i64 (aq.length:Int))),(11,.p (.int .i64 s.2))],[(7,.arr 172 1 1 [.mapo 16 1]),(8,.arr 35 1 1 [.own 200008 2 0 ah.length]),(16,.map 1 (v0v AV.p (qg2 qaa ag)) (v0v AV.p (qhc PV.bool ag))),(30,.arr 30 3 1 [.p (qad J)]),(31,.arr 92 2 1 [.p (qab O)]),(178,.arr 2 1 1 (v0v AV.p (v0v (v5i .i64) s.1))),(200008,.arr 34 1 2 (v0v AV.p (v0v (qal (v5i .i64)) ah)))]⟩) (fun (fj:List Int)=>tE ⟨prog,39,159,X,[(7,.arr 172 1 1 [.mapo 16 1]),(8,.arr 35 1 1 [.own 200008 2 0 ah.length]),(16,.map 1 (v0v AV.p (qg2 qaa ag)) (v0v AV.p (qhc PV.bool ag))),(30,.arr 30 3 1 [.p (qad J)]),(31,.arr 92 2 1 [.p (qab O)]),(200008,.arr 34 1 2 (v0v AV.p (v0v (qal (v5i .i64)) ah)))],ir,iu,False,iw⟩ (.exit 0) ⟨[(1,.loc 7 1 0 0),(2,.loc 8 1 0 0),(5,.own 178 1 0 fj.length)],[(7,.arr 172 1 1 [.mapo 16 1]),(8,.arr 35 1 1 [.own 200008 2 0 ah.length]),(16,.map 1 (v0v AV.p (qg2 qaa ag)) (v0v AV.p (qhc PV.bool ag))),(30,.arr 30 3 1 [.p (qad J)]),(31,.arr 92 2 1 [.p (qab O)]),(178,.arr 2 1 1 (v0v AV.p (v0v (v5i .i64) fj))),(200008,.arr 34 1 2 (v0v AV.p (v0v (qal (v5i .i64)) ah)))]⟩) fh ?_ ?_;clear h bp ap ew ey e7 df b9 av e8 fa fb a7 fg bf fh;intro s x h;obtain⟨_,_⟩:=s;simp only [qit] at h;dsimp only;refine M9 ?_;obtain⟨_,h⟩|⟨_,h⟩:=zI h;refine Mb ?_;obtain⟨_,_,_,_,h⟩:=zX h;refine My ?_;obtain⟨_,h⟩:=qag h;refine Ml ?_;exact M0 h;exact M3 h;try simp only at h
 refine Me ?_;refine zU ?_;refine zM ⟨[(1,.loc 7 1 0 0),(2,.loc 8 1 0 0),(5,.own 178 1 0 dh.length),(21,.own 178 1 0 dh.length)],[(7,.arr 172 1 1 [.mapo 16 1]),(8,.arr 35 1 1 [.own 200008 2 0 ah.length]),(16,.map 1 (v0v AV.p (qg2 qaa ag)) (v0v AV.p (qhc PV.bool ag))),(30,.arr 30 3 1 [.p (qad J)]),(31,.arr 92 2 1 [.p (qab O)]),(178,.arr 2 1 1 (v0v AV.p (v0v (v5i .i64) dh))),(200008,.arr 34 1 2 (v0v AV.p (v0v (qal (v5i .i64)) ah)))]⟩ ?_;obtain⟨cc,fk,h⟩:=zB h;refine zSI Yq.srt140 fk ?_;have iy:=qqg fk;refine zM ⟨[(1,.loc 7 1 0 0),(2,.loc 8 1 0 0),(5,.own 178 1 0 cc.length),(22,.p (.tup []))],[(7,.arr 172 1 1 [.mapo 16 1]),(8,.arr 35 1 1 [.own 200008 2 0 ah.length]),(16,.map 1 (v0v AV.p (qg2 qaa ag)) (v0v AV.p (qhc PV.bool ag))),(30,.arr 30 3 1 [.p (qad J)]),(31,.arr 92 2 1 [.p (qab O)]),(178,.arr 2 1 1 (v0v AV.p (v0v (v5i .i64) cc))),(200008,.arr 34 1 2 (v0v AV.p (v0v (qal (v5i .i64)) ah)))]⟩ ?_;clear iy;refine T8 ?_;refine M8 ?_;refine zM ⟨[(1,.loc 7 1 0 0),(2,.loc 8 1 0 0),(5,.p (.slc (v0v (v5i .i64) cc))),(8,.loc 167 1 0 0)],[(7,.arr 172 1 1 [.mapo 16 1]),(8,.arr 35 1 1 [.own 200008 2 0 ah.length]),(16,.map 1 (v0v AV.p (qg2 qaa ag)) (v0v AV.p (qhc PV.bool ag))),(30,.arr 30 3 1 [.p (qad J)]),(31,.arr 92 2 1 [.p (qab O)]),(167,.arr 173 3 1 [.p (.agg [.int .i64 0,.int .i64 0,.int .i64 0])]),(200008,.arr 34 1 2 (v0v AV.p (v0v (qal (v5i .i64)) ah)))]⟩ ?_;refine vt2 167 0 0 0 cc underlying173 underlying34 ?_;refine zl<|zn<|zs<|zs<|zr ?_;refine Ma ?_;obtain⟨cd,h⟩|⟨cd,h⟩:=zI h;refine Mi ?_;refine Ms ?_;refine qay (by simp only [results139];simp only [go_sem,seval,ap,av,a7,bf,cd];exact rfl) ?_;refine Mn ?_;refine qay (by simp only [results138];simp only [go_sem,seval,ap,av,a7,bf,cd];exact rfl) ?_;refine Ma ?_;obtain⟨_,h⟩|⟨_,h⟩:=zI h;refine Md ?_;exact M0 h;refine M4 ?_;exact Mr h;have fl:=vz4.2 cd;refine Mp ?_;refine My ?_;obtain⟨_,h⟩:=qag h;refine M8 ?_;refine Ms ?_;refine qay (by simp only [results139];simp only [go_sem,seval,ap,av,a7,bf,fl];exact rfl) ?_;refine Mn ?_;refine qay (by simp only [results138];simp only [go_sem,seval,ap,av,a7,bf,fl];exact rfl) ?_;refine Ma ?_;obtain⟨_,h⟩|⟨_,h⟩:=zI h;refine Md ?_;exact M0 h;refine M4 ?_;exact Mr h;have iz:=vz4.2 bf;refine zw 21 true ?_;refine zh ?_;refine Mn ?_;refine qay (by simp only [results138];simp only [go_sem,seval,ap,av,a7,iz];exact rfl) ?_;refine Ma ?_;refine Md ?_;exact M0 h;have di:=vz4.2 a7;refine Mh ?_;obtain⟨ja,fm,h⟩:=zB h;refine zO (fun (s:(List (Arr3_int64×Bool))×List (List Int)×Int)=>⟨[(2,.p (.slc (v0v qao aq))),(3,.func (.func 139) [.loc 7 1 0 0,.loc 8 1 0 0]),(4,.loc 116 1 0 0),(5,.loc 117 1 0 0),(27,.p (.slc (v0v qao J.Rows))),(28,.p (.int .i64 (J.Rows.length:Int))),(29,.p (.int .i64 s.2.2))],[(7,.arr 172 1 1 [.mapo 16 1]),(8,.arr 35 1 1 [.own 200008 3 0 s.2.1.length]),(16,.map 1 (v0v AV.p (qg2 qaa s.1)) (v0v AV.p (qhc PV.bool s.1))),(30,.arr 30 3 1 [.p (qad J)]),(31,.arr 92 2 1 [.p (qab O)]),(116,.arr 30 3 1 [.p (qad J)]),(117,.arr 92 2 1 [.p (qab O)]),(200008,.arr 34 1 3 (v0v AV.p (v0v (qal (v5i .i64)) s.2.1)))]⟩) (fun (o:((List (Arr3_int64×Bool))×List (List Int)) ⊕ ((List (Arr3_int64×Bool))×List (List Int)))=>match o with|.inl ce=>tE ⟨prog,47,112,X,[(7,.arr 172 1 1 [.mapo 16 1]),(8,.arr 35 1 1 [.own 200008 2 0 ah.length]),(16,.map 1 (v0v AV.p (qg2 qaa ag)) (v0v AV.p (qhc PV.bool ag))),(30,.arr 30 3 1 [.p (qad J)]),(31,.arr 92 2 1 [.p (qab O)]),(200008,.arr 34 1 2 (v0v AV.p (v0v (qal (v5i .i64)) ah)))],fc,fe,False,ff⟩ (.exit 0) ⟨[],[(7,.arr 172 1 1 [.mapo 16 1]),(8,.arr 35 1 1 [.own 200008 3 0 ce.2.length]),(16,.map 1 (v0v AV.p (qg2 qaa ce.1)) (v0v AV.p (qhc PV.bool ce.1))),(30,.arr 30 3 1 [.p (qad J)]),(31,.arr 92 2 1 [.p (qab O)]),(200008,.arr 34 1 3 (v0v AV.p (v0v (qal (v5i .i64)) ce.2)))]⟩ | .inr cg=>tE ⟨prog,47,112,X,[(7,.arr 172 1 1 [.mapo 16 1]),(8,.arr 35 1 1 [.own 200008 2 0 ah.length]),(16,.map 1 (v0v AV.p (qg2 qaa ag)) (v0v AV.p (qhc PV.bool ag))),(30,.arr 30 3 1 [.p (qad J)]),(31,.arr 92 2 1 [.p (qab O)]),(200008,.arr 34 1 2 (v0v AV.p (v0v (qal (v5i .i64)) ah)))],fc,fe,False,ff⟩ .ret ⟨[(8,.p (.bool false))],[(7,.arr 172 1 1 [.mapo 16 1]),(8,.arr 35 1 1 [.own 200008 3 0 cg.2.length]),(16,.map 1 (v0v AV.p (qg2 qaa cg.1)) (v0v AV.p (qhc PV.bool cg.1))),(30,.arr 30 3 1 [.p (qad J)]),(31,.arr 92 2 1 [.p (qab O)]),(200008,.arr 34 1 3 (v0v AV.p (v0v (qal (v5i .i64)) cg.2)))]⟩) fm ?_ ?_;clear h bp ap ew ey e7 df b9 av e8 fa fb a7 di fm;intro s x h;obtain⟨ai,aj,jb⟩:=s;simp only [qbv] at h;dsimp only;refine M9 ?_;obtain⟨bq,h⟩|⟨bq,h⟩:=zI h;have ar:=eq_true bq;refine Mb ?_;obtain⟨bm,fq,ft,fu,h⟩:=zX h;refine Mc ?_;refine zU ?_;obtain⟨_,dj,h⟩:=zB h;refine zc (qdf aq (fun (dl:Row)=>qcs dl bm) 200 [.imm [.int .i64 bm.ID,.slc (v0v qbc bm.Values)]] (fun dl r h=>qhy dl bm r h) _ dj) ?_;refine zl<|zn ?_;obtain⟨ci,h⟩|⟨ci,h⟩:=zI h;refine Td ?_;exact M0 h;have aw:=vz4.2 ci;refine zj<|zk<|zn<|zs ?_;refine zdl 8 ?_;refine yU ?_;obtain⟨fw,h⟩:=qag h;refine yK Yq.cln201 151 qao aq _ rfl ⟨by unfold maxLen;omega,by omega⟩ ?_;have fy:=@qwn PV;obtain⟨f0,h⟩:=qag h;refine yU ?_;refine ydlS ?_;refine zM ⟨[(2,.p (.slc (v0v qao aq))),(3,.func (.func 139) [.loc 7 1 0 0,.loc 8 1 0 0]),(4,.loc 116 1 0 0),(5,.loc 117 1 0 0),(27,.p (.slc (v0v qao J.Rows))),(28,.p (.int .i64 (J.Rows.length:Int))),(29,.p (.int .i64 jb)),(36,.p (qad J)),(37,.p (qab O)),(42,.p (.slc (v0v qao (aq++[bm])))),(43,.func (.func 139) [.loc 7 1 0 0,.loc 8 1 0 0])],[(7,.arr 172 1 1 [.mapo 16 1]),(8,.arr 35 1 1 [.own 200008 3 0 aj.length]),(16,.map 1 (v0v AV.p (qg2 qaa ai)) (v0v AV.p (qhc PV.bool ai))),(30,.arr 30 3 1 [.p (qad J)]),(31,.arr 92 2 1 [.p (qab O)]),(116,.arr 30 3 1 [.p (qad J)]),(117,.arr 92 2 1 [.p (qab O)]),(200008,.arr 34 1 3 (v0v AV.p (v0v (qal (v5i .i64)) aj)))]⟩ ?_;refine qc7 (avs:=[.p (qad J),.p (qab O),.p (.slc (v0v qao (aq++[bm]))),.func (.func 139) [.loc 7 1 0 0,.loc 8 1 0 0]]) 198 rfl (qaw rfl) rfl func138 rfl call138 ntmps138 (by simp) (by simp only [go_sem,seval,ar,aw];all_goals rfl) ?_
 intro ga gc gg;obtain⟨au,cj,h⟩:=zB h;replace cj:=v1p cj;refine qz6 (st':=⟨[(0,.p (qad J)),(1,.p (qab O)),(2,.p (.slc (v0v qao au))),(3,.func (.func 139) [.loc 7 1 0 0,.loc 8 1 0 0])],[(7,.arr 172 1 1 [.mapo 16 1]),(8,.arr 35 1 1 [.own 200008 3 0 aj.length]),(16,.map 1 (v0v AV.p (qg2 qaa ai)) (v0v AV.p (qhc PV.bool ai))),(30,.arr 30 3 1 [.p (qad J)]),(31,.arr 92 2 1 [.p (qab O)]),(116,.arr 30 3 1 [.p (qad J)]),(117,.arr 92 2 1 [.p (qab O)]),(200008,.arr 34 1 3 (v0v AV.p (v0v (qal (v5i .i64)) aj)))]⟩) (by simp only [go_sem,seval,ar,aw,←cj];all_goals ((repeat' refine v5f ?_ ?_) <;> first | rfl | (simp;done) | (simp;rfl) | (simp [*];done) | (simp [*];rfl))) ?_
 clear cj;refine Mk ?_;refine Mc ?_;refine Ma ?_;obtain⟨a8,h⟩|⟨a8,h⟩:=zI h;refine Mp ?_;refine zU ?_;obtain⟨_,gh,h⟩:=zB h;refine zc (qgg au O.Atoms _ gh) ?_;refine zU ?_;obtain⟨bg,h⟩|⟨bg,h⟩:=zI h;refine zw 21 false ?_;refine Mj ?_;refine zM ⟨[(21,.p (.bool false)),(22,.func (.func 139) [.loc 7 1 0 0,.loc 8 1 0 0]),(23,.p (.slc (v0v qao au)))],[(7,.arr 172 1 1 [.mapo 16 1]),(8,.arr 35 1 1 [.own 200008 3 0 aj.length]),(16,.map 1 (v0v AV.p (qg2 qaa ai)) (v0v AV.p (qhc PV.bool ai))),(30,.arr 30 3 1 [.p (qad J)]),(31,.arr 92 2 1 [.p (qab O)]),(116,.arr 30 3 1 [.p (qad J)]),(117,.arr 92 2 1 [.p (qab O)]),(200008,.arr 34 1 3 (v0v AV.p (v0v (qal (v5i .i64)) aj)))]⟩ ?_;refine qc7 (avs:=[.p (.slc (v0v qao au)),.loc 7 1 0 0,.loc 8 1 0 0]) 245 rfl (qbh rfl rfl (by exact rfl) (by exact rfl)) rfl func139 rfl call139 ntmps139 (by simp) (by simp only [go_sem,seval,ar,aw,a8,bg];all_goals rfl) ?_
 intro jc jd je;show AWp _ _ _ ⟨[(0,.p (.slc (v0v qao au))),(1,.loc 7 1 0 0),(2,.loc 8 1 0 0)],[(7,.arr 172 1 1 [.mapo 16 1]),(8,.arr 35 1 1 [.own 200008 3 0 aj.length]),(16,.map 1 (v0v AV.p (qg2 qaa ai)) (v0v AV.p (qhc PV.bool ai))),(30,.arr 30 3 1 [.p (qad J)]),(31,.arr 92 2 1 [.p (qab O)]),(116,.arr 30 3 1 [.p (qad J)]),(117,.arr 92 2 1 [.p (qab O)]),(200008,.arr 34 1 3 (v0v AV.p (v0v (qal (v5i .i64)) aj)))]⟩;refine Mk ?_;refine M8 ?_;refine M7 ?_;obtain⟨dm,gi,h⟩:=zB h;refine zO (fun (s:List Int×Int)=>⟨[(1,.loc 7 1 0 0),(2,.loc 8 1 0 0),(5,.own 264 1 0 s.1.length),(9,.p (.slc (v0v qao au))),(10,.p (.int .i64 (au.length:Int))),(11,.p (.int .i64 s.2))],[(7,.arr 172 1 1 [.mapo 16 1]),(8,.arr 35 1 1 [.own 200008 3 0 aj.length]),(16,.map 1 (v0v AV.p (qg2 qaa ai)) (v0v AV.p (qhc PV.bool ai))),(30,.arr 30 3 1 [.p (qad J)]),(31,.arr 92 2 1 [.p (qab O)]),(116,.arr 30 3 1 [.p (qad J)]),(117,.arr 92 2 1 [.p (qab O)]),(264,.arr 2 1 1 (v0v AV.p (v0v (v5i .i64) s.1))),(200008,.arr 34 1 3 (v0v AV.p (v0v (qal (v5i .i64)) aj)))]⟩) (fun (gj:List Int)=>tE ⟨prog,39,245,X,[(7,.arr 172 1 1 [.mapo 16 1]),(8,.arr 35 1 1 [.own 200008 3 0 aj.length]),(16,.map 1 (v0v AV.p (qg2 qaa ai)) (v0v AV.p (qhc PV.bool ai))),(30,.arr 30 3 1 [.p (qad J)]),(31,.arr 92 2 1 [.p (qab O)]),(116,.arr 30 3 1 [.p (qad J)]),(117,.arr 92 2 1 [.p (qab O)]),(200008,.arr 34 1 3 (v0v AV.p (v0v (qal (v5i .i64)) aj)))],jc,jd,False,je⟩ (.exit 0) ⟨[(1,.loc 7 1 0 0),(2,.loc 8 1 0 0),(5,.own 264 1 0 gj.length)],[(7,.arr 172 1 1 [.mapo 16 1]),(8,.arr 35 1 1 [.own 200008 3 0 aj.length]),(16,.map 1 (v0v AV.p (qg2 qaa ai)) (v0v AV.p (qhc PV.bool ai))),(30,.arr 30 3 1 [.p (qad J)]),(31,.arr 92 2 1 [.p (qab O)]),(116,.arr 30 3 1 [.p (qad J)]),(117,.arr 92 2 1 [.p (qab O)]),(264,.arr 2 1 1 (v0v AV.p (v0v (v5i .i64) gj))),(200008,.arr 34 1 3 (v0v AV.p (v0v (qal (v5i .i64)) aj)))]⟩) gi ?_ ?_;clear h bq ar fq ft fu dj ci aw fw fy f0 a8 gh bg gi;intro s x h;obtain⟨_,_⟩:=s;simp only [qiu] at h;dsimp only;refine M9 ?_;obtain⟨_,h⟩|⟨_,h⟩:=zI h;refine Mb ?_;obtain⟨_,_,_,_,h⟩:=zX h;refine My ?_;obtain⟨_,h⟩:=qag h;refine Ml ?_;exact M0 h;exact M3 h;try simp only at h
 refine Me ?_;refine zU ?_;refine zM ⟨[(1,.loc 7 1 0 0),(2,.loc 8 1 0 0),(5,.own 264 1 0 dm.length),(21,.own 264 1 0 dm.length)],[(7,.arr 172 1 1 [.mapo 16 1]),(8,.arr 35 1 1 [.own 200008 3 0 aj.length]),(16,.map 1 (v0v AV.p (qg2 qaa ai)) (v0v AV.p (qhc PV.bool ai))),(30,.arr 30 3 1 [.p (qad J)]),(31,.arr 92 2 1 [.p (qab O)]),(116,.arr 30 3 1 [.p (qad J)]),(117,.arr 92 2 1 [.p (qab O)]),(264,.arr 2 1 1 (v0v AV.p (v0v (v5i .i64) dm))),(200008,.arr 34 1 3 (v0v AV.p (v0v (qal (v5i .i64)) aj)))]⟩ ?_;obtain⟨cl,gk,h⟩:=zB h;refine zSI Yq.srt140 gk ?_;have jf:=qqg gk;refine zM ⟨[(1,.loc 7 1 0 0),(2,.loc 8 1 0 0),(5,.own 264 1 0 cl.length),(22,.p (.tup []))],[(7,.arr 172 1 1 [.mapo 16 1]),(8,.arr 35 1 1 [.own 200008 3 0 aj.length]),(16,.map 1 (v0v AV.p (qg2 qaa ai)) (v0v AV.p (qhc PV.bool ai))),(30,.arr 30 3 1 [.p (qad J)]),(31,.arr 92 2 1 [.p (qab O)]),(116,.arr 30 3 1 [.p (qad J)]),(117,.arr 92 2 1 [.p (qab O)]),(264,.arr 2 1 1 (v0v AV.p (v0v (v5i .i64) cl))),(200008,.arr 34 1 3 (v0v AV.p (v0v (qal (v5i .i64)) aj)))]⟩ ?_;clear jf;refine T8 ?_;refine M8 ?_;refine zM ⟨[(1,.loc 7 1 0 0),(2,.loc 8 1 0 0),(5,.p (.slc (v0v (v5i .i64) cl))),(8,.loc 253 1 0 0)],[(7,.arr 172 1 1 [.mapo 16 1]),(8,.arr 35 1 1 [.own 200008 3 0 aj.length]),(16,.map 1 (v0v AV.p (qg2 qaa ai)) (v0v AV.p (qhc PV.bool ai))),(30,.arr 30 3 1 [.p (qad J)]),(31,.arr 92 2 1 [.p (qab O)]),(116,.arr 30 3 1 [.p (qad J)]),(117,.arr 92 2 1 [.p (qab O)]),(253,.arr 173 3 1 [.p (.agg [.int .i64 0,.int .i64 0,.int .i64 0])]),(200008,.arr 34 1 3 (v0v AV.p (v0v (qal (v5i .i64)) aj)))]⟩ ?_;refine vt2 253 0 0 0 cl underlying173 underlying34 ?_;refine zl<|zn<|zs<|zs<|zr ?_;refine Ma ?_;obtain⟨cn,h⟩|⟨cn,h⟩:=zI h;refine Mi ?_;refine Ms ?_;refine qay (by simp only [results139];simp only [go_sem,seval,ar,aw,a8,bg,cn];exact rfl) ?_;refine Mn ?_;refine qay (by simp only [results138];simp only [go_sem,seval,ar,aw,a8,bg,cn];exact rfl) ?_;refine Ma ?_;obtain⟨_,h⟩|⟨_,h⟩:=zI h;refine Md ?_;exact M0 h;refine M4 ?_;exact Mr h;have gl:=vz4.2 cn;refine Mp ?_;refine My ?_;obtain⟨_,h⟩:=qag h;refine M8 ?_;refine Ms ?_;refine qay (by simp only [results139];simp only [go_sem,seval,ar,aw,a8,bg,gl];exact rfl) ?_;refine Mn ?_;refine qay (by simp only [results138];simp only [go_sem,seval,ar,aw,a8,bg,gl];exact rfl) ?_;refine Ma ?_;obtain⟨_,h⟩|⟨_,h⟩:=zI h;refine Md ?_;exact M0 h;refine M4 ?_;exact Mr h;have jg:=vz4.2 bg;refine zw 21 true ?_;refine zh ?_;refine Mn ?_;refine qay (by simp only [results138];simp only [go_sem,seval,ar,aw,a8,jg];exact rfl) ?_;refine Ma ?_;refine Md ?_;exact M0 h;have dn:=vz4.2 a8;refine Mh ?_;obtain⟨jh,gm,h⟩:=zB h;refine zO (fun (s:(List (Arr3_int64×Bool))×List (List Int)×Int)=>⟨[(2,.p (.slc (v0v qao au))),(3,.func (.func 139) [.loc 7 1 0 0,.loc 8 1 0 0]),(4,.loc 202 1 0 0),(5,.loc 203 1 0 0),(27,.p (.slc (v0v qao J.Rows))),(28,.p (.int .i64 (J.Rows.length:Int))),(29,.p (.int .i64 s.2.2))],[(7,.arr 172 1 1 [.mapo 16 1]),(8,.arr 35 1 1 [.own 200008 4 0 s.2.1.length]),(16,.map 1 (v0v AV.p (qg2 qaa s.1)) (v0v AV.p (qhc PV.bool s.1))),(30,.arr 30 3 1 [.p (qad J)]),(31,.arr 92 2 1 [.p (qab O)]),(116,.arr 30 3 1 [.p (qad J)]),(117,.arr 92 2 1 [.p (qab O)]),(202,.arr 30 3 1 [.p (qad J)]),(203,.arr 92 2 1 [.p (qab O)]),(200008,.arr 34 1 4 (v0v AV.p (v0v (qal (v5i .i64)) s.2.1)))]⟩) (fun (o:((List (Arr3_int64×Bool))×List (List Int)) ⊕ ((List (Arr3_int64×Bool))×List (List Int)))=>match o with|.inl co=>tE ⟨prog,47,198,X,[(7,.arr 172 1 1 [.mapo 16 1]),(8,.arr 35 1 1 [.own 200008 3 0 aj.length]),(16,.map 1 (v0v AV.p (qg2 qaa ai)) (v0v AV.p (qhc PV.bool ai))),(30,.arr 30 3 1 [.p (qad J)]),(31,.arr 92 2 1 [.p (qab O)]),(116,.arr 30 3 1 [.p (qad J)]),(117,.arr 92 2 1 [.p (qab O)]),(200008,.arr 34 1 3 (v0v AV.p (v0v (qal (v5i .i64)) aj)))],ga,gc,False,gg⟩ (.exit 0) ⟨[],[(7,.arr 172 1 1 [.mapo 16 1]),(8,.arr 35 1 1 [.own 200008 4 0 co.2.length]),(16,.map 1 (v0v AV.p (qg2 qaa co.1)) (v0v AV.p (qhc PV.bool co.1))),(30,.arr 30 3 1 [.p (qad J)]),(31,.arr 92 2 1 [.p (qab O)]),(116,.arr 30 3 1 [.p (qad J)]),(117,.arr 92 2 1 [.p (qab O)]),(200008,.arr 34 1 4 (v0v AV.p (v0v (qal (v5i .i64)) co.2)))]⟩ | .inr cq=>tE ⟨prog,47,198,X,[(7,.arr 172 1 1 [.mapo 16 1]),(8,.arr 35 1 1 [.own 200008 3 0 aj.length]),(16,.map 1 (v0v AV.p (qg2 qaa ai)) (v0v AV.p (qhc PV.bool ai))),(30,.arr 30 3 1 [.p (qad J)]),(31,.arr 92 2 1 [.p (qab O)]),(116,.arr 30 3 1 [.p (qad J)]),(117,.arr 92 2 1 [.p (qab O)]),(200008,.arr 34 1 3 (v0v AV.p (v0v (qal (v5i .i64)) aj)))],ga,gc,False,gg⟩ .ret ⟨[(8,.p (.bool false))],[(7,.arr 172 1 1 [.mapo 16 1]),(8,.arr 35 1 1 [.own 200008 4 0 cq.2.length]),(16,.map 1 (v0v AV.p (qg2 qaa cq.1)) (v0v AV.p (qhc PV.bool cq.1))),(30,.arr 30 3 1 [.p (qad J)]),(31,.arr 92 2 1 [.p (qab O)]),(116,.arr 30 3 1 [.p (qad J)]),(117,.arr 92 2 1 [.p (qab O)]),(200008,.arr 34 1 4 (v0v AV.p (v0v (qal (v5i .i64)) cq.2)))]⟩) gm ?_ ?_;clear h bq ar fq ft fu dj ci aw fw fy f0 a8 dn gm;intro s x h;obtain⟨ac,ae,ji⟩:=s;simp only [qdj] at h;dsimp only;refine M9 ?_;obtain⟨br,h⟩|⟨br,h⟩:=zI h;have ax:=eq_true br;refine Mb ?_;obtain⟨bn,gn,gp,gq,h⟩:=zX h;refine Mc ?_;refine zU ?_;obtain⟨_,dp,h⟩:=zB h;refine zc (qdf au (fun (dq:Row)=>qcs dq bn) 200 [.imm [.int .i64 bn.ID,.slc (v0v qbc bn.Values)]] (fun dq r h=>qhy dq bn r h) _ dp) ?_;refine zl<|zn ?_;obtain⟨ct,h⟩|⟨ct,h⟩:=zI h;refine Td ?_;exact M0 h;have ay:=vz4.2 ct;refine zj<|zk<|zn<|zs ?_;refine zdl 8 ?_;refine yU ?_;obtain⟨gr,h⟩:=qag h;refine yK Yq.cln201 237 qao au _ rfl ⟨by unfold maxLen;omega,by omega⟩ ?_;have gu:=@qwn PV;obtain⟨gv,h⟩:=qag h;refine yU ?_;refine ydlS ?_;refine zM ⟨[(2,.p (.slc (v0v qao au))),(3,.func (.func 139) [.loc 7 1 0 0,.loc 8 1 0 0]),(4,.loc 202 1 0 0),(5,.loc 203 1 0 0),(27,.p (.slc (v0v qao J.Rows))),(28,.p (.int .i64 (J.Rows.length:Int))),(29,.p (.int .i64 ji)),(36,.p (qad J)),(37,.p (qab O)),(42,.p (.slc (v0v qao (au++[bn])))),(43,.func (.func 139) [.loc 7 1 0 0,.loc 8 1 0 0])],[(7,.arr 172 1 1 [.mapo 16 1]),(8,.arr 35 1 1 [.own 200008 4 0 ae.length]),(16,.map 1 (v0v AV.p (qg2 qaa ac)) (v0v AV.p (qhc PV.bool ac))),(30,.arr 30 3 1 [.p (qad J)]),(31,.arr 92 2 1 [.p (qab O)]),(116,.arr 30 3 1 [.p (qad J)]),(117,.arr 92 2 1 [.p (qab O)]),(202,.arr 30 3 1 [.p (qad J)]),(203,.arr 92 2 1 [.p (qab O)]),(200008,.arr 34 1 4 (v0v AV.p (v0v (qal (v5i .i64)) ae)))]⟩ ?_;refine qc7 (avs:=[.p (qad J),.p (qab O),.p (.slc (v0v qao (au++[bn]))),.func (.func 139) [.loc 7 1 0 0,.loc 8 1 0 0]]) 284 rfl (qaw rfl) rfl func138 rfl call138 ntmps138 (by simp) (by simp only [go_sem,seval,ax,ay];all_goals rfl) ?_
 intro jj jk jl;obtain⟨bb,cu,h⟩:=zB h;replace cu:=v1p cu;refine qz6 (st':=⟨[(0,.p (qad J)),(1,.p (qab O)),(2,.p (.slc (v0v qao bb))),(3,.func (.func 139) [.loc 7 1 0 0,.loc 8 1 0 0])],[(7,.arr 172 1 1 [.mapo 16 1]),(8,.arr 35 1 1 [.own 200008 4 0 ae.length]),(16,.map 1 (v0v AV.p (qg2 qaa ac)) (v0v AV.p (qhc PV.bool ac))),(30,.arr 30 3 1 [.p (qad J)]),(31,.arr 92 2 1 [.p (qab O)]),(116,.arr 30 3 1 [.p (qad J)]),(117,.arr 92 2 1 [.p (qab O)]),(202,.arr 30 3 1 [.p (qad J)]),(203,.arr 92 2 1 [.p (qab O)]),(200008,.arr 34 1 4 (v0v AV.p (v0v (qal (v5i .i64)) ae)))]⟩) (by simp only [go_sem,seval,ax,ay,←cu];all_goals ((repeat' refine v5f ?_ ?_) <;> first | rfl | (simp;done) | (simp;rfl) | (simp [*];done) | (simp [*];rfl))) ?_
 clear cu;refine Mk ?_;refine Mc ?_;refine Ma ?_;obtain⟨ba,h⟩|⟨ba,h⟩:=zI h;refine Mp ?_;refine zU ?_;obtain⟨_,gw,h⟩:=zB h;refine zc (qgg bb O.Atoms _ gw) ?_;refine zU ?_;obtain⟨bh,h⟩|⟨bh,h⟩:=zI h;refine zw 21 false ?_;refine Mj ?_;refine zM ⟨[(21,.p (.bool false)),(22,.func (.func 139) [.loc 7 1 0 0,.loc 8 1 0 0]),(23,.p (.slc (v0v qao bb)))],[(7,.arr 172 1 1 [.mapo 16 1]),(8,.arr 35 1 1 [.own 200008 4 0 ae.length]),(16,.map 1 (v0v AV.p (qg2 qaa ac)) (v0v AV.p (qhc PV.bool ac))),(30,.arr 30 3 1 [.p (qad J)]),(31,.arr 92 2 1 [.p (qab O)]),(116,.arr 30 3 1 [.p (qad J)]),(117,.arr 92 2 1 [.p (qab O)]),(202,.arr 30 3 1 [.p (qad J)]),(203,.arr 92 2 1 [.p (qab O)]),(200008,.arr 34 1 4 (v0v AV.p (v0v (qal (v5i .i64)) ae)))]⟩ ?_;refine qc7 (avs:=[.p (.slc (v0v qao bb)),.loc 7 1 0 0,.loc 8 1 0 0]) 331 rfl (qbh rfl rfl (by exact rfl) (by exact rfl)) rfl func139 rfl call139 ntmps139 (by simp) (by simp only [go_sem,seval,ax,ay,ba,bh];all_goals rfl) ?_
 intro jm jn jo;show AWp _ _ _ ⟨[(0,.p (.slc (v0v qao bb))),(1,.loc 7 1 0 0),(2,.loc 8 1 0 0)],[(7,.arr 172 1 1 [.mapo 16 1]),(8,.arr 35 1 1 [.own 200008 4 0 ae.length]),(16,.map 1 (v0v AV.p (qg2 qaa ac)) (v0v AV.p (qhc PV.bool ac))),(30,.arr 30 3 1 [.p (qad J)]),(31,.arr 92 2 1 [.p (qab O)]),(116,.arr 30 3 1 [.p (qad J)]),(117,.arr 92 2 1 [.p (qab O)]),(202,.arr 30 3 1 [.p (qad J)]),(203,.arr 92 2 1 [.p (qab O)]),(200008,.arr 34 1 4 (v0v AV.p (v0v (qal (v5i .i64)) ae)))]⟩;refine Mk ?_;refine M8 ?_;refine M7 ?_;obtain⟨du,gx,h⟩:=zB h;refine zO (fun (s:List Int×Int)=>⟨[(1,.loc 7 1 0 0),(2,.loc 8 1 0 0),(5,.own 350 1 0 s.1.length),(9,.p (.slc (v0v qao bb))),(10,.p (.int .i64 (bb.length:Int))),(11,.p (.int .i64 s.2))],[(7,.arr 172 1 1 [.mapo 16 1]),(8,.arr 35 1 1 [.own 200008 4 0 ae.length]),(16,.map 1 (v0v AV.p (qg2 qaa ac)) (v0v AV.p (qhc PV.bool ac))),(30,.arr 30 3 1 [.p (qad J)]),(31,.arr 92 2 1 [.p (qab O)]),(116,.arr 30 3 1 [.p (qad J)]),(117,.arr 92 2 1 [.p (qab O)]),(202,.arr 30 3 1 [.p (qad J)]),(203,.arr 92 2 1 [.p (qab O)]),(350,.arr 2 1 1 (v0v AV.p (v0v (v5i .i64) s.1))),(200008,.arr 34 1 4 (v0v AV.p (v0v (qal (v5i .i64)) ae)))]⟩) (fun (gy:List Int)=>tE ⟨prog,39,331,X,[(7,.arr 172 1 1 [.mapo 16 1]),(8,.arr 35 1 1 [.own 200008 4 0 ae.length]),(16,.map 1 (v0v AV.p (qg2 qaa ac)) (v0v AV.p (qhc PV.bool ac))),(30,.arr 30 3 1 [.p (qad J)]),(31,.arr 92 2 1 [.p (qab O)]),(116,.arr 30 3 1 [.p (qad J)]),(117,.arr 92 2 1 [.p (qab O)]),(202,.arr 30 3 1 [.p (qad J)]),(203,.arr 92 2 1 [.p (qab O)]),(200008,.arr 34 1 4 (v0v AV.p (v0v (qal (v5i .i64)) ae)))],jm,jn,False,jo⟩ (.exit 0) ⟨[(1,.loc 7 1 0 0),(2,.loc 8 1 0 0),(5,.own 350 1 0 gy.length)],[(7,.arr 172 1 1 [.mapo 16 1]),(8,.arr 35 1 1 [.own 200008 4 0 ae.length]),(16,.map 1 (v0v AV.p (qg2 qaa ac)) (v0v AV.p (qhc PV.bool ac))),(30,.arr 30 3 1 [.p (qad J)]),(31,.arr 92 2 1 [.p (qab O)]),(116,.arr 30 3 1 [.p (qad J)]),(117,.arr 92 2 1 [.p (qab O)]),(202,.arr 30 3 1 [.p (qad J)]),(203,.arr 92 2 1 [.p (qab O)]),(350,.arr 2 1 1 (v0v AV.p (v0v (v5i .i64) gy))),(200008,.arr 34 1 4 (v0v AV.p (v0v (qal (v5i .i64)) ae)))]⟩) gx ?_ ?_;clear h br ax gn gp gq dp ct ay gr gu gv ba gw bh gx;intro s x h;obtain⟨_,_⟩:=s;simp only [qdi] at h;dsimp only;refine M9 ?_;obtain⟨_,h⟩|⟨_,h⟩:=zI h;refine Mb ?_;obtain⟨_,_,_,_,h⟩:=zX h;refine My ?_;obtain⟨_,h⟩:=qag h;refine Ml ?_;exact M0 h;exact M3 h;try simp only at h
 refine Me ?_;refine zU ?_;refine zM ⟨[(1,.loc 7 1 0 0),(2,.loc 8 1 0 0),(5,.own 350 1 0 du.length),(21,.own 350 1 0 du.length)],[(7,.arr 172 1 1 [.mapo 16 1]),(8,.arr 35 1 1 [.own 200008 4 0 ae.length]),(16,.map 1 (v0v AV.p (qg2 qaa ac)) (v0v AV.p (qhc PV.bool ac))),(30,.arr 30 3 1 [.p (qad J)]),(31,.arr 92 2 1 [.p (qab O)]),(116,.arr 30 3 1 [.p (qad J)]),(117,.arr 92 2 1 [.p (qab O)]),(202,.arr 30 3 1 [.p (qad J)]),(203,.arr 92 2 1 [.p (qab O)]),(350,.arr 2 1 1 (v0v AV.p (v0v (v5i .i64) du))),(200008,.arr 34 1 4 (v0v AV.p (v0v (qal (v5i .i64)) ae)))]⟩ ?_;obtain⟨cv,gz,h⟩:=zB h;refine zSI Yq.srt140 gz ?_;have jp:=qqg gz;refine zM ⟨[(1,.loc 7 1 0 0),(2,.loc 8 1 0 0),(5,.own 350 1 0 cv.length),(22,.p (.tup []))],[(7,.arr 172 1 1 [.mapo 16 1]),(8,.arr 35 1 1 [.own 200008 4 0 ae.length]),(16,.map 1 (v0v AV.p (qg2 qaa ac)) (v0v AV.p (qhc PV.bool ac))),(30,.arr 30 3 1 [.p (qad J)]),(31,.arr 92 2 1 [.p (qab O)]),(116,.arr 30 3 1 [.p (qad J)]),(117,.arr 92 2 1 [.p (qab O)]),(202,.arr 30 3 1 [.p (qad J)]),(203,.arr 92 2 1 [.p (qab O)]),(350,.arr 2 1 1 (v0v AV.p (v0v (v5i .i64) cv))),(200008,.arr 34 1 4 (v0v AV.p (v0v (qal (v5i .i64)) ae)))]⟩ ?_;clear jp;refine T8 ?_;refine M8 ?_;refine zM ⟨[(1,.loc 7 1 0 0),(2,.loc 8 1 0 0),(5,.p (.slc (v0v (v5i .i64) cv))),(8,.loc 339 1 0 0)],[(7,.arr 172 1 1 [.mapo 16 1]),(8,.arr 35 1 1 [.own 200008 4 0 ae.length]),(16,.map 1 (v0v AV.p (qg2 qaa ac)) (v0v AV.p (qhc PV.bool ac))),(30,.arr 30 3 1 [.p (qad J)]),(31,.arr 92 2 1 [.p (qab O)]),(116,.arr 30 3 1 [.p (qad J)]),(117,.arr 92 2 1 [.p (qab O)]),(202,.arr 30 3 1 [.p (qad J)]),(203,.arr 92 2 1 [.p (qab O)]),(339,.arr 173 3 1 [.p (.agg [.int .i64 0,.int .i64 0,.int .i64 0])]),(200008,.arr 34 1 4 (v0v AV.p (v0v (qal (v5i .i64)) ae)))]⟩ ?_;refine vt2 339 0 0 0 cv underlying173 underlying34 ?_;refine zl<|zn<|zs<|zs<|zr ?_;refine Ma ?_;obtain⟨cw,h⟩|⟨cw,h⟩:=zI h;refine Mi ?_;refine Ms ?_;refine qay (by simp only [results139];simp only [go_sem,seval,ax,ay,ba,bh,cw];exact rfl) ?_;refine Mn ?_;refine qay (by simp only [results138];simp only [go_sem,seval,ax,ay,ba,bh,cw];exact rfl) ?_;refine Ma ?_;obtain⟨_,h⟩|⟨_,h⟩:=zI h;refine Md ?_;exact M0 h;refine M4 ?_;exact Mr h;have g9:=vz4.2 cw;refine Mp ?_;refine My ?_;obtain⟨_,h⟩:=qag h;refine M8 ?_;refine Ms ?_;refine qay (by simp only [results139];simp only [go_sem,seval,ax,ay,ba,bh,g9];exact rfl) ?_;refine Mn ?_;refine qay (by simp only [results138];simp only [go_sem,seval,ax,ay,ba,bh,g9];exact rfl) ?_;refine Ma ?_;obtain⟨_,h⟩|⟨_,h⟩:=zI h;refine Md ?_;exact M0 h;refine M4 ?_;exact Mr h;have jq:=vz4.2 bh;refine zw 21 true ?_;refine zh ?_;refine Mn ?_;refine qay (by simp only [results138];simp only [go_sem,seval,ax,ay,ba,jq];exact rfl) ?_;refine Ma ?_;refine Md ?_;exact M0 h;have ia:=vz4.2 ba;refine Mh ?_;obtain⟨jr,ib,h⟩:=zB h;refine zO (fun (s:Int)=>⟨[(2,.p (.slc (v0v qao bb))),(3,.func (.func 139) [.loc 7 1 0 0,.loc 8 1 0 0]),(4,.loc 288 1 0 0),(5,.loc 289 1 0 0),(27,.p (.slc (v0v qao J.Rows))),(28,.p (.int .i64 (J.Rows.length:Int))),(29,.p (.int .i64 s))],[(7,.arr 172 1 1 [.mapo 16 1]),(8,.arr 35 1 1 [.own 200008 4 0 ae.length]),(16,.map 1 (v0v AV.p (qg2 qaa ac)) (v0v AV.p (qhc PV.bool ac))),(30,.arr 30 3 1 [.p (qad J)]),(31,.arr 92 2 1 [.p (qab O)]),(116,.arr 30 3 1 [.p (qad J)]),(117,.arr 92 2 1 [.p (qab O)]),(202,.arr 30 3 1 [.p (qad J)]),(203,.arr 92 2 1 [.p (qab O)]),(288,.arr 30 3 1 [.p (qad J)]),(289,.arr 92 2 1 [.p (qab O)]),(200008,.arr 34 1 4 (v0v AV.p (v0v (qal (v5i .i64)) ae)))]⟩) (fun (jv:Unit)=>tE ⟨prog,47,284,X,[(7,.arr 172 1 1 [.mapo 16 1]),(8,.arr 35 1 1 [.own 200008 4 0 ae.length]),(16,.map 1 (v0v AV.p (qg2 qaa ac)) (v0v AV.p (qhc PV.bool ac))),(30,.arr 30 3 1 [.p (qad J)]),(31,.arr 92 2 1 [.p (qab O)]),(116,.arr 30 3 1 [.p (qad J)]),(117,.arr 92 2 1 [.p (qab O)]),(202,.arr 30 3 1 [.p (qad J)]),(203,.arr 92 2 1 [.p (qab O)]),(200008,.arr 34 1 4 (v0v AV.p (v0v (qal (v5i .i64)) ae)))],jj,jk,False,jl⟩ (.exit 0) ⟨[],[(7,.arr 172 1 1 [.mapo 16 1]),(8,.arr 35 1 1 [.own 200008 4 0 ae.length]),(16,.map 1 (v0v AV.p (qg2 qaa ac)) (v0v AV.p (qhc PV.bool ac))),(30,.arr 30 3 1 [.p (qad J)]),(31,.arr 92 2 1 [.p (qab O)]),(116,.arr 30 3 1 [.p (qad J)]),(117,.arr 92 2 1 [.p (qab O)]),(202,.arr 30 3 1 [.p (qad J)]),(203,.arr 92 2 1 [.p (qab O)]),(200008,.arr 34 1 4 (v0v AV.p (v0v (qal (v5i .i64)) ae)))]⟩) ib ?_ ?_;clear h br ax gn gp gq dp ct ay gr gu gv ba ia ib;intro _ x h;simp only [qlh] at h;refine M9 ?_;obtain⟨_,h⟩|⟨_,h⟩:=zI h;refine Mb ?_;obtain⟨cx,_,_,_,h⟩:=zX h;refine Mc ?_;refine zU ?_;obtain⟨_,js,h⟩:=zB h;refine zc (qdf bb (fun (dv:Row)=>qcs dv cx) 200 [.imm [.int .i64 cx.ID,.slc (v0v qbc cx.Values)]] (fun dv r h=>qhy dv cx r h) _ js) ?_;refine zl<|zn ?_;obtain⟨_,h⟩|⟨_,h⟩:=zI h;refine Td ?_;exact M0 h;cases h;exact M3 h;cases jr;try simp only at h
 refine Me ?_;refine Ms ?_;refine qay (by simp only [results138];simp only [go_sem,seval,ax,ay,ia];exact rfl) ?_;refine Ma ?_;refine Md ?_;exact M0 h;have ax:=eq_false br;exact M3 h;rcases jh with⟨_,_⟩|⟨_,_⟩;try simp only at h
 refine Me ?_;refine Ms ?_;refine qay (by simp only [results138];simp only [go_sem,seval,ar,aw,dn];exact rfl) ?_;refine Ma ?_;refine Md ?_;exact M0 h;try simp only at h
 refine zA<|yr<|zt ?_;refine qay (by simp only [results138];simp only [go_sem,seval,ar,aw,dn];exact rfl) ?_;refine Ma ?_;refine M4 ?_;exact Mr h;have ar:=eq_false bq;exact M3 h;rcases ja with⟨_,_⟩|⟨_,_⟩;try simp only at h
 refine Me ?_;refine Ms ?_;refine qay (by simp only [results138];simp only [go_sem,seval,ap,av,di];exact rfl) ?_;refine Ma ?_;refine Md ?_;exact M0 h;try simp only at h
 refine zA<|yr<|zt ?_;refine qay (by simp only [results138];simp only [go_sem,seval,ap,av,di];exact rfl) ?_;refine Ma ?_;refine M4 ?_;exact Mr h;have ap:=eq_false bp;exact M3 h;rcases ip with⟨_,_⟩|⟨_,_⟩;try simp only at h
 refine Me ?_;refine Ms ?_;refine qay (by simp only [results138];simp only [go_sem,seval,ak,de];exact rfl) ?_;exact M0 h;try simp only at h
 refine zA<|yr<|zt ?_;refine qay (by simp only [results138];simp only [go_sem,seval,ak,de];exact rfl) ?_;exact M0 h;obtain⟨dw,_⟩:=o7;try simp only at h
 refine zA<|zn<|zs<|zs<|zr ?_;refine Ma ?_;obtain⟨_,h⟩|⟨_,h⟩:=zI h;refine Mi ?_;refine zU ?_;refine zM ⟨[(8,.loc 8 1 0 0),(23,.own 200008 1 0 dw.length)],[(8,.arr 35 1 1 [.own 200008 1 0 dw.length]),(200008,.arr 34 1 1 (v0v AV.p (v0v (qal (v5i .i64)) dw)))]⟩ ?_;obtain⟨ic,ig,h⟩:=zB h;refine zSF Yq.srt71 (qal (v5i .i64)) (fun (dx:List Int) (dy:List Int)=>qae dx dy) ig (fun dx dy r h=>qg0 dx dy r h) ?_;have jt:=qwl ig;refine zM ⟨[(8,.loc 8 1 0 0),(24,.p (.tup []))],[(8,.arr 35 1 1 [.own 200008 1 0 ic.length]),(200008,.arr 34 1 1 (v0v AV.p (v0v (qal (v5i .i64)) ic)))]⟩ ?_;clear jt;refine T8 ?_;exact M1 h results66;exact M2 h results66
theorem qpk (J:Table) (O:Constraint) (U:List (List Int)×Int) (h:qe5 J O=some U):Con False prog 25 [(qad J),(qbx O)] (.tup [(.slc (v0v (qal (v5i .i64)) U.1)),(.int .i64 U.2)]):=by
 refine zP call25 func25 rfl ntmps25 fun X w hT=>?_;simp only [qe5] at h;refine Mk ?_;refine M8 ?_;refine zU ?_;obtain⟨r4,h5,h⟩:=zB h;refine zc (qkc J O _ h5) ?_;refine zU<|zl<|zn<|zs<|zb<|zs<|zr ?_;refine Ma ?_;obtain⟨h6,h⟩|⟨h6,h⟩:=zI h;refine M4 ?_;exact T3 h results25;refine Mz ?_;refine Ma ?_;obtain⟨h7,h⟩|⟨h7,h⟩:=zI h;refine Mp ?_;refine zU ?_;obtain⟨_,h9,h⟩:=zB h;refine zc (qm7 J O.CFD _ h9) ?_;exact Mq h results25;refine Mz ?_;refine Ma ?_;obtain⟨ai,h⟩|⟨ai,h⟩:=zI h;refine Mp ?_;refine zU ?_;obtain⟨_,aq,h⟩:=zB h;refine zc (qpj J O.OD _ aq) ?_;exact Mq h results25;refine T2 ?_;refine M7 ?_;obtain⟨ar,aj,h⟩:=zB h;refine zO (fun (s:List (List Int)×Int)=>⟨[(2,.loc 2 1 0 0),(8,.own 60 1 0 s.1.length),(43,.p (.slc (v0v qab r4.1))),(44,.p (.int .i64 (r4.1.length:Int))),(45,.p (.int .i64 s.2))],[(2,.arr 30 3 1 [.p (qad J)]),(60,.arr 34 1 1 (v0v AV.p (v0v (qal (v5i .i64)) s.1)))]⟩) (fun (o:(List (List Int)) ⊕ (List (List Int)×Int))=>match o with|.inl ak=>tE (cX Tryz.f25 X w False hT) (.exit 1) ⟨[(8,.own 60 1 0 ak.length)],[(60,.arr 34 1 1 (v0v AV.p (v0v (qal (v5i .i64)) ak)))]⟩ | .inr am=>tR prog Tryz.f25 (.tup [(.slc (v0v (qal (v5i .i64)) am.1)),(.int .i64 am.2)])) aj ?_ ?_;clear h h5 h6 h7 ai aj;intro s x h;obtain⟨_,_⟩:=s;simp only [qco] at h;dsimp only;refine M9 ?_;obtain⟨_,h⟩|⟨_,h⟩:=zI h;refine Mb ?_;obtain⟨au,_,_,_,h⟩:=zX h;refine M8 ?_;refine zU ?_;obtain⟨_,av,h⟩:=zB h;refine zc (qq2 J au _ av) ?_;refine Mc ?_;refine Ma ?_;obtain⟨_,h⟩|⟨_,h⟩:=zI h;refine Mm ?_;cases h;exact⟨rfl,zT results25⟩;refine zj<|zk<|zn<|zr ?_;obtain⟨_,h⟩:=qag h;refine Ml ?_;exact M0 h;exact M3 h;rcases ar with _ | _;try simp only at h
 refine Me ?_;exact M1 h results25;exact M5 h
theorem qg1 (J:List Int) (O:Arr3_int64) (h:qeq J=some O):Con D prog 67 [(.slc (v0v (v5i .i64) J))] (qaa O):=by
 refine zP call67 func67 rfl ntmps67 fun X w hT=>?_;simp only [qeq] at h;refine Mk ?_;refine M8 ?_;refine M8 ?_;refine vt2 3 0 0 0 J underlying173 underlying34 ?_;refine T8 ?_;exact M1 h results67
end Go.Proofs.YtpealiejioeonaaGreatDoor
namespace Go.Proofs
open Go Go.Ab Go.Shelf Tryz Go.Proofs.YtpealiejioeonaaGreatDoor
variable {D:Prop}
def Yq.grow141_ren:Go.Shelf.Ren:=⟨fun | 4=>141 | n=>n,fun | 22=>34 | 25=>2 | 3=>3 | 4=>4 | 9=>9 | 20=>20 | 0=>0 | n=>n,fun | n=>n⟩
theorem Yq.grow141:Go.Proofs.Lays8.n4 prog Yq.grow141_ren:={
  mixed:=by kernel_rfl
  f4:=⟨f141.name,by decide,TK func141⟩
  t0:=underlying0
  a0:=isAgg0
  z0:=sizeOf0
  v0:=zeroValue0
  t3:=underlying3
  a3:=isAgg3
  z3:=sizeOf3
  v3:=zeroValue3
  t4:=underlying4
  a4:=isAgg4
  z4:=sizeOf4
  v4:=zeroValue4
  t9:=underlying9
  a9:=isAgg9
  z9:=sizeOf9
  v9:=zeroValue9
  t20:=underlying20
  a20:=isAgg20
  z20:=sizeOf20
  v20:=zeroValue20
  t22:=underlying34
  a22:=isAgg34
  z22:=sizeOf34
  v22:=zeroValue34 }
theorem Yq.grw141:Grw prog 141 2 1:=⟨call141,fun n w J hn=>by
  obtain⟨m,rfl⟩:=v1v J;have hi:prog.info? 2=some Tryz.t2:=by kernel_rfl
  obtain⟨z,hz,hzs⟩:∃z,Tryz.t2.zero=some z∧z.cells.size=1:=⟨_,rfl,rfl⟩;cases m with
  | zero =>
    refine (Any8.slices_Grow_room Yq.grow141 none 0 0 0 w (vza _) (by omega) (by omega) (vza _)).mono fun e' w' h=>?_
    obtain⟨rfl,rfl⟩:=h;exact⟨_,rfl,World.ownsRow_nil _ _ _ _,RowKit.Below.refl _ _,vza _⟩
  | succ m =>
    have hby:Tryz.t2.bytes=8:=rfl;refine (Any8.slices_Grow_grow Yq.grow141 Tryz.t2 z hi hz (by decide) none 0 0 (m+1) [] w (vza _) (by omega) (by rw [hby];omega) (by omega) (by simp) (fun _=>rfl) (fun a h=>by cases h)).mono fun e' w' h=>?_
    obtain⟨rfl,rfl⟩:=h;have hge:=grownCap_ge w (0+(m+1)) 0 2;refine⟨_,rfl,World.ownsRow_made w.drew _ _ (vza _) (grownCap_le_maxLen w (0+(m+1)) 0 2 (by unfold maxLen;omega)) ?_,(RowKit.Below.refl _ w).drew.alloc (vza _) _,Nat.le_succ _⟩;simp only [Array.size_append,size_zeroCells,hzs,List.size_toArray,List.length_nil];generalize hG:grownCap w (0+(m+1)) 0 2=G at hge;show 0+(0+(m+1) - 0) * 1+(grownCap w (0+(m+1)) 0 2 - (0+(m+1))) * 1=grownCap w (0+(m+1)) 0 2 * 1;rw [hG];omega⟩
end Go.Proofs
namespace Go.Proofs.YtpealiejioeonaaGreatDoor
open Go Go.Ab Tryz
variable {D:Prop}
theorem qkd (J:List (List Int)) (U:List Int) (h:qa5 J=some U):Con D prog 69 [(.slc (v0v (qal (v5i .i64)) J))] (.slc (v0v (v5i .i64) U)):=by
 refine zP call69 func69 rfl ntmps69 fun X w hT=>?_;simp only [qa5] at h;refine Mk ?_;refine M8 ?_;refine M7 ?_;obtain⟨_,O,h⟩:=zB h;refine zO (fun (s:Int×Int)=>⟨[(0,.p (.slc (v0v (qal (v5i .i64)) J))),(3,.p (.int .i64 s.1)),(9,.p (.slc (v0v (qal (v5i .i64)) J))),(10,.p (.int .i64 (J.length:Int))),(11,.p (.int .i64 s.2))],[]⟩) (fun (o5:Int)=>tE (cX Tryz.f69 X w D hT) (.exit 0) ⟨[(0,.p (.slc (v0v (qal (v5i .i64)) J))),(3,.p (.int .i64 o5))],[]⟩) O ?_ ?_;clear h O;intro s x h;obtain⟨_,_⟩:=s;simp only [qbt] at h;dsimp only;refine M9 ?_;obtain⟨_,h⟩|⟨_,h⟩:=zI h;refine Mb ?_;obtain⟨_,_,_,_,h⟩:=zX h;refine M8 ?_;refine M8 ?_;refine Ma ?_;obtain⟨_,h⟩|⟨_,h⟩:=zI h;cases h;refine Md ?_;exact M0 h;exact M3 h;try simp only at h
 refine Me ?_;refine zU ?_;obtain⟨ac,h⟩:=qag h;obtain⟨ae,h⟩:=qag h;refine zN Yq.grw141 24 ac ae ?_;refine M7 ?_;obtain⟨_,ag,h⟩:=zB h;refine zO (fun (s:List Int×Int)=>⟨[(6,.own 24 1 0 s.1.length),(25,.p (.slc (v0v (qal (v5i .i64)) J))),(26,.p (.int .i64 (J.length:Int))),(27,.p (.int .i64 s.2))],[(24,.arr 2 1 1 (v0v AV.p (v0v (v5i .i64) s.1)))]⟩) (fun (ah:List Int)=>tE (cX Tryz.f69 X w D hT) (.exit 2) ⟨[(6,.own 24 1 0 ah.length)],[(24,.arr 2 1 1 (v0v AV.p (v0v (v5i .i64) ah)))]⟩) ag ?_ ?_;clear h O ac ae ag;intro s x h;obtain⟨_,_⟩:=s;simp only [qbu] at h;dsimp only;refine M9 ?_;obtain⟨_,h⟩|⟨_,h⟩:=zI h;refine Mb ?_;obtain⟨_,_,_,_,h⟩:=zX h;refine My ?_;obtain⟨_,h⟩:=qag h;refine Ml ?_;exact M0 h;exact M3 h;try simp only at h
 refine Me ?_;exact M1 h results69
section
attribute [-go_sem] qwh
theorem qpx (J:List Int) (U:List (Arr3_int64×Bool)) (r3:Bool) (h:qbz J U=some r3):Con D prog 68 [(.slc (v0v (v5i .i64) J)),.imm [.mapv (qg2 qaa U) (qhc PV.bool U)]] (.bool r3):=by
 refine zP call68 func68 rfl ntmps68 fun X w hT=>?_;simp only [qbz] at h;refine Mk ?_;refine M7 ?_;obtain⟨o4,h5,h⟩:=zB h;refine zO (fun (s:Int)=>⟨[(0,.p (.slc (v0v (v5i .i64) J))),(1,.p (.imm [.mapv (qg2 qaa U) (qhc PV.bool U)])),(6,.p (.int .i64 (J.length:Int))),(7,.p (.int .i64 s))],[]⟩) (fun (o:Unit⊕(Bool))=>match o with|.inl o6=>tE (cX Tryz.f68 X w D hT) (.exit 0) ⟨[],[]⟩|.inr o7=>tR prog Tryz.f68 (.bool o7)) h5 ?_ ?_;clear h h5;intro O x h;simp only [qaq] at h;refine M9 ?_;obtain⟨_,h⟩|⟨_,h⟩:=zI h;refine Mb ?_;refine zU<|zl<|zn<|zs<|zs<|zd ?_;refine yU ?_;obtain⟨_,h⟩|⟨_,h⟩:=zI h;refine yw 13 true ?_;refine Mf ?_;refine yg ?_;refine yg ?_;obtain⟨_,h⟩:=qag h;obtain⟨_,h⟩:=qag h;obtain⟨_,h⟩:=qag h;refine yg ?_;obtain⟨_,ai,h⟩:=zB h;refine yc (qg1 ((J.drop O.toNat).take ((vz8.wrap (O+1)).toNat - O.toNat)) _ ai) ?_;refine yg ?_;refine Mo ?_;obtain⟨_,h⟩|⟨_,h⟩:=zI h;refine Mm ?_;cases h;exact⟨rfl,zT results68⟩;refine Tb ?_;refine yU ?_;obtain⟨_,h⟩|⟨_,h⟩:=zI h;refine yw 26 true ?_;refine Mf ?_;obtain⟨_,h⟩:=qag h;obtain⟨_,h⟩:=qag h;refine Mf ?_;refine yg ?_;obtain⟨_,h⟩:=qag h;refine yg ?_;refine yS 35 ?_;obtain⟨aj,ak,h⟩:=zB h;refine yc (qkd [(J.take (O.toNat)),((J.drop (vz8.wrap (O+1)).toNat).take (J.length - (vz8.wrap (O+1)).toNat))] _ ak) ?_;obtain⟨_,am,h⟩:=zB h;refine yc (qg1 aj _ am) ?_;refine yg ?_;refine Mo ?_;obtain⟨_,h⟩|⟨_,h⟩:=zI h;refine M4 ?_;cases h;exact⟨rfl,zT results68⟩;refine Md ?_;exact M0 h;refine yw 26 false ?_;refine yk ?_;refine Mo ?_;refine Md ?_;exact M0 h;refine yw 13 false ?_;refine yk ?_;refine Mo ?_;refine Tb ?_;refine yU ?_;obtain⟨_,h⟩|⟨_,h⟩:=zI h;refine yw 26 true ?_;refine Mf ?_;obtain⟨_,h⟩:=qag h;obtain⟨_,h⟩:=qag h;refine Mf ?_;refine yg ?_;obtain⟨_,h⟩:=qag h;obtain⟨_,h⟩:=qag h;refine yg ?_;refine yS 35 ?_;obtain⟨ap,aq,h⟩:=zB h;refine yc (qkd [(J.take (O.toNat)),((J.drop (vz8.wrap (O+1)).toNat).take (J.length - (vz8.wrap (O+1)).toNat))] _ aq) ?_;obtain⟨_,ar,h⟩:=zB h;refine yc (qg1 ap _ ar) ?_;refine yg ?_;refine Mo ?_;obtain⟨_,h⟩|⟨_,h⟩:=zI h;refine M4 ?_;cases h;exact⟨rfl,zT results68⟩;refine Md ?_;exact M0 h;refine yw 26 false ?_;refine yk ?_;refine Mo ?_;refine Md ?_;exact M0 h;exact M3 h;rcases o4 with⟨⟩ | _;try simp only at h
 refine Me ?_;exact M1 h results68;exact M5 h
end
end Go.Proofs.YtpealiejioeonaaGreatDoor
namespace Go.Proofs.YtpealiejioeonaaGreatDoor
open Go Go.Ab Tryz
variable {D:Prop}
theorem qpy (l:List Int) (r:List Int) (h:qhw l=some r):Con D prog 70 [(.slc (v0v (v5i .i64) l))] (.slc (v0v (v5i .i64) r)):=by
  obtain⟨hc,h⟩:=qag h
  cases h
  refine⟨call70,?_⟩
  refine qsn func70 rfl ntmps70 (by simp) fun X w hT=>?_
  show AWp _ _ _ ⟨[(0,.p (.slc (v0v (v5i .i64) l)))],[]⟩
  refine qh1 ?_
  refine qgj ?_
  refine qo4 (by exact rfl) (by simp only [go_sem,seval];exact rfl) ?_
  refine qp9 ?_
  refine qko ?_
  refine qh1 ?_
  refine qh1 ?_
  refine qgj ?_
  refine vd5 1 (by simp only [go_sem,seval];exact rfl) ?_
  refine vh9 (by simp only [go_sem,seval];exact rfl) (by simp only [go_sem,seval]) underlying34 rfl ?_
  intro b hb
  refine qp9 ?_
  refine qko ?_
  cases b
  · refine q3j (by simp only [go_sem,seval]) ?_
    refine qrd ?_
    refine qko ?_
    refine qh1 ?_
    refine qgj ?_
    refine qo4 (by exact rfl) (by simp only [go_sem,seval,hc];exact rfl) ?_
    refine qp9 ?_
    refine qko ?_
    refine qxc ?_
    refine qwj (by simp only [results70];simp only [go_sem,seval];exact rfl) ?_
    simp only [go_sem,seval]
    all_goals ((repeat' refine v5f ?_ ?_) <;> first | rfl | (simp;done) | (simp;rfl) | (simp [*];done) | (simp [*];rfl))
  · refine vlm (by simp only [go_sem,seval]) ?_
    have hl:l=[]:=by
      cases l with
      | nil=>rfl
      | cons x l=>exact absurd (hb (by simp)) (by simp)
    subst hl
    refine qh1 ?_
    refine qgj ?_
    refine qo4 (by exact rfl) (by simp only [go_sem,seval];exact rfl) ?_
    refine qp9 ?_
    refine qko ?_
    refine qxc ?_
    refine vdg ?_
    refine qwj (by simp only [results70];simp only [go_sem,seval];exact rfl) ?_
    simp only [go_sem,seval]
    all_goals ((repeat' refine v5f ?_ ?_) <;> first | rfl | (simp;done) | (simp;rfl) | (simp [*];done) | (simp [*];rfl))
theorem qkj (J:List Int) (O:List Int) (U:Bool) (h:qd9 J O=some U):Con D prog 74 [(.slc (v0v (v5i .i64) J)),(.slc (v0v (v5i .i64) O))] (.bool U):=by
 refine zP call74 func74 rfl ntmps74 fun X w hT=>?_;simp only [qd9] at h;refine Mk ?_;refine Mc ?_;refine Ma ?_;obtain⟨h4,h⟩|⟨h4,h⟩:=zI h;exact M2 h results74;refine Mh ?_;obtain⟨o5,h6,h⟩:=zB h;refine zO (fun (s:Int)=>⟨[(0,.p (.slc (v0v (v5i .i64) J))),(1,.p (.slc (v0v (v5i .i64) O))),(12,.p (.int .i64 (J.length:Int))),(13,.p (.int .i64 s))],[]⟩) (fun (o:Unit⊕(Bool))=>match o with|.inl o7=>tE (cX Tryz.f74 X w D hT) (.exit 0) ⟨[],[]⟩|.inr o8=>tR prog Tryz.f74 (.bool o8)) h6 ?_ ?_;clear h h4 h6;intro _ x h;simp only [qf4] at h;refine M9 ?_;obtain⟨_,h⟩|⟨_,h⟩:=zI h;refine Mb ?_;refine Mw ?_;obtain⟨_,_,_,_,h⟩:=zX h;obtain⟨_,_,_,_,h⟩:=zX h;refine Mo ?_;obtain⟨_,h⟩|⟨_,h⟩:=zI h;refine M4 ?_;cases h;exact⟨rfl,zT results74⟩;refine Md ?_;exact M0 h;exact M3 h;rcases o5 with⟨⟩ | _;try simp only at h
 refine Me ?_;exact M1 h results74;exact M5 h
section
attribute [-go_sem] qwh
theorem qry (a1:List (List Int)) (r2:List (List Int)) (h:qfq a1=some r2):Con D prog 26 [(.slc (v0v (qal (v5i .i64)) a1))] (.slc (v0v (qal (v5i .i64)) r2)):=by
 refine zP call26 func26 rfl ntmps26 fun X w hT=>?_;simp only [qfq] at h;refine Mk ?_;refine M8 ?_;refine M7 ?_;obtain⟨s3,h4,h⟩:=zB h;refine zO (fun (s:(List (Arr3_int64×Bool))×Int)=>⟨[(0,.p (.slc (v0v (qal (v5i .i64)) a1))),(3,.loc 3 1 0 0),(12,.p (.slc (v0v (qal (v5i .i64)) a1))),(13,.p (.int .i64 (a1.length:Int))),(14,.p (.int .i64 s.2))],[(3,.arr 172 1 1 [.mapo 11 1]),(11,.map 1 (v0v AV.p (qg2 qaa s.1)) (v0v AV.p (qhc PV.bool s.1)))]⟩) (fun (o5:(List (Arr3_int64×Bool)))=>tE (cX Tryz.f26 X w D hT) (.exit 0) ⟨[(0,.p (.slc (v0v (qal (v5i .i64)) a1))),(3,.loc 3 1 0 0)],[(3,.arr 172 1 1 [.mapo 11 1]),(11,.map 1 (v0v AV.p (qg2 qaa o5)) (v0v AV.p (qhc PV.bool o5)))]⟩) h4 ?_ ?_;clear h h4;intro s x h;obtain⟨_,_⟩:=s;simp only [qdw] at h;dsimp only;refine M9 ?_;obtain⟨_,h⟩|⟨_,h⟩:=zI h;refine Mb ?_;obtain⟨x9,_,_,_,h⟩:=zX h;refine zU<|zl<|zn<|zd ?_;refine yU ?_;obtain⟨_,bw,h⟩:=zB h;refine yc (qg1 x9 _ bw) ?_;refine Mx ?_;exact M0 h;exact M3 h;try simp only at h
 refine Me ?_;refine M8 ?_;refine M7 ?_;obtain⟨ap,aq,h⟩:=zB h;refine zO (fun (s:List (List Int)×Int)=>⟨[(3,.loc 3 1 0 0),(6,.func (.func 68) [.loc 3 1 0 0]),(7,.own 44 1 0 s.1.length),(23,.p (.slc (v0v (qal (v5i .i64)) a1))),(24,.p (.int .i64 (a1.length:Int))),(25,.p (.int .i64 s.2))],[(3,.arr 172 1 1 [.mapo 11 1]),(11,.map 1 (v0v AV.p (qg2 qaa s3)) (v0v AV.p (qhc PV.bool s3))),(44,.arr 34 1 1 (v0v AV.p (v0v (qal (v5i .i64)) s.1)))]⟩) (fun (bb:List (List Int))=>tE (cX Tryz.f26 X w D hT) (.exit 2) ⟨[(7,.own 44 1 0 bb.length)],[(44,.arr 34 1 1 (v0v AV.p (v0v (qal (v5i .i64)) bb)))]⟩) aq ?_ ?_;clear h h4 aq;intro s x h;obtain⟨bd,bx⟩:=s;simp only [qe6] at h;dsimp only;refine M9 ?_;obtain⟨_,h⟩|⟨_,h⟩:=zI h;refine Mb ?_;obtain⟨ai,_,_,_,h⟩:=zX h;refine M8 ?_;refine zU ?_;obtain⟨_,bz,h⟩:=zB h;refine zc (qg1 ai _ bz) ?_;refine Ma ?_;obtain⟨b6,bf,h⟩:=zB h;refine zJ (fun (b9:Bool)=>tE (cX Tryz.f26 X w D hT) .normal ⟨[(3,.loc 3 1 0 0),(6,.func (.func 68) [.loc 3 1 0 0]),(7,.own 44 1 0 bd.length),(9,.p (.slc (v0v (v5i .i64) ai))),(23,.p (.slc (v0v (qal (v5i .i64)) a1))),(24,.p (.int .i64 (a1.length:Int))),(25,.p (.int .i64 bx)),(39,.p (.bool b9))],[(3,.arr 172 1 1 [.mapo 11 1]),(11,.map 1 (v0v AV.p (qg2 qaa s3)) (v0v AV.p (qhc PV.bool s3))),(44,.arr 34 1 1 (v0v AV.p (v0v (qal (v5i .i64)) bd)))]⟩) b6 ?_ ?_;replace h:=bf;clear bf;refine zr ?_;refine zU ?_;obtain⟨_,h⟩|⟨_,h⟩:=zI h;refine zw 34 true ?_;refine Mj ?_;obtain⟨_,ca,h⟩:=zB h;replace h:=h.symm;refine zc (qpx ai s3 _ ca) ?_;refine zg ?_;exact M0 h;refine zw 34 false ?_;refine zh ?_;exact M0 h;try simp only at h
 refine zA<|zn ?_;obtain⟨_,h⟩|⟨_,h⟩:=zI h;refine zi<|zr ?_;refine zU ?_;obtain⟨_,cc,h⟩:=zB h;refine zc (qpy ai _ cc) ?_;obtain⟨_,h⟩:=qag h;refine Ml ?_;exact M0 h;refine Md ?_;exact M0 h;exact M3 h;try simp only at h
 refine Me ?_;refine zU ?_;refine zM ⟨[(7,.own 44 1 0 ap.length),(46,.own 44 1 0 ap.length)],[(44,.arr 34 1 1 (v0v AV.p (v0v (qal (v5i .i64)) ap)))]⟩ ?_;obtain⟨O,ar,h⟩:=zB h;refine zSF Yq.srt71 (qal (v5i .i64)) (fun (au:List Int) (av:List Int)=>qae au av) ar (fun au av r h=>qg0 au av r h) ?_;have cd:=qwl ar;refine zM ⟨[(7,.own 44 1 0 O.length),(47,.p (.tup []))],[(44,.arr 34 1 1 (v0v AV.p (v0v (qal (v5i .i64)) O)))]⟩ ?_;clear cd;refine T8 ?_;refine zU ?_;refine zM ⟨[(48,.own 44 1 0 O.length)],[(44,.arr 34 1 1 (v0v AV.p (v0v (qal (v5i .i64)) O)))]⟩ ?_;refine qc7 (avs:=[.own 44 1 0 O.length,.p (.func (.func 74) [])]) 50 rfl (qaw rfl) rfl func73 rfl call73 ntmps73 (by simp) (by simp only [go_sem,seval];all_goals rfl) ?_
 intro aw ax ay;show AWp _ _ _ ⟨[(0,.own 44 1 0 O.length),(1,.p (.func (.func 74) []))],[(44,.arr 34 1 1 (v0v AV.p (v0v (qal (v5i .i64)) O)))]⟩;refine Mk ?_;refine Mc ?_;refine Ma ?_;obtain⟨aj,h⟩|⟨aj,h⟩:=zI h;have ag:=eq_true aj;refine Mp ?_;refine Mn ?_;refine qay (by simp only [results73];simp only [go_sem,seval,ag];exact rfl) ?_;exact M1 h results26;have ag:=eq_false aj;refine Mh ?_;obtain⟨ce,bg,h⟩:=zB h;refine zO (fun (s:Int)=>⟨[(0,.own 44 1 0 O.length),(1,.p (.func (.func 74) [])),(5,.p (.int .i64 s))],[(44,.arr 34 1 1 (v0v AV.p (v0v (qal (v5i .i64)) O)))]⟩) (fun (o:Unit⊕(List (List Int)))=>match o with|.inl di=>tE ⟨prog,66,50,X,[(44,.arr 34 1 1 (v0v AV.p (v0v (qal (v5i .i64)) O)))],aw,ax,D,ay⟩ (.exit 0) ⟨[(0,.own 44 1 0 O.length)],[(44,.arr 34 1 1 (v0v AV.p (v0v (qal (v5i .i64)) O)))]⟩ | .inr bh=>tE ⟨prog,66,50,X,[(44,.arr 34 1 1 (v0v AV.p (v0v (qal (v5i .i64)) O)))],aw,ax,D,ay⟩ .ret ⟨[(4,.own 44 2 0 bh.length)],[(44,.arr 34 1 2 (v0v AV.p (v0v (qal (v5i .i64)) bh)))]⟩) bg ?_ ?_;clear h h4 aq ar aj ag bg;intro bj x h;simp only [qdx] at h;refine T7 ?_;refine Ma ?_;obtain⟨bm,h⟩|⟨bm,h⟩:=zI h;refine T1 ?_;obtain⟨cg,ci,cj,cl,h⟩:=zX h;obtain⟨cn,co,cq,ct,h⟩:=zX h;refine yU ?_;obtain⟨_,bn,h⟩:=zB h;refine yc (qkj cg cn _ bn) ?_;refine yd<|zn ?_;obtain⟨bp,h⟩|⟨bp,h⟩:=zI h;refine Mp ?_;obtain⟨cu,h⟩:=qag h;obtain⟨cv,h⟩:=qag h;refine M7 ?_;obtain⟨cw,bq,h⟩:=zB h;refine zO (fun (s:List (List Int)×Int×Int)=>⟨[(0,.own 44 1 0 s.1.length),(1,.p (.func (.func 74) [])),(5,.p (.int .i64 s.2.1)),(6,.own 44 1 bj.toNat (O.length - bj.toNat)),(7,.p (.int .i64 s.2.2))],[(44,.arr 34 1 1 (v0v AV.p (v0v (qal (v5i .i64)) s.1)))]⟩) (fun (az:List (List Int)×Int)=>tE ⟨prog,66,50,X,[(44,.arr 34 1 1 (v0v AV.p (v0v (qal (v5i .i64)) O)))],aw,ax,D,ay⟩ (.exit 2) ⟨[(0,.own 44 1 0 az.1.length),(5,.p (.int .i64 az.2))],[(44,.arr 34 1 1 (v0v AV.p (v0v (qal (v5i .i64)) az.1)))]⟩) bq ?_ ?_;clear h bm ci cj cl co cq ct bn bp cu cv bq;intro s x h;obtain⟨_,_,_⟩:=s;simp only [qcy] at h;refine Mv ?_;refine Ma ?_;obtain⟨_,h⟩|⟨_,h⟩:=zI h;refine T1 ?_;obtain⟨cx,br,bt,_,h⟩:=zX h;obtain⟨_,cy⟩:=qng br;have dj:=eq_true (qqf cy bt);obtain⟨cz,da,db,_,h⟩:=zX h;obtain⟨_,de⟩:=qng da;have dl:=eq_true (qqf de db);refine yU ?_;obtain⟨_,df,h⟩:=zB h;refine yc (qkj cx cz _ df) ?_;refine Mo ?_;obtain⟨_,h⟩|⟨_,h⟩:=zI h;refine Md ?_;exact M0 h;refine Mp ?_;obtain⟨_,dg⟩:=qng br;have dm:=eq_true (qqf dg bt);obtain⟨_,_,_,_,h⟩:=zX h;refine My ?_;refine Ml ?_;exact M0 h;exact M3 h;obtain⟨U,J⟩:=cw;try simp only at h
 refine Me ?_;obtain⟨_,h⟩:=qag h;obtain⟨_,h⟩:=qag h;refine zW 3 ?_;refine zCn (qal (v5i .i64)) U 44 J.toNat (U.length - J.toNat) (by simp only [List.length_set,List.length_append,List.length_replicate] at *;omega) ?_;refine zM ⟨[(0,.own 44 1 0 ((((U.take J.toNat)).length+((vyw (U.length - J.toNat) ([]:List Int))).length)+((U.drop (J.toNat+(U.length - J.toNat)))).length)),(5,.p (.int .i64 J))],[(44,.arr 34 1 1 (v0v AV.p (v0v (qal (v5i .i64)) (((U.take J.toNat)++(vyw (U.length - J.toNat) ([]:List Int)))++(U.drop (J.toNat+(U.length - J.toNat)))))))]⟩ ?_;refine T8 ?_;obtain⟨_,h⟩:=qag h;obtain⟨_,h⟩:=qag h;refine Ma ?_;refine zL ⟨[(4,.own 44 1 0 J.toNat)],[(44,.arr 34 1 1 (v0v AV.p (v0v (qal (v5i .i64)) (((U.take J.toNat)++(vyw (U.length - J.toNat) ([]:List Int)))++(U.drop (J.toNat+(U.length - J.toNat)))))))]⟩ ?_;obtain⟨_,a7,h⟩:=zB h;replace a7:=v1p a7;rw [a7];obtain⟨bu,h⟩:=qag h;obtain⟨ak,am,h⟩:=zB h;replace am:=v1p am;have dh:ak.length=J.toNat:=by rw [←am];exact List.length_take_of_le bu
 refine qva 4 44 1 J.toNat 34 1 (es':=v0v AV.p (v0v (qal (v5i .i64)) ak)) (by exact rfl) (by exact rfl) (by rw [←List.map_take,←List.map_take,am]) rfl ?_;refine zL ⟨[(4,.own 44 2 0 ak.length)],[(44,.arr 34 1 2 (v0v AV.p (v0v (qal (v5i .i64)) ak)))]⟩ ?_;clear dh bu;refine zq<|yr<|zt ?_;exact Mr h;refine Md ?_;exact M0 h;exact M3 h;rcases ce with⟨⟩ | _;try simp only at h
 refine Me ?_;refine Ms ?_;refine qay (by simp only [results73];simp only [go_sem,seval,ag];exact rfl) ?_;exact M1 h results26;try simp only at h
 refine zA<|yr<|zt ?_;refine qay (by simp only [results73];simp only [go_sem,seval,ag];exact rfl) ?_;exact M1 h results26
end
end Go.Proofs.YtpealiejioeonaaGreatDoor
namespace Go.Proofs.YtpealiejioeonaaGreatDoor
open Go Go.Ab Tryz
variable {D:Prop}
theorem qus (J:Table) (O:List Constraint) (r3:Hypergraph×Int) (h:qi4 J O=some r3):Con False prog 6 [(qad J),(.slc (v0v qbx O))] (.tup [(qac r3.1),(.int .i64 r3.2)]):=by
 refine zP call6 func6 rfl ntmps6 fun X w hT=>?_;simp only [qi4] at h;refine Mk ?_;refine Mc ?_;refine zU ?_;obtain⟨_,U,h⟩:=zB h;refine zc (qkb J _ U) ?_;refine M8 ?_;refine Ma ?_;obtain⟨h6,h⟩|⟨h6,h⟩:=zI h;exact M2 h results6;refine Mt ?_;refine Ma ?_;obtain⟨h7,h⟩|⟨h7,h⟩:=zI h;exact M2 h results6;refine Mh ?_;obtain⟨o8,h9,h⟩:=zB h;refine zO (fun (s:Int)=>⟨[(1,.p (.slc (v0v qbx O))),(2,.loc 2 1 0 0),(4,.loc 4 1 0 0),(30,.p (.slc (v0v qbx O))),(31,.p (.int .i64 (O.length:Int))),(32,.p (.int .i64 s))],[(2,.arr 30 3 1 [.p (qad J)]),(4,.arr 37 2 1 [.agg [.nils,.nils]])]⟩) (fun (o:Unit⊕(Hypergraph×Int))=>match o with|.inl ba=>tE (cX Tryz.f6 X w False hT) (.exit 0) ⟨[(1,.p (.slc (v0v qbx O))),(2,.loc 2 1 0 0),(4,.loc 4 1 0 0)],[(2,.arr 30 3 1 [.p (qad J)]),(4,.arr 37 2 1 [.agg [.nils,.nils]])]⟩ | .inr aj=>tR prog Tryz.f6 (.tup [(qac aj.1),(.int .i64 aj.2)])) h9 ?_ ?_;clear h U h6 h7 h9;intro _ x h;simp only [qeu] at h;refine M9 ?_;obtain⟨_,h⟩|⟨_,h⟩:=zI h;refine Mb ?_;obtain⟨ax,_,_,_,h⟩:=zX h;refine M8 ?_;refine zU ?_;obtain⟨_,ay,h⟩:=zB h;refine zc (qkc J ax _ ay) ?_;refine M8 ?_;refine Ma ?_;obtain⟨_,h⟩|⟨_,h⟩:=zI h;refine M4 ?_;cases h;exact⟨rfl,zT results6⟩;refine Md ?_;exact M0 h;exact M3 h;rcases o8 with⟨⟩ | _;try simp only at h
 refine Me ?_;refine M7 ?_;obtain⟨az,ai,h⟩:=zB h;refine zO (fun (s:List (List Int)×Int)=>⟨[(2,.loc 2 1 0 0),(4,.loc 4 1 0 0),(11,.own 65 1 0 s.1.length),(47,.p (.slc (v0v qbx O))),(48,.p (.int .i64 (O.length:Int))),(49,.p (.int .i64 s.2))],[(2,.arr 30 3 1 [.p (qad J)]),(4,.arr 37 2 1 [.agg [.nils,.nils]]),(65,.arr 34 1 1 (v0v AV.p (v0v (qal (v5i .i64)) s.1)))]⟩) (fun (o:(List (List Int)) ⊕ (Hypergraph×Int))=>match o with|.inl ak=>tE (cX Tryz.f6 X w False hT) (.exit 2) ⟨[(2,.loc 2 1 0 0),(4,.loc 4 1 0 0),(11,.own 65 1 0 ak.length)],[(2,.arr 30 3 1 [.p (qad J)]),(4,.arr 37 2 1 [.agg [.nils,.nils]]),(65,.arr 34 1 1 (v0v AV.p (v0v (qal (v5i .i64)) ak)))]⟩ | .inr am=>tR prog Tryz.f6 (.tup [(qac am.1),(.int .i64 am.2)])) ai ?_ ?_;clear h U h6 h7 h9 ai;intro s x h;obtain⟨_,_⟩:=s;simp only [qgq] at h;dsimp only;refine M9 ?_;obtain⟨_,h⟩|⟨_,h⟩:=zI h;refine Mb ?_;obtain⟨a7,_,_,_,h⟩:=zX h;refine M8 ?_;refine zU ?_;obtain⟨_,a8,h⟩:=zB h;refine zc (qpk J a7 _ a8) ?_;refine Mc ?_;refine Ma ?_;obtain⟨_,h⟩|⟨_,h⟩:=zI h;refine Mm ?_;cases h;exact⟨rfl,zT results6⟩;refine zj<|zk<|zn<|zr ?_;obtain⟨_,h⟩:=qag h;refine Ml ?_;exact M0 h;exact M3 h;rcases az with ap | _;try simp only at h
 refine Me ?_;refine zU ?_;refine zM ⟨[(2,.loc 2 1 0 0),(4,.loc 4 1 0 0),(67,.p (.slc (v0v (qal (v5i .i64)) ap)))],[(2,.arr 30 3 1 [.p (qad J)]),(4,.arr 37 2 1 [.agg [.nils,.nils]])]⟩ ?_;obtain⟨aq,ar,h⟩:=zB h;refine zc (qry ap _ ar) ?_;refine M7 ?_;obtain⟨_,au,h⟩:=zB h;refine zO (fun (s:List Int×Int)=>⟨[(4,.loc 4 1 0 0),(16,.loc 16 1 0 0),(71,.p (.slc (v0v qao J.Rows))),(72,.p (.int .i64 (J.Rows.length:Int))),(73,.p (.int .i64 s.2))],[(4,.arr 37 2 1 [.agg [.nils,.nils]]),(16,.arr 37 2 1 [.agg [.own 82 1 0 s.1.length,.p (.slc (v0v (qal (v5i .i64)) aq))]]),(82,.arr 2 1 1 (v0v AV.p (v0v (v5i .i64) s.1)))]⟩) (fun (av:List Int)=>tE (cX Tryz.f6 X w False hT) (.exit 4) ⟨[(4,.loc 4 1 0 0),(16,.loc 16 1 0 0)],[(4,.arr 37 2 1 [.agg [.nils,.nils]]),(16,.arr 37 2 1 [.agg [.own 82 1 0 av.length,.p (.slc (v0v (qal (v5i .i64)) aq))]]),(82,.arr 2 1 1 (v0v AV.p (v0v (v5i .i64) av)))]⟩) au ?_ ?_;clear h U h6 h7 h9 ai ar au;intro s x h;obtain⟨_,_⟩:=s;simp only [qgr] at h;dsimp only;refine M9 ?_;obtain⟨_,h⟩|⟨_,h⟩:=zI h;refine Mb ?_;obtain⟨_,_,_,_,h⟩:=zX h;refine My ?_;obtain⟨_,h⟩:=qag h;refine Ml ?_;exact M0 h;exact M3 h;try simp only at h
 refine Ta ?_;refine Ma ?_;obtain⟨_,h⟩|⟨_,h⟩:=zI h;exact M2 h results6;refine Mi ?_;exact M1 h results6;exact M5 h;exact M5 h
theorem qut (J:List FD) (O:List Constraint) (h:qi5 J=some O):Con D prog 7 [(.slc (v0v qpd J))] (.slc (v0v qbx O)):=by
 refine zP call7 func7 rfl ntmps7 fun X w hT=>?_;simp only [qi5] at h;refine Mk ?_;refine M8 ?_;refine M7 ?_;obtain⟨_,U,h⟩:=zB h;refine zO (fun (s:List Constraint×Int)=>⟨[(3,.own 21 1 0 s.1.length),(6,.p (.slc (v0v qpd J))),(7,.p (.int .i64 (J.length:Int))),(8,.p (.int .i64 s.2))],[(21,.arr 94 18 1 (v0v AV.p (v0v qbx s.1)))]⟩) (fun (o5:List Constraint)=>tE (cX Tryz.f7 X w D hT) (.exit 0) ⟨[(3,.own 21 1 0 o5.length)],[(21,.arr 94 18 1 (v0v AV.p (v0v qbx o5)))]⟩) U ?_ ?_;clear h U;intro s x h;obtain⟨o6,t7⟩:=s;simp only [qgs] at h;dsimp only;refine M9 ?_;obtain⟨_,h⟩|⟨_,h⟩:=zI h;refine Mb ?_;obtain⟨x9,_,_,_,h⟩:=zX h;refine My ?_;refine zW 4 ?_;obtain⟨ai,h⟩:=qag h;obtain⟨aj,h⟩:=qag h;refine zChr ai aj underlying21 underlying9 ?_;refine zW 3 ?_;refine zM ⟨[(6,.p (.slc (v0v qpd J))),(7,.p (.int .i64 (J.length:Int))),(8,.p (.int .i64 t7)),(13,.own 21 1 0 o6.length),(20,.own 20 1 0 1)],[(20,.arr 94 18 1 [.p (.agg [.str [UInt8.ofNat (IntKind.i32.wrap (vz8.wrap (97+t7))).toNat],.str [114],.int .i64 1,.int .u32 x9.Lhs,.int .u32 x9.Rhs,.int .u32 0,.int .u32 0,.str [],.slc (v0v (v5i .i64) []),.str [],.slc (v0v (v5i .i64) []),.slc (v0v (v5i .i64) []),.int .i64 0,.slc (v0v qfh []),.slc (v0v (v5i .i64) []),.slc (v0v (v5i .i64) []),.int .i64 0,.slc (v0v qde [])])]),(21,.arr 94 18 1 (v0v AV.p (v0v qbx o6)))]⟩ ?_;obtain⟨_,h⟩:=qag h;refine Ml ?_;exact M0 h;exact M3 h;try simp only at h
 refine Me ?_;exact M1 h results7
theorem qs8 (J:Int) (O:Int) (h:qia J=some O):Con D prog 27 [(.int .i64 J)] (.int .u32 O):=by
 refine zP call27 func27 rfl ntmps27 fun X w hT=>?_;simp only [qia] at h;refine Mk ?_;refine M8 ?_;refine M7 ?_;obtain⟨_,U,h⟩:=zB h;refine zO (fun (s:Int×Int)=>⟨[(0,.p (.int .i64 J)),(3,.p (.int .u32 s.1)),(4,.p (.int .i64 s.2))],[]⟩) (fun (o5:Int)=>tE (cX Tryz.f27 X w D hT) (.exit 0) ⟨[(3,.p (.int .u32 o5))],[]⟩) U ?_ ?_;clear h U;intro s x h;obtain⟨_,_⟩:=s;simp only [qf5] at h;refine Mv ?_;refine zU ?_;obtain⟨_,h⟩|⟨_,h⟩:=zI h;refine zw 8 true ?_;refine Mj ?_;refine Ma ?_;obtain⟨_,h⟩|⟨_,h⟩:=zI h;refine zi<|zk<|zn<|zs<|zb<|zr ?_;obtain⟨_,h⟩:=qfy h;refine Ml ?_;exact M0 h;exact M3 h;refine zw 8 false ?_;refine zh ?_;refine Ma ?_;exact M3 h;try simp only at h
 refine Me ?_;exact M1 h results27
theorem qs9 (J:Int) (O:List Drossref09_Dep) (U:List FD) (h:qib J O=some U):Con D prog 8 [(.int .i64 J),(.slc (v0v qbo O))] (.slc (v0v qpd U)):=by
 refine zP call8 func8 rfl ntmps8 fun X w hT=>?_;simp only [qib] at h;refine Mk ?_;refine M8 ?_;refine zU ?_;obtain⟨r4,h5,h⟩:=zB h;refine zc (qs8 J _ h5) ?_;refine M8 ?_;refine M7 ?_;obtain⟨_,h7,h⟩:=zB h;refine zO (fun (s:List FD×Int)=>⟨[(1,.p (.slc (v0v qbo O))),(5,.p (.int .u32 r4)),(6,.own 35 1 0 s.1.length),(7,.p (.int .i64 s.2))],[(35,.arr 69 2 1 (v0v AV.p (v0v qpd s.1)))]⟩) (fun (o8:List FD)=>tE (cX Tryz.f8 X w D hT) (.exit 0) ⟨[(6,.own 35 1 0 o8.length)],[(35,.arr 69 2 1 (v0v AV.p (v0v qpd o8)))]⟩) h7 ?_ ?_;clear h h5 h7;intro s x h;obtain⟨_,_⟩:=s;simp only [qf6] at h;refine Mv ?_;refine Ma ?_;obtain⟨_,h⟩|⟨_,h⟩:=zI h;refine zi<|zk<|zn<|zs<|zb<|zd ?_;obtain⟨_,_,_,_,h⟩:=zX h;obtain⟨_,h⟩:=qag h;refine Mx ?_;exact M0 h;exact M3 h;try simp only at h
 refine Me ?_;exact M1 h results8
theorem qht (J:List Int) (O:Bool) (h:qc9 J=some O):Con D prog 144 [(.slc (v0v (v5i .i64) J))] (.bool O):=by
 refine zP call144 func144 rfl ntmps144 fun X w hT=>?_;simp only [qc9] at h;refine Mk ?_;refine M7 ?_;obtain⟨o3,U,h⟩:=zB h;refine zO (fun (s:Int)=>⟨[(0,.p (.slc (v0v (v5i .i64) J))),(3,.p (.int .i64 s))],[]⟩) (fun (o:Unit⊕(Bool))=>match o with|.inl o5=>tE (cX Tryz.f144 X w D hT) (.exit 0) ⟨[],[]⟩|.inr o6=>tR prog Tryz.f144 (.bool o6)) U ?_ ?_;clear h U;intro _ x h;simp only [qcc] at h;refine T7 ?_;refine Ma ?_;obtain⟨_,h⟩|⟨_,h⟩:=zI h;refine T1 ?_;obtain⟨_,_,_,_,h⟩:=zX h;obtain⟨_,_,_,_,h⟩:=zX h;refine Mo ?_;obtain⟨_,h⟩|⟨_,h⟩:=zI h;refine M4 ?_;cases h;exact⟨rfl,zT results144⟩;refine Md ?_;exact M0 h;exact M3 h;rcases o3 with⟨⟩ | _;try simp only at h
 refine Me ?_;exact M1 h results144;exact M5 h
theorem quu (J:Int) (O:Int) (U:Bool) (h:qi3 J O=some U):Con D prog 158 [(.int .i64 J),(.int .i64 O)] (.bool U):=by
 refine zP call158 func158 rfl ntmps158 fun X w hT=>?_;simp only [qi3] at h;refine Mk ?_;refine M8 ?_;refine zU ?_;obtain⟨_,h5,h⟩:=zB h;refine zc (qhb J _ h5) ?_;refine zU ?_;obtain⟨_,h⟩|⟨_,h⟩:=zI h;refine zw 7 true ?_;refine zg ?_;obtain⟨_,h8,h⟩:=zB h;refine zc (qhb O _ h8) ?_;refine T4 ?_;obtain⟨_,h⟩|⟨_,h⟩:=zI h;replace h:=h.symm;refine zw 12 false ?_;refine M6 ?_;exact M1 h results158;refine zw 12 true ?_;refine zh ?_;exact M1 h results158;replace h:=h.symm;refine zw 7 false ?_;refine zh ?_;refine zU ?_;refine M6 ?_;exact M1 h results158
theorem qkk (J:Int) (O:Bool) (h:qea J=some O):Con D prog 159 [(.int .i64 J)] (.bool O):=by
 refine zP call159 func159 rfl ntmps159 fun X w hT=>?_;simp only [qea] at h;refine Mk ?_;refine M8 ?_;exact M1 h results159
theorem qej (J:List Int) (O:Int) (U:Int×Bool) (h:qax J O=some U):Con D prog 93 [(.slc (v0v (v5i .i64) J)),(.int .i64 O)] (.tup [(.int .i64 U.1),(.bool U.2)]):=by
 refine zP call93 func93 rfl ntmps93 fun X w hT=>?_;simp only [qax] at h;refine Mk ?_;refine M8 ?_;refine M8 ?_;refine zU<|zl<|zn<|zs<|zb ?_;obtain⟨_,h5,h⟩:=zB h;refine zO (fun (s:Int×Int)=>⟨[(0,.p (.slc (v0v (v5i .i64) J))),(1,.p (.int .i64 O)),(6,.p (.int .i64 (J.length:Int))),(7,.p (.int .i64 s.1)),(8,.p (.int .i64 s.2))],[]⟩) (fun (o6:Int)=>tE (cX Tryz.f93 X w D hT) (.exit 0) ⟨[(0,.p (.slc (v0v (v5i .i64) J))),(1,.p (.int .i64 O)),(6,.p (.int .i64 (J.length:Int))),(7,.p (.int .i64 o6))],[]⟩) h5 ?_ ?_;clear h h5;intro s x h;obtain⟨_,_⟩:=s;simp only [qa2] at h;refine Mv ?_;refine Ma ?_;obtain⟨_,h⟩|⟨_,h⟩:=zI h;refine zi<|zk<|zn<|zb<|zs<|zr ?_;refine M8 ?_;obtain⟨ag,_,_,_,h⟩:=zX h;refine zU ?_;obtain⟨_,ah,h⟩:=zB h;refine zc (quu ag O _ ah) ?_;refine zl<|zn ?_;obtain⟨_,h⟩|⟨_,h⟩:=zI h;refine zi<|zr ?_;refine zU<|zl<|yn ?_;exact Mr h;refine zj<|zr ?_;refine zU<|zl<|yn ?_;exact Mr h;exact M3 h;try simp only at h
 refine Me ?_;refine zU ?_;obtain⟨_,h⟩|⟨_,h⟩:=zI h;refine zw 35 true ?_;refine Mj ?_;obtain⟨ai,_,_,_,h⟩:=zX h;refine M6 ?_;refine Mj ?_;obtain⟨_,h⟩|⟨_,h⟩:=zI h;replace h:=h.symm;refine zw 42 true ?_;refine zh ?_;refine zg ?_;exact M1 h results93;refine zw 42 false ?_;refine M6 ?_;refine zg ?_;obtain⟨_,aj,h⟩:=zB h;refine zc (qkk ai _ aj) ?_;refine zg ?_;obtain⟨_,h⟩|⟨_,h⟩:=zI h;refine zw 48 true ?_;refine zg ?_;obtain⟨_,ak,h⟩:=zB h;replace h:=h.symm;refine zc (qkk O _ ak) ?_;refine Mj ?_;exact M1 h results93;replace h:=h.symm;refine zw 48 false ?_;refine zh ?_;refine Mj ?_;exact M1 h results93;refine zw 35 false ?_;refine zh ?_;exact M1 h results93
theorem qga (J:List Int) (O:List Int) (U:Bool) (h:qc2 J O=some U):Con D prog 145 [(.slc (v0v (v5i .i64) J)),(.slc (v0v (v5i .i64) O))] (.bool U):=by
 refine zP call145 func145 rfl ntmps145 fun X w hT=>?_;simp only [qc2] at h;refine Mk ?_;refine M7 ?_;obtain⟨o4,h5,h⟩:=zB h;refine zO (fun (s:Int)=>⟨[(0,.p (.slc (v0v (v5i .i64) J))),(9,.p (.slc (v0v (v5i .i64) O))),(10,.p (.int .i64 (O.length:Int))),(11,.p (.int .i64 s))],[]⟩) (fun (o:Unit⊕(Bool))=>match o with|.inl o6=>tE (cX Tryz.f145 X w D hT) (.exit 0) ⟨[],[]⟩|.inr o7=>tR prog Tryz.f145 (.bool o7)) h5 ?_ ?_;clear h h5;intro _ x h;simp only [qdk] at h;refine M9 ?_;obtain⟨_,h⟩|⟨_,h⟩:=zI h;refine Mb ?_;obtain⟨ah,_,_,_,h⟩:=zX h;refine M8 ?_;refine zU ?_;obtain⟨_,ai,h⟩:=zB h;refine zc (qej J ah _ ai) ?_;refine M8 ?_;refine Ma ?_;obtain⟨_,h⟩|⟨_,h⟩:=zI h;refine Md ?_;exact M0 h;refine M4 ?_;cases h;exact⟨rfl,zT results145⟩;exact M3 h;rcases o4 with⟨⟩ | _;try simp only at h
 refine Me ?_;exact M1 h results145;exact M5 h
end Go.Proofs.YtpealiejioeonaaGreatDoor
